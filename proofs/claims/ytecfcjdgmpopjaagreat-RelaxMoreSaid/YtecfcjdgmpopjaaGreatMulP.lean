/-
  Plain laws of the product, digit by digit.
-/
import Derived.Test.YtecfcjdgmpopjaaGreatNum
namespace Go.Proofs.YtecfcjdgmpopjaaGreat.Num
def at0 (xs:List Nat)(i:Nat):Nat:=xs.getD i 0
theorem at0_lt {xs:List Nat}(h:Ok xs)(i:Nat):at0 xs i<4294967296:=h.getD i
theorem at0_in {xs:List Nat}{i:Nat}(h:i<xs.length):at0 xs i=xs[i]:=by simp[at0,List.getD,h]
theorem at0_out {xs:List Nat}{i:Nat}(h:¬i<xs.length):at0 xs i=0:=by
 unfold at0;rw[gE,List.getElem?_eq_none (by omega)];rfl
theorem val_take_at0 (a:List Nat)(k:Nat):val (a.take (k+1))=val (a.take k)+4294967296^k*at0 a k:=by
 by_cases h:k<a.length
 ·rw[val_take_succ a k h,at0_in h]
 ·rw[at0_out h,List.take_of_length_le (by omega),List.take_of_length_le (by omega)];simp
theorem val_set (l:List Nat)(j t:Nat)(h:j<l.length):val (l.set j t)+4294967296^j*l[j]=val l+4294967296^j*t:=by
 induction l generalizing j with
 |nil=>simp at h
 |cons d ds ih=>
  cases j with
  |zero=>simp[val];omega
  |succ j=>
   have:=ih j (by simpa using h);simp only[zF,val,List.getElem_cons_succ,Nat.pow_succ];generalize val (ds.set j t)=a at*;generalize val ds=b at*;generalize ds[j]'(by simpa using h)=e at*;generalize 4294967296^j=P at*;have e1:P*4294967296*e=4294967296*(P*e):=by rw[Nat.mul_comm P,Nat.mul_assoc]
   have e2:P*4294967296*t=4294967296*(P*t):=by rw[Nat.mul_comm P,Nat.mul_assoc]
   rw[e1,e2];omega
theorem Ok.set {l:List Nat}(h:Ok l)(j:Nat){t:Nat}(ht:t<4294967296):Ok (l.set j t):=by
 intro x hx;rcases List.mem_or_eq_of_mem_set hx with h1|h1
 ·exact h x h1
 ·rw[h1];exact ht
theorem val_set_take (l:List Nat)(m j t:Nat)(h:j<l.length)(hm:j<m):val ((l.set j t).take m)+4294967296^j*l[j]=val (l.take m)+4294967296^j*t:=by
 rw[List.take_set];have:=val_set (l.take m) j t (by rw[List.length_take];omega);rw[List.getElem_take]at this;exact this
theorem take_set_self (l:List Nat)(j t:Nat):(l.set j t).take j=l.take j:=by
 rw[List.take_set,List.set_eq_of_length_le (by rw[List.length_take];omega)]
def MulOut (xs ys:List Nat)(i:Nat)(os:List Nat):Prop:=Ok os∧os.length=xs.length+ys.length∧val (os.take (i+ys.length))=val (xs.take i)*val ys
def MulIn (xs ys:List Nat)(i d k:Nat)(os:List Nat)(cr:Nat):Prop:=
 Ok os∧os.length=xs.length+ys.length∧cr<4294967296∧val (os.take (i+ys.length))+4294967296^(i+k)*cr=val (xs.take i)*val ys+4294967296^i*(d*val (ys.take k))
theorem MulOut.zero (xs ys:List Nat):MulOut xs ys 0 (List.replicate (xs.length+ys.length) 0):=by
 refine⟨Ok.replicate _,by simp,?_⟩;rw[List.take_replicate,val_replicate];simp[val]
theorem MulOut.into {xs ys:List Nat}{i d:Nat}{os:List Nat}(h:MulOut xs ys i os):MulIn xs ys i d 0 os 0:=by
 obtain⟨h1,h2,h3⟩:=h;exact⟨h1,h2,by decide,by simp[val,h3]⟩
theorem mul_step {V V' P Q o s q cr d e X Y:Nat}(h:V+P*Q*cr=X+P*(d*Y))(hv:V'+P*Q*o=V+P*Q*s)(hs:s+4294967296*q=cr+(d*e+o)):V'+P*(Q*4294967296)*q=X+P*(d*(Y+Q*e)):=by
 have e1:P*(d*(Y+Q*e))=P*(d*Y)+P*Q*(d*e):=by
  rw[Nat.mul_add,Nat.mul_add,Nat.mul_assoc P Q,Nat.mul_left_comm d Q e]
 have e2:P*(Q*4294967296)*q=P*Q*(4294967296*q):=by rw[←Nat.mul_assoc P Q,Nat.mul_assoc (P*Q)]
 have e3:P*Q*s+P*Q*(4294967296*q)=P*Q*cr+(P*Q*(d*e)+P*Q*o):=by rw[←Nat.mul_add,hs,Nat.mul_add,Nat.mul_add]
 rw[e1,e2];omega
theorem MulIn.step {xs ys:List Nat}{i d k:Nat}{os:List Nat}{cr s q:Nat}(h:MulIn xs ys i d k os cr)(_hi:i<xs.length)(hk:k<ys.length)(ho:i+k<os.length)(hs:s<4294967296)(hq:q<4294967296)(e:s+4294967296*q=cr+(d*at0 ys k+os[i+k])):MulIn xs ys i d (k+1) (os.set (i+k) s) q:=by
 obtain⟨h1,h2,h3,h4⟩:=h;refine⟨h1.set _ hs,by simp[h2],hq,?_⟩;have hv:=val_set_take os (i+ys.length) (i+k) s ho (by omega);rw[val_take_at0,←Nat.add_assoc,Nat.pow_succ];rw[Nat.pow_add]at h4 hv⊢;rw[Nat.mul_assoc _ _ 4294967296];generalize 4294967296^i=P at*;generalize 4294967296^k=Q at*;exact mul_step h4 hv e
theorem MulIn.out {xs ys:List Nat}{i k:Nat}{os:List Nat}{cr:Nat}(h:MulIn xs ys i (at0 xs i) k os cr)(_hi:i<xs.length)(hk:k=ys.length)(_ho:i+ys.length<os.length):MulOut xs ys (i+1) (os.set (i+ys.length) cr):=by
 subst hk;obtain⟨h1,h2,h3,h4⟩:=h;refine⟨h1.set _ h3,by simp[h2],?_⟩;rw[show i+1+ys.length=i+ys.length+1 by omega,val_take_succ _ _ (by simp;omega),take_set_self,List.getElem_set_self,h4,List.take_length,val_take_at0,Nat.add_mul,Nat.mul_assoc]
theorem MulOut.done {xs ys:List Nat}{i:Nat}{os:List Nat}(h:MulOut xs ys i os)(hi:i=xs.length):val os=val xs*val ys:=by
 subst hi;obtain⟨h1,h2,h3⟩:=h;rwa[←h2,List.take_length,List.take_length]at h3
end Go.Proofs.YtecfcjdgmpopjaaGreat.Num
