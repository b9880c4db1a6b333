/-
  Decimal digits of a number, as bytes.
  Plain laws of the product, digit by digit.
  Plain laws of division, digit by digit.
  Plain laws of long division.
  Plain laws of the text of a number, read back.
-/
import Derived.Test.YtjlhjabgclflcaaGreatDoorNum
namespace Go.Proofs.YtjlhjabgclflcaaGreatDoor.Num
def decF:Nat→Nat→List UInt8
 |0,_=>[]
 |f+1,n=>if n=0 then [] else UInt8.ofNat (48+n%10)::decF f (n/10)
def decR (n:Nat):List UInt8:=decF n n
def decS (n:Nat):List UInt8:=if n=0 then [48] else (decR n).reverse
theorem decF_eq (f g n:Nat) (hf:n≤f) (hg:n≤g):decF f n=decF g n:=by
 induction f generalizing n g with
 |zero=>
  have:n=0:=by omega
  subst this;cases g<;>simp[decF]
 |succ f ih=>
  cases g with
  |zero=>
   have:n=0:=by omega
   subst this;simp[decF]
  |succ g=>
   unfold decF;split
   ·rfl
   ·rw[ih g (n/10) (by omega) (by omega)]
theorem decR_zero:decR 0=[]:=rfl
theorem decR_pos (n:Nat) (h:0<n):decR n=UInt8.ofNat (48+n%10)::decR (n/10):=by
 show decF n n=_;obtain ⟨m,rfl⟩:∃m,n=m+1:=⟨n-1,by omega⟩;rw[decF,if_neg (by omega)];rw[decF_eq m ((m+1)/10) _ (by omega) (Nat.le_refl _)];rfl
theorem decR_len {n k:Nat} (h:n<10^k):(decR n).length≤k:=by
 induction k generalizing n with
 |zero=>
  have:n=0:=by simpa using h
  subst this;simp[decR_zero]
 |succ k ih=>
  by_cases h0:n=0
  ·subst h0;simp[decR_zero]
  ·rw[decR_pos n (by omega)];have:n/10<10^k:=by
    rw[Nat.div_lt_iff_lt_mul (by decide)];rwa[Nat.pow_succ]at h
   have:=ih this;simp;omega
theorem dec_bound {n k:Nat} (h:n<4294967296^k):n<10^(10*k):=by
 refine Nat.lt_of_lt_of_le h ?_;rw[Nat.pow_mul];exact Nat.pow_le_pow_left (by decide) k
theorem decR_len_dig {n k:Nat} (h:(dig n).length≤k):(decR n).length≤10*k:=decR_len (dec_bound (le_of_dig_length h))
def TextTo (N q left i:Nat) (outs:List UInt8):Prop:=i≤9∧left<10^(9-i)∧decR N=outs++decR (q*10^(9-i)+left)
theorem TextTo.start {N a:Nat} {outs:List UInt8} (h:decR N=outs++decR a):TextTo N (a/1000000000) (a%1000000000) 0 outs:=by
 refine ⟨by decide,Nat.mod_lt _ (by decide),?_⟩;rw[h];congr 2;have:=Nat.div_add_mod a 1000000000;show a=a/1000000000*10^9+a%1000000000;omega
theorem TextTo.step {N q left i:Nat} {outs:List UInt8} (h:TextTo N q left i outs) (hi:i<9) (hp:0<q∨0<left):TextTo N q (left/10) (i+1) (outs++[UInt8.ofNat (48+left%10)]):=by
 obtain ⟨h1,h2,h3⟩:=h;have e:9-i=(9-(i+1))+1:=by omega
 rw[e,Nat.pow_succ]at h2 h3;generalize hP:10^(9-(i+1))=P at*;have hP0:0<P:=by rw[←hP];exact Nat.pow_pos (by decide)
 refine ⟨by omega,by rw[hP];omega,?_⟩;rw[hP];have e2:q*(P*10)=q*P*10:=(Nat.mul_assoc _ _ _).symm;rw[e2]at h3;have hpos:0<q*P*10+left:=by
  rcases hp with hp|hp
  ·have:0<q*P:=Nat.mul_pos hp hP0;omega
  ·omega
 rw[decR_pos _ hpos]at h3;have e3:(q*P*10+left)%10=left%10:=by omega
 have e4:(q*P*10+left)/10=q*P+left/10:=by omega
 rw[e3,e4]at h3;rw[h3,List.append_assoc];rfl
theorem TextTo.out9 {N q left:Nat} {outs:List UInt8} (h:TextTo N q left 9 outs):decR N=outs++decR q:=by
 obtain ⟨h1,h2,h3⟩:=h;have:left=0:=by simpa using h2
 subst this;simpa using h3
theorem TextTo.out0 {N q left i:Nat} {outs:List UInt8} (h:TextTo N q left i outs) (hq:q=0) (hl:left=0):decR N=outs++decR q:=by
 obtain ⟨h1,h2,h3⟩:=h;subst hq hl;simpa using h3
def RevTo (bs:List UInt8) (i:Nat) (cs:List UInt8):Prop:=cs.length=bs.length∧∀p,cs[p]? =if p<bs.length∧(p<i∨bs.length≤p+i) then bs[bs.length-1-p]? else bs[p]?
theorem RevTo.zero (bs:List UInt8):RevTo bs 0 bs:=by
 refine ⟨rfl,fun p=> ?_⟩;rw[if_neg (by omega)]
theorem RevTo.step {bs cs:List UInt8} {i:Nat} (h:RevTo bs i cs) (hi:i+1+i<bs.length) (h1:i<cs.length) (h2:bs.length-1-i<cs.length):RevTo bs (i+1) ((cs.set i cs[bs.length-1-i]).set (bs.length-1-i) cs[i]):=by
 obtain ⟨hl,hc⟩:=h;refine ⟨by simp[hl],fun p=> ?_⟩;have e1:=hc i;have e2:=hc (bs.length-1-i);rw[if_neg (by omega),List.getElem?_eq_getElem h1]at e1;rw[if_neg (by omega),List.getElem?_eq_getElem h2]at e2;have hcp:=hc p;rw[List.getElem?_set,List.getElem?_set];by_cases hp1:bs.length-1-i=p
 ·subst hp1;rw[if_pos rfl,if_pos (by simp;omega),if_pos (by omega),e1];congr 1;omega
 ·rw[if_neg hp1];by_cases hp2:i=p
  ·subst hp2;rw[if_pos rfl,if_pos h1,if_pos (by omega),e2]
  ·rw[if_neg hp2,hcp];by_cases hp3:p<bs.length∧(p<i∨bs.length≤p+i)
   ·rw[if_pos hp3,if_pos (by omega)]
   ·rw[if_neg hp3,if_neg (by omega)]
theorem RevTo.done {bs cs:List UInt8} {i:Nat} (h:RevTo bs i cs) (hi:bs.length≤i+1+i):cs=bs.reverse:=by
 obtain ⟨hl,hc⟩:=h;apply List.ext_getElem?;intro p;rw[hc p];by_cases hp:p<bs.length
 ·rw[List.getElem?_reverse hp];by_cases h2:p<i∨bs.length≤p+i
  ·rw[if_pos ⟨hp,h2⟩]
  ·rw[if_neg (fun h=>h2 h.2)];congr 1;omega
 ·rw[if_neg (fun h=>hp h.1),List.getElem?_eq_none (by omega),List.getElem?_eq_none (by simp;omega)]
end Go.Proofs.YtjlhjabgclflcaaGreatDoor.Num
namespace Go.Proofs.YtjlhjabgclflcaaGreatDoor.Num
def at0 (xs:List Nat) (i:Nat):Nat:=xs.getD i 0
theorem at0_lt {xs:List Nat} (h:Ok xs) (i:Nat):at0 xs i<4294967296:=h.getD i
theorem at0_in {xs:List Nat} {i:Nat} (h:i<xs.length):at0 xs i=xs[i]:=by simp[at0,List.getD,h]
theorem at0_out {xs:List Nat} {i:Nat} (h:¬i<xs.length):at0 xs i=0:=by
 unfold at0;rw[List.getD_eq_getElem?_getD,List.getElem?_eq_none (by omega)];rfl
theorem val_take_at0 (a:List Nat) (k:Nat):val (a.take (k+1))=val (a.take k)+4294967296^k*at0 a k:=by
 by_cases h:k<a.length
 ·rw[val_take_succ a k h,at0_in h]
 ·rw[at0_out h,List.take_of_length_le (by omega),List.take_of_length_le (by omega)];simp
theorem val_set (l:List Nat) (j t:Nat) (h:j<l.length):val (l.set j t)+4294967296^j*l[j]=val l+4294967296^j*t:=by
 induction l generalizing j with
 |nil=>simp at h
 |cons d ds ih=>
  cases j with
  |zero=>simp[val];omega
  |succ j=>
   have:=ih j (by simpa using h);simp only[List.set_cons_succ,val,List.getElem_cons_succ,Nat.pow_succ];generalize val (ds.set j t)=a at*;generalize val ds=b at*;generalize ds[j]'(by simpa using h)=e at*;generalize 4294967296^j=P at*;have e1:P*4294967296*e=4294967296*(P*e):=by rw[Nat.mul_comm P,Nat.mul_assoc]
   have e2:P*4294967296*t=4294967296*(P*t):=by rw[Nat.mul_comm P,Nat.mul_assoc]
   rw[e1,e2];omega
theorem Ok.set {l:List Nat} (h:Ok l) (j:Nat) {t:Nat} (ht:t<4294967296):Ok (l.set j t):=by
 intro x hx;rcases List.mem_or_eq_of_mem_set hx with h1|h1
 ·exact h x h1
 ·rw[h1];exact ht
theorem val_set_take (l:List Nat) (m j t:Nat) (h:j<l.length) (hm:j<m):val ((l.set j t).take m)+4294967296^j*l[j]=val (l.take m)+4294967296^j*t:=by
 rw[List.take_set];have:=val_set (l.take m) j t (by rw[List.length_take];omega);rw[List.getElem_take]at this;exact this
theorem take_set_self (l:List Nat) (j t:Nat):(l.set j t).take j=l.take j:=by
 rw[List.take_set,List.set_eq_of_length_le (by rw[List.length_take];omega)]
def MulOut (xs ys:List Nat) (i:Nat) (os:List Nat):Prop:=Ok os∧os.length=xs.length+ys.length∧val (os.take (i+ys.length))=val (xs.take i)*val ys
def MulIn (xs ys:List Nat) (i d k:Nat) (os:List Nat) (cr:Nat):Prop:=
 Ok os∧os.length=xs.length+ys.length∧cr<4294967296∧val (os.take (i+ys.length))+4294967296^(i+k)*cr=val (xs.take i)*val ys+4294967296^i*(d*val (ys.take k))
theorem MulOut.zero (xs ys:List Nat):MulOut xs ys 0 (List.replicate (xs.length+ys.length) 0):=by
 refine ⟨Ok.replicate _,by simp,?_⟩;rw[List.take_replicate,val_replicate];simp[val]
theorem MulOut.into {xs ys:List Nat} {i d:Nat} {os:List Nat} (h:MulOut xs ys i os):MulIn xs ys i d 0 os 0:=by
 obtain ⟨h1,h2,h3⟩:=h;exact ⟨h1,h2,by decide,by simp[val,h3]⟩
theorem mul_step {V V' P Q o s q cr d e X Y:Nat} (h:V+P*Q*cr=X+P*(d*Y)) (hv:V'+P*Q*o=V+P*Q*s) (hs:s+4294967296*q=cr+(d*e+o)):V'+P*(Q*4294967296)*q=X+P*(d*(Y+Q*e)):=by
 have e1:P*(d*(Y+Q*e))=P*(d*Y)+P*Q*(d*e):=by
  rw[Nat.mul_add,Nat.mul_add,Nat.mul_assoc P Q,Nat.mul_left_comm d Q e]
 have e2:P*(Q*4294967296)*q=P*Q*(4294967296*q):=by rw[←Nat.mul_assoc P Q,Nat.mul_assoc (P*Q)]
 have e3:P*Q*s+P*Q*(4294967296*q)=P*Q*cr+(P*Q*(d*e)+P*Q*o):=by rw[←Nat.mul_add,hs,Nat.mul_add,Nat.mul_add]
 rw[e1,e2];omega
theorem MulIn.step {xs ys:List Nat} {i d k:Nat} {os:List Nat} {cr s q:Nat} (h:MulIn xs ys i d k os cr) (_hi:i<xs.length) (hk:k<ys.length) (ho:i+k<os.length) (hs:s<4294967296) (hq:q<4294967296) (e:s+4294967296*q=cr+(d*at0 ys k+os[i+k])):MulIn xs ys i d (k+1) (os.set (i+k) s) q:=by
 obtain ⟨h1,h2,h3,h4⟩:=h;refine ⟨h1.set _ hs,by simp[h2],hq,?_⟩;have hv:=val_set_take os (i+ys.length) (i+k) s ho (by omega);rw[val_take_at0,←Nat.add_assoc,Nat.pow_succ];rw[Nat.pow_add]at h4 hv⊢;rw[Nat.mul_assoc _ _ 4294967296];generalize 4294967296^i=P at*;generalize 4294967296^k=Q at*;exact mul_step h4 hv e
theorem MulIn.out {xs ys:List Nat} {i k:Nat} {os:List Nat} {cr:Nat} (h:MulIn xs ys i (at0 xs i) k os cr) (_hi:i<xs.length) (hk:k=ys.length) (_ho:i+ys.length<os.length):MulOut xs ys (i+1) (os.set (i+ys.length) cr):=by
 subst hk;obtain ⟨h1,h2,h3,h4⟩:=h;refine ⟨h1.set _ h3,by simp[h2],?_⟩;rw[show i+1+ys.length=i+ys.length+1 by omega,val_take_succ _ _ (by simp;omega),take_set_self,List.getElem_set_self,h4,List.take_length,val_take_at0,Nat.add_mul,Nat.mul_assoc]
theorem MulOut.done {xs ys:List Nat} {i:Nat} {os:List Nat} (h:MulOut xs ys i os) (hi:i=xs.length):val os=val xs*val ys:=by
 subst hi;obtain ⟨h1,h2,h3⟩:=h;rwa[←h2,List.take_length,List.take_length]at h3
theorem mul_fits {cr d e o:Nat} (h1:cr<4294967296) (h2:d<4294967296) (h3:e<4294967296) (h4:o<4294967296):d*e≤18446744065119617025∧(cr+(d*e+o))/4294967296<4294967296:=by
 have:d*e≤4294967295*4294967295:=Nat.mul_le_mul (by omega) (by omega);generalize d*e=m at*;omega
def Scal (xs:List Nat) (d by_ k:Nat) (os:List Nat) (cr:Nat):Prop:=
 Ok os∧os.length=by_+k∧cr<4294967296∧val os+4294967296^(by_+k)*cr=4294967296^by_*(val (xs.take k)*d)
theorem Scal.zero (xs:List Nat) (d by_:Nat):Scal xs d by_ 0 (List.replicate by_ 0) 0:=⟨Ok.replicate _,by simp,by decide,by simp[val,val_replicate]⟩
theorem scal_step {V P Q s q cr d e X:Nat} (h:V+P*Q*cr=P*(X*d)) (hs:s+4294967296*q=e*d+cr):V+P*Q*s+P*(Q*4294967296)*q=P*((X+Q*e)*d):=by
 have e1:P*((X+Q*e)*d)=P*(X*d)+P*Q*(e*d):=by
  rw[Nat.add_mul,Nat.mul_add,Nat.mul_assoc P Q,Nat.mul_assoc Q e]
 have e2:P*(Q*4294967296)*q=P*Q*(4294967296*q):=by rw[←Nat.mul_assoc P Q,Nat.mul_assoc (P*Q)]
 have e3:P*Q*s+P*Q*(4294967296*q)=P*Q*(e*d)+P*Q*cr:=by rw[←Nat.mul_add,hs,Nat.mul_add]
 rw[e1,e2];omega
theorem Scal.step {xs:List Nat} {d by_ k:Nat} {os:List Nat} {cr s q:Nat} (h:Scal xs d by_ k os cr) (hs:s<4294967296) (hq:q<4294967296) (e:s+4294967296*q=at0 xs k*d+cr):Scal xs d by_ (k+1) (os++[s]) q:=by
 obtain ⟨h1,h2,h3,h4⟩:=h;refine ⟨h1.append (Ok.cons hs Ok.nil),by simp[h2];omega,hq,?_⟩;rw[val_snoc,h2,val_take_at0,←Nat.add_assoc,Nat.pow_succ];rw[Nat.pow_add]at h4⊢;rw[Nat.mul_assoc _ _ 4294967296];generalize 4294967296^by_=P at*;generalize 4294967296^k=Q at*;exact scal_step h4 e
theorem scal_out {P O X d cr:Nat} (hd:d<4294967296) (hX:X<P) (h:O+P*4294967296*cr=X*d):cr=0:=by
 rcases Nat.eq_zero_or_pos cr with hc|hc
 ·exact hc
 ·obtain ⟨c',rfl⟩:∃c',cr=c'+1:=⟨cr-1,by omega⟩;have h1:X*d≤P*4294967295:=Nat.mul_le_mul (by omega) (by omega);rw[Nat.mul_add,Nat.mul_one]at h;generalize P*4294967296*c'=Z at h;generalize X*d=W at*;omega
theorem Scal.done {xs:List Nat} {d by_:Nat} {os:List Nat} {cr:Nat} (h:Scal xs d by_ (xs.length+1) os cr) (ho:Ok xs) (hd:d<4294967296):val os=val xs*d*4294967296^by_:=by
 obtain ⟨h1,h2,h3,h4⟩:=h;rw[List.take_of_length_le (by omega)]at h4;have hx:=val_lt ho;have hb:=val_lt h1;rw[h2]at hb;have hcr:cr=0:=by
  rcases Nat.eq_zero_or_pos cr with hc|hc
  ·exact hc
  ·exfalso;have hle:4294967296^(by_+(xs.length+1))*1≤4294967296^(by_+(xs.length+1))*cr:=Nat.mul_le_mul (Nat.le_refl _) hc;have hlt:4294967296^by_*(val xs*d)<4294967296^(by_+(xs.length+1)):=by
    rw[Nat.pow_add,Nat.pow_succ];apply Nat.mul_lt_mul_of_pos_left _ (pow_pos' _);have:val xs*d≤val xs*4294967296:=Nat.mul_le_mul (Nat.le_refl _) (by omega);generalize 4294967296^xs.length=P at*;generalize val xs*d=W at*;omega
   rw[Nat.mul_one]at hle;generalize 4294967296^(by_+(xs.length+1))*cr=Z at*;generalize 4294967296^(by_+(xs.length+1))=Y at*;omega
 rw[hcr,Nat.mul_zero,Nat.add_zero]at h4;rw[h4,Nat.mul_comm]
theorem prod_len {x y:Nat} {m n:Nat} (hx:x<4294967296^m) (hy:y<4294967296^n):(dig (x*y)).length≤m+n:=by
 apply dig_length_le;rw[Nat.pow_add];exact Nat.mul_lt_mul'' hx hy
end Go.Proofs.YtjlhjabgclflcaaGreatDoor.Num
namespace Go.Proofs.YtjlhjabgclflcaaGreatDoor.Num
def SmallTo (xs:List Nat) (b k:Nat) (os:List Nat) (r:Nat):Prop:=Ok os∧os.length=xs.length∧r<b∧val (os.drop k)*b+r=val (xs.drop k)
theorem SmallTo.zero (xs:List Nat) (b:Nat) (hb:0<b):SmallTo xs b xs.length (List.replicate xs.length 0) 0:=by
 refine ⟨Ok.replicate _,by simp,hb,?_⟩;rw[List.drop_length,List.drop_of_length_le (by simp)];simp[val]
theorem small_step {q b r r' x V X:Nat} (h:V*b+r=X) (hs:q*b+r'=r*4294967296+x):(q+4294967296*V)*b+r'=x+4294967296*X:=by
 rw[Nat.add_mul,Nat.mul_assoc,←h];omega
theorem SmallTo.step {xs:List Nat} {b k:Nat} {os:List Nat} {r q r':Nat} (h:SmallTo xs b (k+1) os r) (hk:k<xs.length) (hq:q<4294967296) (hr:r'<b) (e:q*b+r'=r*4294967296+xs[k]):SmallTo xs b k (os.set k q) r':=by
 obtain ⟨h1,h2,h3,h4⟩:=h;refine ⟨h1.set _ hq,by simp[h2],hr,?_⟩;rw[val_drop _ k (by simp[h2];exact hk),val_drop xs k hk,List.getElem_set_self,List.drop_set_of_lt (by omega)];exact small_step h4 e
theorem SmallTo.done {xs:List Nat} {b:Nat} {os:List Nat} {r:Nat} (h:SmallTo xs b 0 os r):val os=val xs/b∧r=val xs%b:=by
 obtain ⟨h1,h2,h3,h4⟩:=h;simp only[List.drop_zero]at h4;have hb:0<b:=by omega
 rw[←h4];constructor
 ·rw[Nat.add_comm,Nat.add_mul_div_right _ _ hb,Nat.div_eq_of_lt h3,Nat.zero_add]
 ·rw[Nat.add_comm,Nat.add_mul_mod_self_right,Nat.mod_eq_of_lt h3]
theorem digit_of {xs:List Nat} (h:Ok xs) (i:Nat):at0 xs i=val xs/4294967296^i%4294967296:=by
 induction xs generalizing i with
 |nil=>simp[at0,val]
 |cons d ds ih=>
  have hd:=h.head;cases i with
  |zero=>
   simp[at0,val];omega
  |succ i=>
   have h1:=ih h.tail i;have e1:at0 (d::ds) (i+1)=at0 ds i:=by simp[at0]
   rw[e1,h1];simp only[val];rw[Nat.pow_succ,Nat.mul_comm (4294967296^i),←Nat.div_div_eq_div_mul];congr 2;omega
theorem small_digit {xs:List Nat} {i:Nat} (h:val xs<4294967296^i) (ho:Ok xs):at0 xs i=0:=by
 rw[digit_of ho,Nat.div_eq_of_lt h]
theorem two_digits {xs:List Nat} (h:Ok xs) (i:Nat) (ht:val xs<4294967296^(i+2)):at0 xs (i+1)*4294967296+at0 xs i=val xs/4294967296^i:=by
 rw[digit_of h,digit_of h,Nat.pow_succ,←Nat.div_div_eq_div_mul];have hb:val xs/4294967296^i<4294967296*4294967296:=by
  rw[Nat.div_lt_iff_lt_mul (pow_pos' i)];rw[Nat.pow_succ,Nat.pow_succ]at ht;rw[Nat.mul_comm];rw[←Nat.mul_assoc];exact ht
 generalize val xs/4294967296^i=X at*;omega
theorem three_digits {xs:List Nat} (h:Ok xs) (i:Nat) (ht:val xs<4294967296^(i+3)):(at0 xs (i+2)*4294967296+at0 xs (i+1))*4294967296+at0 xs i=val xs/4294967296^i:=by
 rw[two_digits h (i+1) ht,digit_of h,Nat.pow_succ,←Nat.div_div_eq_div_mul];generalize val xs/4294967296^i=X;omega
def GuessOk (u1 u2 u3 v1 v2 q:Nat):Prop:=
 q<4294967296∧(∃r,q*v1+r=u1*4294967296+u2∧(4294967296≤r∨q*v2≤r*4294967296+u3))∧
  ∀p,p<4294967296→p*(v1*4294967296+v2)≤(u1*4294967296+u2)*4294967296+u3→p≤q
def GuessTo (u1 u2 u3 v1 v2 q r:Nat):Prop:=
 q*v1+r=u1*4294967296+u2∧∀p,p<4294967296→p*(v1*4294967296+v2)≤(u1*4294967296+u2)*4294967296+u3→p≤q
theorem GuessTo.zero {u1 u2 u3 v1 v2:Nat} (hv:0<v1) (h3:u3<4294967296):GuessTo u1 u2 u3 v1 v2 ((u1*4294967296+u2)/v1) ((u1*4294967296+u2)%v1):=by
 refine ⟨by rw[Nat.mul_comm];exact Nat.div_add_mod _ _,fun p hp h=> ?_⟩;rw[Nat.le_div_iff_mul_le hv];have h1:p*v1*4294967296≤p*(v1*4294967296+v2):=by
  rw[Nat.mul_add,Nat.mul_assoc];exact Nat.le_add_right _ _
 generalize p*v1=X at*;omega
theorem GuessTo.step {u1 u2 u3 v1 v2 q r:Nat} (h:GuessTo u1 u2 u3 v1 v2 q r) (_hu:u3<4294967296) (ht:4294967296≤q∨r*4294967296+u3<q*v2) (hq:0<q):GuessTo u1 u2 u3 v1 v2 (q-1) (r+v1):=by
 obtain ⟨h1,h2⟩:=h;obtain ⟨q,rfl⟩:∃q',q=q'+1:=⟨q-1,by omega⟩;refine ⟨by rw[Nat.add_mul]at h1;simp only[Nat.add_sub_cancel];omega,fun p hp h=> ?_⟩;have h3:=h2 p hp h;rcases ht with ht|ht
 ·omega
 ·rcases Nat.lt_or_ge p (q+1) with hlt|hge
  ·omega
  ·exfalso;have:p=q+1:=by omega
   subst this;rw[Nat.mul_add,←Nat.mul_assoc,←h1]at h;generalize (q+1)*v1=X at h;generalize (q+1)*v2=Y at h ht;omega
theorem GuessTo.pos {u3 v2 q r:Nat} (ht:4294967296≤q∨r*4294967296+u3<q*v2):0<q:=by
 rcases ht with ht|ht
 ·omega
 ·rcases Nat.eq_zero_or_pos q with rfl|h
  ·simp at ht
  ·exact h
theorem GuessTo.out {u1 u2 u3 v1 v2 q r:Nat} (h:GuessTo u1 u2 u3 v1 v2 q r) (hu:u1≤v1) (hu2:u2<4294967296) (ht:4294967296≤r∨(q<4294967296∧q*v2≤r*4294967296+u3)):GuessOk u1 u2 u3 v1 v2 q:=by
 obtain ⟨h1,h2⟩:=h;have hq:q<4294967296:=by
  rcases ht with ht|ht
  ·rcases Nat.lt_or_ge q 4294967296 with hlt|hge
   ·exact hlt
   ·exfalso;have:4294967296*v1≤q*v1:=Nat.mul_le_mul_right _ hge;generalize q*v1=X at*;omega
  ·exact ht.1
 exact ⟨hq,⟨r,h1,ht.imp id (·.2)⟩,h2⟩
theorem guess_use {T V j m q:Nat} {u1 u2 u3 v1 v2:Nat} (hg:GuessOk u1 u2 u3 v1 v2 q) (hm:2≤m) (hT:T<V*4294967296^(j+1)) (_hVm:V<4294967296^m) (h3:(u1*4294967296+u2)*4294967296+u3=T/4294967296^(j+m-2)) (h2:u1*4294967296+u2=T/4294967296^(j+m-1)) (k2:v1*4294967296+v2=V/4294967296^(m-2)) (k1:v1=V/4294967296^(m-1)) (hV:4294967296^(m-1)≤V):T<(q+1)*(V*4294967296^j)∧q*(V*4294967296^j)≤T+V*4294967296^j:=by
 obtain ⟨hq,⟨r,hr,hx⟩,hall⟩:=hg;have e1:4294967296^(j+m-2)=4294967296^(m-2)*4294967296^j:=by rw[←Nat.pow_add];congr 1;omega
 have e2:4294967296^(j+m-1)=4294967296^(m-1)*4294967296^j:=by rw[←Nat.pow_add];congr 1;omega
 have e3:(4294967296:Nat)^(m-1)=4294967296^(m-2)*4294967296:=by rw[←Nat.pow_succ];congr 1;omega
 have hV0:0<V:=Nat.lt_of_lt_of_le (pow_pos' _) hV;have hj:=pow_pos' j;have hm2:=pow_pos' (m-2);have hm1:=pow_pos' (m-1);rw[e1]at h3;rw[e2]at h2;rw[Nat.pow_succ]at hT;generalize 4294967296^j=J at*;generalize 4294967296^(m-2)=M2 at*;generalize 4294967296^(m-1)=M1 at*;have hVJ:0<V*J:=Nat.mul_pos hV0 hj;constructor
 ·have hp:=hall (T/(V*J)) (by rw[Nat.div_lt_iff_lt_mul hVJ,Nat.mul_comm];rw[Nat.mul_assoc];exact hT) (by
   rw[h3,k2,Nat.le_div_iff_mul_le (Nat.mul_pos hm2 hj)];have a1:T/(V*J)*(V*J)≤T:=Nat.div_mul_le_self _ _;have a2:V/M2*M2≤V:=Nat.div_mul_le_self _ _;have a3:T/(V*J)*(V/M2)*(M2*J)=T/(V*J)*(V/M2*M2*J):=by simp only[Nat.mul_assoc]
   rw[a3];exact Nat.le_trans (Nat.mul_le_mul (Nat.le_refl _) (Nat.mul_le_mul a2 (Nat.le_refl _))) a1)
  have b1:T<(T/(V*J)+1)*(V*J):=by
   have:=Nat.lt_mul_div_succ T hVJ;rw[Nat.mul_comm]at this;exact this
  exact Nat.lt_of_lt_of_le b1 (Nat.mul_le_mul (by omega) (Nat.le_refl _))
 ·rcases hx with hx|hx
  ·have c1:q*(v1+1)≤q*v1+r:=by rw[Nat.mul_add];omega
   have c2:V<(v1+1)*M1:=by
    rw[k1,Nat.mul_comm];exact Nat.lt_mul_div_succ V hm1
   have c3:(q*v1+r)*(M1*J)≤T:=by
    rw[hr,h2];exact Nat.div_mul_le_self _ _
   have c4:q*(V*J)≤q*(v1+1)*(M1*J):=by
    have:q*(v1+1)*(M1*J)=q*((v1+1)*M1*J):=by simp only[Nat.mul_assoc]
    rw[this];exact Nat.mul_le_mul (Nat.le_refl _) (Nat.mul_le_mul (Nat.le_of_lt c2) (Nat.le_refl _))
   have c5:=Nat.mul_le_mul c1 (Nat.le_refl (M1*J));omega
  ·have c1:q*(v1*4294967296+v2)≤T/(M2*J):=by
    rw[←h3,←hr,Nat.mul_add,←Nat.mul_assoc];generalize q*v1=X;generalize q*v2=Y at hx⊢;omega
   have c2:V<(v1*4294967296+v2+1)*M2:=by
    rw[k2,Nat.mul_comm];exact Nat.lt_mul_div_succ V hm2
   have c3:q*(v1*4294967296+v2)*(M2*J)≤T:=Nat.le_trans (Nat.mul_le_mul c1 (Nat.le_refl _)) (Nat.div_mul_le_self _ _);have c4:q*(V*J)≤q*(v1*4294967296+v2+1)*(M2*J):=by
    have:q*(v1*4294967296+v2+1)*(M2*J)=q*((v1*4294967296+v2+1)*M2*J):=by simp only[Nat.mul_assoc]
    rw[this];exact Nat.mul_le_mul (Nat.le_refl _) (Nat.mul_le_mul (Nat.le_of_lt c2) (Nat.le_refl _))
   have c5:q*(v1*4294967296+v2+1)*(M2*J)=q*(v1*4294967296+v2)*(M2*J)+q*(M2*J):=by rw[Nat.mul_add,Nat.mul_one,Nat.add_mul]
   have c6:q*(M2*J)≤V*J:=by
    have d1:q*M2≤M2*4294967296:=by rw[Nat.mul_comm M2];exact Nat.mul_le_mul (by omega) (Nat.le_refl _)
    rw[←e3]at d1;rw[←Nat.mul_assoc];exact Nat.mul_le_mul (Nat.le_trans d1 hV) (Nat.le_refl _)
   omega
def LessTo (us0 vs:List Nat) (j q i:Nat) (us:List Nat) (cr bo:Nat):Prop:=
 Ok us∧us.length=us0.length∧cr<4294967296∧bo≤1∧us.drop (j+i)=us0.drop (j+i)∧val us+4294967296^j*(q*val (vs.take i))=val us0+4294967296^(j+i)*(cr+bo)
theorem LessTo.zero {us vs:List Nat} (ho:Ok us) (j q:Nat):LessTo us vs j q 0 us 0 0:=⟨ho,rfl,by decide,by decide,rfl,by simp[val]⟩
theorem less_step {V V' V0 P Q q X cr bo s u d lo cr' bo':Nat} (h:V+P*(q*X)=V0+P*Q*(cr+bo)) (hv:V'+P*Q*u=V+P*Q*s) (hn:lo+4294967296*cr'=cr+q*d) (hs:s+lo+bo=u+4294967296*bo'):V'+P*(q*(X+Q*d))=V0+P*(Q*4294967296)*(cr'+bo'):=by
 have e1:P*(q*(X+Q*d))=P*(q*X)+P*Q*(q*d):=by
  rw[Nat.mul_add,Nat.mul_add,Nat.mul_left_comm q Q d,Nat.mul_assoc P Q]
 have e2:P*(Q*4294967296)*(cr'+bo')=P*Q*(4294967296*cr')+P*Q*(4294967296*bo'):=by
  rw[←Nat.mul_assoc P Q,Nat.mul_assoc (P*Q),Nat.mul_add,Nat.mul_add]
 have e3:P*Q*lo+P*Q*(4294967296*cr')=P*Q*cr+P*Q*(q*d):=by rw[←Nat.mul_add,hn,Nat.mul_add]
 have e4:P*Q*s+P*Q*lo+P*Q*bo=P*Q*u+P*Q*(4294967296*bo'):=by rw[←Nat.mul_add,←Nat.mul_add,hs,Nat.mul_add]
 rw[Nat.mul_add]at h;rw[e1,e2];omega
theorem drop_set {us us0:List Nat} {k s:Nat} (h:us.drop k=us0.drop k):(us.set k s).drop (k+1)=us0.drop (k+1):=by
 rw[List.drop_set_of_lt (by omega),←List.drop_drop,←List.drop_drop,h]
theorem LessTo.step {us0 vs us:List Nat} {j q i cr bo s lo cr' bo':Nat} (h:LessTo us0 vs j q i us cr bo) (hk:j+i<us.length) (hs:s<4294967296) (hc:cr'<4294967296) (hb:bo'≤1) (hn:lo+4294967296*cr'=cr+q*at0 vs i) (e:s+lo+bo=us[j+i]+4294967296*bo'):LessTo us0 vs j q (i+1) (us.set (j+i) s) cr' bo':=by
 obtain ⟨h1,h2,h3,h4,h5,h6⟩:=h;refine ⟨h1.set _ hs,by simp[h2],hc,hb,by rw[←Nat.add_assoc];exact drop_set h5,?_⟩;have hv:=val_set us (j+i) s hk;rw[val_take_at0,←Nat.add_assoc,Nat.pow_succ];rw[Nat.pow_add]at h6 hv⊢;rw[Nat.mul_assoc _ _ 4294967296];generalize 4294967296^j=P at*;generalize 4294967296^i=Q at*;exact less_step h6 hv hn e
def LessEnd (us0:List Nat) (V j m q:Nat) (us:List Nat) (bo:Nat):Prop:=
 Ok us∧us.length=us0.length∧bo≤1∧us.drop (j+m+1)=us0.drop (j+m+1)∧val us+4294967296^j*(q*V)=val us0+4294967296^(j+m+1)*bo
theorem LessTo.last {us0 vs us:List Nat} {j q i cr bo s bo':Nat} (h:LessTo us0 vs j q i us cr bo) (hi:i=vs.length) (hk:j+i<us.length) (hs:s<4294967296) (hb:bo'≤1) (e:s+cr+bo=us[j+i]+4294967296*bo'):LessEnd us0 (val vs) j vs.length q (us.set (j+i) s) bo':=by
 have hz:at0 vs i=0:=at0_out (by omega);have h':=LessTo.step (lo:=cr) (cr':=0) h hk hs (by decide) hb (by simp[hz]) e;obtain ⟨h1,h2,h3,h4,h5,h6⟩:=h';subst hi;rw[List.take_of_length_le (by omega),Nat.zero_add]at h6;exact ⟨h1,h2,hb,h5,h6⟩
def AgainTo (us0 vs:List Nat) (j i:Nat) (us:List Nat) (cr:Nat):Prop:=
 Ok us∧us.length=us0.length∧cr≤1∧us.drop (j+i)=us0.drop (j+i)∧val us+4294967296^(j+i)*cr=val us0+4294967296^j*val (vs.take i)
theorem AgainTo.zero {us vs:List Nat} (ho:Ok us) (j:Nat):AgainTo us vs j 0 us 0:=⟨ho,rfl,by decide,rfl,by simp[val]⟩
theorem again_step {V V' V0 P Q X cr s u d cr':Nat} (h:V+P*Q*cr=V0+P*X) (hv:V'+P*Q*u=V+P*Q*s) (hs:s+4294967296*cr'=u+d+cr):V'+P*(Q*4294967296)*cr'=V0+P*(X+Q*d):=by
 have e1:P*(X+Q*d)=P*X+P*Q*d:=by rw[Nat.mul_add,Nat.mul_assoc P Q]
 have e2:P*(Q*4294967296)*cr'=P*Q*(4294967296*cr'):=by rw[←Nat.mul_assoc P Q,Nat.mul_assoc (P*Q)]
 have e3:P*Q*s+P*Q*(4294967296*cr')=P*Q*u+P*Q*d+P*Q*cr:=by rw[←Nat.mul_add,hs,Nat.mul_add,Nat.mul_add]
 rw[e1,e2];omega
theorem AgainTo.step {us0 vs us:List Nat} {j i cr s cr':Nat} (h:AgainTo us0 vs j i us cr) (hk:j+i<us.length) (hs:s<4294967296) (hc:cr'≤1) (e:s+4294967296*cr'=us[j+i]+at0 vs i+cr):AgainTo us0 vs j (i+1) (us.set (j+i) s) cr':=by
 obtain ⟨h1,h2,h3,h4,h5⟩:=h;refine ⟨h1.set _ hs,by simp[h2],hc,by rw[←Nat.add_assoc];exact drop_set h4,?_⟩;have hv:=val_set us (j+i) s hk;rw[val_take_at0,←Nat.add_assoc,Nat.pow_succ];rw[Nat.pow_add]at h5 hv⊢;rw[Nat.mul_assoc _ _ 4294967296];generalize 4294967296^j=P at*;generalize 4294967296^i=Q at*;exact again_step h5 hv e
def AgainEnd (us0:List Nat) (V j m:Nat) (us:List Nat):Prop:=
 Ok us∧us.length=us0.length∧us.drop (j+m+1)=us0.drop (j+m+1)∧∃c,c≤1∧val us+4294967296^(j+m+1)*c=val us0+4294967296^j*V
theorem AgainTo.last {us0 vs us:List Nat} {j i cr s c':Nat} (h:AgainTo us0 vs j i us cr) (hi:i=vs.length) (hk:j+i<us.length) (hs:s<4294967296) (hc:c'≤1) (e:s+4294967296*c'=us[j+i]+cr):AgainEnd us0 (val vs) j vs.length (us.set (j+i) s):=by
 have hz:at0 vs i=0:=at0_out (by omega);have h':=AgainTo.step (cr':=c') h hk hs hc (by rw[hz];omega);obtain ⟨h1,h2,h3,h4,h5⟩:=h';subst hi;rw[List.take_of_length_le (by omega)]at h5;exact ⟨h1,h2,h4,c',hc,h5⟩
def ShiftTo (xs:List Nat) (s i:Nat) (os:List Nat):Prop:=Ok os∧os.length=xs.length+1∧at0 os i<2^s∧val (os.take (i+1))=val (xs.take i)*2^s
theorem ShiftTo.zero (xs:List Nat) (s:Nat):ShiftTo xs s 0 (List.replicate (xs.length+1) 0):=by
 refine ⟨Ok.replicate _,by simp,?_,?_⟩
 ·rw[at0_in (by simp)];simp;exact Nat.two_pow_pos s
 ·rw[List.take_replicate,val_replicate];simp[val]
theorem shift_step {V P o d S lo hi X:Nat} (h:V+P*o=X*S) (hd:lo+4294967296*hi=d*S):V+P*(o+lo)+P*4294967296*hi=(X+P*d)*S:=by
 have e1:P*lo+P*4294967296*hi=P*d*S:=by rw[Nat.mul_assoc P 4294967296,←Nat.mul_add,hd,Nat.mul_assoc]
 rw[Nat.add_mul,←h,Nat.mul_add];omega
theorem ShiftTo.step {xs:List Nat} {s i:Nat} {os:List Nat} {lo hi o:Nat} (h:ShiftTo xs s i os) (hi':i<xs.length) (hk:i+1<os.length) (ho:o=at0 os i+lo) (ho':o<4294967296) (hh:hi<4294967296) (hh':hi<2^s) (e:lo+4294967296*hi=at0 xs i*2^s):ShiftTo xs s (i+1) ((os.set i o).set (i+1) hi):=by
 obtain ⟨h1,h2,h3,h4⟩:=h;refine ⟨(h1.set _ ho').set _ hh,by simp[h2],?_,?_⟩
 ·rw[at0_in (by simp;exact hk)];simpa using hh'
 ·rw[val_take_succ _ _ (by simp;exact hk),take_set_self,List.getElem_set_self,val_take_succ _ i (by simp;omega),take_set_self,List.getElem_set_self,val_take_at0 xs i,Nat.pow_succ,ho];rw[val_take_succ _ i (by omega),←at0_in (by omega)]at h4;exact shift_step h4 e
theorem ShiftTo.done {xs:List Nat} {s:Nat} {os:List Nat} (h:ShiftTo xs s xs.length os):val os=val xs*2^s:=by
 obtain ⟨h1,h2,h3,h4⟩:=h;rwa[←h2,List.take_length,List.take_length]at h4
end Go.Proofs.YtjlhjabgclflcaaGreatDoor.Num
namespace Go.Proofs.YtjlhjabgclflcaaGreatDoor.Num
def LongTo (V U nq nu k:Nat) (us qs:List Nat):Prop:=Ok us∧us.length=nu∧Ok qs∧qs.length=nq∧val us<V*4294967296^k∧val us+V*4294967296^k*val (qs.drop k)=U
theorem val_lt_of_drop {us us0:List Nat} {n:Nat} (ho:Ok us) (hl:us.length=us0.length) (hd:us.drop n=us0.drop n) (h0:val us0<4294967296^n):val us<4294967296^n:=by
 rcases Nat.lt_or_ge us.length n with h|h
 ·exact Nat.lt_of_lt_of_le (val_lt ho) (Nat.pow_le_pow_right (by decide) (by omega))
 ·have e0:=val_take_drop us0 n (by omega);have hz:val (us0.drop n)=0:=by
   rcases Nat.eq_zero_or_pos (val (us0.drop n)) with h1|h1
   ·exact h1
   ·have:4294967296^n≤4294967296^n*val (us0.drop n):=Nat.le_mul_of_pos_right _ h1;omega
  have e1:=val_take_drop us n h;rw[hd,hz,Nat.mul_zero,Nat.add_zero]at e1;rw[e1];have:=val_lt (ho.take n);rwa[List.length_take,Nat.min_eq_left h]at this
theorem long_less {T T' J V P q bo:Nat} (h1:T<(q+1)*(V*J)) (_h2:q*(V*J)≤T+V*J) (hb:bo≤1) (hT':T'<P) (e:T'+J*(q*V)=T+P*bo):(bo=0→T'+q*(V*J)=T∧T'<V*J)∧(bo=1→T<q*(V*J)∧T'+q*(V*J)=T+P):=by
 have e1:J*(q*V)=q*(V*J):=by rw[Nat.mul_comm,Nat.mul_assoc]
 rw[e1]at e;rw[Nat.add_mul,Nat.one_mul]at h1;generalize q*(V*J)=W at*;generalize V*J=Y at*;refine ⟨fun h=> ?_,fun h=> ?_⟩
 ·subst h;omega
 ·subst h;omega
theorem long_again {T T' T'' J V P q c:Nat} (h2:q*(V*J)≤T+V*J) (hlt:T<q*(V*J)) (e':T'+q*(V*J)=T+P) (hc:c≤1) (hT'':T''<P) (e:T''+P*c=T'+J*V):0<q∧T''+(q-1)*(V*J)=T∧T''<V*J:=by
 have hq:0<q:=by
  rcases Nat.eq_zero_or_pos q with rfl|h
  ·simp at hlt
  ·exact h
 obtain ⟨p,rfl⟩:∃p,q=p+1:=⟨q-1,by omega⟩;rw[Nat.mul_comm J V]at e;rw[Nat.add_mul,Nat.one_mul]at*;simp only[Nat.add_sub_cancel];generalize p*(V*J)=W at*;generalize V*J=Y at*;refine ⟨hq,?_⟩;rcases (by omega:c=0∨c=1) with rfl|rfl
 ·omega
 ·omega
theorem LongTo.step {V U nq nu k:Nat} {us us' qs:List Nat} {d:Nat} (h:LongTo V U nq nu (k+1) us qs) (hk:k<nq) (ho:Ok us') (hl:us'.length=nu) (hd:d<4294967296) (e:val us'+d*(V*4294967296^k)=val us) (hlt:val us'<V*4294967296^k):LongTo V U nq nu k us' (qs.set k d):=by
 obtain ⟨h1,h2,h3,h4,h5,h6⟩:=h;refine ⟨ho,hl,h3.set _ hd,by simp[h4],hlt,?_⟩;rw[val_drop _ k (by simp[h4];exact hk),List.getElem_set_self,List.drop_set_of_lt (by omega),←h6,←e,Nat.pow_succ];generalize 4294967296^k=P;generalize val (qs.drop (k+1))=Y;rw[Nat.mul_add,Nat.mul_comm d,←Nat.mul_assoc V P,←Nat.mul_assoc (V*P)];omega
theorem LongTo.first {V U nq nu:Nat} {us:List Nat} (ho:Ok us) (hl:us.length=nu) (hv:val us=U) (hlt:U<V*4294967296^nq):LongTo V U nq nu nq us (List.replicate nq 0):=by
 refine ⟨ho,hl,Ok.replicate _,by simp,by rw[hv];exact hlt,?_⟩;rw[List.drop_of_length_le (by simp)];simp[val,hv]
theorem LongTo.done {V U nq nu:Nat} {us qs:List Nat} (h:LongTo V U nq nu 0 us qs):val qs=U/V∧val us=U%V:=by
 obtain ⟨h1,h2,h3,h4,h5,h6⟩:=h;rw[Nat.pow_zero,Nat.mul_one]at h5 h6;rw[List.drop_zero]at h6;have hV:0<V:=by omega
 rw[←h6,Nat.add_mul_div_left _ _ hV,Nat.add_mul_mod_self_left,Nat.div_eq_of_lt h5,Nat.mod_eq_of_lt h5];exact ⟨by omega,rfl⟩
theorem top_le {T V k m:Nat} (hm:1≤m) (h:T<V*4294967296^(k+1)):T/4294967296^(k+m)≤V/4294967296^(m-1):=by
 have h1:V<(V/4294967296^(m-1)+1)*4294967296^(m-1):=by
  rw[Nat.mul_comm];exact Nat.lt_mul_div_succ V (pow_pos' _)
 apply Nat.le_of_lt_succ;rw[Nat.div_lt_iff_lt_mul (pow_pos' _)];have e:4294967296^(k+m)=4294967296^(m-1)*4294967296^(k+1):=by rw[←Nat.pow_add];congr 1;omega
 rw[e,←Nat.mul_assoc];exact Nat.lt_of_lt_of_le h (Nat.mul_le_mul_right _ (Nat.le_of_lt h1))
def RestTo (T s m i:Nat) (rs:List Nat):Prop:=Ok rs∧rs.length=m∧val (rs.take i)=T/2^s%4294967296^i
theorem RestTo.zero (T s m:Nat):RestTo T s m 0 (List.replicate m 0):=⟨Ok.replicate _,by simp,by simp[val,Nat.mod_one]⟩
theorem rest_digit {us:List Nat} (ho:Ok us) (s i:Nat) (hs:s≤32):(at0 us (i+1)*4294967296+at0 us i)/2^s%4294967296=val us/2^s/4294967296^i%4294967296:=by
 have e:at0 us (i+1)*4294967296+at0 us i=val us/4294967296^i%(4294967296*4294967296):=by
  rw[digit_of ho,digit_of ho,Nat.pow_succ,←Nat.div_div_eq_div_mul];generalize val us/4294967296^i=X;omega
 have e2:val us/2^s/4294967296^i=val us/4294967296^i/2^s:=by rw[Nat.div_div_eq_div_mul,Nat.div_div_eq_div_mul,Nat.mul_comm]
 rw[e,e2];generalize val us/4294967296^i=X;have hd:(4294967296*4294967296:Nat)=2^s*2^(64-s):=by rw[←Nat.pow_add,show s+(64-s)=64 by omega]
 rw[hd,Nat.mod_mul_right_div_self];have hd2:(4294967296:Nat)∣2^(64-s):=⟨2^(32-s),by rw[show (4294967296:Nat)=2^32 from rfl,←Nat.pow_add];congr 1;omega⟩;exact Nat.mod_mod_of_dvd _ hd2
theorem RestTo.step {us:List Nat} {s m i:Nat} {rs:List Nat} (h:RestTo (val us) s m i rs) (ho:Ok us) (hs:s≤32) (hi:i<m):RestTo (val us) s m (i+1) (rs.set i ((at0 us (i+1)*4294967296+at0 us i)/2^s%4294967296)):=by
 obtain ⟨h1,h2,h3⟩:=h;refine ⟨h1.set _ (Nat.mod_lt _ (by decide)),by simp[h2],?_⟩;rw[val_take_succ _ i (by simp[h2];exact hi),take_set_self,List.getElem_set_self,h3,rest_digit ho s i hs,Nat.pow_succ,Nat.mod_mul]
theorem RestTo.done {T s m:Nat} {rs:List Nat} (h:RestTo T s m m rs) (hT:T<4294967296^m):val rs=T/2^s:=by
 obtain ⟨h1,h2,h3⟩:=h;rw[←h2,List.take_length,h2,Nat.mod_eq_of_lt (Nat.lt_of_le_of_lt (Nat.div_le_self _ _) hT)]at h3;exact h3
theorem shift_len {ys:List Nat} (hl:1≤ys.length) {s:Nat} (h1:at0 ys (ys.length-1)*2^s+2^s≤4294967296) (ho:Ok ys) (hf:Fine ys):val ys*2^s<4294967296^ys.length∧4294967296^(ys.length-1)≤val ys*2^s∧(dig (val ys*2^s)).length=ys.length:=by
 obtain ⟨n,hn⟩:∃n,ys.length=n+1:=⟨ys.length-1,by omega⟩;have e:=val_take_at0 ys n;rw[List.take_of_length_le (by omega)]at e;have hlt:=val_lt (ho.take n);rw[List.length_take,Nat.min_eq_left (by omega)]at hlt;rw[hn]at h1⊢;simp only[Nat.add_sub_cancel]at h1⊢;have hs0:0<2^s:=Nat.two_pow_pos s;have a1:val ys*2^s<4294967296^(n+1):=by
  have b1:val ys<4294967296^n*(at0 ys n+1):=by rw[e,Nat.mul_add];omega
  have b2:val ys*2^s<4294967296^n*(at0 ys n+1)*2^s:=Nat.mul_lt_mul_of_pos_right b1 hs0;refine Nat.lt_of_lt_of_le b2 ?_;rw[Nat.pow_succ,Nat.mul_assoc];apply Nat.mul_le_mul_left;rw[Nat.add_mul,Nat.one_mul];exact h1
 have a2:4294967296^n≤val ys:=by
  rcases Nat.lt_or_ge (val ys) (4294967296^n) with h|h
  ·exfalso;have:=dig_length_le h;rw[dig_val ho hf]at this;omega
  ·exact h
 have a3:4294967296^n≤val ys*2^s:=Nat.le_trans a2 (Nat.le_mul_of_pos_right _ hs0);refine ⟨a1,a3,?_⟩;have b1:=dig_length_le a1;have b2:¬(dig (val ys*2^s)).length≤n:=fun h=>by
  have:=le_of_dig_length h;omega
 omega
theorem long_start {x y s a b:Nat} (hx:x<4294967296^a) (hy:4294967296^(b-1)≤y) (hb:1≤b) (hab:b≤a+1):x*2^s<y*2^s*4294967296^(a+1-b):=by
 have e:4294967296^a=4294967296^(b-1)*4294967296^(a+1-b):=by rw[←Nat.pow_add];congr 1;omega
 have h1:x<y*4294967296^(a+1-b):=Nat.lt_of_lt_of_le hx (by rw[e];exact Nat.mul_le_mul_right _ hy);rw[Nat.mul_right_comm];exact Nat.mul_lt_mul_of_pos_right h1 (Nat.two_pow_pos s)
theorem long_facts {V k m : Nat} {us : List Nat} (ho : Ok us) (hT : val us < V * 4294967296 ^ (k + 1)) (hV1 : V < 4294967296 ^ m) (hV2 : 4294967296 ^ (m - 1) ≤ V) (hm : 2 ≤ m) :
    0 < at0 (dig V) (m - 1) ∧ at0 us (k + m) ≤ at0 (dig V) (m - 1) ∧ val us < 4294967296 ^ (k + m + 1) ∧
    ∀ q, GuessOk (at0 us (k + m)) (at0 us (k + m - 1)) (at0 us (k + m - 2)) (at0 (dig V) (m - 1)) (at0 (dig V) (m - 2)) q →
      val us < (q + 1) * (V * 4294967296 ^ k) ∧ q * (V * 4294967296 ^ k) ≤ val us + V * 4294967296 ^ k := by
  have hT2 : val us < 4294967296 ^ (k + m + 1) := by
    have e : 4294967296 ^ (k + m + 1) = 4294967296 ^ m * 4294967296 ^ (k + 1) := by rw [← Nat.pow_add]; congr 1; omega
    rw [e]
    exact Nat.lt_of_lt_of_le hT (Nat.mul_le_mul_right _ (Nat.le_of_lt hV1))
  have d1 : at0 (dig V) (m - 1) = V / 4294967296 ^ (m - 1) := by
    rw [digit_of (dig_ok V), val_dig]
    apply Nat.mod_eq_of_lt
    rw [Nat.div_lt_iff_lt_mul (pow_pos' _), Nat.mul_comm, ← Nat.pow_succ]
    rwa [show (m - 1).succ = m by omega]
  have d0 : at0 us (k + m) = val us / 4294967296 ^ (k + m) := by
    rw [digit_of ho]
    apply Nat.mod_eq_of_lt
    rw [Nat.div_lt_iff_lt_mul (pow_pos' _), Nat.mul_comm, ← Nat.pow_succ]
    exact hT2
  refine ⟨?_, ?_, hT2, fun q hg => ?_⟩
  · rw [d1]
    exact Nat.div_pos hV2 (pow_pos' _)
  · rw [d0, d1]
    exact top_le (by omega) hT
  · have t2 := two_digits ho (k + m - 1) (by rw [show k + m - 1 + 2 = k + m + 1 by omega]; exact hT2)
    rw [show k + m - 1 + 1 = k + m by omega] at t2
    have t3 := three_digits ho (k + m - 2) (by rw [show k + m - 2 + 3 = k + m + 1 by omega]; exact hT2)
    rw [show k + m - 2 + 2 = k + m by omega, show k + m - 2 + 1 = k + m - 1 by omega] at t3
    have w2 := two_digits (dig_ok V) (m - 2) (by rw [val_dig, show m - 2 + 2 = m by omega]; exact hV1)
    rw [show m - 2 + 1 = m - 1 by omega, val_dig] at w2
    exact guess_use hg hm hT hV1 t3 t2 w2 d1 hV2
theorem long_round1 {V U nq nu k m q:Nat} {us us' qs:List Nat} (h:LongTo V U nq nu (k+1) us qs) (hk:k<nq) (hq:q<4294967296) (hT2:val us<4294967296^(k+m+1)) (h1:val us<(q+1)*(V*4294967296^k)) (h2:q*(V*4294967296^k)≤val us+V*4294967296^k) (hl:LessEnd us V k m q us' 0):LongTo V U nq nu k us' (qs.set k q):=by
 obtain ⟨l1,l2,l3,l4,l5⟩:=hl;have hT':=val_lt_of_drop l1 l2 l4 hT2;obtain ⟨r1,r2⟩:=(long_less h1 h2 l3 hT' l5).1 rfl;exact h.step hk l1 (l2.trans h.2.1) hq r1 r2
theorem long_round2 {V U nq nu k m q:Nat} {us us' us'' qs:List Nat} (h:LongTo V U nq nu (k+1) us qs) (hk:k<nq) (hq:q<4294967296) (hT2:val us<4294967296^(k+m+1)) (h1:val us<(q+1)*(V*4294967296^k)) (h2:q*(V*4294967296^k)≤val us+V*4294967296^k) (hl:LessEnd us V k m q us' 1) (ha:AgainEnd us' V k m us''):0<q∧LongTo V U nq nu k us'' (qs.set k (q-1)):=by
 obtain ⟨l1,l2,l3,l4,l5⟩:=hl;have hT':=val_lt_of_drop l1 l2 l4 hT2;obtain ⟨r1,r2⟩:=(long_less h1 h2 l3 hT' l5).2 rfl;obtain ⟨a1,a2,a3,c,a4,a5⟩:=ha;have hT'':=val_lt_of_drop a1 a2 a3 hT';obtain ⟨s1,s2,s3⟩:=long_again h2 r1 r2 a4 hT'' a5;exact ⟨s1,h.step hk a1 (a2.trans (l2.trans h.2.1)) (by omega) s2 s3⟩
theorem long_pos {V k m q:Nat} {us us':List Nat} (hT2:val us<4294967296^(k+m+1)) (h1:val us<(q+1)*(V*4294967296^k)) (h2:q*(V*4294967296^k)≤val us+V*4294967296^k) (hl:LessEnd us V k m q us' 1):0<q:=by
 obtain ⟨l1,l2,l3,l4,l5⟩:=hl;have hT':=val_lt_of_drop l1 l2 l4 hT2;obtain ⟨r1,r2⟩:=(long_less h1 h2 l3 hT' l5).2 rfl;rcases Nat.eq_zero_or_pos q with rfl|h
 ·simp at r1
 ·exact h
end Go.Proofs.YtjlhjabgclflcaaGreatDoor.Num
namespace Go.Proofs.YtjlhjabgclflcaaGreatDoor.Num
def isD (c:UInt8):Bool:=decide (48≤c.toNat∧c.toNat≤57)
def numOf (l:List UInt8):Nat:=l.foldl (fun n c=>10*n+(c.toNat-48)) 0
theorem numOf_snoc (l:List UInt8) (c:UInt8):numOf (l++[c])=10*numOf l+(c.toNat-48):=by simp[numOf]
def formB (l:List UInt8):Bool:=decide (l≠[]∧¬(1<l.length∧l.head? =some 48)∧∀c∈l,isD c=true)
theorem ofNat48 (d:Nat) (h:d<10):(UInt8.ofNat (48+d)).toNat=48+d:=by simp;omega
theorem numOf_decR (n:Nat):numOf (decR n).reverse=n:=by
 induction n using Nat.strongRecOn with
 |_ n ih=>
  by_cases h:n=0
  ·subst h;rfl
  ·rw[decR_pos n (by omega),List.reverse_cons,numOf_snoc,ih (n/10) (by omega),ofNat48 _ (by omega)];omega
theorem numOf_decS (n:Nat):numOf (decS n)=n:=by
 unfold decS;split
 ·subst_vars;rfl
 ·exact numOf_decR n
theorem decR_digits (n:Nat):∀c∈decR n,isD c=true:=by
 induction n using Nat.strongRecOn with
 |_ n ih=>
  by_cases h:n=0
  ·subst h;intro c hc;cases hc
  ·rw[decR_pos n (by omega)];intro c hc;rcases List.mem_cons.1 hc with rfl|hc
   ·unfold isD;rw[ofNat48 _ (by omega)];exact decide_eq_true (by omega)
   ·exact ih (n/10) (by omega) c hc
theorem decR_last (n:Nat) (h:0<n):∃d,1≤d∧d<10∧(decR n).getLast? =some (UInt8.ofNat (48+d)):=by
 induction n using Nat.strongRecOn with
 |_ n ih=>
  rw[decR_pos n h];by_cases h10:n/10=0
  ·rw[h10,decR_zero];exact ⟨n%10,by omega,by omega,by simp⟩
  ·obtain ⟨d,h1,h2,h3⟩:=ih (n/10) (by omega) (by omega);refine ⟨d,h1,h2,?_⟩;rw[decR_pos (n/10) (by omega)]at h3⊢;simpa using h3
theorem formB_decS (n:Nat):formB (decS n)=true:=by
 unfold formB;apply decide_eq_true;unfold decS;by_cases h:n=0
 ·rw[if_pos h];simp[isD]
 ·rw[if_neg h];obtain ⟨d,h1,h2,h3⟩:=decR_last n (by omega);refine ⟨?_,?_,fun c hc=>decR_digits n c (List.mem_reverse.1 hc)⟩
  ·rw[decR_pos n (by omega)];simp
  ·rintro ⟨_,hh⟩;rw[List.head?_reverse,h3]at hh;have:=congrArg (fun o:Option UInt8=>(o.map UInt8.toNat)) hh;simp only[Option.map_some]at this;rw[ofNat48 d h2]at this;have h5:(48:UInt8).toNat=48:=rfl;rw[h5]at this;injection this with this;omega
theorem isD_iff {c:UInt8} (h:isD c=true):48≤c.toNat∧c.toNat≤57:=of_decide_eq_true h
theorem snoc_of (l:List UInt8) (h:l≠[]):∃l' c,l=l'++[c]:=⟨l.dropLast,l.getLast h,(List.dropLast_concat_getLast h).symm⟩
theorem decR_numOf (n:Nat) (l:List UInt8) (hn:l.length=n+1) (hd:∀c∈l,isD c=true) (hh:l.head?≠some 48):0<numOf l∧(decR (numOf l)).reverse=l:=by
 induction n generalizing l with
 |zero=>
  match l,hn with
  |[c],_=>
   have h1:=isD_iff (hd c (by simp));have hc:c.toNat≠48:=fun e=>hh (by
    have:c=48:=UInt8.toNat_inj.1 e;rw[this];rfl)
   have e:numOf [c]=c.toNat-48:=by simp[numOf]
   rw[e];refine ⟨by omega,?_⟩;rw[decR_pos _ (by omega)];have e2:(c.toNat-48)/10=0:=by omega
   rw[e2,decR_zero];have e3:UInt8.ofNat (48+(c.toNat-48)%10)=c:=by
    apply UInt8.toNat_inj.1;rw[ofNat48 _ (by omega)];omega
   rw[e3];rfl
 |succ n ih=>
  obtain ⟨l',c,rfl⟩:=snoc_of l (by intro h;rw[h]at hn;simp at hn);have hl':l'.length=n+1:=by simpa using hn
  have h1:=isD_iff (hd c (by simp));obtain ⟨h2,h3⟩:=ih l' hl' (fun x hx=>hd x (List.mem_append_left _ hx)) (fun e=>hh (by
   rw[List.head?_append,e];rfl))
  rw[numOf_snoc];refine ⟨by omega,?_⟩;rw[decR_pos _ (by omega)];have e2:(10*numOf l'+(c.toNat-48))/10=numOf l':=by omega
  have e3:UInt8.ofNat (48+(10*numOf l'+(c.toNat-48))%10)=c:=by
   apply UInt8.toNat_inj.1;rw[ofNat48 _ (by omega)];omega
  rw[e2,e3,List.reverse_cons,h3]
theorem decS_numOf (l:List UInt8) (h:formB l=true):decS (numOf l)=l:=by
 obtain ⟨h1,h2,h3⟩:=of_decide_eq_true h;by_cases hh:l.head? =some 48
 ·match l,h1 with
  |[c],_=>
   have hc:c=48:=by simpa using hh
   subst hc;rfl
  |c::d::r,_=>exact absurd ⟨by simp,hh⟩ h2
 ·obtain ⟨h4,h5⟩:=decR_numOf (l.length-1) l (by have:=List.length_pos_iff.2 h1;omega) h3 hh;unfold decS;rw[if_neg (by omega),h5]
end Go.Proofs.YtjlhjabgclflcaaGreatDoor.Num
namespace Go.Proofs.YtjlhjabgclflcaaGreatDoor.Num
def TenTo (xs:List Nat) (d k:Nat) (os:List Nat) (cr:Nat):Prop:=Ok os∧os.length=xs.length∧cr≤10∧os.drop k=xs.drop k∧val os+4294967296^k*cr=val xs+9*val (xs.take k)+d
theorem TenTo.zero {xs:List Nat} (h:Ok xs) (d:Nat) (hd:d≤10):TenTo xs d 0 xs d:=⟨h,rfl,hd,rfl,by simp[val]⟩
theorem ten_step {V V' P u s cr q X T d:Nat} (h:V+P*cr=X+9*T+d) (hv:V'+P*u=V+P*s) (hs:s+4294967296*q=cr+10*u):V'+P*4294967296*q=X+9*(T+P*u)+d:=by
 have e1:P*s+P*4294967296*q=P*cr+10*(P*u):=by
  rw[Nat.mul_assoc,←Nat.mul_add,hs,Nat.mul_add,Nat.mul_left_comm]
 omega
theorem TenTo.step {xs os:List Nat} {d k cr s q:Nat} (h:TenTo xs d k os cr) (hk:k<os.length) (hs:s<4294967296) (hq:q≤10) (e:s+4294967296*q=cr+10*os[k]):TenTo xs d (k+1) (os.set k s) q:=by
 obtain ⟨h1,h2,h3,h4,h5⟩:=h;have hx:os[k]=xs[k]'(by omega):=by
  have:=congrArg (fun l:List Nat=>l[0]?) h4;simp only[List.getElem?_drop,Nat.add_zero]at this;rw[List.getElem?_eq_getElem hk,List.getElem?_eq_getElem (by omega)]at this;injection this
 refine ⟨h1.set _ hs,by simp[h2],hq,?_,?_⟩
 ·rw[List.drop_set_of_lt (by omega),←List.drop_drop,←List.drop_drop,h4]
 ·have hv:=val_set os k s hk;rw[val_take_at0,Nat.pow_succ,at0_in (by omega),←hx];generalize 4294967296^k=P at*;exact ten_step h5 hv e
theorem TenTo.done {xs os:List Nat} {d cr:Nat} (h:TenTo xs d xs.length os cr):val (os++[cr])=10*val xs+d:=by
 obtain ⟨h1,h2,h3,h4,h5⟩:=h;rw[List.take_length]at h5;rw[val_snoc,h2,h5];omega
theorem TenTo.done0 {xs os:List Nat} {d:Nat} (h:TenTo xs d xs.length os 0):val os=10*val xs+d:=by
 have:=h.done;rwa[val_snoc_zero]at this
end Go.Proofs.YtjlhjabgclflcaaGreatDoor.Num
