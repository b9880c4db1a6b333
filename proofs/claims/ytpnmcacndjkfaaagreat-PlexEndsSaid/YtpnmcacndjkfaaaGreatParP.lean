/-
  Plain laws of the text of a number, read back.
-/
import Derived.Test.YtpnmcacndjkfaaaGreatBytes
import Derived.Test.YtpnmcacndjkfaaaGreatMulP
namespace Go.Proofs.YtpnmcacndjkfaaaGreat.Num
def isD (c:UInt8):Bool:=decide (48≤c.toNat∧c.toNat≤57)
def numOf (l:List UInt8):Nat:=l.foldl (fun n c=>10*n+(c.toNat-48)) 0
theorem numOf_snoc (l:List UInt8)(c:UInt8):numOf (l++[c])=10*numOf l+(c.toNat-48):=by simp[numOf]
def formB (l:List UInt8):Bool:=decide (l≠[]∧¬(1<l.length∧l.head? =some 48)∧∀c∈l,isD c=true)
theorem ofNat48 (d:Nat)(h:d<10):(UInt8.ofNat (48+d)).toNat=48+d:=by simp;omega
theorem numOf_decR (n:Nat):numOf (decR n).reverse=n:=by
 induction n using Nat.strongRecOn with
 |_ n ih=>
  by_cases h:n=0
  ·subst h;rfl
  ·rw[decR_pos n (by omega),List.reverse_cons,numOf_snoc,ih (n/10) (by omega),ofNat48 _ (by omega)];omega
theorem numOf_decS (n:Nat):numOf (decS n)=n:=by
 unfold decS;split
 ·subst_vars;rfl
 ·exact numOf_decR n
theorem decR_digits (n:Nat):∀c∈decR n,isD c=true:=by
 induction n using Nat.strongRecOn with
 |_ n ih=>
  by_cases h:n=0
  ·subst h;intro c hc;cases hc
  ·rw[decR_pos n (by omega)];intro c hc;rcases List.mem_cons.1 hc with rfl|hc
   ·unfold isD;rw[ofNat48 _ (by omega)];exact decide_eq_true (by omega)
   ·exact ih (n/10) (by omega) c hc
theorem decR_last (n:Nat)(h:0<n):∃d,1≤d∧d<10∧(decR n).getLast? =some (UInt8.ofNat (48+d)):=by
 induction n using Nat.strongRecOn with
 |_ n ih=>
  rw[decR_pos n h];by_cases h10:n/10=0
  ·rw[h10,decR_zero];exact⟨n%10,by omega,by omega,by simp⟩
  ·obtain⟨d,h1,h2,h3⟩:=ih (n/10) (by omega) (by omega);refine⟨d,h1,h2,?_⟩;rw[decR_pos (n/10) (by omega)]at h3⊢;simpa using h3
theorem formB_decS (n:Nat):formB (decS n)=true:=by
 unfold formB;apply decide_eq_true;unfold decS;by_cases h:n=0
 ·rw[if_pos h];simp[isD]
 ·rw[if_neg h];obtain⟨d,h1,h2,h3⟩:=decR_last n (by omega);refine⟨?_,?_,fun c hc=>decR_digits n c (List.mem_reverse.1 hc)⟩
  ·rw[decR_pos n (by omega)];simp
  ·rintro ⟨_,hh⟩;rw[List.head?_reverse,h3]at hh;have:=congrArg (fun o:Option UInt8=>(o.map UInt8.toNat)) hh;simp only[Option.map_some]at this;rw[ofNat48 d h2]at this;have h5:(48:UInt8).toNat=48:=rfl;rw[h5]at this;injection this with this;omega
theorem isD_iff {c:UInt8}(h:isD c=true):48≤c.toNat∧c.toNat≤57:=of_decide_eq_true h
theorem snoc_of (l:List UInt8)(h:l≠[]):∃l' c,l=l'++[c]:=⟨l.dropLast,l.getLast h,(List.dropLast_concat_getLast h).symm⟩
theorem decR_numOf (n:Nat)(l:List UInt8)(hn:l.length=n+1)(hd:∀c∈l,isD c=true)(hh:l.head?≠some 48):0<numOf l∧(decR (numOf l)).reverse=l:=by
 induction n generalizing l with
 |zero=>
  match l,hn with
  |[c],_=>
   have h1:=isD_iff (hd c (by simp));have hc:c.toNat≠48:=fun e=>hh (by
    have:c=48:=UInt8.toNat_inj.1 e;rw[this];rfl)
   have e:numOf [c]=c.toNat-48:=by simp[numOf]
   rw[e];refine⟨by omega,?_⟩;rw[decR_pos _ (by omega)];have e2:(c.toNat-48)/10=0:=by omega
   rw[e2,decR_zero];have e3:UInt8.ofNat (48+(c.toNat-48)%10)=c:=by
    apply UInt8.toNat_inj.1;rw[ofNat48 _ (by omega)];omega
   rw[e3];rfl
 |succ n ih=>
  obtain⟨l',c,rfl⟩:=snoc_of l (by intro h;rw[h]at hn;simp at hn);have hl':l'.length=n+1:=by simpa using hn
  have h1:=isD_iff (hd c (by simp));obtain⟨h2,h3⟩:=ih l' hl' (fun x hx=>hd x (List.mem_append_left _ hx)) (fun e=>hh (by
   rw[List.head?_append,e];rfl))
  rw[numOf_snoc];refine⟨by omega,?_⟩;rw[decR_pos _ (by omega)];have e2:(10*numOf l'+(c.toNat-48))/10=numOf l':=by omega
  have e3:UInt8.ofNat (48+(10*numOf l'+(c.toNat-48))%10)=c:=by
   apply UInt8.toNat_inj.1;rw[ofNat48 _ (by omega)];omega
  rw[e2,e3,List.reverse_cons,h3]
theorem decS_numOf (l:List UInt8)(h:formB l=true):decS (numOf l)=l:=by
 obtain⟨h1,h2,h3⟩:=of_decide_eq_true h;by_cases hh:l.head? =some 48
 ·match l,h1 with
  |[c],_=>
   have hc:c=48:=by simpa using hh
   subst hc;rfl
  |c::d::r,_=>exact absurd ⟨by simp,hh⟩ h2
 ·obtain⟨h4,h5⟩:=decR_numOf (l.length-1) l (by have:=List.length_pos_iff.2 h1;omega) h3 hh;unfold decS;rw[if_neg (by omega),h5]
end Go.Proofs.YtpnmcacndjkfaaaGreat.Num
namespace Go.Proofs.YtpnmcacndjkfaaaGreat.Num
def TenTo (xs:List Nat)(d k:Nat)(os:List Nat)(cr:Nat):Prop:=Ok os∧os.length=xs.length∧cr≤10∧os.drop k=xs.drop k∧val os+4294967296^k*cr=val xs+9*val (xs.take k)+d
theorem TenTo.zero {xs:List Nat}(h:Ok xs)(d:Nat)(hd:d≤10):TenTo xs d 0 xs d:=⟨h,rfl,hd,rfl,by simp[val]⟩
theorem ten_step {V V' P u s cr q X T d:Nat}(h:V+P*cr=X+9*T+d)(hv:V'+P*u=V+P*s)(hs:s+4294967296*q=cr+10*u):V'+P*4294967296*q=X+9*(T+P*u)+d:=by
 have e1:P*s+P*4294967296*q=P*cr+10*(P*u):=by
  rw[Nat.mul_assoc,←Nat.mul_add,hs,Nat.mul_add,Nat.mul_left_comm]
 omega
theorem TenTo.step {xs os:List Nat}{d k cr s q:Nat}(h:TenTo xs d k os cr)(hk:k<os.length)(hs:s<4294967296)(hq:q≤10)(e:s+4294967296*q=cr+10*os[k]):TenTo xs d (k+1) (os.set k s) q:=by
 obtain⟨h1,h2,h3,h4,h5⟩:=h;have hx:os[k]=xs[k]'(by omega):=by
  have:=congrArg (fun l:List Nat=>l[0]?) h4;simp only[List.getElem?_drop,Nat.add_zero]at this;rw[List.getElem?_eq_getElem hk,List.getElem?_eq_getElem (by omega)]at this;injection this
 refine⟨h1.set _ hs,by simp[h2],hq,?_,?_⟩
 ·rw[List.drop_set_of_lt (by omega),←List.drop_drop,←List.drop_drop,h4]
 ·have hv:=val_set os k s hk;rw[val_take_at0,Nat.pow_succ,at0_in (by omega),←hx];generalize 4294967296^k=P at*;exact ten_step h5 hv e
theorem TenTo.done {xs os:List Nat}{d cr:Nat}(h:TenTo xs d xs.length os cr):val (os++[cr])=10*val xs+d:=by
 obtain⟨h1,h2,h3,h4,h5⟩:=h;rw[List.take_length]at h5;rw[val_snoc,h2,h5];omega
theorem TenTo.done0 {xs os:List Nat}{d:Nat}(h:TenTo xs d xs.length os 0):val os=10*val xs+d:=by
 have:=h.done;rwa[val_snoc_zero]at this
end Go.Proofs.YtpnmcacndjkfaaaGreat.Num
