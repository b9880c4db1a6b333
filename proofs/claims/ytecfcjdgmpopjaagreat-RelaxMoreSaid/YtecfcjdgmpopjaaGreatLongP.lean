/-
  Plain laws of long division.
-/
import Derived.Test.YtecfcjdgmpopjaaGreatDivP
namespace Go.Proofs.YtecfcjdgmpopjaaGreat.Num
def LongTo (V U nq nu k:Nat)(us qs:List Nat):Prop:=Ok us∧us.length=nu∧Ok qs∧qs.length=nq∧val us<V*4294967296^k∧val us+V*4294967296^k*val (qs.drop k)=U
theorem val_lt_of_drop {us us0:List Nat}{n:Nat}(ho:Ok us)(hl:us.length=us0.length)(hd:us.drop n=us0.drop n)(h0:val us0<4294967296^n):val us<4294967296^n:=by
 rcases Nat.lt_or_ge us.length n with h|h
 ·exact Nat.lt_of_lt_of_le (val_lt ho) (Nat.pow_le_pow_right (by decide) (by omega))
 ·have e0:=val_take_drop us0 n (by omega);have hz:val (us0.drop n)=0:=by
   rcases Nat.eq_zero_or_pos (val (us0.drop n)) with h1|h1
   ·exact h1
   ·have:4294967296^n≤4294967296^n*val (us0.drop n):=Nat.le_mul_of_pos_right _ h1;omega
  have e1:=val_take_drop us n h;rw[hd,hz,Nat.mul_zero,Nat.add_zero]at e1;rw[e1];have:=val_lt (ho.take n);rwa[List.length_take,Nat.min_eq_left h]at this
theorem long_less {T T' J V P q bo:Nat}(h1:T<(q+1)*(V*J))(_h2:q*(V*J)≤T+V*J)(hb:bo≤1)(hT':T'<P)(e:T'+J*(q*V)=T+P*bo):(bo=0→T'+q*(V*J)=T∧T'<V*J)∧(bo=1→T<q*(V*J)∧T'+q*(V*J)=T+P):=by
 have e1:J*(q*V)=q*(V*J):=by rw[Nat.mul_comm,Nat.mul_assoc]
 rw[e1]at e;rw[Nat.add_mul,Nat.one_mul]at h1;generalize q*(V*J)=W at*;generalize V*J=Y at*;refine⟨fun h=> ?_,fun h=> ?_⟩
 ·subst h;omega
 ·subst h;omega
theorem long_again {T T' T'' J V P q c:Nat}(h2:q*(V*J)≤T+V*J)(hlt:T<q*(V*J))(e':T'+q*(V*J)=T+P)(hc:c≤1)(hT'':T''<P)(e:T''+P*c=T'+J*V):0<q∧T''+(q-1)*(V*J)=T∧T''<V*J:=by
 have hq:0<q:=by
  rcases Nat.eq_zero_or_pos q with rfl|h
  ·simp at hlt
  ·exact h
 obtain⟨p,rfl⟩:∃p,q=p+1:=⟨q-1,by omega⟩;rw[Nat.mul_comm J V]at e;rw[Nat.add_mul,Nat.one_mul]at*;simp only[Nat.add_sub_cancel];generalize p*(V*J)=W at*;generalize V*J=Y at*;refine⟨hq,?_⟩;rcases(by omega:c=0∨c=1) with rfl|rfl
 ·omega
 ·omega
theorem LongTo.step {V U nq nu k:Nat}{us us' qs:List Nat}{d:Nat}(h:LongTo V U nq nu (k+1) us qs)(hk:k<nq)(ho:Ok us')(hl:us'.length=nu)(hd:d<4294967296)(e:val us'+d*(V*4294967296^k)=val us)(hlt:val us'<V*4294967296^k):LongTo V U nq nu k us' (qs.set k d):=by
 obtain⟨h1,h2,h3,h4,h5,h6⟩:=h;refine⟨ho,hl,h3.set _ hd,by simp[h4],hlt,?_⟩;rw[val_drop _ k (by simp[h4];exact hk),List.getElem_set_self,List.drop_set_of_lt (by omega),←h6,←e,Nat.pow_succ];generalize 4294967296^k=P;generalize val (qs.drop (k+1))=Y;rw[Nat.mul_add,Nat.mul_comm d,←Nat.mul_assoc V P,←Nat.mul_assoc (V*P)];omega
theorem LongTo.first {V U nq nu:Nat}{us:List Nat}(ho:Ok us)(hl:us.length=nu)(hv:val us=U)(hlt:U<V*4294967296^nq):LongTo V U nq nu nq us (List.replicate nq 0):=by
 refine⟨ho,hl,Ok.replicate _,by simp,by rw[hv];exact hlt,?_⟩;rw[List.drop_of_length_le (by simp)];simp[val,hv]
theorem LongTo.done {V U nq nu:Nat}{us qs:List Nat}(h:LongTo V U nq nu 0 us qs):val qs=U/V∧val us=U%V:=by
 obtain⟨h1,h2,h3,h4,h5,h6⟩:=h;rw[Nat.pow_zero,Nat.mul_one]at h5 h6;rw[List.drop_zero]at h6;have hV:0<V:=by omega
 rw[←h6,Nat.add_mul_div_left _ _ hV,Nat.add_mul_mod_self_left,Nat.div_eq_of_lt h5,Nat.mod_eq_of_lt h5];exact⟨by omega,rfl⟩
theorem top_le {T V k m:Nat}(hm:1≤m)(h:T<V*4294967296^(k+1)):T/4294967296^(k+m)≤V/4294967296^(m-1):=by
 have h1:V<(V/4294967296^(m-1)+1)*4294967296^(m-1):=by
  rw[Nat.mul_comm];exact Nat.lt_mul_div_succ V (pow_pos' _)
 apply Nat.le_of_lt_succ;rw[Nat.div_lt_iff_lt_mul (pow_pos' _)];have e:4294967296^(k+m)=4294967296^(m-1)*4294967296^(k+1):=by rw[←Nat.pow_add];congr 1;omega
 rw[e,←Nat.mul_assoc];exact Nat.lt_of_lt_of_le h (Nat.mul_le_mul_right _ (Nat.le_of_lt h1))
def RestTo (T s m i:Nat)(rs:List Nat):Prop:=Ok rs∧rs.length=m∧val (rs.take i)=T/2^s%4294967296^i
theorem RestTo.zero (T s m:Nat):RestTo T s m 0 (List.replicate m 0):=⟨Ok.replicate _,by simp,by simp[val,Nat.mod_one]⟩
theorem rest_digit {us:List Nat}(ho:Ok us)(s i:Nat)(hs:s≤32):(at0 us (i+1)*4294967296+at0 us i)/2^s%4294967296=val us/2^s/4294967296^i%4294967296:=by
 have e:at0 us (i+1)*4294967296+at0 us i=val us/4294967296^i%(4294967296*4294967296):=by
  rw[digit_of ho,digit_of ho,Nat.pow_succ,←Nat.div_div_eq_div_mul];generalize val us/4294967296^i=X;omega
 have e2:val us/2^s/4294967296^i=val us/4294967296^i/2^s:=by rw[Nat.div_div_eq_div_mul,Nat.div_div_eq_div_mul,Nat.mul_comm]
 rw[e,e2];generalize val us/4294967296^i=X;have hd:(4294967296*4294967296:Nat)=2^s*2^(64-s):=by rw[←Nat.pow_add,show s+(64-s)=64 by omega]
 rw[hd,Nat.mod_mul_right_div_self];have hd2:(4294967296:Nat)∣2^(64-s):=⟨2^(32-s),by rw[show(4294967296:Nat)=2^32 from rfl,←Nat.pow_add];congr 1;omega⟩;exact Nat.mod_mod_of_dvd _ hd2
theorem RestTo.step {us:List Nat}{s m i:Nat}{rs:List Nat}(h:RestTo (val us) s m i rs)(ho:Ok us)(hs:s≤32)(hi:i<m):RestTo (val us) s m (i+1) (rs.set i ((at0 us (i+1)*4294967296+at0 us i)/2^s%4294967296)):=by
 obtain⟨h1,h2,h3⟩:=h;refine⟨h1.set _ (Nat.mod_lt _ (by decide)),by simp[h2],?_⟩;rw[val_take_succ _ i (by simp[h2];exact hi),take_set_self,List.getElem_set_self,h3,rest_digit ho s i hs,Nat.pow_succ,Nat.mod_mul]
theorem RestTo.done {T s m:Nat}{rs:List Nat}(h:RestTo T s m m rs)(hT:T<4294967296^m):val rs=T/2^s:=by
 obtain⟨h1,h2,h3⟩:=h;rw[←h2,List.take_length,h2,Nat.mod_eq_of_lt (Nat.lt_of_le_of_lt (Nat.div_le_self _ _) hT)]at h3;exact h3
theorem shift_len {ys:List Nat}(hl:1≤ys.length){s:Nat}(h1:at0 ys (ys.length-1)*2^s+2^s≤4294967296)(ho:Ok ys)(hf:Fine ys):val ys*2^s<4294967296^ys.length∧4294967296^(ys.length-1)≤val ys*2^s∧(dig (val ys*2^s)).length=ys.length:=by
 obtain⟨n,hn⟩:∃n,ys.length=n+1:=⟨ys.length-1,by omega⟩;have e:=val_take_at0 ys n;rw[List.take_of_length_le (by omega)]at e;have hlt:=val_lt (ho.take n);rw[List.length_take,Nat.min_eq_left (by omega)]at hlt;rw[hn]at h1⊢;simp only[Nat.add_sub_cancel]at h1⊢;have hs0:0<2^s:=Nat.two_pow_pos s;have a1:val ys*2^s<4294967296^(n+1):=by
  have b1:val ys<4294967296^n*(at0 ys n+1):=by rw[e,Nat.mul_add];omega
  have b2:val ys*2^s<4294967296^n*(at0 ys n+1)*2^s:=Nat.mul_lt_mul_of_pos_right b1 hs0;refine Nat.lt_of_lt_of_le b2 ?_;rw[Nat.pow_succ,Nat.mul_assoc];apply Nat.mul_le_mul_left;rw[Nat.add_mul,Nat.one_mul];exact h1
 have a2:4294967296^n≤val ys:=by
  rcases Nat.lt_or_ge (val ys) (4294967296^n) with h|h
  ·exfalso;have:=dig_length_le h;rw[dig_val ho hf]at this;omega
  ·exact h
 have a3:4294967296^n≤val ys*2^s:=Nat.le_trans a2 (Nat.le_mul_of_pos_right _ hs0);refine⟨a1,a3,?_⟩;have b1:=dig_length_le a1;have b2:¬(dig (val ys*2^s)).length≤n:=fun h=>by
  have:=le_of_dig_length h;omega
 omega
theorem long_start {x y s a b:Nat}(hx:x<4294967296^a)(hy:4294967296^(b-1)≤y)(hb:1≤b)(hab:b≤a+1):x*2^s<y*2^s*4294967296^(a+1-b):=by
 have e:4294967296^a=4294967296^(b-1)*4294967296^(a+1-b):=by rw[←Nat.pow_add];congr 1;omega
 have h1:x<y*4294967296^(a+1-b):=Nat.lt_of_lt_of_le hx (by rw[e];exact Nat.mul_le_mul_right _ hy);rw[Nat.mul_right_comm];exact Nat.mul_lt_mul_of_pos_right h1 (Nat.two_pow_pos s)
theorem long_facts {V k m:Nat}{us:List Nat}(ho:Ok us)(hT:val us<V*4294967296^(k+1))(hV1:V<4294967296^m)(hV2:4294967296^(m-1)≤V)(hm:2≤m):0<at0 (dig V) (m-1)∧at0 us (k+m)≤at0 (dig V) (m-1)∧val us<4294967296^(k+m+1)∧∀q,GuessOk (at0 us (k+m)) (at0 us (k+m-1)) (at0 us (k+m-2)) (at0 (dig V) (m-1)) (at0 (dig V) (m-2)) q→val us<(q+1)*(V*4294967296^k)∧q*(V*4294967296^k)≤val us+V*4294967296^k:=by
 have hT2:val us<4294967296^(k+m+1):=by
  have e:4294967296^(k+m+1)=4294967296^m*4294967296^(k+1):=by rw[←Nat.pow_add];congr 1;omega
  rw[e];exact Nat.lt_of_lt_of_le hT (Nat.mul_le_mul_right _ (Nat.le_of_lt hV1))
 have d1:at0 (dig V) (m-1)=V/4294967296^(m-1):=by
  rw[digit_of (dig_ok V),val_dig];apply Nat.mod_eq_of_lt;rw[Nat.div_lt_iff_lt_mul (pow_pos' _),Nat.mul_comm,←Nat.pow_succ];rwa[show(m-1).succ=m by omega]
 have d0:at0 us (k+m)=val us/4294967296^(k+m):=by
  rw[digit_of ho];apply Nat.mod_eq_of_lt;rw[Nat.div_lt_iff_lt_mul (pow_pos' _),Nat.mul_comm,←Nat.pow_succ];exact hT2
 refine⟨?_,?_,hT2,fun q hg=> ?_⟩
 ·rw[d1];exact Nat.div_pos hV2 (pow_pos' _)
 ·rw[d0,d1];exact top_le (by omega) hT
 ·have t2:=two_digits ho (k+m-1) (by rw[show k+m-1+2=k+m+1 by omega];exact hT2);rw[show k+m-1+1=k+m by omega]at t2;have t3:=three_digits ho (k+m-2) (by rw[show k+m-2+3=k+m+1 by omega];exact hT2);rw[show k+m-2+2=k+m by omega,show k+m-2+1=k+m-1 by omega]at t3;have w2:=two_digits (dig_ok V) (m-2) (by rw[val_dig,show m-2+2=m by omega];exact hV1);rw[show m-2+1=m-1 by omega,val_dig]at w2;exact guess_use hg hm hT hV1 t3 t2 w2 d1 hV2
theorem long_round1 {V U nq nu k m q:Nat}{us us' qs:List Nat}(h:LongTo V U nq nu (k+1) us qs)(hk:k<nq)(hq:q<4294967296)(hT2:val us<4294967296^(k+m+1))(h1:val us<(q+1)*(V*4294967296^k))(h2:q*(V*4294967296^k)≤val us+V*4294967296^k)(hl:LessEnd us V k m q us' 0):LongTo V U nq nu k us' (qs.set k q):=by
 obtain⟨l1,l2,l3,l4,l5⟩:=hl;have hT':=val_lt_of_drop l1 l2 l4 hT2;obtain⟨r1,r2⟩:=(long_less h1 h2 l3 hT' l5).1 rfl;exact h.step hk l1 (l2.trans h.2.1) hq r1 r2
theorem long_round2 {V U nq nu k m q:Nat}{us us' us'' qs:List Nat}(h:LongTo V U nq nu (k+1) us qs)(hk:k<nq)(hq:q<4294967296)(hT2:val us<4294967296^(k+m+1))(h1:val us<(q+1)*(V*4294967296^k))(h2:q*(V*4294967296^k)≤val us+V*4294967296^k)(hl:LessEnd us V k m q us' 1)(ha:AgainEnd us' V k m us''):0<q∧LongTo V U nq nu k us'' (qs.set k (q-1)):=by
 obtain⟨l1,l2,l3,l4,l5⟩:=hl;have hT':=val_lt_of_drop l1 l2 l4 hT2;obtain⟨r1,r2⟩:=(long_less h1 h2 l3 hT' l5).2 rfl;obtain⟨a1,a2,a3,c,a4,a5⟩:=ha;have hT'':=val_lt_of_drop a1 a2 a3 hT';obtain⟨s1,s2,s3⟩:=long_again h2 r1 r2 a4 hT'' a5;exact⟨s1,h.step hk a1 (a2.trans (l2.trans h.2.1)) (by omega) s2 s3⟩
theorem long_pos {V k m q:Nat}{us us':List Nat}(hT2:val us<4294967296^(k+m+1))(h1:val us<(q+1)*(V*4294967296^k))(h2:q*(V*4294967296^k)≤val us+V*4294967296^k)(hl:LessEnd us V k m q us' 1):0<q:=by
 obtain⟨l1,l2,l3,l4,l5⟩:=hl;have hT':=val_lt_of_drop l1 l2 l4 hT2;obtain⟨r1,r2⟩:=(long_less h1 h2 l3 hT' l5).2 rfl;rcases Nat.eq_zero_or_pos q with rfl|h
 ·simp at r1
 ·exact h
end Go.Proofs.YtecfcjdgmpopjaaGreat.Num
