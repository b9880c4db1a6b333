/-
  Plain laws of division, digit by digit.
-/
import Derived.Test.YtecfcjdgmpopjaaGreatMulP
namespace Go.Proofs.YtecfcjdgmpopjaaGreat.Num
def SmallTo (xs:List Nat)(b k:Nat)(os:List Nat)(r:Nat):Prop:=Ok os∧os.length=xs.length∧r<b∧val (os.drop k)*b+r=val (xs.drop k)
theorem SmallTo.zero (xs:List Nat)(b:Nat)(hb:0<b):SmallTo xs b xs.length (List.replicate xs.length 0) 0:=by
 refine⟨Ok.replicate _,by simp,hb,?_⟩;rw[List.drop_length,List.drop_of_length_le (by simp)];simp[val]
theorem small_step {q b r r' x V X:Nat}(h:V*b+r=X)(hs:q*b+r'=r*4294967296+x):(q+4294967296*V)*b+r'=x+4294967296*X:=by
 rw[Nat.add_mul,Nat.mul_assoc,←h];omega
theorem SmallTo.step {xs:List Nat}{b k:Nat}{os:List Nat}{r q r':Nat}(h:SmallTo xs b (k+1) os r)(hk:k<xs.length)(hq:q<4294967296)(hr:r'<b)(e:q*b+r'=r*4294967296+xs[k]):SmallTo xs b k (os.set k q) r':=by
 obtain⟨h1,h2,h3,h4⟩:=h;refine⟨h1.set _ hq,by simp[h2],hr,?_⟩;rw[val_drop _ k (by simp[h2];exact hk),val_drop xs k hk,List.getElem_set_self,List.drop_set_of_lt (by omega)];exact small_step h4 e
theorem SmallTo.done {xs:List Nat}{b:Nat}{os:List Nat}{r:Nat}(h:SmallTo xs b 0 os r):val os=val xs/b∧r=val xs%b:=by
 obtain⟨h1,h2,h3,h4⟩:=h;simp only[List.drop_zero]at h4;have hb:0<b:=by omega
 rw[←h4];constructor
 ·rw[Nat.add_comm,Nat.add_mul_div_right _ _ hb,Nat.div_eq_of_lt h3,Nat.zero_add]
 ·rw[Nat.add_comm,Nat.add_mul_mod_self_right,Nat.mod_eq_of_lt h3]
theorem digit_of {xs:List Nat}(h:Ok xs)(i:Nat):at0 xs i=val xs/4294967296^i%4294967296:=by
 induction xs generalizing i with
 |nil=>simp[at0,val]
 |cons d ds ih=>
  have hd:=h.head;cases i with
  |zero=>
   simp[at0,val];omega
  |succ i=>
   have h1:=ih h.tail i;have e1:at0 (d::ds) (i+1)=at0 ds i:=by simp[at0]
   rw[e1,h1];simp only[val];rw[Nat.pow_succ,Nat.mul_comm (4294967296^i),←Nat.div_div_eq_div_mul];congr 2;omega
theorem two_digits {xs:List Nat}(h:Ok xs)(i:Nat)(ht:val xs<4294967296^(i+2)):at0 xs (i+1)*4294967296+at0 xs i=val xs/4294967296^i:=by
 rw[digit_of h,digit_of h,Nat.pow_succ,←Nat.div_div_eq_div_mul];have hb:val xs/4294967296^i<4294967296*4294967296:=by
  rw[Nat.div_lt_iff_lt_mul (pow_pos' i)];rw[Nat.pow_succ,Nat.pow_succ]at ht;rw[Nat.mul_comm];rw[←Nat.mul_assoc];exact ht
 generalize val xs/4294967296^i=X at*;omega
theorem three_digits {xs:List Nat}(h:Ok xs)(i:Nat)(ht:val xs<4294967296^(i+3)):(at0 xs (i+2)*4294967296+at0 xs (i+1))*4294967296+at0 xs i=val xs/4294967296^i:=by
 rw[two_digits h (i+1) ht,digit_of h,Nat.pow_succ,←Nat.div_div_eq_div_mul];generalize val xs/4294967296^i=X;omega
def GuessOk (u1 u2 u3 v1 v2 q:Nat):Prop:=
 q<4294967296∧(∃r,q*v1+r=u1*4294967296+u2∧(4294967296≤r∨q*v2≤r*4294967296+u3))∧
  ∀p,p<4294967296→p*(v1*4294967296+v2)≤(u1*4294967296+u2)*4294967296+u3→p≤q
def GuessTo (u1 u2 u3 v1 v2 q r:Nat):Prop:=
 q*v1+r=u1*4294967296+u2∧∀p,p<4294967296→p*(v1*4294967296+v2)≤(u1*4294967296+u2)*4294967296+u3→p≤q
theorem GuessTo.zero {u1 u2 u3 v1 v2:Nat}(hv:0<v1)(h3:u3<4294967296):GuessTo u1 u2 u3 v1 v2 ((u1*4294967296+u2)/v1) ((u1*4294967296+u2)%v1):=by
 refine⟨by rw[Nat.mul_comm];exact Nat.div_add_mod _ _,fun p hp h=> ?_⟩;rw[Nat.le_div_iff_mul_le hv];have h1:p*v1*4294967296≤p*(v1*4294967296+v2):=by
  rw[Nat.mul_add,Nat.mul_assoc];exact Nat.le_add_right _ _
 generalize p*v1=X at*;omega
theorem GuessTo.step {u1 u2 u3 v1 v2 q r:Nat}(h:GuessTo u1 u2 u3 v1 v2 q r)(_hu:u3<4294967296)(ht:4294967296≤q∨r*4294967296+u3<q*v2)(hq:0<q):GuessTo u1 u2 u3 v1 v2 (q-1) (r+v1):=by
 obtain⟨h1,h2⟩:=h;obtain⟨q,rfl⟩:∃q',q=q'+1:=⟨q-1,by omega⟩;refine⟨by rw[Nat.add_mul]at h1;simp only[Nat.add_sub_cancel];omega,fun p hp h=> ?_⟩;have h3:=h2 p hp h;rcases ht with ht|ht
 ·omega
 ·rcases Nat.lt_or_ge p (q+1) with hlt|hge
  ·omega
  ·exfalso;have:p=q+1:=by omega
   subst this;rw[Nat.mul_add,←Nat.mul_assoc,←h1]at h;generalize (q+1)*v1=X at h;generalize (q+1)*v2=Y at h ht;omega
theorem GuessTo.pos {u3 v2 q r:Nat}(ht:4294967296≤q∨r*4294967296+u3<q*v2):0<q:=by
 rcases ht with ht|ht
 ·omega
 ·rcases Nat.eq_zero_or_pos q with rfl|h
  ·simp at ht
  ·exact h
theorem GuessTo.out {u1 u2 u3 v1 v2 q r:Nat}(h:GuessTo u1 u2 u3 v1 v2 q r)(hu:u1≤v1)(hu2:u2<4294967296)(ht:4294967296≤r∨(q<4294967296∧q*v2≤r*4294967296+u3)):GuessOk u1 u2 u3 v1 v2 q:=by
 obtain⟨h1,h2⟩:=h;have hq:q<4294967296:=by
  rcases ht with ht|ht
  ·rcases Nat.lt_or_ge q 4294967296 with hlt|hge
   ·exact hlt
   ·exfalso;have:4294967296*v1≤q*v1:=Nat.mul_le_mul_right _ hge;generalize q*v1=X at*;omega
  ·exact ht.1
 exact⟨hq,⟨r,h1,ht.imp id (·.2)⟩,h2⟩
theorem guess_use {T V j m q:Nat}{u1 u2 u3 v1 v2:Nat}(hg:GuessOk u1 u2 u3 v1 v2 q)(hm:2≤m)(hT:T<V*4294967296^(j+1))(_hVm:V<4294967296^m)(h3:(u1*4294967296+u2)*4294967296+u3=T/4294967296^(j+m-2))(h2:u1*4294967296+u2=T/4294967296^(j+m-1))(k2:v1*4294967296+v2=V/4294967296^(m-2))(k1:v1=V/4294967296^(m-1))(hV:4294967296^(m-1)≤V):T<(q+1)*(V*4294967296^j)∧q*(V*4294967296^j)≤T+V*4294967296^j:=by
 obtain⟨hq,⟨r,hr,hx⟩,hall⟩:=hg;have e1:4294967296^(j+m-2)=4294967296^(m-2)*4294967296^j:=by rw[←Nat.pow_add];congr 1;omega
 have e2:4294967296^(j+m-1)=4294967296^(m-1)*4294967296^j:=by rw[←Nat.pow_add];congr 1;omega
 have e3:(4294967296:Nat)^(m-1)=4294967296^(m-2)*4294967296:=by rw[←Nat.pow_succ];congr 1;omega
 have hV0:0<V:=Nat.lt_of_lt_of_le (pow_pos' _) hV;have hj:=pow_pos' j;have hm2:=pow_pos' (m-2);have hm1:=pow_pos' (m-1);rw[e1]at h3;rw[e2]at h2;rw[Nat.pow_succ]at hT;generalize 4294967296^j=J at*;generalize 4294967296^(m-2)=M2 at*;generalize 4294967296^(m-1)=M1 at*;have hVJ:0<V*J:=Nat.mul_pos hV0 hj;constructor
 ·have hp:=hall (T/(V*J)) (by rw[Nat.div_lt_iff_lt_mul hVJ,Nat.mul_comm];rw[Nat.mul_assoc];exact hT) (by
   rw[h3,k2,Nat.le_div_iff_mul_le (Nat.mul_pos hm2 hj)];have a1:T/(V*J)*(V*J)≤T:=Nat.div_mul_le_self _ _;have a2:V/M2*M2≤V:=Nat.div_mul_le_self _ _;have a3:T/(V*J)*(V/M2)*(M2*J)=T/(V*J)*(V/M2*M2*J):=by simp only[Nat.mul_assoc]
   rw[a3];exact Nat.le_trans (Nat.mul_le_mul ZL (Nat.mul_le_mul a2 ZL)) a1)
  have b1:T<(T/(V*J)+1)*(V*J):=by
   have:=Nat.lt_mul_div_succ T hVJ;rw[Nat.mul_comm]at this;exact this
  exact Nat.lt_of_lt_of_le b1 (Nat.mul_le_mul (by omega) ZL)
 ·rcases hx with hx|hx
  ·have c1:q*(v1+1)≤q*v1+r:=by rw[Nat.mul_add];omega
   have c2:V<(v1+1)*M1:=by
    rw[k1,Nat.mul_comm];exact Nat.lt_mul_div_succ V hm1
   have c3:(q*v1+r)*(M1*J)≤T:=by
    rw[hr,h2];exact Nat.div_mul_le_self _ _
   have c4:q*(V*J)≤q*(v1+1)*(M1*J):=by
    have:q*(v1+1)*(M1*J)=q*((v1+1)*M1*J):=by simp only[Nat.mul_assoc]
    rw[this];exact Nat.mul_le_mul ZL (Nat.mul_le_mul (Nat.le_of_lt c2) ZL)
   have c5:=Nat.mul_le_mul c1 (Nat.le_refl (M1*J));omega
  ·have c1:q*(v1*4294967296+v2)≤T/(M2*J):=by
    rw[←h3,←hr,Nat.mul_add,←Nat.mul_assoc];generalize q*v1=X;generalize q*v2=Y at hx⊢;omega
   have c2:V<(v1*4294967296+v2+1)*M2:=by
    rw[k2,Nat.mul_comm];exact Nat.lt_mul_div_succ V hm2
   have c3:q*(v1*4294967296+v2)*(M2*J)≤T:=Nat.le_trans (Nat.mul_le_mul c1 ZL) (Nat.div_mul_le_self _ _);have c4:q*(V*J)≤q*(v1*4294967296+v2+1)*(M2*J):=by
    have:q*(v1*4294967296+v2+1)*(M2*J)=q*((v1*4294967296+v2+1)*M2*J):=by simp only[Nat.mul_assoc]
    rw[this];exact Nat.mul_le_mul ZL (Nat.mul_le_mul (Nat.le_of_lt c2) ZL)
   have c5:q*(v1*4294967296+v2+1)*(M2*J)=q*(v1*4294967296+v2)*(M2*J)+q*(M2*J):=by rw[Nat.mul_add,Nat.mul_one,Nat.add_mul]
   have c6:q*(M2*J)≤V*J:=by
    have d1:q*M2≤M2*4294967296:=by rw[Nat.mul_comm M2];exact Nat.mul_le_mul (by omega) ZL
    rw[←e3]at d1;rw[←Nat.mul_assoc];exact Nat.mul_le_mul (Nat.le_trans d1 hV) ZL
   omega
def LessTo (us0 vs:List Nat)(j q i:Nat)(us:List Nat)(cr bo:Nat):Prop:=
 Ok us∧us.length=us0.length∧cr<4294967296∧bo≤1∧us.drop (j+i)=us0.drop (j+i)∧val us+4294967296^j*(q*val (vs.take i))=val us0+4294967296^(j+i)*(cr+bo)
theorem LessTo.zero {us vs:List Nat}(ho:Ok us)(j q:Nat):LessTo us vs j q 0 us 0 0:=⟨ho,rfl,by decide,by decide,rfl,by simp[val]⟩
theorem less_step {V V' V0 P Q q X cr bo s u d lo cr' bo':Nat}(h:V+P*(q*X)=V0+P*Q*(cr+bo))(hv:V'+P*Q*u=V+P*Q*s)(hn:lo+4294967296*cr'=cr+q*d)(hs:s+lo+bo=u+4294967296*bo'):V'+P*(q*(X+Q*d))=V0+P*(Q*4294967296)*(cr'+bo'):=by
 have e1:P*(q*(X+Q*d))=P*(q*X)+P*Q*(q*d):=by
  rw[Nat.mul_add,Nat.mul_add,Nat.mul_left_comm q Q d,Nat.mul_assoc P Q]
 have e2:P*(Q*4294967296)*(cr'+bo')=P*Q*(4294967296*cr')+P*Q*(4294967296*bo'):=by
  rw[←Nat.mul_assoc P Q,Nat.mul_assoc (P*Q),Nat.mul_add,Nat.mul_add]
 have e3:P*Q*lo+P*Q*(4294967296*cr')=P*Q*cr+P*Q*(q*d):=by rw[←Nat.mul_add,hn,Nat.mul_add]
 have e4:P*Q*s+P*Q*lo+P*Q*bo=P*Q*u+P*Q*(4294967296*bo'):=by rw[←Nat.mul_add,←Nat.mul_add,hs,Nat.mul_add]
 rw[Nat.mul_add]at h;rw[e1,e2];omega
theorem drop_set {us us0:List Nat}{k s:Nat}(h:us.drop k=us0.drop k):(us.set k s).drop (k+1)=us0.drop (k+1):=by
 rw[List.drop_set_of_lt (by omega),←List.drop_drop,←List.drop_drop,h]
theorem LessTo.step {us0 vs us:List Nat}{j q i cr bo s lo cr' bo':Nat}(h:LessTo us0 vs j q i us cr bo)(hk:j+i<us.length)(hs:s<4294967296)(hc:cr'<4294967296)(hb:bo'≤1)(hn:lo+4294967296*cr'=cr+q*at0 vs i)(e:s+lo+bo=us[j+i]+4294967296*bo'):LessTo us0 vs j q (i+1) (us.set (j+i) s) cr' bo':=by
 obtain⟨h1,h2,h3,h4,h5,h6⟩:=h;refine⟨h1.set _ hs,by simp[h2],hc,hb,by rw[←Nat.add_assoc];exact drop_set h5,?_⟩;have hv:=val_set us (j+i) s hk;rw[val_take_at0,←Nat.add_assoc,Nat.pow_succ];rw[Nat.pow_add]at h6 hv⊢;rw[Nat.mul_assoc _ _ 4294967296];generalize 4294967296^j=P at*;generalize 4294967296^i=Q at*;exact less_step h6 hv hn e
def LessEnd (us0:List Nat)(V j m q:Nat)(us:List Nat)(bo:Nat):Prop:=
 Ok us∧us.length=us0.length∧bo≤1∧us.drop (j+m+1)=us0.drop (j+m+1)∧val us+4294967296^j*(q*V)=val us0+4294967296^(j+m+1)*bo
theorem LessTo.last {us0 vs us:List Nat}{j q i cr bo s bo':Nat}(h:LessTo us0 vs j q i us cr bo)(hi:i=vs.length)(hk:j+i<us.length)(hs:s<4294967296)(hb:bo'≤1)(e:s+cr+bo=us[j+i]+4294967296*bo'):LessEnd us0 (val vs) j vs.length q (us.set (j+i) s) bo':=by
 have hz:at0 vs i=0:=at0_out (by omega);have h':=LessTo.step (lo:=cr) (cr':=0) h hk hs (by decide) hb (by simp[hz]) e;obtain⟨h1,h2,h3,h4,h5,h6⟩:=h';subst hi;rw[List.take_of_length_le (by omega),Nat.zero_add]at h6;exact⟨h1,h2,hb,h5,h6⟩
def AgainTo (us0 vs:List Nat)(j i:Nat)(us:List Nat)(cr:Nat):Prop:=
 Ok us∧us.length=us0.length∧cr≤1∧us.drop (j+i)=us0.drop (j+i)∧val us+4294967296^(j+i)*cr=val us0+4294967296^j*val (vs.take i)
theorem AgainTo.zero {us vs:List Nat}(ho:Ok us)(j:Nat):AgainTo us vs j 0 us 0:=⟨ho,rfl,by decide,rfl,by simp[val]⟩
theorem again_step {V V' V0 P Q X cr s u d cr':Nat}(h:V+P*Q*cr=V0+P*X)(hv:V'+P*Q*u=V+P*Q*s)(hs:s+4294967296*cr'=u+d+cr):V'+P*(Q*4294967296)*cr'=V0+P*(X+Q*d):=by
 have e1:P*(X+Q*d)=P*X+P*Q*d:=by rw[Nat.mul_add,Nat.mul_assoc P Q]
 have e2:P*(Q*4294967296)*cr'=P*Q*(4294967296*cr'):=by rw[←Nat.mul_assoc P Q,Nat.mul_assoc (P*Q)]
 have e3:P*Q*s+P*Q*(4294967296*cr')=P*Q*u+P*Q*d+P*Q*cr:=by rw[←Nat.mul_add,hs,Nat.mul_add,Nat.mul_add]
 rw[e1,e2];omega
theorem AgainTo.step {us0 vs us:List Nat}{j i cr s cr':Nat}(h:AgainTo us0 vs j i us cr)(hk:j+i<us.length)(hs:s<4294967296)(hc:cr'≤1)(e:s+4294967296*cr'=us[j+i]+at0 vs i+cr):AgainTo us0 vs j (i+1) (us.set (j+i) s) cr':=by
 obtain⟨h1,h2,h3,h4,h5⟩:=h;refine⟨h1.set _ hs,by simp[h2],hc,by rw[←Nat.add_assoc];exact drop_set h4,?_⟩;have hv:=val_set us (j+i) s hk;rw[val_take_at0,←Nat.add_assoc,Nat.pow_succ];rw[Nat.pow_add]at h5 hv⊢;rw[Nat.mul_assoc _ _ 4294967296];generalize 4294967296^j=P at*;generalize 4294967296^i=Q at*;exact again_step h5 hv e
def AgainEnd (us0:List Nat)(V j m:Nat)(us:List Nat):Prop:=
 Ok us∧us.length=us0.length∧us.drop (j+m+1)=us0.drop (j+m+1)∧∃c,c≤1∧val us+4294967296^(j+m+1)*c=val us0+4294967296^j*V
theorem AgainTo.last {us0 vs us:List Nat}{j i cr s c':Nat}(h:AgainTo us0 vs j i us cr)(hi:i=vs.length)(hk:j+i<us.length)(hs:s<4294967296)(hc:c'≤1)(e:s+4294967296*c'=us[j+i]+cr):AgainEnd us0 (val vs) j vs.length (us.set (j+i) s):=by
 have hz:at0 vs i=0:=at0_out (by omega);have h':=AgainTo.step (cr':=c') h hk hs hc (by rw[hz];omega);obtain⟨h1,h2,h3,h4,h5⟩:=h';subst hi;rw[List.take_of_length_le (by omega)]at h5;exact⟨h1,h2,h4,c',hc,h5⟩
def ShiftTo (xs:List Nat)(s i:Nat)(os:List Nat):Prop:=Ok os∧os.length=xs.length+1∧at0 os i<2^s∧val (os.take (i+1))=val (xs.take i)*2^s
theorem ShiftTo.zero (xs:List Nat)(s:Nat):ShiftTo xs s 0 (List.replicate (xs.length+1) 0):=by
 refine⟨Ok.replicate _,by simp,?_,?_⟩
 ·rw[at0_in (by simp)];simp;exact Nat.two_pow_pos s
 ·rw[List.take_replicate,val_replicate];simp[val]
theorem shift_step {V P o d S lo hi X:Nat}(h:V+P*o=X*S)(hd:lo+4294967296*hi=d*S):V+P*(o+lo)+P*4294967296*hi=(X+P*d)*S:=by
 have e1:P*lo+P*4294967296*hi=P*d*S:=by rw[Nat.mul_assoc P 4294967296,←Nat.mul_add,hd,Nat.mul_assoc]
 rw[Nat.add_mul,←h,Nat.mul_add];omega
theorem ShiftTo.step {xs:List Nat}{s i:Nat}{os:List Nat}{lo hi o:Nat}(h:ShiftTo xs s i os)(hi':i<xs.length)(hk:i+1<os.length)(ho:o=at0 os i+lo)(ho':o<4294967296)(hh:hi<4294967296)(hh':hi<2^s)(e:lo+4294967296*hi=at0 xs i*2^s):ShiftTo xs s (i+1) ((os.set i o).set (i+1) hi):=by
 obtain⟨h1,h2,h3,h4⟩:=h;refine⟨(h1.set _ ho').set _ hh,by simp[h2],?_,?_⟩
 ·rw[at0_in (by simp;exact hk)];simpa using hh'
 ·rw[val_take_succ _ _ (by simp;exact hk),take_set_self,List.getElem_set_self,val_take_succ _ i (by simp;omega),take_set_self,List.getElem_set_self,val_take_at0 xs i,Nat.pow_succ,ho];rw[val_take_succ _ i (by omega),←at0_in (by omega)]at h4;exact shift_step h4 e
theorem ShiftTo.done {xs:List Nat}{s:Nat}{os:List Nat}(h:ShiftTo xs s xs.length os):val os=val xs*2^s:=by
 obtain⟨h1,h2,h3,h4⟩:=h;rwa[←h2,List.take_length,List.take_length]at h4
end Go.Proofs.YtecfcjdgmpopjaaGreat.Num
