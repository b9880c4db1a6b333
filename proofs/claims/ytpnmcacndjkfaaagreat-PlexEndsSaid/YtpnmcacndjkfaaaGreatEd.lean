import Derived.Test.YtpnmcacndjkfaaaGreatEc
set_option linter.unusedSimpArgs false
set_option linter.unusedVariables false
namespace Go.Proofs.YtpnmcacndjkfaaaGreat
open Go.RowKit Num
def ownQ (b:Tb)(k:Nat)(up:Bool):Option Rat:=if up then(b.var (b.F k)).hi.map fun h=>h-(b.var (b.F k)).v else(b.var (b.F k)).lo.map fun l=>(b.var (b.F k)).v-l
def turnA (up:Bool)(a:Rat):Rat:=if up then a else-a
def lineR (a:Rat)(y:Vr):Option Rat:=if 0<a then y.hi.map fun h=>(h-y.v)/a else if a<0 then y.lo.map fun l=>(l-y.v)/a else none
def lineQ (b:Tb)(k:Nat)(up:Bool)(i:Nat):Option Rat:=lineR (turnA up (b.at_ i k)) (b.var (b.B i))
def Leq (s q:Bk):Prop:=s.far<q.far∨(s.far=q.far∧s.v≤q.v)
theorem Leq.le {s q:Bk}(h:Leq s q):s.far≤q.far:=by
 rcases h with h|h
 ·exact Rat.le_of_lt h
 ·rw[h.1];exact Rat.le_refl
theorem Leq.refl (s:Bk):Leq s s:= .inr ⟨rfl,Nat.le_refl _⟩
theorem Leq.trans {a b c:Bk}(h:Leq a b)(k:Leq b c):Leq a c:=by
 rcases h with h|⟨h,h2⟩
 ·rcases k with k|⟨k,_⟩
  ·exact .inl (by grind)
  ·exact .inl (by grind)
 ·rcases k with k|⟨k,k2⟩
  ·exact .inl (by grind)
  ·exact .inr ⟨h.trans k,Nat.le_trans h2 k2⟩
theorem near_spec (c:Option Bk)(q:Rat)(line:Option Nat)(v:Nat):∃r,nearS c q line v=some r∧(c=some r∨r=⟨q,line,v⟩)∧(∀s,c=some s→Leq r s)∧Leq r ⟨q,line,v⟩:=by
 unfold nearS;cases c with
 |none=>exact⟨_,rfl,.inr rfl,(fun s h=>by cases h),Leq.refl _⟩
 |some k=>
  show ∃r,(if k.far<q∨(q=k.far∧k.v<v) then some k else some ⟨q,line,v⟩)=some r∧_;by_cases h:k.far<q∨(q=k.far∧k.v<v)
  ·rw[if_pos h];refine⟨k,rfl,.inl rfl,fun s e=>by cases e;exact Leq.refl _,?_⟩;rcases h with h|h
   ·exact .inl h
   ·exact .inr ⟨h.1.symm,Nat.le_of_lt h.2⟩
  ·rw[if_neg h];refine⟨_,rfl,.inr rfl,fun s e=> ?_,Leq.refl _⟩;cases e;by_cases h2:q=k.far
   ·refine .inr ⟨h2,?_⟩;exact Nat.le_of_not_lt fun h3=>h (.inr ⟨h2,h3⟩)
   ·refine .inl ?_;have h4:¬k.far<q:=fun h3=>h (.inl h3);show q<k.far;have:=Rat.not_lt.1 h4;grind
theorem stopL_spec (b:Tb)(k:Nat)(up:Bool):∀(ls:List (List Rat))(vs:List Nat)(i:Nat)(c:Option Bk){c':Option Bk},ls.length=vs.length→stopL b k up i c ls vs=some c'→(c'=none→c=none∧∀j,j<ls.length→lineR (turnA up ((ls.getD j []).getD k 0)) (b.var (vs.getD j 0))=none)∧(∀s,c'=some s→(c=some s∨∃j,j<ls.length∧s.line=some (i+j)∧s.v=vs.getD j 0∧lineR (turnA up ((ls.getD j []).getD k 0)) (b.var (vs.getD j 0))=some s.far)∧(∀s0,c=some s0→Leq s s0)∧∀j,j<ls.length→∀q,lineR (turnA up ((ls.getD j []).getD k 0)) (b.var (vs.getD j 0))=some q→Leq s ⟨q,some (i+j),vs.getD j 0⟩)
 |[],[],i,c,c',_,h=>by
  unfold stopL at h;cases h;exact⟨fun e=>⟨e,fun j hj=>absurd hj (Nat.not_lt_zero _)⟩,fun s e=>⟨.inl e,(fun s0 e0=>by rw[e]at e0;cases e0;exact Leq.refl _),fun j hj=>absurd hj (Nat.not_lt_zero _)⟩⟩
 |[],_::_,_,_,_,h,_=>by cases h
 |_::_,[],_,_,_,h,_=>by cases h
 |l::ls,v::vs,i,c,c',hl,h=>by
  unfold stopL at h;obtain⟨c1,h1,h⟩:=Option.bind_eq_some_iff.1 h;have hq:(lineR (turnA up (l.getD k 0)) (b.var v)=none∧c1=c)∨∃q,lineR (turnA up (l.getD k 0)) (b.var v)=some q∧c1=nearS c q (some i) v:=by
   have ea:(if up then l.getD k 0 else-(l.getD k 0))=turnA up (l.getD k 0):=rfl;simp only[ea]at h1;generalize turnA up (l.getD k 0)=a at*;unfold lineR;by_cases g1:0<a
   ·rw[if_pos g1]at h1⊢;cases hh:(b.var v).hi with
    |none=>
     rw[hh]at h1;cases h1;exact .inl ⟨rfl,rfl⟩
    |some u=>
     rw[hh]at h1;obtain⟨d,hd,h1⟩:=Option.bind_eq_some_iff.1 h1;obtain⟨q,hq,rfl⟩:=Option.map_eq_some_iff.1 h1;obtain⟨e1,_⟩:=qfit_some hd;obtain⟨e2,_,_⟩:=div_some hq;refine .inr ⟨q,?_,rfl⟩;rw[e2,←e1];show some ((u-(b.var v).v)/a)=_;rw[Rat.sub_eq_add_neg]
   ·rw[if_neg g1]at h1⊢;by_cases g2:a<0
    ·rw[if_pos g2]at h1⊢;cases hh:(b.var v).lo with
     |none=>
      rw[hh]at h1;cases h1;exact .inl ⟨rfl,rfl⟩
     |some u=>
      rw[hh]at h1;obtain⟨d,hd,h1⟩:=Option.bind_eq_some_iff.1 h1;obtain⟨q,hq,rfl⟩:=Option.map_eq_some_iff.1 h1;obtain⟨e1,_⟩:=qfit_some hd;obtain⟨e2,_,_⟩:=div_some hq;refine .inr ⟨q,?_,rfl⟩;rw[e2,←e1];show some ((u-(b.var v).v)/a)=_;rw[Rat.sub_eq_add_neg]
    ·rw[if_neg g2]at h1⊢;cases h1;exact .inl ⟨rfl,rfl⟩
  obtain⟨r1,r2⟩:=stopL_spec b k up ls vs (i+1) c1 (by simpa using hl) h;have step:∀j,i+1+j=i+(j+1):=fun j=>by omega
  refine⟨fun e=> ?_,fun s e=> ?_⟩
  ·obtain⟨r3,r4⟩:=r1 e;rcases hq with ⟨q1,q2⟩|⟨q,q1,q2⟩
   ·refine⟨by rw[←q2];exact r3,fun j hj=> ?_⟩;cases j with
    |zero=>exact q1
    |succ j=>exact r4 j (by simpa using hj)
   ·obtain⟨r,hr,_⟩:=near_spec c q (some i) v;rw[q2,hr]at r3;cases r3
  ·obtain⟨r3,r4,r5⟩:=r2 s e;rcases hq with ⟨q1,q2⟩|⟨q,q1,q2⟩
   ·subst q2;refine⟨?_,r4,fun j hj q hq=> ?_⟩
    ·rcases r3 with r3|⟨j,j1,j2,j3,j4⟩
     ·exact .inl r3
     ·exact .inr ⟨j+1,by simpa using j1,by rw[j2,step],j3,j4⟩
    ·cases j with
     |zero=>
      have hq':lineR (turnA up (l.getD k 0)) (b.var v)=some q:=hq;rw[q1]at hq';cases hq'
     |succ j=>
      have:=r5 j (by simpa using hj) q hq;rw[step]at this;exact this
   ·obtain⟨r,hr,n1,n2,n3⟩:=near_spec c q (some i) v;rw[hr]at q2;have hsr:=r4 r q2;refine⟨?_,fun s0 e0=>hsr.trans (n2 s0 e0),fun j hj q' hq'=> ?_⟩
    ·rcases r3 with r3|⟨j,j1,j2,j3,j4⟩
     ·rw[q2]at r3;cases r3;rcases n1 with n1|n1
      ·exact .inl n1
      ·subst n1;exact .inr ⟨0,by simp,rfl,rfl,q1⟩
     ·exact .inr ⟨j+1,by simpa using j1,by rw[j2,step],j3,j4⟩
    ·cases j with
     |zero=>
      have hq2:lineR (turnA up (l.getD k 0)) (b.var v)=some q':=hq';rw[q1]at hq2;cases hq2;exact hsr.trans n3
     |succ j=>
      have:=r5 j (by simpa using hj) q' hq';rw[step]at this;exact this
def Cand (b:Tb)(k:Nat)(up:Bool)(s:Bk):Prop:=(s.line=none∧s.v=b.F k∧ownQ b k up=some s.far)∨∃i,i<b.t.length∧s.line=some i∧s.v=b.B i∧lineQ b k up i=some s.far
structure Stops (b:Tb) (k:Nat) (up:Bool) (s:Bk):Prop where
 is:Cand b k up s
 own:∀q,ownQ b k up=some q→Leq s ⟨q,none,b.F k⟩
 line:∀i,i<b.t.length→∀q,lineQ b k up i=some q→Leq s ⟨q,some i,b.B i⟩
theorem stops_spec {b:Tb}{k:Nat}{up:Bool}(hbt:b.basic.length=b.t.length){c:Option Bk}(h:stopsT b k up=some c):(∀s,c=some s→Stops b k up s)∧(c=none→ownQ b k up=none∧∀i,i<b.t.length→lineQ b k up i=none):=by
 unfold stopsT at h;obtain⟨c1,h1,h⟩:=Option.bind_eq_some_iff.1 h;have hq:(ownQ b k up=none∧c1=none)∨∃q,ownQ b k up=some q∧c1=some ⟨q,none,b.F k⟩:=by
  unfold ownQ;cases up with
  |true=>
   simp only[if_true]at h1⊢;have e0:b.free.getD k 0=b.F k:=rfl;rw[e0]at h1;cases hh:(b.var (b.F k)).hi with
   |none=>
    rw[hh]at h1;cases h1;exact .inl ⟨rfl,rfl⟩
   |some u=>
    rw[hh]at h1;obtain⟨q,hq,rfl⟩:=Option.map_eq_some_iff.1 h1;obtain⟨e1,_⟩:=qfit_some hq;refine .inr ⟨q,?_,rfl⟩;rw[←e1,←Rat.sub_eq_add_neg];rfl
  |false=>
   have e0:b.free.getD k 0=b.F k:=rfl;simp only[e0,Bool.false_eq_true,if_false]at h1⊢;cases hh:(b.var (b.F k)).lo with
   |none=>
    rw[hh]at h1;cases h1;exact .inl ⟨rfl,rfl⟩
   |some u=>
    rw[hh]at h1;obtain⟨q,hq,rfl⟩:=Option.map_eq_some_iff.1 h1;obtain⟨e1,_⟩:=qfit_some hq;refine .inr ⟨q,?_,rfl⟩;rw[←e1,←Rat.sub_eq_add_neg];rfl
 obtain⟨r1,r2⟩:=stopL_spec b k up b.t b.basic 0 c1 hbt.symm h;refine⟨fun s e=> ?_,fun e=> ?_⟩
 ·obtain⟨r3,r4,r5⟩:=r2 s e;refine⟨?_,fun q hq0=> ?_,fun i hi q hq0=> ?_⟩
  ·rcases r3 with r3|⟨j,j1,j2,j3,j4⟩
   ·rcases hq with ⟨_,q2⟩|⟨q,q1,q2⟩
    ·rw[q2]at r3;cases r3
    ·rw[q2]at r3;cases r3;exact .inl ⟨rfl,rfl,q1⟩
   ·exact .inr ⟨j,j1,by rw[j2,Nat.zero_add],j3,j4⟩
  ·rcases hq with ⟨q1,_⟩|⟨q',q1,q2⟩
   ·rw[q1]at hq0;cases hq0
   ·rw[q1]at hq0;cases hq0;exact r4 _ q2
  ·have:=r5 i hi q hq0;rw[Nat.zero_add]at this;exact this
 ·obtain⟨r3,r4⟩:=r1 e;refine⟨?_,fun i hi=>r4 i hi⟩;rcases hq with ⟨q1,_⟩|⟨q,_,q2⟩
  ·exact q1
  ·rw[q2]at r3;cases r3
def AllIn (b:Tb):Prop:=∀v,v<b.vars.length→Inn (b.var v)
theorem mul_neg_le {a x y:Rat}(ha:a<0)(h:x≤y):a*y≤a*x:=by
 have:=Rat.mul_le_mul_of_nonneg_left h (show(0:Rat)≤-a by grind);grind
theorem mul_pos_le {a x y:Rat}(ha:0<a)(h:x≤y):a*x≤a*y:=Rat.mul_le_mul_of_nonneg_left h (Rat.le_of_lt ha)
theorem div_mul {a x:Rat}(ha:a≠0):a*(x/a)=x:=by grind
theorem lineR_bounds {a:Rat}{y:Vr}{s:Rat}(hin:Inn y)(h0:0≤s)(h:∀q,lineR a y=some q→s≤q):(∀l,y.lo=some l→l≤y.v+a*s)∧∀u,y.hi=some u→y.v+a*s≤u:=by
 rw[inn_iff]at hin;obtain⟨h1,h2⟩:=hin;unfold lineR at h;by_cases g1:0<a
 ·rw[if_pos g1]at h;have g3:0≤a*s:=Rat.mul_nonneg (Rat.le_of_lt g1) h0;refine⟨fun l hl=>by have:=h1 l hl;grind,fun u hu=> ?_⟩;rw[hu]at h;have h3:=mul_pos_le g1 (h _ rfl);rw[div_mul (by grind)]at h3;grind
 ·rw[if_neg g1]at h;by_cases g2:a<0
  ·rw[if_pos g2]at h;have g3:=mul_neg_le g2 h0;refine⟨fun l hl=> ?_,fun u hu=>by have:=h2 u hu;grind⟩;rw[hl]at h;have h3:=mul_neg_le g2 (h _ rfl);rw[div_mul (by grind)]at h3;grind
  ·have e:a=0:=by grind
   subst e;refine⟨fun l hl=>by have:=h1 l hl;grind,fun u hu=>by have:=h2 u hu;grind⟩
theorem lineR_nonneg {a:Rat}{y:Vr}{q:Rat}(hin:Inn y)(h:lineR a y=some q):0≤q:=by
 rw[inn_iff]at hin;obtain⟨h1,h2⟩:=hin;unfold lineR at h;by_cases g1:0<a
 ·rw[if_pos g1]at h;obtain⟨u,hu,rfl⟩:=Option.map_eq_some_iff.1 h;have h3:=h2 u hu;have h4:=div_mul (x:=u-y.v) (show a≠0 by grind);apply Rat.not_lt.1;intro h5;have h6:=Rat.mul_pos g1 (show 0< -((u-y.v)/a) by grind);grind
 ·rw[if_neg g1]at h;by_cases g2:a<0
  ·rw[if_pos g2]at h;obtain⟨l,hl,rfl⟩:=Option.map_eq_some_iff.1 h;have h3:=h1 l hl;have h4:=div_mul (x:=l-y.v) (show a≠0 by grind);apply Rat.not_lt.1;intro h5;have h6:=Rat.mul_pos (show 0< -a by grind) (show 0< -((l-y.v)/a) by grind);grind
  ·rw[if_neg g2]at h;cases h
theorem own_nonneg {b:Tb}{k:Nat}{up:Bool}{q:Rat}(hin:Inn (b.var (b.F k)))(h:ownQ b k up=some q):0≤q:=by
 rw[inn_iff]at hin;obtain⟨h1,h2⟩:=hin;unfold ownQ at h;cases up with
 |true=>
  simp only[if_true]at h;obtain⟨u,hu,rfl⟩:=Option.map_eq_some_iff.1 h;have:=h2 u hu;grind
 |false=>
  simp only[Bool.false_eq_true,if_false]at h;obtain⟨u,hu,rfl⟩:=Option.map_eq_some_iff.1 h;have:=h1 u hu;grind
theorem Stops.nonneg {b:Tb}{k:Nat}{up:Bool}{s:Bk}(h:Stops b k up s)(hw:Wf b)(hk:k<b.free.length)(ha:AllIn b):0≤s.far:=by
 rcases h.is with ⟨_,_,h3⟩|⟨i,hi,_,_,h4⟩
 ·exact own_nonneg (ha _ (hw.fv k hk)) h3
 ·exact lineR_nonneg (ha _ (hw.bv i (by rw[hw.bt];exact hi))) h4
theorem Good.slide {p:Pg}{b b2:Tb}{k:Nat}{up:Bool}{s:Bk}(h:Good p b)(ha:AllIn b)(hk:k<b.free.length)(hs:Stops b k up s)(M:Moved b k (turnA up s.far) b2):AllIn b2:=by
 have h0:=hs.nonneg h.wf hk ha;obtain⟨us,rfl,hus⟩:=M.form;intro v hv;have hv':v<b.vars.length:=by rw[←hus];exact hv
 have key:∀x,(b.withV us).val v=x→((∀l,(b.var v).lo=some l→l≤x)∧∀u,(b.var v).hi=some u→x≤u)→Inn ((b.withV us).var v):=fun x e hx=>by
  rw[inn_iff,(M.ends v).1,(M.ends v).2];unfold Tb.val at e;rw[e];exact hx
 rcases h.all v hv' with ⟨i,hi,rfl⟩|⟨j,hj,rfl⟩
 ·refine key _ (M.line i hi) ?_;have hit:i<b.t.length:=by rw[←h.wf.bt];exact hi
  have e:b.at_ i k*turnA up s.far=turnA up (b.at_ i k)*s.far:=by
   unfold turnA;cases up<;>simp<;>grind
  rw[e];exact lineR_bounds (ha _ hv') h0 fun q hq=>(hs.line i hit q hq).le
 ·by_cases e:j=k
  ·subst e;refine key _ M.col ?_;have hin:=inn_iff.1 (ha _ hv');have ho:=hs.own;unfold ownQ at ho;unfold turnA;cases up with
   |true=>
    simp only[if_true]at ho⊢;refine⟨fun l hl=> ?_,fun u hu=> ?_⟩
    ·have:=hin.1 l hl;unfold Tb.val;grind
    ·rw[hu]at ho;have:=(ho _ rfl).le;unfold Tb.val;grind
   |false=>
    simp only[Bool.false_eq_true,if_false]at ho⊢;refine⟨fun l hl=> ?_,fun u hu=> ?_⟩
    ·rw[hl]at ho;have:=(ho _ rfl).le;unfold Tb.val;grind
    ·have:=hin.2 u hu;unfold Tb.val;grind
  ·exact key _ (M.rest j hj e) (inn_iff.1 (ha _ hv'))
theorem Good.comes {p:Pg}{b b2:Tb}{k:Nat}{up:Bool}{s:Bk}(h:Good p b)(ha:AllIn b)(hk:k<b.free.length)(hs:Stops b k up s)(M:Moved b k (turnA up s.far) b2):(s.line=none→Rest (b2.var (b.F k)))∧∀i,s.line=some i→Rest (b2.var (b.B i)):=by
 have hal:=h.slide ha hk hs M;have hlen:b2.vars.length=b.vars.length:=by
  obtain⟨us,rfl,hus⟩:=M.form;exact hus
 refine⟨fun e=>⟨hal _ (by rw[hlen];exact h.wf.fv k hk),?_⟩,fun i e=> ?_⟩
 ·rcases hs.is with ⟨_,_,h3⟩|⟨i,_,h3,_⟩
  ·have e1:=M.ends (b.F k);rw[e1.1,e1.2];have ev:(b2.var (b.F k)).v=b.val (b.F k)+turnA up s.far:=M.col;rw[ev];unfold ownQ at h3;unfold turnA;cases up with
   |true=>
    simp only[if_true]at h3⊢;obtain⟨u,hu,e2⟩:=Option.map_eq_some_iff.1 h3;rw[hu,←e2];refine .inr ?_;congr 1;show u=(b.var (b.F k)).v+(u-(b.var (b.F k)).v);grind
   |false=>
    simp only[Bool.false_eq_true,if_false]at h3⊢;obtain⟨u,hu,e2⟩:=Option.map_eq_some_iff.1 h3;rw[hu,←e2];refine .inl ?_;congr 1;show u=(b.var (b.F k)).v+ -((b.var (b.F k)).v-u);grind
  ·rw[e]at h3;cases h3
 ·rcases hs.is with ⟨h3,_⟩|⟨i',hi,h3,_,h4⟩
  ·rw[e]at h3;cases h3
  ·rw[e]at h3;cases h3;have hib:i<b.basic.length:=by rw[h.wf.bt];exact hi
   refine⟨hal _ (by rw[hlen];exact h.wf.bv i hib),?_⟩;have e1:=M.ends (b.B i);rw[e1.1,e1.2];have ev:(b2.var (b.B i)).v=b.val (b.B i)+b.at_ i k*turnA up s.far:=M.line i hib;have et:b.at_ i k*turnA up s.far=turnA up (b.at_ i k)*s.far:=by
    unfold turnA;cases up<;>simp<;>grind
   rw[ev,et];unfold lineQ lineR at h4;generalize turnA up (b.at_ i k)=a at*;have e5:b.val (b.B i)=(b.var (b.B i)).v:=rfl;rw[e5];by_cases g1:0<a
   ·rw[if_pos g1]at h4;obtain⟨u,hu,e2⟩:=Option.map_eq_some_iff.1 h4;rw[hu,←e2,div_mul (by grind)];refine .inr ?_;congr 1;grind
   ·rw[if_neg g1]at h4;by_cases g2:a<0
    ·rw[if_pos g2]at h4;obtain⟨u,hu,e2⟩:=Option.map_eq_some_iff.1 h4;rw[hu,←e2,div_mul (by grind)];refine .inl ?_;congr 1;grind
    ·rw[if_neg g2]at h4;cases h4
theorem cheap_left (b:Tb)(n:Nat):∀(f:List Nat)(l:List Rat)(k:Nat)(best:Option (Nat×Nat×Bool)),cheapGo {b with left:=n} k best l f=cheapGo b k best l f
 |[],[],_,_=>rfl
 |[],_::_,_,_=>rfl
 |_::_,[],_,_=>rfl
 |v::f,a::l,k,best=>by
  show cheapGo {b with left:=n} (k+1) _ l f=cheapGo b (k+1) _ l f;exact cheap_left b n f l (k+1) _
theorem cheapT_left (b:Tb)(n:Nat):cheapT {b with left:=n}=cheapT b:=by
 unfold cheapT;rw[cheap_left]
theorem opt_good {p:Pg}:∀(fuel:Nat)(b:Tb){b':Tb},Good p b→AllIn b→optT fuel b=some b'→Good p b'∧AllIn b'∧cheapT b'=none
 |fuel,b,b',h,ha,hf=>by
  unfold optT at hf;cases hc:cheapT b with
  |none=>
   rw[hc]at hf;cases hf;exact⟨h,ha,hc⟩
  |some r=>
   obtain⟨k,up⟩:=r;rw[hc]at hf;cases fuel with
   |zero=>cases hf
   |succ fuel=>
    have h1:Good p {b with left:=b.left-1}:=h.left (by have:=h.wf.sl;omega);have hc1:cheapT {b with left:=b.left-1}=some (k,up):=by rw[cheapT_left,hc]
    have ha1:AllIn {b with left:=b.left-1}:=ha;simp only at hf;generalize {b with left:=b.left-1}=b1 at*;obtain⟨k1,k2,_,_⟩:=cheap_some h1.wf.fc hc1;obtain⟨c,hst,hf⟩:=Option.bind_eq_some_iff.1 hf;cases c with
    |none=>cases hf
    |some s=>
     simp only at hf;obtain⟨b2,hm,hf⟩:=Option.bind_eq_some_iff.1 hf;obtain⟨b3,hp,hf⟩:=Option.bind_eq_some_iff.1 hf;have hs:=(stops_spec h1.wf.bt hst).1 s rfl;have M:Moved b1 k (turnA up s.far) b2:=h1.moved k1 hm;have ha2:=h1.slide ha1 k1 hs M;cases hl:s.line with
     |none=>
      rw[hl]at hp;cases hp;have hv:b1.F k<b2.vars.length:=by
       obtain⟨us,rfl,hus⟩:=M.form;show _<us.length;rw[hus];exact h1.wf.fv k k1
      exact opt_good fuel b2 (h1.move k1 M ((h1.comes ha1 k1 hs M).1 hl)) ha2 hf
     |some i=>
      rw[hl]at hp;have hit:i<b1.t.length:=by
       rcases hs.is with ⟨e,_,_⟩|⟨i',hi,e,_,_⟩
       ·rw[hl]at e;cases e
       ·rw[hl]at e;cases e;exact hi
      have hib:i<b1.basic.length:=by rw[h1.wf.bt];exact hit
      have hv:b1.B i<b2.vars.length:=by
       obtain⟨us,rfl,hus⟩:=M.form;show _<us.length;rw[hus];exact h1.wf.bv i hib
      have h3:Good p b3:=h1.step hit k1 hm hp ((h1.comes ha1 k1 hs M).2 i hl);have hne:b2.t.getD i []≠[]:=by
       obtain⟨us,rfl,hus⟩:=M.form;exact h1.wf.line_ne hit k1
      have P:=pivot_form hne hp;refine opt_good fuel b3 h3 (fun v hv=> ?_) hf;rw[P.vars]at hv;have:=ha2 v hv;unfold Tb.var at this⊢;rw[P.vars];exact this
end Go.Proofs.YtpnmcacndjkfaaaGreat
