/-
  Joined texts: Em, En.
-/
import Derived.Test.YtpnmcacndjkfaaaGreatEl
set_option linter.unusedSimpArgs false
set_option linter.unusedVariables false
namespace Go.Proofs.YtpnmcacndjkfaaaGreat
open Go.RowKit Num
def costV (p:Pg)(b:Tb):Rat:=rowM b.val p.c p.lo.length 0
structure Step2 (p:Pg) (b b':Tb) (k:Nat) (up:Bool) (s:Bk):Prop where
 good:Good p b
 good':Good p b'
 ain:AllIn b
 cheap:cheapT b=some (k,up)
 stops:Stops b k up s
 mv:∃b2,Moved b k (turnA up s.far) b2∧b'.vars=b2.vars
 turn:s.line=none∨∃i,s.line=some i∧Turn b b' i k
theorem turn_mul (up:Bool)(a x:Rat):a*turnA up x=turnA up (a*x):=by
 unfold turnA;cases up
 ·simp only[Bool.false_eq_true,if_false];grind
 ·rfl
theorem lin_turn1 (up:Bool)(ξ:Nat→Rat):∀(l:List Rat)(f:List Nat),lin (fun v=>turnA up (ξ v)) l f=turnA up (lin ξ l f)
 |[],f=>by
  unfold lin turnA;cases up<;>simp<;>grind
 |a::l,[]=>by
  unfold lin turnA;cases up<;>simp<;>grind
 |a::l,k::f=>by
  show a*turnA up (ξ k)+lin (fun v=>turnA up (ξ v)) l f=turnA up (a*ξ k+lin ξ l f);rw[lin_turn1 up ξ l f];unfold turnA;cases up<;>simp<;>grind
theorem turn_neg (up:Bool)(x:Rat):turnA up (-x)= -turnA up x:=by
 unfold turnA;cases up<;>simp
theorem turn_zero (up:Bool):turnA up 0=0:=by
 unfold turnA;cases up<;>simp
theorem cheap_dir {a:Rat}{x:Vr}{up:Bool}(hu:up=cheapB a x)(h:(cheapB a x||decide (0<a)&&x.mayFall)=true):turnA up a<0∧(if up then x.mayRise else x.mayFall)=true:=by
 cases up with
 |true=>
  have h1:=hu.symm;unfold cheapB at h1;rw[Bool.and_eq_true,decide_eq_true_eq]at h1;exact h1
 |false=>
  rw[←hu,Bool.false_or,Bool.and_eq_true,decide_eq_true_eq]at h;refine⟨?_,h.2⟩;show-a<0;have:=h.1;grind
theorem cheap_not {a d:Rat}{x:Vr}(h:(cheapB a x||decide (0<a)&&x.mayFall)=false)(hn:a*d<0):(0<d∧x.mayRise=false)∨(d<0∧x.mayFall=false):=by
 unfold cheapB at h;rw[Bool.or_eq_false_iff,Bool.and_eq_false_iff,Bool.and_eq_false_iff,decide_eq_false_iff_not,decide_eq_false_iff_not]at h;have h1:0< -a*d:=by grind
 rcases mul_sign h1 with ⟨h2,h3⟩|⟨h2,h3⟩
 ·exact .inl ⟨h3,h.1.resolve_left (fun h=>h (by grind))⟩
 ·exact .inr ⟨h3,h.2.resolve_left (fun h=>h (by grind))⟩
theorem cheap_yes {a d:Rat}{x:Vr}(h:(cheapB a x||decide (0<a)&&x.mayFall)=true)(hn:a*d<0):(0<d∧x.mayRise=true)∨(d<0∧x.mayFall=true):=by
 unfold cheapB at h;rw[Bool.or_eq_true,Bool.and_eq_true,Bool.and_eq_true,decide_eq_true_eq,decide_eq_true_eq]at h;have h1:0< -a*d:=by grind
 rcases h with ⟨h2,h3⟩|⟨h2,h3⟩
 ·rcases mul_sign h1 with ⟨h4,h5⟩|⟨h4,h5⟩
  ·exact .inl ⟨h5,h3⟩
  ·grind
 ·rcases mul_sign h1 with ⟨h4,h5⟩|⟨h4,h5⟩
  ·grind
  ·exact .inr ⟨h5,h3⟩
theorem lin_unit {ξ:Nat→Rat}{l:List Rat}{f:List Nat}{k:Nat}(hl:l.length=f.length)(hk:k<f.length)(h:∀j,j<f.length→ξ (f.getD j 0)=if j=k then 1 else 0):lin ξ l f=l.getD k 0:=by
 rw[lin_R ξ l f hl,sumR_one2 f.length k hk (fun v hv hne=>by rw[h v hv,if_neg hne,Rat.mul_zero]),h k hk,if_pos rfl,Rat.mul_one]
theorem Step2.facts {p:Pg}{b b':Tb}{k:Nat}{up:Bool}{s:Bk}(S:Step2 p b b' k up s):k<b.free.length∧turnA up (b.cost.getD k 0)<0∧(if up then(b.var (b.F k)).mayRise else(b.var (b.F k)).mayFall)=true∧(cheapB (b.cost.getD k 0) (b.var (b.F k))||decide (0<b.cost.getD k 0)&&(b.var (b.F k)).mayFall)=true∧(∀j,j<b.free.length→(cheapB (b.cost.getD j 0) (b.var (b.F j))||decide (0<b.cost.getD j 0)&&(b.var (b.F j)).mayFall)=true→b.F k≤b.F j)∧0≤s.far:=by
 obtain⟨h1,h2,h3,h4⟩:=cheap_some S.good.wf.fc S.cheap;obtain⟨h5,h6⟩:=cheap_dir h2 h3;exact⟨h1,h5,h6,h3,h4,S.stops.nonneg S.good.wf h1 S.ain⟩
theorem Step2.cost {p:Pg}{b b':Tb}{k:Nat}{up:Bool}{s:Bk}(S:Step2 p b b' k up s):costV p b'=costV p b+turnA up (b.cost.getD k 0)*s.far:=by
 obtain⟨b2,M,hv⟩:=S.mv;have e:b2.val=b'.val:=by
  funext v;unfold Tb.val Tb.var;rw[hv]
 unfold costV;rw[S.good.cost _ S.good'.val,S.good.cost _ S.good.val,←e,lin_move S.good.wf.fc S.facts.1 S.good.df M.col (fun j hj hne=>M.rest j hj hne),turn_mul];congr 1;unfold turnA;cases up<;>simp<;>grind
theorem cycle_two {p:Pg}{st:Nat→Tb}{K:Nat→Nat}{U:Nat→Bool}{s:Nat→Bk}{m n:Nat}(hmn:m<n)(hs:∀i,m≤i→i<n→Step2 p (st i) (st (i+1)) (K i) (U i) (s i))(hgm:Good p (st m))(hgn:Good p (st n))(hfr:∀v,(st m).Fr v↔(st n).Fr v)(hv:∀v,(st n).Fr v→(st m).val v=(st n).val v):False:=by
 have hcost:costV p (st m)=costV p (st n):=by
  unfold costV;rw[hgn.cost _ hgn.val,hgn.cost _ hgm.val];exact lin_congr _ _ fun v hv'=>hv v (mem_iff_at.1 hv')
 have hle:∀i,m≤i→i<n→costV p (st (i+1))≤costV p (st i)∧(costV p (st (i+1))=costV p (st i)→(s i).far=0):=fun i h1 h2=>by
  obtain⟨_,f2,_,_,_,f6⟩:=(hs i h1 h2).facts;rw[(hs i h1 h2).cost];have h3:=mul_neg_le f2 f6;refine⟨by grind,fun h4=> ?_⟩;apply Classical.byContradiction;intro h5;have h6:0< -turnA (U i) ((st i).cost.getD (K i) 0)*(s i).far:=Rat.mul_pos (by grind) (by grind);grind
 have hmono:∀d a,m≤a→a+d≤n→costV p (st (a+d))≤costV p (st a):=fun d=>by
  induction d with
  |zero=>exact fun a _ _=>Rat.le_refl
  |succ d ih=>exact fun a h1 h2=>Rat.le_trans (hle (a+d) (by omega) (by omega)).1 (ih a h1 (by omega))
 have hfar:∀i,m≤i→i<n→(s i).far=0:=fun i h1 h2=>by
  refine(hle i h1 h2).2 ?_;have h3:=hmono (i-m) m ZL (by omega);have h4:=hmono (n-(i+1)) (i+1) (by omega) (by omega);rw[show m+(i-m)=i by omega]at h3;rw[show i+1+(n-(i+1))=n by omega]at h4;have h5:=(hle i h1 h2).1;grind
 have hgood:∀i,m≤i→i≤n→Good p (st i):=fun i h1 h2=>by
  by_cases e:i=n
  ·rw[e];exact hgn
  ·exact(hs i h1 (by omega)).good
 have hvar:∀d v,m+d≤n→v<p.lo.length+p.a.length→(st (m+d)).var v=(st m).var v:=fun d=>by
  induction d with
  |zero=>exact fun v _ _=>rfl
  |succ d ih=>
   intro v h1 hvl;have S:=hs (m+d) (by omega) (by omega);rw[←ih v (by omega) hvl];obtain⟨b2,M,hb2⟩:=S.mv;rw[hfar (m+d) (by omega) (by omega),turn_zero]at M;have e2:=S.good.same_ends S.good' hvl;have e3:b2.val v=(st (m+(d+1))).val v:=by
    unfold Tb.val Tb.var;rw[←hb2];rfl
   refine vr_eta e2.1.symm e2.2.symm ?_;show(st (m+(d+1))).val v=(st (m+d)).val v;rw[←e3];rcases S.good.all v (by rw[S.good.nv];exact hvl) with ⟨j,hj,rfl⟩|⟨j,hj,rfl⟩
   ·rw[M.line j hj];grind
   ·by_cases e:j=K (m+d)
    ·rw[e,M.col];grind
    ·exact M.rest j hj e
 have hva:∀i l v,m≤i→i≤n→m≤l→l≤n→v<p.lo.length+p.a.length→(st i).var v=(st l).var v:=fun i l v h1 h2 h3 h4 h5=>by
  have g1:=hvar (i-m) v (by omega) h5;have g2:=hvar (l-m) v (by omega) h5;rw[show m+(i-m)=i by omega]at g1;rw[show m+(l-m)=l by omega]at g2;exact g1.trans g2.symm
 have hturn:∀i,m≤i→i<n→∃r,(s i).line=some r∧Turn (st i) (st (i+1)) r (K i):=fun i h1 h2=>by
  have S:=hs i h1 h2;rcases S.turn with h|h
  ·exfalso;obtain⟨_,_,f3,_⟩:=S.facts;rcases S.stops.is with ⟨_,_,h4⟩|⟨j,_,h4,_⟩
   ·rw[hfar i h1 h2]at h4;unfold ownQ at h4;cases hu:U i with
    |true=>
     rw[hu]at h4 f3;obtain⟨u,h5,h6⟩:=Option.map_eq_some_iff.1 h4;have:=rise_true f3 h5;grind
    |false=>
     rw[hu]at h4 f3;obtain⟨u,h5,h6⟩:=Option.map_eq_some_iff.1 h4;have:=fall_true f3 h5;grind
   ·rw[h]at h4;cases h4
  ·exact h
 have hne:∀v e l,m≤e→e≤n→m≤l→l≤n→(∀i,m≤i→i<n→(st i).F (K i)≠v)→(st e).Fr v→(st l).Fr v:=fun v e l he he' hl hl' hno hf=>by
  refine wrap (P:=fun i=>(st i).Fr v) (fun i h1 h2 h3=> ?_) (fun h3=>(hfr v).2 h3) he he' hl hl' hf;obtain⟨r,_,T⟩:=hturn i h1 h2;exact(T.fr v).2 (.inl ⟨h3,(hno i h1 h2).symm⟩)
 obtain⟨t,⟨e,e1,e2,et⟩,hmost⟩:=most_of (P:=fun v=>∃i,m≤i∧i<n∧(st i).F (K i)=v) (p.lo.length+p.a.length) ⟨_,m,Nat.le_refl _,hmn,rfl⟩ (fun v ⟨i,h1,h2,h3⟩=>by
  rw[←h3,←(hs i h1 h2).good.nv];exact(hs i h1 h2).good.wf.fv _ (hs i h1 h2).facts.1)
 have S:=hs e e1 e2;obtain⟨f1,f2,f3,f4,f5,f6⟩:=S.facts;have hfe:(st e).Fr t:=⟨K e,f1,et⟩;obtain⟨l,r,l1,l2,lr,LT,lt⟩:∃l r,m≤l∧l<n∧(s l).line=some r∧Turn (st l) (st (l+1)) r (K l)∧(st l).B r=t:=by
  apply Classical.byContradiction;intro hno;refine wrap (P:=fun i=>¬(st i).Fr t) (fun i h1 h2 h3 h4=> ?_) (fun h3 h4=>h3 ((hfr t).1 h4)) (i:=e+1) (by omega) (by omega) e1 (Nat.le_of_lt e2) (fun h4=> ?_) hfe
  ·obtain⟨r,h5,T⟩:=hturn i h1 h2;rcases(T.fr t).1 h4 with ⟨h6,_⟩|h6
   ·exact h3 h6
   ·exact hno ⟨i,r,h1,h2,h5,T,h6.symm⟩
  ·obtain⟨r,h5,T⟩:=hturn e e1 e2;rcases(T.fr t).1 h4 with ⟨_,h7⟩|h6
   ·exact h7 et.symm
   ·exact S.good.not_fr T.hi (h6▸hfe)
 have W:=hs l l1 l2;obtain⟨w1,w2,w3,w4,w5,w6⟩:=W.facts;have hrt:r<(st l).t.length:=by rw[←W.good.wf.bt];exact LT.hi
 have hst:(s l).v=t∧lineQ (st l) (K l) (U l) r=some 0:=by
  rcases W.stops.is with ⟨h1,_⟩|⟨i,_,h1,h2,h3⟩
  ·rw[lr]at h1;cases h1
  ·rw[lr]at h1;cases h1;rw[hfar l l1 l2]at h3;exact⟨h2.trans lt,h3⟩
 obtain⟨ξ,x1,x2⟩:=W.good.unit w1;have hx:=(W.good.eq ξ).1 x1;have hB:∀j,j<(st l).basic.length→ξ ((st l).B j)=(st l).at_ j (K l):=fun j hj=>by
  have hjt:j<(st l).t.length:=by rw[←W.good.wf.bt];exact hj
  rw[hx j hjt];exact lin_unit (W.good.wf.ft j hjt) w1 x2
 have c1:=W.good.cost ξ x1;have c2:=S.good.cost ξ x1;rw[c1,lin_unit W.good.wf.fc w1 x2]at c2;have hneg:0<lin (fun v=> -turnA (U l) (ξ v)) (st e).cost (st e).free:=by
  have h1:=lin_turn1 (U l) (fun v=> -ξ v) (st e).cost (st e).free;have h2:=lin_turn1 false ξ (st e).cost (st e).free;have h3:lin (fun v=> -ξ v) (st e).cost (st e).free= -lin ξ (st e).cost (st e).free:=h2;rw[h3,←c2,turn_neg]at h1;have h4:(fun v=>turnA (U l) (-ξ v))=fun v=> -turnA (U l) (ξ v):=funext fun v=>turn_neg _ _;rw[h4]at h1;rw[h1];grind
 obtain⟨j,hj,hpos⟩:=lin_pos _ _ _ hneg;have hpos':(st e).cost.getD j 0*turnA (U l) (ξ ((st e).F j))<0:=by
  have h1:0<(st e).cost.getD j 0* -turnA (U l) (ξ ((st e).F j)):=hpos;grind
 have hx0:ξ ((st e).F j)≠0:=fun h=>by
  rw[h,turn_zero]at hpos';grind
 have hjv:(st e).F j<p.lo.length+p.a.length:=by rw[←S.good.nv];exact S.good.wf.fv _ hj
 have hvel:=hva e l _ e1 (Nat.le_of_lt e2) l1 (Nat.le_of_lt l2) hjv;have hfl:∀j',j'<(st l).free.length→(st l).F j'=(st e).F j→j'=K l:=fun j' hj' e'=>by
  apply Classical.byContradiction;intro h;have:=x2 j' hj';rw[if_neg h,e']at this;exact hx0 this
 have hjt:(st e).F j≤t:=by
  apply Classical.byContradiction;intro h;have hno:∀i,m≤i→i<n→(st i).F (K i)≠(st e).F j:=fun i a1 a2 a3=>h (a3▸hmost _ ⟨i,a1,a2,rfl⟩);obtain⟨j',hj',e'⟩:=hne _ e l e1 (Nat.le_of_lt e2) l1 (Nat.le_of_lt l2) hno ⟨j,hj,rfl⟩;have:=hfl j' hj' e';subst this;exact hno l l1 l2 e'
 have htl:¬(st l).Fr t:=by
  rw[←lt];exact W.good.not_fr LT.hi
 by_cases hjt2:(st e).F j=t
 ·have hjk:j=K e:=S.good.df j (K e) hj f1 (hjt2.trans et.symm);subst hjk;have hd:=cheap_yes f4 hpos';rw[hjt2]at hd hvel;have h1:=hst.2;unfold lineQ at h1;rw[←hB r LT.hi,lt]at h1;rw[←hvel]at h1;generalize turnA (U l) (ξ t)=d at*;unfold lineR at h1;rcases hd with ⟨p1,p2⟩|⟨p1,p2⟩
  ·rw[if_pos p1]at h1;obtain⟨u,h5,h6⟩:=Option.map_eq_some_iff.1 h1;have h7:=rise_true p2 h5;have h8:=div_mul (a:=d) (x:=u-((st e).var t).v) (by grind);rw[h6]at h8;grind
  ·rw[if_neg (by grind),if_pos p1]at h1;obtain⟨u,h5,h6⟩:=Option.map_eq_some_iff.1 h1;have h7:=fall_true p2 h5;have h8:=div_mul (a:=d) (x:=u-((st e).var t).v) (by grind);rw[h6]at h8;grind
 ·have hlt:(st e).F j<t:=Nat.lt_of_le_of_ne hjt hjt2;have hno:(cheapB ((st e).cost.getD j 0) ((st e).var ((st e).F j))||decide (0<(st e).cost.getD j 0)&&((st e).var ((st e).F j)).mayFall)=false:=by
   apply Bool.eq_false_iff.2;intro h;have:=f5 j hj h;rw[et]at this;omega
  have hd:=cheap_not hno hpos';rcases W.good.all _ (by rw[W.good.nv];exact hjv) with ⟨q,hq,eq⟩|⟨q,hq,eq⟩
  ·have hqt:q<(st l).t.length:=by rw[←W.good.wf.bt];exact hq
   have hin:=inn_iff.1 (W.ain ((st e).F j) (by rw[W.good.nv];exact hjv));rw[←hvel]at hin;have h0:lineQ (st l) (K l) (U l) q=some 0:=by
    unfold lineQ;rw[←hB q hq,eq,←hvel];generalize turnA (U l) (ξ ((st e).F j))=d at*;unfold lineR;rcases hd with ⟨p1,p2⟩|⟨p1,p2⟩
    ·obtain⟨u,h5,h6⟩:=rise_false p2;have h7:=hin.2 u h5;rw[if_pos p1,h5];show some ((u-_)/d)=some 0;have h8:u-((st e).var ((st e).F j)).v=0:=by grind
     rw[h8];congr 1;grind
    ·obtain⟨u,h5,h6⟩:=fall_false p2;have h7:=hin.1 u h5;rw[if_neg (by grind),if_pos p1,h5];show some ((u-_)/d)=some 0;have h8:u-((st e).var ((st e).F j)).v=0:=by grind
     rw[h8];congr 1;grind
   rcases W.stops.line q hqt 0 h0 with h9|⟨_,h9⟩
   ·have h10:(s l).far<0:=h9;rw[hfar l l1 l2]at h10;grind
   ·have h10:(s l).v≤(st l).B q:=h9;rw[hst.1,eq]at h10;omega
  ·have:=hfl q hq eq;subst this;have h1:=x2 (K l) w1;rw[if_pos rfl,eq]at h1;rw[h1]at hd;rw[eq,←hvel]at w3;unfold turnA at hd;cases hu:U l with
   |true=>
    rw[hu]at hd w3;simp only[if_true]at hd w3;rcases hd with ⟨p1,p2⟩|⟨p1,p2⟩
    ·rw[p2]at w3;cases w3
    ·exact absurd p1 (by decide)
   |false=>
    rw[hu]at hd w3;simp only[Bool.false_eq_true,if_false]at hd w3;rcases hd with ⟨p1,p2⟩|⟨p1,p2⟩
    ·exact absurd p1 (by decide)
    ·rw[p2]at w3;cases w3
theorem big_ex2:∃X3 X G Y,Bnds X3 X G Y∧X<4294967296^11∧G<4294967296^16:=⟨2^311,2^340,2^500,2^1000,⟨dN_four,qN_four,by decide+kernel,by decide+kernel,by decide+kernel,by decide+kernel,by decide+kernel⟩,by decide+kernel,by decide+kernel⟩
theorem Cd.sz {X3:Nat}{d:Int}(hd:Lim d X3){B k:Nat}{q:Rat}(h:Cd d B q)(h1:X3<4294967296^k)(h2:B<4294967296^k):Sz q k:=by
 obtain⟨z,e1,e2⟩:=h;have hdq:=rat_cast_ne hd.ne;have e:q=Rat.divInt z d:=by
  rw[Rat.divInt_eq_div,←e1];grind
 rw[e];exact sz_divInt hd.ne (sD_small (Nat.lt_of_le_of_lt e2 h2)) (sD_small (Nat.lt_of_le_of_lt hd.le h1))
theorem sz_z {n:Int}{K k:Nat}(h:n.natAbs≤K)(hk:K<4294967296^k)(h1:1≤k):Sz ((n:Int):Rat) k:=⟨by rw[Rat.num_intCast];exact sD_small (Nat.lt_of_le_of_lt h hk),by rw[Rat.den_intCast];exact h1⟩
theorem add_sz {p q:Rat}{j k:Nat}(hp:Sz p j)(hq:Sz q k)(h:j+k+1≤64):addO p q=some (p+q):=qfit_of ((hp.add hq).few h)
theorem mul_sz {p q:Rat}{j k:Nat}(hp:Sz p j)(hq:Sz q k)(h:j+k≤64):mulO p q=some (p*q):=qfit_of ((hp.mul hq).few h)
theorem sub_sz {p q:Rat}{j k:Nat}(hp:Sz p j)(hq:Sz q k)(h:j+k+1≤64):subO p q=some (p+ -q):=qfit_of ((hp.add (sz_neg hq)).few h)
theorem div_sz {p q:Rat}{j k:Nat}(hp:Sz p j)(hq:Sz q k)(h:j+k≤64)(hne:q≠0):divO p q=some (p/q):=by
 unfold divO;rw[if_neg hne];exact qfit_of ((hp.div hq hne).few h)
theorem moveL_some {q:Rat}{k:Nat}(hq:Sz q 30):∀(ls:List (List Rat))(vs:List Nat)(b:Tb),(∀l∈ls,Sz (l.getD k 0) 11)→(∀v∈vs,Sz (b.val v) 16)→vs.Nodup→∃b',moveL q k b ls vs=some b'
 |[],vs,b,_,_,_=>⟨b,by unfold moveL;rfl⟩
 |l::ls,[],b,_,_,_=>⟨b,by unfold moveL;rfl⟩
 |l::ls,v::vs,b,h1,h2,h3=>by
  have a1:=h1 l List.mem_cons_self;have a2:=h2 v List.mem_cons_self;rw[List.nodup_cons]at h3;unfold moveL;rw[mul_sz a1 hq (by decide)];show ∃b',Option.bind (addO (b.val v) _) _=_;rw[add_sz a2 (a1.mul hq) (by decide)];exact moveL_some hq ls vs _ (fun l hl=>h1 l (List.mem_cons_of_mem _ hl)) (fun u hu=>by
   have:(b.setV v (b.val v+l.getD k 0*q)).val u=b.val u:=by
    unfold Tb.val;rw[var_setV,if_neg (fun e:u=v∧_=>h3.1 (e.1▸hu))]
   rw[this];exact h2 u (List.mem_cons_of_mem _ hu)) h3.2
theorem turnL_some {a:Rat}{k:Nat}(ha:Sz a 11)(h0:a≠0):∀(l:List Rat)(c:Nat),(∀x∈l,Sz x 11)→∃m,turnL a k c l=some m∧∀x∈m,Sz x 22
 |[],c,_=>⟨[],rfl,fun x hx=>by cases hx⟩
 |x::l,c,h=>by
  obtain⟨m,m1,m2⟩:=turnL_some ha h0 l (c+1) fun y hy=>h y (List.mem_cons_of_mem _ hy);have hx:=h x List.mem_cons_self;have h1:Sz (1:Rat) 1:=sz_z (n:=1) (K:=1) (by decide) (by decide) (by decide);unfold turnL;rw[m1];by_cases e:c=k
  ·rw[if_pos e,div_sz h1 ha (by decide) h0];refine⟨_,rfl,fun y hy=> ?_⟩;rcases List.mem_cons.1 hy with rfl|hy
   ·exact(h1.div ha h0).mono (by decide)
   ·exact m2 y hy
  ·rw[if_neg e,div_sz hx ha (by decide) h0];refine⟨_,rfl,fun y hy=> ?_⟩;rcases List.mem_cons.1 hy with rfl|hy
   ·exact sz_neg (hx.div ha h0)
   ·exact m2 y hy
theorem layL_some {f:Rat}{k:Nat}(hf:Sz f 11):∀(l m:List Rat)(c:Nat),(∀x∈l,Sz x 11)→(∀y∈m,Sz y 22)→∃z,layL f k c l m=some z
 |[],m,c,_,_=>⟨[],by unfold layL;rfl⟩
 |x::l,[],c,_,_=>⟨[],by unfold layL;rfl⟩
 |x::l,y::m,c,h1,h2=>by
  have hx:=h1 x List.mem_cons_self;have hy:=h2 y List.mem_cons_self;obtain⟨z,hz⟩:=layL_some hf l m (c+1) (fun x hx=>h1 x (List.mem_cons_of_mem _ hx)) fun y hy=>h2 y (List.mem_cons_of_mem _ hy);unfold layL;rw[hz,mul_sz hf hy (by decide)];by_cases e:c=k
  ·rw[if_pos e];exact⟨_,rfl⟩
  ·rw[if_neg e];show ∃w,Option.bind (addO x (f*y)) _=_;rw[add_sz hx (hf.mul hy) (by decide)];exact⟨_,rfl⟩
theorem mem_getD {l:List Rat}{k:Nat}(h:∀x∈l,Sz x 11):Sz (l.getD k 0) 11:=by
 rw[List.getD_eq_getElem?_getD];cases e:l[k]? with
 |none=>exact sz_z (n:=0) (K:=0) (by decide) (by decide) (by decide)
 |some x=>exact h x (List.mem_of_getElem? e)
theorem layT_some {line:List Rat}{k i:Nat}(hl:∀y∈line,Sz y 22):∀(ls:List (List Rat))(r:Nat),(∀l∈ls,∀x∈l,Sz x 11)→∃t,layT line k i r ls=some t
 |[],r,_=>⟨[],rfl⟩
 |l::ls,r,h=>by
  obtain⟨t,ht⟩:=layT_some hl ls (r+1) fun l h'=>h l (List.mem_cons_of_mem _ h');have hx:=h l List.mem_cons_self;obtain⟨z,hz⟩:=layL_some (k:=k) (mem_getD (k:=k) hx) l line 0 hx hl;unfold layT;rw[ht,hz];split<;>exact⟨_,rfl⟩
structure Small (b:Tb):Prop where
 v:∀v,v<b.vars.length→Sz (b.val v) 16
 lo:∀v l,v<b.vars.length→(b.var v).lo=some l→Sz l 2
 hi:∀v l,v<b.vars.length→(b.var v).hi=some l→Sz l 2
 t:∀l∈b.t,∀x∈l,Sz x 11
 c:∀x∈b.cost,Sz x 11
theorem rowM_cd {d:Int}{X K:Nat}{ξ:Nat→Rat}{a:List Int}(ha:∀j,(a.getD j 0).natAbs≤K):∀(m j:Nat),(∀k,j≤k→k<j+m→Cd d X (ξ k))→Cd d (m*(X*K)) (rowM ξ a m j)
 |0,j,_=>by
  rw[Nat.zero_mul];exact Cd.zero d
 |m+1,j,h=>by
  have h1:=(h j ZL (by omega)).mul (ha j);have h2:=rowM_cd ha m (j+1) fun k a b=>h k (by omega) (by omega);rw[Rat.mul_comm]at h1;exact(h1.add h2).mono (by rw[Nat.succ_mul,Nat.add_comm];exact Nat.le_refl _)
theorem Good.small {X3 X G Y:Nat}(HB:Bnds X3 X G Y)(hX:X<4294967296^11)(hG:G<4294967296^16){p:Pg}{b:Tb}(h:Good p b)(hr:rightPg p=true)(h4:p.lo.length≤4):Small b:=by
 have hn:=near_of_right hr;have hr':=hr;rw[rightPg]at hr';simp only[Bool.and_eq_true,decide_eq_true_eq]at hr';obtain⟨_,g2,g3,g4,_,_,_,_,_,_,g11⟩:=hr';have hrl:∀i,i<p.a.length→(p.a.getD i []).length=p.lo.length:=fun i hi=>by
  have h12:=List.all_eq_true.1 g11 (p.a.getD i []) (by rw[List.getD_eq_getElem?_getD,List.getElem?_eq_getElem hi];exact List.getElem_mem hi);rw[Bool.and_eq_true,decide_eq_true_eq]at h12;exact h12.1
 have l1:=HB.l1;have l2:=HB.l2;obtain⟨d,hd,hv⟩:=h.vals HB hn h4;have hnv:=h.nv;have hends:∀n:Int,n.natAbs≤1099511627776→Sz ((n:Int):Rat) 2:=fun n hn=>sz_z hn (by decide) (by decide);have hXG:X<G:=by omega
 have h3G:X3<G:=by omega
 have h3X:X3<4294967296^11:=Nat.lt_trans l1 hX;refine⟨fun v hvl=> ?_,fun v l hvl e=> ?_,fun v l hvl e=> ?_,fun l hl x hx=> ?_,fun x hx=> ?_⟩
 ·refine Cd.sz hd (B:=G) ?_ (Nat.lt_trans h3G hG) hG;by_cases hj:v<p.lo.length
  ·exact(hv v hj).mono (Nat.le_of_lt hXG)
  ·obtain⟨i,rfl⟩:∃i,v=p.lo.length+i:=⟨v-p.lo.length,by omega⟩;have hi:i<p.a.length:=by omega
   rw[h.val i hi];refine(rowM_cd (K:=1048576) (fun j=>getD_abs (fun j hj=> ?_) j) p.lo.length 0 fun k _ hk=>hv k (by omega)).mono ?_
   ·have:=hn.a i hi j (by rw[←hrl i hi];exact hj);omega
   ·have:=Nat.mul_le_mul_right (X*1048576) h4;omega
 ·by_cases hj:v<p.lo.length
  ·rw[(h.elo v hj).1]at e;cases e;have:=hn.lo v hj;exact hends _ (by omega)
  ·obtain⟨i,rfl⟩:∃i,v=p.lo.length+i:=⟨v-p.lo.length,by omega⟩;rw[(h.erow i (by omega)).1]at e;cases e
 ·by_cases hj:v<p.lo.length
  ·rw[(h.elo v hj).2]at e;cases e;have:=hn.hi v hj;exact hends _ (by omega)
  ·obtain⟨i,rfl⟩:∃i,v=p.lo.length+i:=⟨v-p.lo.length,by omega⟩;rw[(h.erow i (by omega)).2]at e;cases e;have:=hn.b i (by omega);exact hends _ (by omega)
 ·obtain⟨i,hi,rfl⟩:=List.getElem_of_mem hl;obtain⟨d',hd',hq⟩:=h.line_cd HB hn h4 hi;refine Cd.sz hd' (hq x ?_) h3X hX;rw[List.getD_eq_getElem?_getD,List.getElem?_eq_getElem hi];exact hx
 ·obtain⟨d',hd',hq⟩:=h.cost_cd HB hn h4 g3;exact Cd.sz hd' (hq x hx) h3X hX
theorem Small.line {b:Tb}(h:Small b)(i k:Nat):Sz ((b.t.getD i []).getD k 0) 11:=by
 rw[List.getD_eq_getElem?_getD (l:=b.t)];cases e:b.t[i]? with
 |none=>exact mem_getD (l:=[]) fun x hx=>by cases hx
 |some l=>exact mem_getD (h.t l (List.mem_of_getElem? e))
theorem Good.move_some {p:Pg}{b:Tb}(h:Good p b)(hs:Small b){k:Nat}(hk:k<b.free.length){δ:Rat}(hδ:Sz δ 30):∃b',moveT b k δ=some b':=by
 have h1:=hs.v _ (h.wf.fv k hk);unfold moveT;show ∃b',Option.bind (addO (b.val (b.free.getD k 0)) δ) _=_;rw[add_sz h1 hδ (by decide)];refine moveL_some hδ b.t b.basic _ (fun l hl=>mem_getD (hs.t l hl)) (fun v hv=> ?_) (nodup_of h.db);obtain⟨i,hi,rfl⟩:=mem_iff_at.1 hv;have e:(b.setV (b.free.getD k 0) (b.val (b.free.getD k 0)+δ)).val (b.basic.getD i 0)=b.val (b.basic.getD i 0):=by
  unfold Tb.val;rw[var_setV,if_neg (fun e=>h.dd i k hi hk e.1)]
 rw[e];exact hs.v _ (h.wf.bv i hi)
theorem pivot_some {b:Tb}(ht:∀l∈b.t,∀x∈l,Sz x 11)(hc:∀x∈b.cost,Sz x 11){i k:Nat}(ha:(b.t.getD i []).getD k 0≠0):∃b',pivotT b i k=some b':=by
 have hl:∀x∈b.t.getD i [],Sz x 11:=fun x hx=>by
  rw[List.getD_eq_getElem?_getD]at hx;cases e:b.t[i]? with
  |none=>
   rw[e]at hx;cases hx
  |some l=>
   rw[e]at hx;exact ht l (List.mem_of_getElem? e) x hx
 obtain⟨m,m1,m2⟩:=turnL_some (k:=k) (mem_getD (k:=k) hl) ha _ 0 hl;obtain⟨t,ht'⟩:=layT_some (k:=k) (i:=i) m2 b.t 0 ht;obtain⟨z,hz⟩:=layL_some (k:=k) (mem_getD (k:=k) hc) b.cost m 0 hc m2;unfold pivotT;rw[m1];show ∃b',Option.bind (layT m k i 0 b.t) _=_;rw[ht'];show ∃b',Option.map _ (layL (b.cost.getD k 0) k 0 b.cost m)=_;rw[hz];exact⟨_,rfl⟩
theorem stopL_some {b:Tb}{k:Nat}{up:Bool}:∀(ls:List (List Rat))(vs:List Nat)(i:Nat)(c:Option Bk),(∀l∈ls,Sz (l.getD k 0) 11)→(∀v∈vs,Sz (b.val v) 16∧(∀l,(b.var v).lo=some l→Sz l 2)∧∀l,(b.var v).hi=some l→Sz l 2)→∃c',stopL b k up i c ls vs=some c'
 |[],vs,i,c,_,_=>⟨c,by unfold stopL;rfl⟩
 |l::ls,[],i,c,_,_=>⟨c,by unfold stopL;rfl⟩
 |l::ls,v::vs,i,c,h1,h2=>by
  have a1:=h1 l List.mem_cons_self;obtain⟨a2,a3,a4⟩:=h2 v List.mem_cons_self;have ha:Sz (if up then l.getD k 0 else-(l.getD k 0)) 11:=by
   split
   ·exact a1
   ·exact sz_neg a1
  have hg:∀c,∃c',stopL b k up (i+1) c ls vs=some c':=fun c=>stopL_some ls vs (i+1) c (fun l hl=>h1 l (List.mem_cons_of_mem _ hl)) fun v hv=>h2 v (List.mem_cons_of_mem _ hv);unfold stopL;simp only;generalize (if up then l.getD k 0 else-(l.getD k 0))=a at*;have hq:∀h:Rat,Sz h 2→a≠0→∃c',((subO h (b.var v).v).bind fun d=>(divO d a).map fun q=>nearS c q (some i) v)=some c':=fun h hh h0=>by
   have a2:Sz (b.var v).v 16:=a2;rw[sub_sz hh a2 (by decide)];show ∃c',Option.map _ (divO _ a)=_;rw[div_sz (hh.add (sz_neg a2)) ha (by decide) h0];exact⟨_,rfl⟩
  by_cases g1:0<a
  ·rw[if_pos g1];cases e:(b.var v).hi with
   |none=>exact hg c
   |some h=>
    obtain⟨c',hc⟩:=hq h (a4 h e) (by grind);simp only;rw[hc];exact hg c'
  ·rw[if_neg g1];by_cases g2:a<0
   ·rw[if_pos g2];cases e:(b.var v).lo with
    |none=>exact hg c
    |some h=>
     obtain⟨c',hc⟩:=hq h (a3 h e) (by grind);simp only;rw[hc];exact hg c'
   ·rw[if_neg g2];exact hg c
theorem Good.stops_some {p:Pg}{b:Tb}(h:Good p b)(hs:Small b){k:Nat}(hk:k<b.free.length)(up:Bool):∃c,stopsT b k up=some c:=by
 have hv:=h.wf.fv k hk;have a1:=hs.v _ hv;have hl:∀c,∃c',stopL b k up 0 c b.t b.basic=some c':=fun c=>stopL_some b.t b.basic 0 c (fun l hl=>mem_getD (hs.t l hl)) fun v hv=>by
  obtain⟨i,hi,rfl⟩:=mem_iff_at.1 hv;have:=h.wf.bv i hi;exact⟨hs.v _ this,fun l=>hs.lo _ l this,fun l=>hs.hi _ l this⟩
 unfold stopsT;simp only;cases up with
 |true=>
  simp only[if_true];cases e:(b.var (b.free.getD k 0)).hi with
  |none=>exact hl _
  |some u=>
   simp only;rw[sub_sz (q:=(b.var (b.free.getD k 0)).v) (hs.hi _ u hv e) a1 (by decide)];exact hl _
 |false=>
  simp only[Bool.false_eq_true,if_false];cases e:(b.var (b.free.getD k 0)).lo with
  |none=>exact hl _
  |some u=>
   simp only;rw[sub_sz (p:=(b.var (b.free.getD k 0)).v) a1 (hs.lo _ u hv e) (by decide)];exact hl _
theorem Good.stopped {p:Pg}{b:Tb}(h:Good p b){k:Nat}(hk:k<b.free.length){up:Bool}(h1:ownQ b k up=none)(h2:∀i,i<b.t.length→lineQ b k up i=none):False:=by
 obtain⟨ξ,x1,x2⟩:=h.unit hk;have hx:=(h.eq ξ).1 x1;have hfv:b.F k<p.lo.length+p.a.length:=by rw[←h.nv];exact h.wf.fv k hk
 have hk0:¬b.F k<p.lo.length:=fun e=>by
  unfold ownQ at h1;rw[(h.elo _ e).1,(h.elo _ e).2]at h1;cases up<;>simp at h1
 have hz:∀j,j<p.lo.length→ξ j=0:=fun j hj=>by
  rcases h.all j (by rw[h.nv];omega) with ⟨i,hi,e⟩|⟨i,hi,e⟩
  ·have hit:i<b.t.length:=by rw[←h.wf.bt];exact hi
   have h3:=h2 i hit;unfold lineQ lineR at h3;rw[e,(h.elo j hj).1,(h.elo j hj).2]at h3;have h4:turnA up (b.at_ i k)=0:=by
    by_cases g1:0<turnA up (b.at_ i k)
    ·rw[if_pos g1]at h3;cases h3
    ·rw[if_neg g1]at h3;by_cases g2:turnA up (b.at_ i k)<0
     ·rw[if_pos g2]at h3;cases h3
     ·grind
   rw[←e,hx i hit,lin_unit (h.wf.ft i hit) hk x2];unfold turnA Tb.at_ at h4;cases up
   ·simp only[Bool.false_eq_true,if_false]at h4;grind
   ·exact h4
  ·rw[←e,x2 i hi,if_neg];intro e';subst e';exact hk0 (e▸hj)
 have h3:=x2 k hk;rw[if_pos rfl]at h3;have h4:=x1 (b.F k-p.lo.length) (by omega);rw[show p.lo.length+(b.F k-p.lo.length)=b.F k by omega,rowM_R,sumR_zero _ _ fun j _ hj=>by rw[hz j (by omega),Rat.mul_zero]]at h4;have h5:ξ (b.F k)=1:=h3;rw[h5]at h4;exact absurd h4 (by decide)
end Go.Proofs.YtpnmcacndjkfaaaGreat
