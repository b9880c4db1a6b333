import Derived.Test.YtpnmcacndjkfaaaGreatEn
set_option linter.unusedSimpArgs false
set_option linter.unusedVariables false
namespace Go.Proofs.YtpnmcacndjkfaaaGreat
open Go.RowKit Num
theorem pigeon:∀(N:Nat)(f:Nat→Nat),(∀i,i≤N→f i<N)→∃i j,i<j∧j≤N∧f i=f j
 |0,f,h=>absurd (h 0 ZL) (Nat.not_lt_zero _)
 |N+1,f,h=>by
  by_cases hx:∃i,i≤N∧f i=f (N+1)
  ·obtain⟨i,h1,h2⟩:=hx;exact⟨i,N+1,by omega,Nat.le_refl _,h2⟩
  ·have hne:∀i,i≤N→f i≠f (N+1):=fun i h1 h2=>hx ⟨i,h1,h2⟩;have hl:=h (N+1) ZL;obtain⟨i,j,h1,h2,h3⟩:=pigeon N (fun i=>if f (N+1)<f i then f i-1 else f i) fun i hi=>by
    have a1:=h i (by omega);have a2:=hne i hi;show(if f (N+1)<f i then f i-1 else f i)<N;split<;>omega
   have a1:=hne i (by omega);have a2:=hne j h2;refine⟨i,j,h1,by omega,?_⟩;have h4:(if f (N+1)<f i then f i-1 else f i)=if f (N+1)<f j then f j-1 else f j:=h3
   split at h4<;>split at h4<;>omega
def Tb.place (b:Tb)(v:Nat):Nat:=if v∈b.free then(if (b.var v).lo=some (b.var v).v then 1 else 2) else 0
def code (f:Nat→Nat):Nat→Nat
 |0=>0
 |n+1=>code f n*3+f n
theorem code_lt {f:Nat→Nat}(h:∀i,f i<3):∀n,code f n<3^n
 |0=>by
  show 0<1;decide
 |n+1=>by
  have h1:=code_lt h n;have h2:=h n;show code f n*3+f n<3^n*3;omega
theorem code_inj {f g:Nat→Nat}(hf:∀i,f i<3)(hg:∀i,g i<3):∀n,code f n=code g n→∀i,i<n→f i=g i
 |0,_,i,hi=>absurd hi (Nat.not_lt_zero _)
 |n+1,h,i,hi=>by
  have h1:code f n*3+f n=code g n*3+g n:=h;have h2:=hf n;have h3:=hg n;by_cases e:i=n
  ·subst e;omega
  ·exact code_inj hf hg n (by omega) i (by omega)
theorem place_lt (b:Tb)(v:Nat):b.place v<3:=by
 unfold Tb.place;split
 ·split<;>decide
 ·decide
theorem fr_mem {b:Tb}{v:Nat}:b.Fr v↔v∈b.free:=mem_iff_at.symm
theorem place_same {p:Pg}{b c:Tb}(hb:Good p b)(hc:Good p c)(h:∀v,v<p.lo.length+p.a.length→b.place v=c.place v):(∀v,b.Fr v↔c.Fr v)∧∀v,c.Fr v→b.val v=c.val v:=by
 have hlt:∀{d:Tb},Good p d→∀v,d.Fr v→v<p.lo.length+p.a.length:=fun hd v ⟨k,hk,e⟩=>by
  rw[←e,←hd.nv];exact hd.wf.fv k hk
 have hfr:∀v,v<p.lo.length+p.a.length→(b.Fr v↔c.Fr v):=fun v hv=>by
  have h1:=h v hv;unfold Tb.place at h1;rw[fr_mem,fr_mem];by_cases e1:v∈b.free
  ·by_cases e2:v∈c.free
   ·exact⟨fun _=>e2,fun _=>e1⟩
   ·rw[if_pos e1,if_neg e2]at h1;split at h1<;>omega
  ·by_cases e2:v∈c.free
   ·rw[if_neg e1,if_pos e2]at h1;split at h1<;>omega
   ·exact⟨fun h=>absurd h e1,fun h=>absurd h e2⟩
 refine⟨fun v=>⟨fun h1=>(hfr v (hlt hb v h1)).1 h1,fun h1=>(hfr v (hlt hc v h1)).2 h1⟩,fun v h1=> ?_⟩;have hv:=hlt hc v h1;have h2:=(hfr v hv).2 h1;have h3:=h v hv;have hen:=hb.same_ends hc hv;unfold Tb.place at h3;rw[if_pos (fr_mem.1 h1),if_pos (fr_mem.1 h2)]at h3;obtain⟨k,hk,e1⟩:=h2;obtain⟨k',hk',e2⟩:=h1;have r1:=(hb.rest k hk).2;have r2:=(hc.rest k' hk').2;rw[e1]at r1;rw[e2]at r2;unfold Tb.val;by_cases q1:(b.var v).lo=some (b.var v).v
 ·by_cases q2:(c.var v).lo=some (c.var v).v
  ·rw[hen.1,q2]at q1;exact(Option.some.inj q1).symm
  ·rw[if_pos q1,if_neg q2]at h3;omega
 ·by_cases q2:(c.var v).lo=some (c.var v).v
  ·rw[if_neg q1,if_pos q2]at h3;omega
  ·have r1:=r1.resolve_left q1;have r2:=r2.resolve_left q2;rw[hen.2,r2]at r1;exact(Option.some.inj r1).symm
def Chain (R:Tb→Tb→Prop)(m:Nat)(b:Tb):Prop:=∃st:Nat→Tb,st m=b∧∀i,i<m→R (st i) (st (i+1))
theorem Chain.nil {R:Tb→Tb→Prop}(b:Tb):Chain R 0 b:=⟨fun _=>b,rfl,fun i hi=>absurd hi (Nat.not_lt_zero _)⟩
theorem Chain.snoc {R:Tb→Tb→Prop}{m:Nat}{b c:Tb}(h:Chain R m b)(hr:R b c):Chain R (m+1) c:=by
 obtain⟨st,h1,h2⟩:=h;refine⟨fun i=>if i≤m then st i else c,if_neg (by omega),fun i hi=> ?_⟩;show R (if i≤m then st i else c) (if i+1≤m then st (i+1) else c);rw[if_pos (by omega)];by_cases e:i+1≤m
 ·rw[if_pos e];exact h2 i (by omega)
 ·rw[if_neg e,show i=m by omega,h1];exact hr
theorem twice {p:Pg}(h6:p.lo.length+p.a.length≤6){st:Nat→Tb}{m:Nat}(hm:729≤m)(hg:∀i,i≤m→Good p (st i)):∃i j,i<j∧j≤m∧(∀v,(st i).Fr v↔(st j).Fr v)∧∀v,(st j).Fr v→(st i).val v=(st j).val v:=by
 obtain⟨i,j,h1,h2,h3⟩:=pigeon 729 (fun i=>code (st i).place 6) fun i _=>code_lt (place_lt _) 6;have h4:=code_inj (place_lt _) (place_lt _) 6 h3;obtain⟨h5,h7⟩:=place_same (hg i (by omega)) (hg j (by omega)) fun v hv=>h4 v (by omega);exact⟨i,j,h1,by omega,h5,h7⟩
def R1 (p:Pg)(b b':Tb):Prop:=∃i k,Step1 p b b' i k
def R2 (p:Pg)(b b':Tb):Prop:=∃k up s,Step2 p b b' k up s
theorem chain_one {p:Pg}(h6:p.lo.length+p.a.length≤6){m:Nat}{b:Tb}(hb:Good p b)(h:Chain (R1 p) m b):m<729:=by
 apply Nat.lt_of_not_le;intro hm;obtain⟨st,h1,h2⟩:=h;have hx:∀i,∃x:Nat×Nat,i<m→Step1 p (st i) (st (i+1)) x.1 x.2:=fun i=>by
  by_cases e:i<m
  ·obtain⟨a,c,h⟩:=h2 i e;exact⟨(a,c),fun _=>h⟩
  ·exact⟨(0,0),fun h=>absurd h e⟩
 obtain⟨i,j,a1,a2,a3,a4⟩:=twice h6 (st:=st) hm fun i hi=>by
  by_cases e:i=m
  ·rw[e,h1];exact hb
  ·exact((hx i).choose_spec (by omega)).good
 exact cycle_one a1 (fun l l1 l2=>(hx l).choose_spec (by omega)) a3 a4
theorem chain_two {p:Pg}(h6:p.lo.length+p.a.length≤6){m:Nat}{b:Tb}(hb:Good p b)(h:Chain (R2 p) m b):m<729:=by
 apply Nat.lt_of_not_le;intro hm;obtain⟨st,h1,h2⟩:=h;have hx:∀i,∃x:Nat×Bool×Bk,i<m→Step2 p (st i) (st (i+1)) x.1 x.2.1 x.2.2:=fun i=>by
  by_cases e:i<m
  ·obtain⟨a,c,s,h⟩:=h2 i e;exact⟨(a,c,s),fun _=>h⟩
  ·exact⟨(0,true,⟨0,none,0⟩),fun h=>absurd h e⟩
 have hg:∀i,i≤m→Good p (st i):=fun i hi=>by
  by_cases e:i=m
  ·rw[e,h1];exact hb
  ·exact((hx i).choose_spec (by omega)).good
 obtain⟨i,j,a1,a2,a3,a4⟩:=twice h6 (st:=st) hm hg;exact cycle_two a1 (fun l l1 l2=>(hx l).choose_spec (by omega)) (hg i (by omega)) (hg j (by omega)) a3 a4
theorem helpsGo_left (b:Tb)(n:Nat)(up:Bool):∀(f:List Nat)(l:List Rat)(k:Nat)(best:Option (Nat×Nat)),helpsGo {b with left:=n} up k best l f=helpsGo b up k best l f
 |[],[],_,_=>rfl
 |[],_::_,_,_=>rfl
 |_::_,[],_,_=>rfl
 |v::f,a::l,k,best=>by
  show helpsGo {b with left:=n} up (k+1) _ l f=helpsGo b up (k+1) _ l f;exact helpsGo_left b n up f l (k+1) _
theorem helps_left (b:Tb)(n i:Nat)(up:Bool):helpsT {b with left:=n} i up=helpsT b i up:=by
 unfold helpsT;rw[helpsGo_left]
theorem Small.left {b:Tb}(h:Small b)(n:Nat):Small {b with left:=n}:=⟨h.v,h.lo,h.hi,h.t,h.c⟩
theorem feas_ends {p:Pg}(he:EndsOk p)(h6:p.lo.length+p.a.length≤6)(hsm:∀b,Good p b→Small b):∀(fuel m:Nat)(b:Tb),Good p b→Chain (R1 p) m b→729≤m+fuel→∃r,feasT fuel b=some r∧b.left+m≤r.1.left+730
 |fuel,m,b,h,hch,hf=>by
  have hm:=chain_one h6 h hch;unfold feasT;cases hb:beyondT b with
  |none=>exact⟨_,rfl,by show b.left+m≤b.left+730;omega⟩
  |some i=>
   cases fuel with
   |zero=>omega
   |succ fuel=>
    simp only;have h1:Good p {b with left:=b.left-1}:=h.left (by have:=h.wf.sl;omega);rw[helps_left];obtain⟨s1,s2,s3⟩:=beyond_some hb;have hit:i<b.t.length:=by rw[←h.wf.bt];exact s1
    cases hk:helpsT b i (b.var (b.basic.getD i 0)).below with
    |none=>
     have hk':helpsT b i (({b with left:=b.left-1}:Tb).var (b.basic.getD i 0)).below=none:=hk;rw[hk'];exact⟨_,rfl,by show b.left+m≤b.left-1+730;omega⟩
    |some k=>
     have hk':helpsT b i (({b with left:=b.left-1}:Tb).var (b.basic.getD i 0)).below=some k:=hk;rw[hk'];simp only;obtain⟨k1,k2,k3⟩:=helps_some (h.wf.ft i hit) hk;have hne:=helpB_ne k2;have hS:=hsm b h;have hvl:=h.wf.bv i s1;obtain⟨g,hg1,hg2⟩:∃g:Rat,(if (({b with left:=b.left-1}:Tb).var (b.basic.getD i 0)).below=true then(({b with left:=b.left-1}:Tb).var (b.basic.getD i 0)).lo.getD 0 else(({b with left:=b.left-1}:Tb).var (b.basic.getD i 0)).hi.getD 0)=g∧Sz g 2:=by
      refine⟨_,rfl,?_⟩;show Sz (if (b.var (b.basic.getD i 0)).below=true then(b.var (b.basic.getD i 0)).lo.getD 0 else(b.var (b.basic.getD i 0)).hi.getD 0) 2;have h0:Sz (0:Rat) 2:=sz_z (n:=0) (K:=0) (by decide) (by decide) (by decide);split
      ·cases e:(b.var (b.basic.getD i 0)).lo with
       |none=>exact h0
       |some l=>exact hS.lo _ l hvl e
      ·cases e:(b.var (b.basic.getD i 0)).hi with
       |none=>exact h0
       |some l=>exact hS.hi _ l hvl e
     rw[hg1];have hv:=hS.v _ hvl;have hv:Sz (b.var (b.basic.getD i 0)).v 16:=hv;have ha:=hS.line i k;have e1:subO g (({b with left:=b.left-1}:Tb).var (b.basic.getD i 0)).v=some (g+ -(b.var (b.basic.getD i 0)).v):=sub_sz hg2 hv (by decide);have hd:=hg2.add (sz_neg hv);rw[e1];show ∃r,Option.bind (divO (g+ -(b.var (b.basic.getD i 0)).v) ((b.t.getD i []).getD k 0)) _=_∧_;rw[div_sz hd ha (by decide) hne];show ∃r,Option.bind (moveT {b with left:=b.left-1} k ((g+ -(b.var (b.basic.getD i 0)).v)/(b.t.getD i []).getD k 0)) _=_∧_;have hδ:Sz ((g+ -(b.var (b.basic.getD i 0)).v)/(b.t.getD i []).getD k 0) 30:=(hd.div ha hne).mono (by decide);have hδv:(b.t.getD i []).getD k 0*((g+ -(b.var (b.basic.getD i 0)).v)/(b.t.getD i []).getD k 0)=g+ -(b.var (b.basic.getD i 0)).v:=by
      generalize (b.t.getD i []).getD k 0=a at*;grind
     generalize (g+ -(b.var (b.basic.getD i 0)).v)/(b.t.getD i []).getD k 0=δ at*;obtain⟨b2,hm2⟩:=h1.move_some (hS.left _) k1 hδ;rw[hm2];show ∃r,Option.bind (pivotT b2 i k) _=_∧_;have M:=h1.moved k1 hm2;have hgoal:b2.val (b.B i)=if (b.var (b.B i)).below=true then(b.var (b.B i)).lo.getD 0 else(b.var (b.B i)).hi.getD 0:=by
      have e2:=M.line i s1;have e3:b2.val (b.B i)=b.val (b.B i)+(b.t.getD i []).getD k 0*δ:=e2;rw[e3,hδv];have e4:(if (b.var (b.B i)).below=true then(b.var (b.B i)).lo.getD 0 else(b.var (b.B i)).hi.getD 0)=g:=hg1;rw[e4];show(b.var (b.basic.getD i 0)).v+(g+ -(b.var (b.basic.getD i 0)).v)=g;grind
     have hin:Rest (b2.var (b.B i)):=by
      have e1:=M.ends (b.B i);unfold Rest;rw[inn_iff,e1.1,e1.2];have ev:(b2.var (b.B i)).v=b2.val (b.B i):=rfl;rw[ev,hgoal];rw[Bool.or_eq_true]at s2;by_cases hbe:(b.var (b.B i)).below=true
      ·rw[if_pos hbe];obtain⟨l,hl1,hl2⟩:=below_iff.1 hbe;have hl1':(({b with left:=b.left-1}:Tb).var (b.B i)).lo=some l:=hl1;rw[hl1,hl1'];refine⟨⟨fun l' e=> ?_,fun u hu=>h.two he hvl hl1 hu⟩,.inl rfl⟩;cases e;exact Rat.le_refl
      ·rw[if_neg hbe];obtain⟨u,hu1,hu2⟩:=above_iff.1 (s2.resolve_left hbe);have hu1':(({b with left:=b.left-1}:Tb).var (b.B i)).hi=some u:=hu1;have hu1'':(b.var (b.B i)).hi=some u:=hu1;rw[hu1'',hu1'];refine⟨⟨fun l hl=>h.two he hvl hl hu1,fun u' e=> ?_⟩,.inr rfl⟩;cases e;exact Rat.le_refl
     obtain⟨us,rfl,hus⟩:=M.form;obtain⟨b3,hp⟩:∃b3,pivotT (({b with left:=b.left-1}:Tb).withV us) i k=some b3:=pivot_some (b:=({b with left:=b.left-1}:Tb).withV us) hS.t hS.c hne;rw[hp];have h3:=h1.step hit k1 hm2 hp hin;have P:=pivot_form ((h1.wf.setVars hus).line_ne hit k1) hp;have hval:b3.val=(({b with left:=b.left-1}:Tb).withV us).val:=funext fun v=>by
      unfold Tb.val Tb.var;rw[P.vars];rfl
     have hst:R1 p b b3:=⟨i,k,h,h3,h.turn s1 k1 P.free,hb,hk,fun v ⟨j,hj,e⟩ hne'=>by
      subst e;rw[hval];exact M.rest j hj fun e=>hne' (by rw[e]),by rw[hval];exact hgoal⟩
     obtain⟨r,r1,r2⟩:=feas_ends he h6 hsm fuel (m+1) b3 h3 (hch.snoc hst) (by omega);have hleft:b3.left=b.left-1:=P.left;exact⟨r,r1,by omega⟩
theorem opt_ends {p:Pg}(h6:p.lo.length+p.a.length≤6)(hsm:∀b,Good p b→Small b):∀(fuel m:Nat)(b:Tb),Good p b→AllIn b→Chain (R2 p) m b→729≤m+fuel→∃r,optT fuel b=some r
 |fuel,m,b,h,ha,hch,hf=>by
  have hm:=chain_two h6 h hch;unfold optT;cases hc:cheapT b with
  |none=>exact⟨_,rfl⟩
  |some r=>
   obtain⟨k,up⟩:=r;cases fuel with
   |zero=>omega
   |succ fuel=>
    have h1:Good p {b with left:=b.left-1}:=h.left (by have:=h.wf.sl;omega);have hS:=(hsm b h).left (b.left-1);have ha1:AllIn {b with left:=b.left-1}:=ha;obtain⟨k1,_,_,_⟩:=cheap_some h.wf.fc hc;obtain⟨c,hst⟩:=h1.stops_some hS k1 up;simp only;rw[hst];have hsp:=stops_spec h1.wf.bt hst;cases c with
    |none=>
     obtain⟨q1,q2⟩:=hsp.2 rfl;exact(h1.stopped k1 q1 q2).elim
    |some s=>
     have hs:=hsp.1 s rfl;have hs':Stops b k up s:=⟨hs.is,hs.own,hs.line⟩;show ∃r,Option.bind (moveT {b with left:=b.left-1} k (turnA up s.far)) _=_;have hfar:Sz s.far 30:=by
      have hval:∀v,v<b.vars.length→Sz (b.var v).v 16:=hS.v;rcases hs'.is with ⟨_,_,h3⟩|⟨i,hi,_,_,h3⟩
      ·have hv:=hval _ (h.wf.fv k k1);unfold ownQ at h3;cases up with
       |true=>
        obtain⟨u,e1,e2⟩:=Option.map_eq_some_iff.1 h3;rw[←e2,Rat.sub_eq_add_neg];exact((hS.hi _ u (h.wf.fv k k1) e1).add (sz_neg hv)).mono (by decide)
       |false=>
        obtain⟨u,e1,e2⟩:=Option.map_eq_some_iff.1 h3;rw[←e2,Rat.sub_eq_add_neg];exact(hv.add (sz_neg (hS.lo _ u (h.wf.fv k k1) e1))).mono (by decide)
      ·have hbv:=h.wf.bv i (by rw[h.wf.bt];exact hi);have hv:=hval _ hbv;have hl:Sz (turnA up (b.at_ i k)) 11:=by
        unfold turnA;split
        ·exact hS.line i k
        ·exact sz_neg (hS.line i k)
       unfold lineQ lineR at h3;generalize turnA up (b.at_ i k)=a at*;have fin:∀u:Rat,Sz u 2→a≠0→Sz ((u-(b.var (b.B i)).v)/a) 30:=fun u hu h0=>by
        rw[Rat.sub_eq_add_neg];exact((hu.add (sz_neg hv)).div hl h0).mono (by decide)
       by_cases g1:0<a
       ·rw[if_pos g1]at h3;obtain⟨u,e1,e2⟩:=Option.map_eq_some_iff.1 h3;rw[←e2];exact fin u (hS.hi _ u hbv e1) (by grind)
       ·rw[if_neg g1]at h3;by_cases g2:a<0
        ·rw[if_pos g2]at h3;obtain⟨u,e1,e2⟩:=Option.map_eq_some_iff.1 h3;rw[←e2];exact fin u (hS.lo _ u hbv e1) (by grind)
        ·rw[if_neg g2]at h3;cases h3
     have hδ:Sz (turnA up s.far) 30:=by
      unfold turnA;split
      ·exact hfar
      ·exact sz_neg hfar
     obtain⟨b2,hm2⟩:=h1.move_some hS k1 hδ;rw[hm2];have M:Moved {b with left:=b.left-1} k (turnA up s.far) b2:=h1.moved k1 hm2;have ha2:=h1.slide ha1 k1 hs M;obtain⟨us,rfl,hus⟩:=M.form;have Mb:Moved b k (turnA up s.far) (b.withV us):=⟨⟨us,rfl,hus⟩,M.col,M.line,M.rest,M.ends⟩;cases hl:s.line with
     |none=>
      have h3:=h1.move k1 M ((h1.comes ha1 k1 hs M).1 hl);have hst:R2 p b (({b with left:=b.left-1}:Tb).withV us):=⟨k,up,s,h,h3,ha,hc,hs',⟨_,Mb,rfl⟩,.inl hl⟩;exact opt_ends h6 hsm fuel (m+1) _ h3 ha2 (hch.snoc hst) (by omega)
     |some i=>
      have hi:i<b.t.length∧(b.t.getD i []).getD k 0≠0:=by
       rcases hs'.is with ⟨e,_,_⟩|⟨i',hi,e,_,h4⟩
       ·rw[hl]at e;cases e
       ·rw[hl]at e;cases e;refine⟨hi,fun h0=> ?_⟩;have h5:b.at_ i k=0:=h0;unfold lineQ lineR at h4;rw[h5,turn_zero,if_neg (by decide),if_neg (by decide)]at h4;cases h4
      obtain⟨hit,hne⟩:=hi;have hib:i<b.basic.length:=by rw[h.wf.bt];exact hit
      obtain⟨b3,hp⟩:∃b3,pivotT (({b with left:=b.left-1}:Tb).withV us) i k=some b3:=pivot_some (b:=({b with left:=b.left-1}:Tb).withV us) hS.t hS.c hne;have h3:Good p b3:=h1.step hit k1 hm2 hp ((h1.comes ha1 k1 hs M).2 i hl);have P:=pivot_form ((h1.wf.setVars hus).line_ne hit k1) hp;have ha3:AllIn b3:=fun v hv=>by
       rw[P.vars]at hv;have:=ha2 v hv;unfold Tb.var at this⊢;rw[P.vars];exact this
      have hst:R2 p b b3:=⟨k,up,s,h,h3,ha,hc,hs',⟨_,Mb,P.vars⟩,.inr ⟨i,hl,h.turn hib k1 P.free⟩⟩;show ∃r,Option.bind (pivotT (({b with left:=b.left-1}:Tb).withV us) i k) _=_;rw[hp];exact opt_ends h6 hsm fuel (m+1) b3 h3 ha3 (hch.snoc hst) (by omega)
def Iz (K:Nat)(q:Rat):Prop:=∃n:Int,q=((n:Int):Rat)∧n.natAbs≤K
theorem sumO_some {b:Tb}{Z:Nat}(hZ:∀n:Int,n.natAbs≤Z→Few ((n:Int):Rat)):∀(l:List Rat)(f:List Nat){S:Nat}{s:Rat},Iz S s→(∀x∈l,Iz 1048576 x)→(∀v∈f,Iz 1048576 (b.val v))→S+f.length*(1048576*1048576)≤Z→∃t,sumO b s l f=some t
 |[],f,S,s,_,_,_,_=>⟨s,by unfold sumO;rfl⟩
 |x::l,[],S,s,_,_,_,_=>⟨s,by unfold sumO;rfl⟩
 |x::l,v::f,S,s,hs,hl,hf,hB=>by
  obtain⟨n,e1,e2⟩:=hs;obtain⟨y,y1,y2⟩:=hl x List.mem_cons_self;obtain⟨z,z1,z2⟩:=hf v List.mem_cons_self;rw[List.length_cons,Nat.add_mul,Nat.one_mul]at hB;have h1:(y*z).natAbs≤1048576*1048576:=by
   rw[Int.natAbs_mul];exact Nat.mul_le_mul y2 z2
  have h2:(n+y*z).natAbs≤S+1048576*1048576:=by
   have:=Int.natAbs_add_le n (y*z);omega
  have p1:mulO x (b.var v).v=some ((y*z:Int):Rat):=by
   have z1':(b.var v).v=((z:Int):Rat):=z1;have e:x*(b.var v).v=((y*z:Int):Rat):=by rw[y1,z1',Rat.intCast_mul]
   unfold mulO;rw[e];exact qfit_of (hZ _ (by omega))
  have p2:addO s ((y*z:Int):Rat)=some ((n+y*z:Int):Rat):=by
   have e:s+((y*z:Int):Rat)=((n+y*z:Int):Rat):=by rw[e1,Rat.intCast_add]
   unfold addO;rw[e];exact qfit_of (hZ _ (by omega))
  unfold sumO;rw[p1];show ∃t,Option.bind (addO s _) _=_;rw[p2];exact sumO_some hZ l f ⟨_,rfl,h2⟩ (fun x hx=>hl x (List.mem_cons_of_mem _ hx)) (fun v hv=>hf v (List.mem_cons_of_mem _ hv)) (by omega)
theorem begin_some {p:Pg}(hr:rightPg p=true)(h4:p.lo.length≤4):∀(a:List (List Int))(bs:List Int)(i:Nat)(b:Tb),(∀r∈a,∀n∈r,n.natAbs≤1048576)→b.free=List.range p.lo.length→p.lo.length+i≤b.vars.length→(∀j,j<p.lo.length→b.val j=((p.lo.getD j 0:Int):Rat))→∃b',beginO p.lo.length i b a bs=some b'∧b'.left=b.left
 |[],bs,i,b,_,_,_,_=>⟨b,by unfold beginO;rfl,rfl⟩
 |row::a,[],i,b,_,_,_,_=>⟨b,by unfold beginO;rfl,rfl⟩
 |row::a,h0::bs,i,b,ha,hfr,hnv,hval=>by
  have hn:=near_of_right hr;have hrow:=ha row List.mem_cons_self;have hvlo:∀v,v<p.lo.length→({b with vars:=b.vars++[(⟨none,some (h0:Rat),0⟩:Vr)],basic:=b.basic++[p.lo.length+i],t:=b.t++[row.map fun z:Int=>(z:Rat)]}:Tb).val v=((p.lo.getD v 0:Int):Rat):=fun v hv=>by
   rw[←hval v hv];show((b.vars++[(⟨none,some (h0:Rat),0⟩:Vr)]).getD v vz).v=_;rw[var_app (by omega)];rfl
  unfold beginO;simp only;generalize hb':({b with vars:=b.vars++[(⟨none,some (h0:Rat),0⟩:Vr)],basic:=b.basic++[p.lo.length+i],t:=b.t++[row.map fun z:Int=>(z:Rat)]}:Tb)=b' at*;have hfr':b'.free=List.range p.lo.length:=by rw[←hb'];exact hfr
  have hleft:b'.left=b.left:=by rw[←hb']
  have hlen:b'.vars.length=b.vars.length+1:=by
   rw[←hb'];show(b.vars++[_]).length=_;rw[List.length_append];rfl
  obtain⟨s,hs⟩:=sumO_some (b:=b') (Z:=9223372036854775808) (fun n h=>(sz_z (k:=2) h (by decide) (by decide)).few (by decide)) (row.map fun z:Int=>(z:Rat)) b'.free (S:=0) (s:=0) ⟨0,rfl,by decide⟩ (fun x hx=>by
   obtain⟨n,hn,rfl⟩:=List.mem_map.1 hx;exact⟨n,rfl,hrow n hn⟩) (fun v hv=>by
   rw[hfr',List.mem_range]at hv;have:=hn.lo v hv;exact⟨_,hvlo v hv,by omega⟩) (by rw[hfr',List.length_range];omega)
  rw[hfr'.trans hfr.symm]at hs;rw[hs];obtain⟨b9,h1,h2⟩:=begin_some hr h4 a bs (i+1) (b'.setV (p.lo.length+i) s) (fun r hr=>ha r (List.mem_cons_of_mem _ hr)) hfr' (by
   show _≤(List.set _ _ _).length;rw[List.length_set];omega) (fun j hj=>by
   rw[←hvlo j hj];unfold Tb.val;rw[var_setV,if_neg (fun e:j=p.lo.length+i∧_=>by have:=e.1;omega)])
  exact⟨b9,h1,h2.trans hleft⟩
theorem solve_ends {p:Pg}(hr:rightPg p=true)(h3:p.lo.length≤3)(h5:p.a.length≤3):(solveT p 10000).kind=1∨(solveT p 10000).kind=2:=by
 obtain⟨X3,X,G,Y,HB,hX,hG⟩:=big_ex2;have l1:=HB.l1;have l2:=HB.l2;have l4:=HB.l4;have hn:=near_of_right hr;have hr':=hr;rw[rightPg]at hr';simp only[Bool.and_eq_true,decide_eq_true_eq]at hr';obtain⟨_,g2,g3,g4,_,_,_,_,_,g10,g11⟩:=hr';have hrl:∀i,i<p.a.length→(p.a.getD i []).length=p.lo.length:=fun i hi=>by
  have h12:=List.all_eq_true.1 g11 (p.a.getD i []) (by rw[List.getD_eq_getElem?_getD,List.getElem?_eq_getElem hi];exact List.getElem_mem hi);rw[Bool.and_eq_true,decide_eq_true_eq]at h12;exact h12.1
 have h4:p.lo.length≤4:=by omega
 have hsm:∀b,Good p b→Small b:=fun b hb=>hb.small HB hX hG hr h4;have he:=endsL_at g10 g2;obtain⟨c1,c2⟩:=colsV_both p.lo p.hi g2;obtain⟨b,hb,hleft⟩:=begin_some hr h4 p.a p.b 0 (startT p 10000) (fun r hr n hm=>by
  obtain⟨i,hi,rfl⟩:=List.getElem_of_mem hr;have e:p.a.getD i []=p.a[i]:=by
   rw[List.getD_eq_getElem?_getD,List.getElem?_eq_getElem hi];rfl
  rw[←e]at hm;refine mem_abs (l:=p.a.getD i []) (fun j hj=> ?_) n hm;have:=hn.a i hi j (by rw[←hrl i hi];exact hj);omega) rfl (by show _≤(colsV p.lo p.hi).length;omega) (fun j hj=>by
  show((colsV p.lo p.hi).getD j vz).v=_;rw[c2 j hj])
 have hg:Good p b:=begin_good hr hb;have hb':beginT p 10000=some b:=hb;have hl:b.left=10000:=hleft;obtain⟨r,f1,f2⟩:=feas_ends he (by omega) hsm b.left 0 b hg (Chain.nil b) (by omega);have hfe:=feas_good he _ _ hg f1;have key:∃a,answerT p b=some a∧(a.kind=1∨a.kind=2):=by
  unfold answerT;rw[f1];obtain⟨rb,ro⟩:=r;cases ro with
  |some i=>exact⟨_,rfl,.inr rfl⟩
  |none=>
   have hin:AllIn rb:=fun v hv=>hfe.good.all_in (hfe.none rfl) hv;obtain⟨b2,o1⟩:=opt_ends (by omega) hsm rb.left 0 rb hfe.good hin (Chain.nil _) (by
    have f2:b.left+0≤rb.left+730:=f2;omega)
   obtain⟨g,_,_⟩:=opt_good _ _ hfe.good hin o1;obtain⟨d,hd,hx⟩:=g.vals HB hn h4;have hxc:=g.xcd hx;obtain⟨v,hv,_⟩:=dot_cd (fun B q h hB=>h.few HB hd hB) (xOf b2) p.c (Cd.zero d) hxc (mem_abs (K:=1048576) fun j hj=>by have:=hn.c j (by omega);omega) (by
    have:(xOf b2).length≤4:=by rw[g.xlen];exact h4
    have h:=Nat.mul_le_mul_right (X*1048576) this;omega)
   refine⟨⟨1,xOf b2,some v,yOf b2⟩,?_,.inl rfl⟩;show Option.bind (optT rb.left rb) _=_;rw[o1];show Option.map _ (dotO 0 (xOf b2) p.c)=_;rw[hv];rfl
 obtain⟨a,a1,a2⟩:=key;have e:solveT p 10000=a:=by
  unfold solveT;rw[hb'];show Option.getD (answerT p b) _=a;rw[a1];rfl
 rw[e];exact a2
end Go.Proofs.YtpnmcacndjkfaaaGreat
