import Derived.Test.YtecfcjdgmpopjaaGreatKD
set_option linter.unusedSimpArgs false
set_option linter.unusedVariables false
namespace Go.Proofs.YtecfcjdgmpopjaaGreat
open Go.RowKit Num
abbrev tyV:TypeId:=181
abbrev tyI:TypeId:=3
abbrev tyL:TypeId:=45
theorem own_bl (A:Option Addr)(n c:Nat):(Value.slice A n c).ownBlock=bl A:=by cases A<;>rfl
def lineVs (d:Ad)(t:List (List Rat)):List Value:=(List.range t.length).map fun i=> .slice (d.ls.getD i (none,0)).1 (t.getD i []).length (d.ls.getD i (none,0)).2
structure Gro (ok:Nat→Prop) (w:World) (base:Nat) (d:Ad) (b:Tb):Prop where
 t:TAtO ok tyT w d b
 V:NRow w base tyV 1 (.slice d.V.1 b.vars.length d.V.2) b.vars.length (d.vs.map vptr)
 B:NRow w base tyI 1 (.slice d.B.1 b.basic.length d.B.2) b.basic.length (b.basic.map iv6)
 F:NRow w base tyI 1 (.slice d.F.1 b.free.length d.F.2) b.free.length (b.free.map iv6)
 T:NRow w base tyL 1 (.slice d.T.1 b.t.length d.T.2) b.t.length (lineVs d b.t)
 C:QOwn w base (.slice d.C.1 b.cost.length d.C.2) b.cost
 lo:∀x g,d.at x=some g→base≤g
theorem apart_grow {at1 at2:Tg→Option Nat}{Y Z:Tg}(h:∀x y g,at1 x=some g→at1 y=some g→x=y)(hn:∀x g,at2 x=some g→at1 x=some g∨((∀y,at1 y≠some g)∧(x=Y∨x=Z)))(hd:Y≠Z→∀g,at2 Y=some g→at2 Z=some g→False):∀x y g,at2 x=some g→at2 y=some g→x=y:=fun x y g hx hy=>by
 rcases hn x g hx with h1|⟨h1,h1'⟩
 ·rcases hn y g hy with h2|⟨h2,_⟩
  ·exact h x y g h1 h2
  ·exact absurd h1 (h2 x)
 ·rcases hn y g hy with h2|⟨_,h2'⟩
  ·exact absurd h2 (h1 y)
  ·rcases h1' with rfl|rfl<;>rcases h2' with rfl|rfl
   ·rfl
   ·exact Classical.byContradiction fun ne=>hd ne g hx hy
   ·exact Classical.byContradiction fun ne=>hd (fun e=>ne e.symm) g hy hx
   ·rfl
theorem TAtO.grewX {ok:Nat→Prop}{ty:TypeId}{w w3 w4:World}{d:Ad}{b:Tb}(h:TAtO ok ty w d b)(X:Tg)(hX:X≠.h)(q:Below w.heap.size w w3)(hgr:w3.grownBy w4 (d.at X))(o:Nat)(u:Value)(hu:nu u=true):Stp (fun k=>k=d.t0∨d.at X=some k) w (w4.setCell ⟨d.t0,o,none⟩ u)∧Blk (w4.setCell ⟨d.t0,o,none⟩ u) d.t0 ty ((headC d b).setIfInBounds o u):=by
 have h3:TAtO ok ty w3 d b:=h.below q;have hs:Stp (fun k=>k=d.t0∨d.at X=some k) w3 w4:=by
  cases hx:d.at X with
  |none=>
   rw[hx]at hgr;exact⟨hgr.os,hgr.tape,hgr.output,hgr.size,fun k hk _=>hgr.block k hk (by simp),fun r=>Rd.below r ⟨hgr.os,hgr.tape,hgr.output,hgr.size,fun k hk=>hgr.block k hk (by simp)⟩ ZL⟩
  |some g=>
   rw[hx]at hgr;exact Stp.wrote (h3.box X g hx) hgr (.inr rfl)
 have hne:d.at X≠some d.t0:=fun e=>hX (h.apart X .h d.t0 e rfl);have hb4:Blk w4 d.t0 ty (headC d b):=(hgr.block d.t0 h3.head.lt fun e=>hne e.symm).trans h3.head;have hbx:Box w4 d.t0:=hb4.box rfl;exact⟨((Stp.of q).trans hs).trans (Stp.wrote hbx (gSC w4 d.t0 o u) (.inl rfl)),hb4.set_ o u⟩
theorem TAtO.keepX {ok:Nat→Prop}{ty:TypeId}{w:World}{d:Ad}{b:Tb}(h:TAtO ok ty w d b){X:Tg}{y:Tg}(hy:y≠X)(hh:y≠.h){g:Nat}(hg:d.at y=some g):¬(g=d.t0∨d.at X=some g):=fun e=>by
 rcases e with e|e
 ·exact hh (h.apart y .h g hg (by rw[e];rfl))
 ·exact hy (h.apart y X g hg e)
theorem NRow.stp {S:Nat→Prop}{w w':World}{base:Nat}{e:TypeId}{size:Nat}{A:Option Addr}{c n:Nat}{xs:List Value}(h:NRow w base e size (.slice A n c) n xs)(k:Stp S w w')(hn:∀g,bl A=some g→¬S g):NRow w' base e size (.slice A n c) n xs:=by
 refine⟨⟨h.1.1,?_⟩,fun g hg=>(h.2 g hg).stp k (hn g (by rw[own_bl]at hg;exact hg))⟩;rcases h.1.2 with h2|⟨g,cap,cur,hv,hb,hgg,rest⟩
 ·exact .inl h2
 ·refine .inr ⟨g,cap,cur,hv,hb,(k.block g (Array.getElem?_eq_some_iff.1 hgg).1 (hn g ?_)).trans hgg,rest⟩;injection hv with hv;rw[hv];rfl
theorem NRow.boxBl {w:World}{base:Nat}{e:TypeId}{size:Nat}{A:Option Addr}{c n:Nat}{xs:List Value}(h:NRow w base e size (.slice A n c) n xs){g:Nat}(hg:bl A=some g):Box w g:=h.2 g (by rw[own_bl];exact hg)
theorem getD_app {α:Type}{l:List α}{x z:α}{j:Nat}(hj:j<l.length+1):(l++[x]).getD j z=if j<l.length then l.getD j z else x:=by
 by_cases h:j<l.length
 ·rw[if_pos h,gE,List.getElem?_append_left h,←gE]
 ·rw[if_neg h,gE,List.getElem?_append_right (by omega),show j-l.length=0 by omega];rfl
theorem map_at {α:Type}{f:α→Value}{z:α}(l:List α){j:Nat}(hj:j<l.length):(l.map f)[j]? =some (f (l.getD j z)):=by
 rw[List.getElem?_map,gG hj,gE,gG hj];rfl
theorem NRow.lo {w:World}{base:Nat}{e:TypeId}{size:Nat}{A:Option Addr}{c n:Nat}{xs:List Value}(h:NRow w base e size (.slice A n c) n xs){g:Nat}(hg:bl A=some g):base≤g:=(World.ownsRow.lt h.1 g (by rw[own_bl];exact hg)).1
theorem NRow.cap {w:World}{base:Nat}{e:TypeId}{size:Nat}{A:Option Addr}{c n:Nat}{xs:List Value}(h:NRow w base e size (.slice A n c) n xs):n≤c:=by
 rcases h.1.2 with ⟨_,h3⟩|⟨g,cap,cur,hv,_,_,hn,_⟩
 ·omega
 ·injection hv with _ _ hv;omega
theorem QOwn.lo {w:World}{base:Nat}{A:Option Addr}{c n:Nat}{l:List Rat}(h:QOwn w base (.slice A n c) l){g:Nat}(hg:bl A=some g):base≤g:=(h.box g (by rw[own_bl];exact hg)).1
theorem Gro.pushF {ok:Nat→Prop}{w w3 w4:World}{base:Nat}{d:Ad}{b:Tb}{A':Option Addr}{c' v:Nat}(h:Gro ok w base d b)(q:Below w.heap.size w w3)(hr:NRow w4 base tyI 1 (.slice A' (b.free.length+1) c') (b.free.length+1) (b.free.map iv6++[iv6 v]))(hgr:w3.grownBy w4 (bl d.F.1))(hat:bl A'=bl d.F.1∨∀k,bl A'=some k→w3.heap.size≤k):Stp (fun k=>k=d.t0∨bl d.F.1=some k) w (w4.setCell ⟨d.t0,3,none⟩ (.slice A' (b.free.length+1) c'))∧Gro ok (w4.setCell ⟨d.t0,3,none⟩ (.slice A' (b.free.length+1) c')) base {d with F:=(A',c')} {b with free:=b.free++[v]}∧∀g,Ad.S {d with F:=(A',c')} g→d.S g∨w3.heap.size≤g:=by
 obtain⟨k,hh⟩:=h.t.grewX .F (fun e=>by cases e) q hgr 3 (.slice A' (b.free.length+1) c') rfl;have kp:=fun(y:Tg)(hy:y≠.F)(hh:y≠.h)(g:Nat)(hg:d.at y=some g)=>h.t.keepX hy hh hg;have old:=h.t.lt;have hl:(b.free++[v]).length=b.free.length+1:=by rw[List.length_append,List.length_singleton]
 have hxs:(b.free++[v]).map iv6=b.free.map iv6++[iv6 v]:=by rw[List.map_append];rfl
 have hne:∀g,bl A'=some g→¬g=d.t0:=fun g hg e=>by
  rcases hat with h1|h1
  ·rw[h1]at hg;have:=h.t.apart .F .h g hg (by rw[e];rfl);cases this
  ·have h2:=h1 g hg;have h3:=old d.t0 ⟨.h,rfl⟩;have:=q.size;omega
 have hb4:Blk w4 d.t0 tyT (headC d b):=(hgr.block d.t0 (h.t.below q).head.lt fun e=>by have:=h.t.apart .F .h d.t0 e.symm rfl;cases this).trans (h.t.below q).head;have hr5:=hr.stp (Stp.wrote (S:=fun k=>k=d.t0) (hb4.box rfl) (gSC w4 d.t0 3 (.slice A' (b.free.length+1) c')) rfl) hne;refine⟨k,⟨⟨?_,h.t.vl,h.t.vp.stp k fun g e=>kp .V (by simp) (by simp) g e,fun j hj ho=>(h.t.vro j hj ho).stp k (kp (.v j) (by simp) (by simp) _ (h.t.atV hj)),h.t.ba.stp k fun g e=>kp .B (by simp) (by simp) g e,?_,h.t.tl,h.t.tp.stp k fun g e=>kp .T (by simp) (by simp) g e,fun i hi=>(h.t.tr i hi).stp k fun g e=>kp (.l i) (by simp) (by simp) g e,h.t.co.stp k fun g e=>kp .C (by simp) (by simp) g e,?_,?_⟩,
  h.V.stp k fun g e=>kp .V (by simp) (by simp) g e,h.B.stp k fun g e=>kp .B (by simp) (by simp) g e,?_,h.T.stp k fun g e=>kp .T (by simp) (by simp) g e,h.C.kept k fun g e=>kp .C (by simp) (by simp) g (by rw[own_bl]at e;exact e),?_⟩,fun g hS=> ?_⟩
 ·show Blk _ d.t0 tyT (headC {d with F:=(A',c')} {b with free:=b.free++[v]});dsimp only[headC];rw[hl];exact hh
 ·show CRow _ A' (b.free++[v]).length fun j=>iv6 ((b.free++[v]).getD j 0);rw[hl];exact hr5.crow fun j hj=>by rw[←hxs];exact map_at _ (by rw[hl];exact hj)
 ·intro y g hy;by_cases e:y= .F
  ·subst e;exact hr5.boxBl hy
  ·by_cases e2:y= .h
   ·subst e2;injection hy with hy;subst hy;exact hh.box (by rfl)
   ·have hy':d.at y=some g:=by cases y<;>first|exact hy|exact absurd rfl e
    exact(h.t.box y g hy').stp k (kp y e e2 g hy')
 ·refine apart_grow (Y:= .F) (Z:= .F) h.t.apart (fun y g hy=> ?_) (fun ne=>absurd rfl ne);by_cases e:y= .F
  ·subst e;rcases hat with h1|h1
   ·exact .inl (by show bl d.F.1=some g;rw[←h1];exact hy)
   ·refine .inr ⟨fun z hz=> ?_,.inl rfl⟩;have h2:=old g ⟨z,hz⟩;have h3:=h1 g hy;have:=q.size;omega
  ·left;cases y<;>first|exact hy|exact absurd rfl e
 ·show NRow _ base tyI 1 (.slice A' (b.free++[v]).length c') (b.free++[v]).length ((b.free++[v]).map iv6);rw[hl,hxs];exact hr5
 ·intro y g hy;by_cases e:y= .F
  ·subst e;exact hr5.lo hy
  ·have hy':d.at y=some g:=by cases y<;>first|exact hy|exact absurd rfl e
   exact h.lo y g hy'
 ·obtain⟨y,hy⟩:=hS;by_cases e:y= .F
  ·subst e;rcases hat with h1|h1
   ·exact .inl ⟨.F,by show bl d.F.1=some g;rw[←h1];exact hy⟩
   ·exact .inr (h1 g hy)
  ·exact .inl ⟨y,by cases y<;>first|exact hy|exact absurd rfl e⟩
theorem Gro.pushB {ok:Nat→Prop}{w w3 w4:World}{base:Nat}{d:Ad}{b:Tb}{A':Option Addr}{c' v:Nat}(h:Gro ok w base d b)(q:Below w.heap.size w w3)(hr:NRow w4 base tyI 1 (.slice A' (b.basic.length+1) c') (b.basic.length+1) (b.basic.map iv6++[iv6 v]))(hgr:w3.grownBy w4 (bl d.B.1))(hat:bl A'=bl d.B.1∨∀k,bl A'=some k→w3.heap.size≤k):Stp (fun k=>k=d.t0∨bl d.B.1=some k) w (w4.setCell ⟨d.t0,2,none⟩ (.slice A' (b.basic.length+1) c'))∧Gro ok (w4.setCell ⟨d.t0,2,none⟩ (.slice A' (b.basic.length+1) c')) base {d with B:=(A',c')} {b with basic:=b.basic++[v]}∧∀g,Ad.S {d with B:=(A',c')} g→d.S g∨w3.heap.size≤g:=by
 obtain⟨k,hh⟩:=h.t.grewX .B (fun e=>by cases e) q hgr 2 (.slice A' (b.basic.length+1) c') rfl;have kp:=fun(y:Tg)(hy:y≠.B)(hh:y≠.h)(g:Nat)(hg:d.at y=some g)=>h.t.keepX hy hh hg;have old:=h.t.lt;have hl:(b.basic++[v]).length=b.basic.length+1:=by rw[List.length_append,List.length_singleton]
 have hxs:(b.basic++[v]).map iv6=b.basic.map iv6++[iv6 v]:=by rw[List.map_append];rfl
 have hne:∀g,bl A'=some g→¬g=d.t0:=fun g hg e=>by
  rcases hat with h1|h1
  ·rw[h1]at hg;have:=h.t.apart .B .h g hg (by rw[e];rfl);cases this
  ·have h2:=h1 g hg;have h3:=old d.t0 ⟨.h,rfl⟩;have:=q.size;omega
 have hb4:Blk w4 d.t0 tyT (headC d b):=(hgr.block d.t0 (h.t.below q).head.lt fun e=>by have:=h.t.apart .B .h d.t0 e.symm rfl;cases this).trans (h.t.below q).head;have hr5:=hr.stp (Stp.wrote (S:=fun k=>k=d.t0) (hb4.box rfl) (gSC w4 d.t0 2 (.slice A' (b.basic.length+1) c')) rfl) hne;refine⟨k,⟨⟨?_,h.t.vl,h.t.vp.stp k fun g e=>kp .V (by simp) (by simp) g e,fun j hj ho=>(h.t.vro j hj ho).stp k (kp (.v j) (by simp) (by simp) _ (h.t.atV hj)),?_,h.t.fr.stp k fun g e=>kp .F (by simp) (by simp) g e,h.t.tl,h.t.tp.stp k fun g e=>kp .T (by simp) (by simp) g e,fun i hi=>(h.t.tr i hi).stp k fun g e=>kp (.l i) (by simp) (by simp) g e,h.t.co.stp k fun g e=>kp .C (by simp) (by simp) g e,?_,?_⟩,
  h.V.stp k fun g e=>kp .V (by simp) (by simp) g e,?_,h.F.stp k fun g e=>kp .F (by simp) (by simp) g e,h.T.stp k fun g e=>kp .T (by simp) (by simp) g e,h.C.kept k fun g e=>kp .C (by simp) (by simp) g (by rw[own_bl]at e;exact e),?_⟩,fun g hS=> ?_⟩
 ·show Blk _ d.t0 tyT (headC {d with B:=(A',c')} {b with basic:=b.basic++[v]});dsimp only[headC];rw[hl];exact hh
 ·show CRow _ A' (b.basic++[v]).length fun j=>iv6 ((b.basic++[v]).getD j 0);rw[hl];exact hr5.crow fun j hj=>by rw[←hxs];exact map_at _ (by rw[hl];exact hj)
 ·intro y g hy;by_cases e:y= .B
  ·subst e;exact hr5.boxBl hy
  ·by_cases e2:y= .h
   ·subst e2;injection hy with hy;subst hy;exact hh.box (by rfl)
   ·have hy':d.at y=some g:=by cases y<;>first|exact hy|exact absurd rfl e
    exact(h.t.box y g hy').stp k (kp y e e2 g hy')
 ·refine apart_grow (Y:= .B) (Z:= .B) h.t.apart (fun y g hy=> ?_) (fun ne=>absurd rfl ne);by_cases e:y= .B
  ·subst e;rcases hat with h1|h1
   ·exact .inl (by show bl d.B.1=some g;rw[←h1];exact hy)
   ·refine .inr ⟨fun z hz=> ?_,.inl rfl⟩;have h2:=old g ⟨z,hz⟩;have h3:=h1 g hy;have:=q.size;omega
  ·left;cases y<;>first|exact hy|exact absurd rfl e
 ·show NRow _ base tyI 1 (.slice A' (b.basic++[v]).length c') (b.basic++[v]).length ((b.basic++[v]).map iv6);rw[hl,hxs];exact hr5
 ·intro y g hy;by_cases e:y= .B
  ·subst e;exact hr5.lo hy
  ·have hy':d.at y=some g:=by cases y<;>first|exact hy|exact absurd rfl e
   exact h.lo y g hy'
 ·obtain⟨y,hy⟩:=hS;by_cases e:y= .B
  ·subst e;rcases hat with h1|h1
   ·exact .inl ⟨.B,by show bl d.B.1=some g;rw[←h1];exact hy⟩
   ·exact .inr (h1 g hy)
  ·exact .inl ⟨y,by cases y<;>first|exact hy|exact absurd rfl e⟩
theorem Gro.pushC {ok:Nat→Prop}{w w3 w4:World}{base:Nat}{d:Ad}{b:Tb}{A':Option Addr}{c':Nat}{z:Rat}(h:Gro ok w base d b)(q:Below w.heap.size w w3)(hr:QOwn w4 base (.slice A' (b.cost.length+1) c') (b.cost++[z]))(hgr:w3.grownBy w4 (bl d.C.1))(hat:bl A'=bl d.C.1∨∀k,bl A'=some k→w3.heap.size≤k):Stp (fun k=>k=d.t0∨bl d.C.1=some k) w (w4.setCell ⟨d.t0,5,none⟩ (.slice A' (b.cost.length+1) c'))∧Gro ok (w4.setCell ⟨d.t0,5,none⟩ (.slice A' (b.cost.length+1) c')) base {d with C:=(A',c')} {b with cost:=b.cost++[z]}∧∀g,Ad.S {d with C:=(A',c')} g→d.S g∨w3.heap.size≤g:=by
 obtain⟨k,hh⟩:=h.t.grewX .C (fun e=>by cases e) q hgr 5 (.slice A' (b.cost.length+1) c') rfl;have kp:=fun(y:Tg)(hy:y≠.C)(hh:y≠.h)(g:Nat)(hg:d.at y=some g)=>h.t.keepX hy hh hg;have old:=h.t.lt;have hl:(b.cost++[z]).length=b.cost.length+1:=by rw[List.length_append,List.length_singleton]
 have hne:∀g,bl A'=some g→¬g=d.t0:=fun g hg e=>by
  rcases hat with h1|h1
  ·rw[h1]at hg;have:=h.t.apart .C .h g hg (by rw[e];rfl);cases this
  ·have h2:=h1 g hg;have h3:=old d.t0 ⟨.h,rfl⟩;have:=q.size;omega
 have hb4:Blk w4 d.t0 tyT (headC d b):=(hgr.block d.t0 (h.t.below q).head.lt fun e=>by have:=h.t.apart .C .h d.t0 e.symm rfl;cases this).trans (h.t.below q).head;have hr5:=hr.kept (Stp.wrote (S:=fun k=>k=d.t0) (hb4.box rfl) (gSC w4 d.t0 5 (.slice A' (b.cost.length+1) c')) rfl) (fun g hg=>hne g (by rw[own_bl]at hg;exact hg));refine⟨k,⟨⟨?_,h.t.vl,h.t.vp.stp k fun g e=>kp .V (by simp) (by simp) g e,fun j hj ho=>(h.t.vro j hj ho).stp k (kp (.v j) (by simp) (by simp) _ (h.t.atV hj)),h.t.ba.stp k fun g e=>kp .B (by simp) (by simp) g e,h.t.fr.stp k fun g e=>kp .F (by simp) (by simp) g e,h.t.tl,h.t.tp.stp k fun g e=>kp .T (by simp) (by simp) g e,fun i hi=>(h.t.tr i hi).stp k fun g e=>kp (.l i) (by simp) (by simp) g e,?_,?_,?_⟩,
  h.V.stp k fun g e=>kp .V (by simp) (by simp) g e,h.B.stp k fun g e=>kp .B (by simp) (by simp) g e,h.F.stp k fun g e=>kp .F (by simp) (by simp) g e,h.T.stp k fun g e=>kp .T (by simp) (by simp) g e,?_,?_⟩,fun g hS=> ?_⟩
 ·show Blk _ d.t0 tyT (headC {d with C:=(A',c')} {b with cost:=b.cost++[z]});dsimp only[headC];rw[hl];exact hh
 ·show QRow _ A' (b.cost++[z]);exact QOwn.row (base:=base) (c:=c') (by rw[hl];exact hr5)
 ·intro y g hy;by_cases e:y= .C
  ·subst e;exact(hr5.box g (by rw[own_bl];exact hy)).2
  ·by_cases e2:y= .h
   ·subst e2;injection hy with hy;subst hy;exact hh.box (by rfl)
   ·have hy':d.at y=some g:=by cases y<;>first|exact hy|exact absurd rfl e
    exact(h.t.box y g hy').stp k (kp y e e2 g hy')
 ·refine apart_grow (Y:= .C) (Z:= .C) h.t.apart (fun y g hy=> ?_) (fun ne=>absurd rfl ne);by_cases e:y= .C
  ·subst e;rcases hat with h1|h1
   ·exact .inl (by show bl d.C.1=some g;rw[←h1];exact hy)
   ·refine .inr ⟨fun z hz=> ?_,.inl rfl⟩;have h2:=old g ⟨z,hz⟩;have h3:=h1 g hy;have:=q.size;omega
  ·left;cases y<;>first|exact hy|exact absurd rfl e
 ·show QOwn _ base (.slice A' (b.cost++[z]).length c') (b.cost++[z]);rw[hl];exact hr5
 ·intro y g hy;by_cases e:y= .C
  ·subst e;exact hr5.lo hy
  ·have hy':d.at y=some g:=by cases y<;>first|exact hy|exact absurd rfl e
   exact h.lo y g hy'
 ·obtain⟨y,hy⟩:=hS;by_cases e:y= .C
  ·subst e;rcases hat with h1|h1
   ·exact .inl ⟨.C,by show bl d.C.1=some g;rw[←h1];exact hy⟩
   ·exact .inr (h1 g hy)
  ·exact .inl ⟨y,by cases y<;>first|exact hy|exact absurd rfl e⟩
theorem Gro.pushV {ok:Nat→Prop}{w w3 w4:World}{base:Nat}{d:Ad}{b:Tb}{A':Option Addr}{c' g0:Nat}{x:Vr}(h:Gro ok w base d b)(q:Below w.heap.size w w3)(hv:ok b.vars.length→VAt w3 g0 x)(hvb:Box w3 g0)(hg0:¬d.S g0)(hgb:base≤g0)(hr:NRow w4 base tyV 1 (.slice A' (b.vars.length+1) c') (b.vars.length+1) (d.vs.map vptr++[vptr g0]))(hgr:w3.grownBy w4 (bl d.V.1))(hat:bl A'=bl d.V.1∨∀k,bl A'=some k→w3.heap.size≤k):Stp (fun k=>k=d.t0∨bl d.V.1=some k) w (w4.setCell ⟨d.t0,1,none⟩ (.slice A' (b.vars.length+1) c'))∧Gro ok (w4.setCell ⟨d.t0,1,none⟩ (.slice A' (b.vars.length+1) c')) base {d with V:=(A',c'),vs:=d.vs++[g0]} {b with vars:=b.vars++[x]}∧∀g,Ad.S {d with V:=(A',c'),vs:=d.vs++[g0]} g→d.S g∨(g=g0∨w3.heap.size≤g):=by
 obtain⟨k,hh⟩:=h.t.grewX .V (fun e=>by cases e) q hgr 1 (.slice A' (b.vars.length+1) c') rfl;obtain⟨k3,_⟩:=(h.t.below q).grewX .V (fun e=>by cases e) (Below.refl _ _) hgr 1 (.slice A' (b.vars.length+1) c') rfl;have kp:=fun(y:Tg)(hy:y≠.V)(hh:y≠.h)(g:Nat)(hg:d.at y=some g)=>h.t.keepX hy hh hg;have old:=h.t.lt;have hl:(b.vars++[x]).length=b.vars.length+1:=by rw[List.length_append,List.length_singleton]
 have hl2:(d.vs++[g0]).length=b.vars.length+1:=by rw[List.length_append,List.length_singleton,h.t.vl]
 have hxs:(d.vs++[g0]).map vptr=d.vs.map vptr++[vptr g0]:=by rw[List.map_append];rfl
 have hgk:¬(g0=d.t0∨d.at .V=some g0):=fun e=>by
  rcases e with e|e
  ·exact hg0 ⟨.h,by rw[e];rfl⟩
  ·exact hg0 ⟨.V,e⟩
 have hne:∀g,bl A'=some g→¬g=d.t0:=fun g hg e=>by
  rcases hat with h1|h1
  ·rw[h1]at hg;have:=h.t.apart .V .h g hg (by rw[e];rfl);cases this
  ·have h2:=h1 g hg;have h3:=old d.t0 ⟨.h,rfl⟩;have:=q.size;omega
 have hb4:Blk w4 d.t0 tyT (headC d b):=(hgr.block d.t0 (h.t.below q).head.lt fun e=>by have:=h.t.apart .V .h d.t0 e.symm rfl;cases this).trans (h.t.below q).head;have hr5:=hr.stp (Stp.wrote (S:=fun k=>k=d.t0) (hb4.box rfl) (gSC w4 d.t0 1 (.slice A' (b.vars.length+1) c')) rfl) hne;refine⟨k,⟨⟨?_,?_,?_,fun j hj ho=> ?_,h.t.ba.stp k fun g e=>kp .B (by simp) (by simp) g e,h.t.fr.stp k fun g e=>kp .F (by simp) (by simp) g e,h.t.tl,h.t.tp.stp k fun g e=>kp .T (by simp) (by simp) g e,fun i hi=>(h.t.tr i hi).stp k fun g e=>kp (.l i) (by simp) (by simp) g e,h.t.co.stp k fun g e=>kp .C (by simp) (by simp) g e,?_,?_⟩,
  ?_,h.B.stp k fun g e=>kp .B (by simp) (by simp) g e,h.F.stp k fun g e=>kp .F (by simp) (by simp) g e,h.T.stp k fun g e=>kp .T (by simp) (by simp) g e,h.C.kept k fun g e=>kp .C (by simp) (by simp) g (by rw[own_bl]at e;exact e),?_⟩,fun g hS=> ?_⟩
 ·show Blk _ d.t0 tyT (headC {d with V:=(A',c'),vs:=d.vs++[g0]} {b with vars:=b.vars++[x]});dsimp only[headC];rw[hl];exact hh
 ·show(d.vs++[g0]).length=(b.vars++[x]).length;rw[hl,hl2]
 ·show CRow _ A' (b.vars++[x]).length fun j=>vptr ((d.vs++[g0]).getD j 0);rw[hl];exact hr5.crow fun j hj=>by rw[←hxs];exact map_at _ (by rw[hl2];exact hj)
 ·replace hj:j<(b.vars++[x]).length:=hj;rw[hl]at hj;show VAt _ ((d.vs++[g0]).getD j 0) ((b.vars++[x]).getD j vz);rw[getD_app hj,getD_app (by rw[h.t.vl];exact hj),h.t.vl];by_cases hjl:j<b.vars.length
  ·rw[if_pos hjl,if_pos hjl];exact(h.t.vro j hjl ho).stp k (kp (.v j) (by simp) (by simp) _ (h.t.atV hjl))
  ·rw[if_neg hjl,if_neg hjl];exact(hv (by rw[show b.vars.length=j by omega];exact ho)).stp k3 hgk
 ·intro y g hy;by_cases e:y= .V
  ·subst e;exact hr5.boxBl hy
  ·by_cases e2:y= .h
   ·subst e2;injection hy with hy;subst hy;exact hh.box (by rfl)
   ·by_cases e3:d.at y=some g
    ·exact(h.t.box y g e3).stp k (kp y e e2 g e3)
    ·have hg:g=g0:=by
      cases y<;>first|exact absurd hy e3|exact absurd rfl e|skip
      rename_i j;replace hy:(d.vs++[g0])[j]? =some g:=hy;by_cases hj:j<d.vs.length
      ·rw[List.getElem?_append_left hj]at hy;exact absurd hy e3
      ·rw[List.getElem?_append_right (by omega)]at hy;have:j-d.vs.length=0:=by
        rcases Nat.eq_zero_or_pos (j-d.vs.length) with h0|h0
        ·exact h0
        ·rw[List.getElem?_eq_none (by simp;omega)]at hy;cases hy
       rw[this]at hy;injection hy with hy;exact hy.symm
     subst hg;exact hvb.stp k3 hgk
 ·refine apart_grow (Y:= .V) (Z:= .v d.vs.length) h.t.apart (fun y g hy=> ?_) (fun _ g h1 h2=> ?_)
  ·by_cases e:y= .V
   ·subst e;rcases hat with h1|h1
    ·exact .inl (by show bl d.V.1=some g;rw[←h1];exact hy)
    ·refine .inr ⟨fun z hz=> ?_,.inl rfl⟩;have h2:=old g ⟨z,hz⟩;have h3:=h1 g hy;have:=q.size;omega
   ·by_cases e3:d.at y=some g
    ·exact .inl e3
    ·right;cases y<;>first|exact absurd hy e3|exact absurd rfl e|skip
     rename_i j;replace hy:(d.vs++[g0])[j]? =some g:=hy;by_cases hj:j<d.vs.length
     ·rw[List.getElem?_append_left hj]at hy;exact absurd hy e3
     ·rw[List.getElem?_append_right (by omega)]at hy;have hj0:j-d.vs.length=0:=by
       rcases Nat.eq_zero_or_pos (j-d.vs.length) with h0|h0
       ·exact h0
       ·rw[List.getElem?_eq_none (by simp;omega)]at hy;cases hy
      rw[hj0]at hy;injection hy with hy;refine⟨fun z hz=> ?_,.inr (by rw[show j=d.vs.length by omega])⟩;have hy:g0=g:=hy;rw[←hy]at hz;exact hg0 ⟨z,hz⟩
  ·have h2':(d.vs++[g0])[d.vs.length]? =some g:=h2;rw[List.getElem?_append_right ZL,Nat.sub_self]at h2';injection h2' with h2';have h2':g0=g:=h2';have h1':bl A'=some g:=h1;rcases hat with h3|h3
   ·rw[h3]at h1';rw[←h2']at h1';exact hg0 ⟨.V,h1'⟩
   ·have h4:=h3 g h1';have:=hvb.lt;omega
 ·show NRow _ base tyV 1 (.slice A' (b.vars++[x]).length c') (b.vars++[x]).length ((d.vs++[g0]).map vptr);rw[hl,hxs];exact hr5
 ·intro y g hy;by_cases e:y= .V
  ·subst e;exact hr5.lo hy
  ·by_cases e3:d.at y=some g
   ·exact h.lo y g e3
   ·cases y<;>first|exact absurd hy e3|exact absurd rfl e|skip
    rename_i j;replace hy:(d.vs++[g0])[j]? =some g:=hy;have hg:g=g0:=by
     have:=List.mem_of_getElem? hy;rcases List.mem_append.1 this with h1|h1
     ·by_cases hj:j<d.vs.length
      ·rw[List.getElem?_append_left hj]at hy;exact absurd hy e3
      ·rw[List.getElem?_append_right (by omega)]at hy;exact List.mem_singleton.1 (List.mem_of_getElem? hy)
     ·exact List.mem_singleton.1 h1
    omega
 ·obtain⟨y,hy⟩:=hS;by_cases e:y= .V
  ·subst e;rcases hat with h1|h1
   ·exact .inl ⟨.V,by show bl d.V.1=some g;rw[←h1];exact hy⟩
   ·exact .inr (.inr (h1 g hy))
  ·by_cases e3:d.at y=some g
   ·exact .inl ⟨y,e3⟩
   ·cases y<;>first|exact absurd hy e3|exact absurd rfl e|skip
    rename_i j;replace hy:(d.vs++[g0])[j]? =some g:=hy;by_cases hj:j<d.vs.length
    ·rw[List.getElem?_append_left hj]at hy;exact absurd hy e3
    ·rw[List.getElem?_append_right (by omega)]at hy;exact .inr (.inl (List.mem_singleton.1 (List.mem_of_getElem? hy)))
theorem lineVs_push {d:Ad}{t:List (List Rat)}{line:List Rat}{LA:Option Addr}{cL:Nat}{V:Option Addr×Nat}(hl:d.ls.length=t.length):lineVs {d with T:=V,ls:=d.ls++[(LA,cL)]} (t++[line])=lineVs d t++[.slice LA line.length cL]:=by
 unfold lineVs;rw[List.length_append,List.length_singleton,List.range_succ,List.map_append];congr 1
 ·refine List.map_congr_left fun i hi=> ?_;have hi2:=List.mem_range.1 hi;show Value.slice ((d.ls++[(LA,cL)]).getD i (none,0)).1 ((t++[line]).getD i []).length ((d.ls++[(LA,cL)]).getD i (none,0)).2=_;rw[getD_app (by omega),getD_app (by omega),if_pos (by omega),if_pos hi2]
 ·show[Value.slice ((d.ls++[(LA,cL)]).getD t.length (none,0)).1 ((t++[line]).getD t.length []).length ((d.ls++[(LA,cL)]).getD t.length (none,0)).2]=_;rw[getD_app (by omega),getD_app (by omega),if_neg (by omega),if_neg (by omega)]
theorem lineVs_at {d:Ad}{t:List (List Rat)}{j:Nat}(hj:j<t.length):(lineVs d t)[j]? =some (.slice (d.ls.getD j (none,0)).1 (t.getD j []).length (d.ls.getD j (none,0)).2):=by
 unfold lineVs;rw[List.getElem?_map,List.getElem?_range hj];rfl
theorem Gro.pushT {ok:Nat→Prop}{w w3 w4:World}{base:Nat}{d:Ad}{b:Tb}{A' LA:Option Addr}{c' cL:Nat}{line:List Rat}(h:Gro ok w base d b)(q:Below w.heap.size w w3)(hln:QRow w3 LA line)(hlb:∀g,bl LA=some g→Box w3 g∧¬d.S g∧base≤g)(hr:NRow w4 base tyL 1 (.slice A' (b.t.length+1) c') (b.t.length+1) (lineVs d b.t++[.slice LA line.length cL]))(hgr:w3.grownBy w4 (bl d.T.1))(hat:bl A'=bl d.T.1∨∀k,bl A'=some k→w3.heap.size≤k):Stp (fun k=>k=d.t0∨bl d.T.1=some k) w (w4.setCell ⟨d.t0,4,none⟩ (.slice A' (b.t.length+1) c'))∧Gro ok (w4.setCell ⟨d.t0,4,none⟩ (.slice A' (b.t.length+1) c')) base {d with T:=(A',c'),ls:=d.ls++[(LA,cL)]} {b with t:=b.t++[line]}:=by
 obtain⟨k,hh⟩:=h.t.grewX .T (fun e=>by cases e) q hgr 4 (.slice A' (b.t.length+1) c') rfl;obtain⟨k3,_⟩:=(h.t.below q).grewX .T (fun e=>by cases e) (Below.refl _ _) hgr 4 (.slice A' (b.t.length+1) c') rfl;have kp:=fun(y:Tg)(hy:y≠.T)(hh:y≠.h)(g:Nat)(hg:d.at y=some g)=>h.t.keepX hy hh hg;have old:=h.t.lt;have hl:(b.t++[line]).length=b.t.length+1:=by rw[List.length_append,List.length_singleton]
 have hl2:(d.ls++[(LA,cL)]).length=b.t.length+1:=by rw[List.length_append,List.length_singleton,h.t.tl]
 have hxs:=lineVs_push (line:=line) (LA:=LA) (cL:=cL) (V:=(A',c')) h.t.tl;have hgk:∀g,bl LA=some g→¬(g=d.t0∨d.at .T=some g):=fun g hg e=>by
  rcases e with e|e
  ·exact(hlb g hg).2.1 ⟨.h,by rw[e];rfl⟩
  ·exact(hlb g hg).2.1 ⟨.T,e⟩
 have hne:∀g,bl A'=some g→¬g=d.t0:=fun g hg e=>by
  rcases hat with h1|h1
  ·rw[h1]at hg;have:=h.t.apart .T .h g hg (by rw[e];rfl);cases this
  ·have h2:=h1 g hg;have h3:=old d.t0 ⟨.h,rfl⟩;have:=q.size;omega
 have hb4:Blk w4 d.t0 tyT (headC d b):=(hgr.block d.t0 (h.t.below q).head.lt fun e=>by have:=h.t.apart .T .h d.t0 e.symm rfl;cases this).trans (h.t.below q).head;have hr5:=hr.stp (Stp.wrote (S:=fun k=>k=d.t0) (hb4.box rfl) (gSC w4 d.t0 4 (.slice A' (b.t.length+1) c')) rfl) hne;refine⟨k,⟨⟨?_,h.t.vl,h.t.vp.stp k fun g e=>kp .V (by simp) (by simp) g e,fun j hj ho=>(h.t.vro j hj ho).stp k (kp (.v j) (by simp) (by simp) _ (h.t.atV hj)),h.t.ba.stp k fun g e=>kp .B (by simp) (by simp) g e,h.t.fr.stp k fun g e=>kp .F (by simp) (by simp) g e,?_,?_,fun i hi=> ?_,h.t.co.stp k fun g e=>kp .C (by simp) (by simp) g e,?_,?_⟩,
  h.V.stp k fun g e=>kp .V (by simp) (by simp) g e,h.B.stp k fun g e=>kp .B (by simp) (by simp) g e,h.F.stp k fun g e=>kp .F (by simp) (by simp) g e,?_,h.C.kept k fun g e=>kp .C (by simp) (by simp) g (by rw[own_bl]at e;exact e),?_⟩⟩
 ·show Blk _ d.t0 tyT (headC {d with T:=(A',c'),ls:=d.ls++[(LA,cL)]} {b with t:=b.t++[line]});dsimp only[headC];rw[hl];exact hh
 ·show(d.ls++[(LA,cL)]).length=(b.t++[line]).length;rw[hl,hl2]
 ·show CRow _ A' (b.t++[line]).length fun i=> .slice ((d.ls++[(LA,cL)]).getD i (none,0)).1 ((b.t++[line]).getD i []).length ((d.ls++[(LA,cL)]).getD i (none,0)).2;rw[hl];exact hr5.crow fun j hj=>by
   rw[←hxs];exact lineVs_at (d:={d with T:=(A',c'),ls:=d.ls++[(LA,cL)]}) (t:=b.t++[line]) (by rw[hl];exact hj)
 ·replace hi:i<(b.t++[line]).length:=hi;rw[hl]at hi;show QRow _ ((d.ls++[(LA,cL)]).getD i (none,0)).1 ((b.t++[line]).getD i []);rw[getD_app hi,getD_app (by rw[h.t.tl];exact hi),h.t.tl];by_cases hil:i<b.t.length
  ·rw[if_pos hil,if_pos hil];exact(h.t.tr i hil).stp k fun g e=>kp (.l i) (by simp) (by simp) g e
  ·rw[if_neg hil,if_neg hil];exact hln.stp k3 hgk
 ·intro y g hy;by_cases e:y= .T
  ·subst e;exact hr5.boxBl hy
  ·by_cases e2:y= .h
   ·subst e2;injection hy with hy;subst hy;exact hh.box (by rfl)
   ·by_cases e3:d.at y=some g
    ·exact(h.t.box y g e3).stp k (kp y e e2 g e3)
    ·have hg:bl LA=some g:=by
      cases y<;>first|exact absurd hy e3|exact absurd rfl e|skip
      rename_i j;replace hy:bl ((d.ls++[(LA,cL)]).getD j (none,0)).1=some g:=hy;by_cases hj:j<d.ls.length+1
      ·rw[getD_app hj]at hy;split at hy
       ·exact absurd hy e3
       ·exact hy
      ·rw[gE,List.getElem?_eq_none (by rw[List.length_append,List.length_singleton];omega)]at hy;cases hy
     exact(hlb g hg).1.stp k3 (hgk g hg)
 ·refine apart_grow (Y:= .T) (Z:= .l d.ls.length) h.t.apart (fun y g hy=> ?_) (fun _ g h1 h2=> ?_)
  ·by_cases e:y= .T
   ·subst e;rcases hat with h1|h1
    ·exact .inl (by show bl d.T.1=some g;rw[←h1];exact hy)
    ·refine .inr ⟨fun z hz=> ?_,.inl rfl⟩;have h2:=old g ⟨z,hz⟩;have h3:=h1 g hy;have:=q.size;omega
   ·by_cases e3:d.at y=some g
    ·exact .inl e3
    ·right;cases y<;>first|exact absurd hy e3|exact absurd rfl e|skip
     rename_i j;replace hy:bl ((d.ls++[(LA,cL)]).getD j (none,0)).1=some g:=hy;by_cases hj:j<d.ls.length+1
     ·rw[getD_app hj]at hy;by_cases hjl:j<d.ls.length
      ·rw[if_pos hjl]at hy;exact absurd hy e3
      ·rw[if_neg hjl]at hy;refine⟨fun z hz=>(hlb g hy).2.1 ⟨z,hz⟩,.inr (by rw[show j=d.ls.length by omega])⟩
     ·rw[gE,List.getElem?_eq_none (by rw[List.length_append,List.length_singleton];omega)]at hy;cases hy
  ·replace h2:bl ((d.ls++[(LA,cL)]).getD d.ls.length (none,0)).1=some g:=h2;rw[getD_app (by omega),if_neg (by omega)]at h2;have h1':bl A'=some g:=h1;rcases hat with h3|h3
   ·rw[h3]at h1';exact(hlb g h2).2.1 ⟨.T,h1'⟩
   ·have h4:=h3 g h1';have:=(hlb g h2).1.lt;omega
 ·show NRow _ base tyL 1 (.slice A' (b.t++[line]).length c') (b.t++[line]).length (lineVs {d with T:=(A',c'),ls:=d.ls++[(LA,cL)]} (b.t++[line]));rw[hl,hxs];exact hr5
 ·intro y g hy;by_cases e:y= .T
  ·subst e;exact hr5.lo hy
  ·by_cases e3:d.at y=some g
   ·exact h.lo y g e3
   ·cases y<;>first|exact absurd hy e3|exact absurd rfl e|skip
    rename_i j;replace hy:bl ((d.ls++[(LA,cL)]).getD j (none,0)).1=some g:=hy;by_cases hj:j<d.ls.length+1
    ·rw[getD_app hj]at hy;split at hy
     ·exact absurd hy e3
     ·exact(hlb g hy).2.2
    ·rw[gE,List.getElem?_eq_none (by rw[List.length_append,List.length_singleton];omega)]at hy;cases hy
theorem Gro.below {ok:Nat→Prop}{w w':World}{base:Nat}{d:Ad}{b:Tb}(h:Gro ok w base d b)(q:Below w.heap.size w w'):Gro ok w' base d b:=⟨h.t.below q,h.V.below q,h.B.below q,h.F.below q,h.T.below q,h.C.below q,h.lo⟩
theorem Gro.weak {ok ok':Nat→Prop}{w:World}{base:Nat}{d:Ad}{b:Tb}(h:Gro ok w base d b)(hk:∀j,ok' j→ok j):Gro ok' w base d b:=
 ⟨⟨h.t.head,h.t.vl,h.t.vp,fun j hj ho=>h.t.vro j hj (hk j ho),h.t.ba,h.t.fr,h.t.tl,h.t.tp,h.t.tr,h.t.co,h.t.box,h.t.apart⟩,h.V,h.B,h.F,h.T,h.C,h.lo⟩
theorem Gro.fill {ok:Nat→Prop}{w w':World}{base:Nat}{d:Ad}{b:Tb}{j g:Nat}{q:Rat}(h:Gro ok w base d b)(hj:j<b.vars.length)(hg:d.vs.getD j 0=g)(hok:∀k,k≠j→ok k)(k:Stp (fun i=>i=g) w w')(hv:VAt w' g {b.var j with v:=q})(hb:Box w' g):Gro (fun _=>True) w' base d (b.setV j q):=by
 have hx:=h.t.atV hj;rw[hg]at hx;have ne:∀y i,d.at y=some i→y≠.v j→¬i=g:=fun y i hy hne e=>hne (h.t.apart y (.v j) g (by rw[←e];exact hy) hx);have hl:(b.setV j q).vars.length=b.vars.length:=by simp[Tb.setV]
 have hh:headC d (b.setV j q)=headC d b:=by
  dsimp only[headC];rw[hl];rfl
 refine⟨⟨?_,by rw[hl];exact h.t.vl,by rw[hl];exact h.t.vp.stp k fun i e=>ne .V i e (by simp),fun i hi _=> ?_,h.t.ba.stp k fun i e=>ne .B i e (by simp),h.t.fr.stp k fun i e=>ne .F i e (by simp),h.t.tl,h.t.tp.stp k fun i e=>ne .T i e (by simp),fun i hi=>(h.t.tr i hi).stp k fun r e=>ne (.l i) r e (by simp),h.t.co.stp k fun i e=>ne .C i e (by simp),fun y i hy=> ?_,h.t.apart⟩,
  by rw[hl];exact h.V.stp k fun i e=>ne .V i e (by simp),h.B.stp k fun i e=>ne .B i e (by simp),h.F.stp k fun i e=>ne .F i e (by simp),h.T.stp k fun i e=>ne .T i e (by simp),h.C.kept k fun i e=>ne .C i (by rw[own_bl]at e;exact e) (by simp),h.lo⟩
 ·rw[hh];exact h.t.head.stp k (ne .h _ rfl (by simp))
 ·rw[hl]at hi;rw[var_setV];by_cases e:i=j
  ·subst e;rw[if_pos ⟨rfl,hi⟩,hg];exact hv
  ·rw[if_neg (fun h=>e h.1)];exact(h.t.vro i hi (hok i e)).stp k (ne (.v i) _ (h.t.atV hi) (by simpa using e))
 ·by_cases e:y= .v j
  ·subst e;rw[hx]at hy;injection hy with hy;rw[←hy];exact hb
  ·exact(h.t.box y i hy).stp k (ne y i hy e)
end Go.Proofs.YtecfcjdgmpopjaaGreat
