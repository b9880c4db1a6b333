/-
  Joined texts: Kh, Ki, Kj, Kk.
-/
import Derived.Test.YtecfcjdgmpopjaaGreatKd
import Derived.Deep.MidRow
import Derived.Test.YtecfcjdgmpopjaaGreatKb
set_option maxHeartbeats 8000000
set_option maxRecDepth 100000
set_option linter.unusedSimpArgs false
set_option linter.unusedVariables false
namespace Go.Proofs.YtecfcjdgmpopjaaGreat
open Go.RowKit Num
theorem Mem.rebase {w0 w:World}{Ks:List (Nat×TypeId×Array Value)}{Rs:List (Option Addr×Nat×List Nat)}(M:Mem w0 w Ks Rs):Mem w w Ks Rs:=⟨Below.refl _ _,M.ks,M.rs⟩
def Sh.rq (o:Option Rat):Sh:=⟨fun v w=>∃q A c B d,o=some q∧v=qv q A c B d∧QR w A c B d q,
 fun⟨q,A,c,B,d,h1,h2,h3⟩ k=>⟨q,A,c,B,d,h1,h2,h3.below k⟩,fun⟨q,A,c,B,d,h1,h2,h3⟩ hi hg=>⟨q,A,c,B,d,h1,h2,h3.boxed hi hg⟩⟩
theorem bind_s {α β:Type}{o:Option α}{f:α→Option β}{a:α}{b:β}(h1:o=some a)(h2:f a=some b):o.bind f=some b:=by rw[h1];exact h2
theorem bind_n {α β:Type}{o:Option α}{f:α→Option β}(h1:o=none):o.bind f=none:=by rw[h1];rfl
theorem bind_sn {α β:Type}{o:Option α}{f:α→Option β}{a:α}(h1:o=some a)(h2:f a=none):o.bind f=none:=by rw[h1];exact h2
abbrev qcs (q:Rat)(A:Option Addr)(c:Nat)(B:Option Addr)(d:Nat):Array Value:= #[.bool (sN q.num),.slice A (sD q.num).length c,.bool false,.slice B (dig q.den).length d]
theorem psub_any {w:World}{A B A' B':Option Addr}{c d c' d':Nat}{p q:Rat}(h:QR w A c B d p)(h':QR w A' c' B' d' q):Calls Tryz.prog 120 #[qv p A c B d,qv q A' c' B' d'] w fun e w'=>RetP w w' e (subO p q):=by
 have HT:Hid (subO p q=addO p (-q)):=rfl;generalize subO p q=o at*;have HP:=ZH h;have HQ:=ZH h';clear h h';have M:=(((Mem.start w).new 72 (qcs p A c B d)).newAt (g:=w.heap.size+1) (by simp) 72 (qcs q A' c' B' d')).newAt (g:=w.heap.size+1+1) (by simp) 72 #[.bool false,.slice none 0 0,.bool false,.slice none 0 0];go_enter Tryz.func120,Tryz.ntmps120;go_upto_region 1 with fail;refine region_tail (n:=4) (frame:= ?frame1) (fun jK=>[kF (.agg #[.bool (sN p.num),.slice A (sD p.num).length c,.bool false,.slice B (dig p.den).length d]),kF (.agg #[.bool (sN q.num),.slice A' (sD q.num).length c',.bool false,.slice B' (dig q.den).length d']),.val (Sh.rq (some (-q))),.val (Sh.rq (addO p (-q)))].getD jK .none) (fun s w'=>∃q9 A9 c9 B9 d9,o=some q9∧Mem w w' [(w.heap.size+1+1,72,qcs q9 A9 c9 B9 d9)] []∧QR w' A9 c9 B9 d9 q9) _ (by kernel_rfl) (by kernel_rfl) (by kernel_rfl) rfl rfl (by kernel_rfl) M.rebase ?_ ?_ ?_ ?_
 case refine_1=>
  intro s;simp only[fr,Act.put,zA,zB,zC,zD,zE,zF,Nat.reduceAdd];rfl
 case refine_2=>
  iterate 4 (refine SN ?_ ?_;rotate_left)
  exact Steps.nil;all_goals (intro L s w9 hN hU hi hS K hK;dsimp only at hK⊢;simp only[Act.put,zD,zE,zF]at hK)
  ·obtain⟨u1,u2,u3,u4⟩:=(hS.mem.k (i:=2) rfl).four;go_simp;exact hS.o hK
  ·obtain⟨u1,u2,u3,u4⟩:=(hS.mem.k (i:=1) rfl).four;go_simp;exact hS.o hK
  ·simp only[hS.f hN 1]at hK⊢;go_simp;go_at_call 143;refine(pneg_any (HQ.out.below (bT M.bel hS.mem.bel))).mono ?_;rintro e9 w10 ⟨q,A9,c9,B9,d9,rfl,hq9⟩;exact hK.out _ _ (hS.val rfl (nSo rfl) q ⟨_,A9,c9,B9,d9,rfl,rfl,hq9⟩)
  ·simp only[hS.f hN 0]at hK⊢;obtain⟨q2,A2,c2,B2,d2,o2,e2,h2⟩:=hS.val_at 2 rfl (by decide) (hN.out 2 rfl);simp only[e2]at hK⊢;go_simp;go_at_call 118;refine(padd_any (HP.out.below (bT M.bel hS.mem.bel)) h2).mono ?_;rintro e9 w10 ⟨q,⟨q9,A9,c9,B9,d9,ho9,rfl,hq9⟩|⟨ho9,v9,rfl⟩⟩
   ·exact hK.out _ _ (hS.val rfl (nSo rfl) q ⟨q9,A9,c9,B9,d9,by have:=Option.some.inj o2;subst this;exact ho9,rfl,hq9⟩)
   ·exact⟨rfl,bT (bT M.bel hS.mem.bel) q,.inr ⟨HT.out.trans (by have:=Option.some.inj o2;subst this;exact ho9),v9,rfl⟩⟩
 case refine_3=>
  intro L s w9 hall hS K hK;dsimp only at hK⊢;simp only[Act.put,zD,zE,zF]at hK;obtain⟨q3,A3,c3,B3,d3,o3,e3,h3⟩:=hS.val_at 3 rfl (by decide) (hall 3 (by decide));simp only[e3]at hK⊢;refine ite_of rfl ?_;have b9:=hS.mem.k (i:=0) rfl;refine wp_store_row _ _ _ rfl (w.heap.size+1+1) _ rfl rfl _ _ b9 info_rat rfl (by rw[←Array.all_toList];rfl) ?_;have m9:Mem w w9 _ _:=⟨bT M.bel hS.mem.bel,hS.mem.ks,hS.mem.rs⟩;exact hK.out undef _ ⟨q3,A3,c3,B3,d3,HT.out.trans o3,⟨below_own m9.bel (sRG _ _ _) (by omega),(fun k hk=>by obtain rfl:=List.mem_singleton.1 hk;exact b9.row _),fun _ h=>by simp at h⟩,h3.boxed (b9.box rfl) (sRG _ _ _)⟩
 intro s w9 hR;obtain⟨q9,A9,c9,B9,d9,ho9,M9,hq9⟩:=hR;have HO:Hid (o=some q9):=ho9;have HQ9:=ZH hq9;clear ho9 hq9 HT HP HQ M;obtain⟨f1,f2,f3,f4⟩:=(M9.k (i:=0) rfl).four;go_wp2_with fail;refine bodyPost_ret (v:=qv q9 A9 c9 B9 d9) (by simp[results,Tryz.results120,go_sem,f1,f2,f3,f4]) rfl ⟨M9.bel,.inl ⟨q9,A9,c9,B9,d9,HO.out,rfl,HQ9.out⟩⟩
structure Stp (S:Nat→Prop) (w w':World):Prop where
 os:w'.os=w.os
 tape:w'.tape=w.tape
 output:w'.output=w.output
 size:w.heap.size≤w'.heap.size
 block:∀k,k<w.heap.size→¬S k→w'.heap[k]? =w.heap[k]?
 num:∀{A c xs},Rd w A c xs→Rd w' A c xs
section
variable {S S' : Nat → Prop} {w w' w'' : World}
theorem Stp.refl:Stp S w w:=⟨rfl,rfl,rfl,Nat.le_refl _,fun _ _ _=>rfl,fun h=>h⟩
theorem Stp.trans (h:Stp S w w')(k:Stp S w' w''):Stp S w w'':=
 ⟨k.os.trans h.os,k.tape.trans h.tape,k.output.trans h.output,Nat.le_trans h.size k.size,fun i hi hs=>(k.block i (Nat.lt_of_lt_of_le hi h.size) hs).trans (h.block i hi hs),fun r=>k.num (h.num r)⟩
theorem Stp.of (q:Below w.heap.size w w'):Stp S w w':=⟨q.os,q.tape,q.output,q.size,fun k hk _=>q.block k hk,fun r=>r.below q ZL⟩
theorem Stp.wrote {g:Nat}(hb:Box w g)(hg:w.grownBy w' (some g))(hs:S g):Stp S w w':=
 ⟨hg.os,hg.tape,hg.output,hg.size,fun k hk hn=>hg.block k hk fun e=>hn (by injection e with e;rw[e];exact hs),fun r=>r.boxed hb hg⟩
theorem Stp.mono (h:Stp S w w')(hs:∀k,S k→S' k):Stp S' w w':=⟨h.os,h.tape,h.output,h.size,fun k hk hn=>h.block k hk fun e=>hn (hs k e),h.num⟩
theorem Stp.below {w0:World}{B:Nat}(h:Stp S w w')(hb:Below B w0 w)(hB:B≤w.heap.size)(hs:∀k,S k→B≤k):Below B w0 w':=
 hb.trans ⟨h.os,h.tape,h.output,h.size,fun k hk=>h.block k (Nat.lt_of_lt_of_le hk hB) fun e=>by have:=hs k e;omega⟩
theorem Stp.cell (h:Stp S w w'){g o:Nat}{x:Value}(hc:w.cell? ⟨g,o,none⟩=some x)(hn:¬S g):w'.cell? ⟨g,o,none⟩=some x:=by
 rw[World.cell?_of_block (h.block g (World.block_lt_of_cell? w _ hc) hn)];exact hc
theorem QR.stp {A B:Option Addr}{c d:Nat}{q:Rat}(h:QR w A c B d q)(k:Stp S w w'):QR w' A c B d q:=⟨k.num h.num,k.num h.den,h.few⟩
theorem Box.lt {g:Nat}(h:Box w g):g<w.heap.size:=by
 obtain⟨cs,t,h,_⟩:=h;exact(Array.getElem?_eq_some_iff.1 h).1
theorem Box.stp {g:Nat}(h:Box w g)(k:Stp S w w')(hn:¬S g):Box w' g:=by
 have:=h.lt;obtain⟨cs,t,h,h2⟩:=h;exact⟨cs,t,(k.block g this hn).trans h,h2⟩
theorem Blk.stp {g:Nat}{t:TypeId}{cs:Array Value}(h:Blk w g t cs)(k:Stp S w w')(hn:¬S g):Blk w' g t cs:=(k.block g h.lt hn).trans h
end
def Lk (w:World)(g o:Nat)(x:Value):Prop:=∀w',Below w.heap.size w w'→w'.cell? ⟨g,o,none⟩=some x
theorem Lk.of {w:World}{g o:Nat}{x:Value}(h:w.cell? ⟨g,o,none⟩=some x):Lk w g o x:=fun _ k=>(k.cell (p:=⟨g,o,none⟩) (World.block_lt_of_cell? w _ h)).trans h
def QAt (w:World)(g o:Nat)(q:Rat):Prop:=∃A c B d,w.cell? ⟨g,o,none⟩=some (.bool (sN q.num))∧w.cell? ⟨g,o+1,none⟩=some (.slice A (sD q.num).length c)∧w.cell? ⟨g,o+2,none⟩=some (.bool false)∧
 w.cell? ⟨g,o+3,none⟩=some (.slice B (dig q.den).length d)∧QR w A c B d q
theorem QAt.stp {S:Nat→Prop}{w w':World}{g o:Nat}{q:Rat}(h:QAt w g o q)(k:Stp S w w')(hn:¬S g):QAt w' g o q:=by
 obtain⟨A,c,B,d,h1,h2,h3,h4,h5⟩:=h;exact⟨A,c,B,d,k.cell h1 hn,k.cell h2 hn,k.cell h3 hn,k.cell h4 hn,h5.stp k⟩
def QRow (w:World)(A:Option Addr)(l:List Rat):Prop:=∀j,j<l.length→∃g o,A=some ⟨g,o,none⟩∧QAt w g (o+j*4) (l.getD j 0)
def bl (A:Option Addr):Option Nat:=A.map (·.block)
theorem QRow.stp {S:Nat→Prop}{w w':World}{A:Option Addr}{l:List Rat}(h:QRow w A l)(k:Stp S w w')(hn:∀g,bl A=some g→¬S g):QRow w' A l:=fun j hj=>by
 obtain⟨g,o,rfl,h2⟩:=h j hj;exact⟨g,o,rfl,h2.stp k (hn g rfl)⟩
def CRow (w:World)(A:Option Addr)(n:Nat)(f:Nat→Value):Prop:=∀j,j<n→∃g o,A=some ⟨g,o,none⟩∧w.cell? ⟨g,o+j,none⟩=some (f j)
theorem CRow.stp {S:Nat→Prop}{w w':World}{A:Option Addr}{n:Nat}{f:Nat→Value}(h:CRow w A n f)(k:Stp S w w')(hn:∀g,bl A=some g→¬S g):CRow w' A n f:=fun j hj=>by
 obtain⟨g,o,rfl,h2⟩:=h j hj;exact⟨g,o,rfl,k.cell h2 (hn g rfl)⟩
def SideAt (w:World)(g o:Nat):Option Rat→Prop
 |none=>w.cell? ⟨g,o,none⟩=some (.bool false)
 |some q=>w.cell? ⟨g,o,none⟩=some (.bool true)∧QAt w g (o+1) q
theorem SideAt.stp {S:Nat→Prop}{w w':World}{g o:Nat}{s:Option Rat}(h:SideAt w g o s)(k:Stp S w w')(hn:¬S g):SideAt w' g o s:=by
 cases s with
 |none=>exact k.cell h hn
 |some q=>exact⟨k.cell h.1 hn,h.2.stp k hn⟩
structure VAt (w:World) (g:Nat) (x:Vr):Prop where
 lo:SideAt w g 0 x.lo
 hi:SideAt w g 5 x.hi
 v:QAt w g 10 x.v
theorem VAt.stp {S:Nat→Prop}{w w':World}{g:Nat}{x:Vr}(h:VAt w g x)(k:Stp S w w')(hn:¬S g):VAt w' g x:=⟨h.lo.stp k hn,h.hi.stp k hn,h.v.stp k hn⟩
structure Ad where
 t0:Nat
 V:Option Addr×Nat
 B:Option Addr×Nat
 F:Option Addr×Nat
 T:Option Addr×Nat
 C:Option Addr×Nat
 vs:List Nat
 ls:List (Option Addr×Nat)
inductive Tg
 |h|V|B|F|T|C
 |v (j:Nat)
 |l (i:Nat)
def Ad.at (d:Ad):Tg→Option Nat
 | .h=>some d.t0
 | .V=>bl d.V.1
 | .B=>bl d.B.1
 | .F=>bl d.F.1
 | .T=>bl d.T.1
 | .C=>bl d.C.1
 | .v j=>d.vs[j]?
 | .l i=>bl (d.ls.getD i (none,0)).1
def Ad.S (d:Ad)(g:Nat):Prop:=∃x,d.at x=some g
abbrev iv6 (n:Nat):Value:= .int .i64 (n:Nat)
abbrev vptr (g:Nat):Value:= .pointer (some ⟨g,0,none⟩)
abbrev headC (d:Ad)(b:Tb):Array Value:= #[.int .i64 (b.n:Nat),.slice d.V.1 b.vars.length d.V.2,.slice d.B.1 b.basic.length d.B.2,.slice d.F.1 b.free.length d.F.2,.slice d.T.1 b.t.length d.T.2,.slice d.C.1 b.cost.length d.C.2,.int .i64 (b.left:Nat)]
structure TAtO (ok:Nat→Prop) (ty:TypeId) (w:World) (d:Ad) (b:Tb):Prop where
 head:Blk w d.t0 ty (headC d b)
 vl:d.vs.length=b.vars.length
 vp:CRow w d.V.1 b.vars.length fun j=>vptr (d.vs.getD j 0)
 vro:∀j,j<b.vars.length→ok j→VAt w (d.vs.getD j 0) (b.var j)
 ba:CRow w d.B.1 b.basic.length fun j=>iv6 (b.basic.getD j 0)
 fr:CRow w d.F.1 b.free.length fun j=>iv6 (b.free.getD j 0)
 tl:d.ls.length=b.t.length
 tp:CRow w d.T.1 b.t.length fun i=> .slice (d.ls.getD i (none,0)).1 (b.t.getD i []).length (d.ls.getD i (none,0)).2
 tr:∀i,i<b.t.length→QRow w (d.ls.getD i (none,0)).1 (b.t.getD i [])
 co:QRow w d.C.1 b.cost
 box:∀x g,d.at x=some g→Box w g
 apart:∀x y g,d.at x=some g→d.at y=some g→x=y
abbrev TAt (ty:TypeId)(w:World)(d:Ad)(b:Tb):Prop:=TAtO (fun _=>True) ty w d b
theorem TAtO.vr {ty:TypeId}{w:World}{d:Ad}{b:Tb}(h:TAtO (fun _=>True) ty w d b)(j:Nat)(hj:j<b.vars.length):VAt w (d.vs.getD j 0) (b.var j):=h.vro j hj trivial
section
variable {ty : TypeId} {ok S : Nat → Prop} {w w' : World} {d : Ad} {b : Tb}
theorem TAtO.stp (h:TAtO ok ty w d b)(k:Stp S w w')(hn:∀g,d.S g→¬S g):TAtO ok ty w' d b:=by
 have hv:∀j,j<b.vars.length→¬S (d.vs.getD j 0):=fun j hj=>hn _ ⟨.v j,by
  show d.vs[j]? =some _;rw[gE,gG (by rw[h.vl];exact hj)];rfl⟩
 exact⟨h.head.stp k (hn _ ⟨.h,rfl⟩),h.vl,h.vp.stp k fun g e=>hn g ⟨.V,e⟩,fun j hj ho=>(h.vro j hj ho).stp k (hv j hj),h.ba.stp k fun g e=>hn g ⟨.B,e⟩,h.fr.stp k fun g e=>hn g ⟨.F,e⟩,h.tl,h.tp.stp k fun g e=>hn g ⟨.T,e⟩,
  fun i hi=>(h.tr i hi).stp k fun g e=>hn g ⟨.l i,e⟩,h.co.stp k fun g e=>hn g ⟨.C,e⟩,fun x g e=>(h.box x g e).stp k (hn g ⟨x,e⟩),h.apart⟩
theorem TAtO.below (h:TAtO ok ty w d b)(q:Below w.heap.size w w'):TAtO ok ty w' d b:=h.stp (S:=fun _=>False) (Stp.of q) fun _ _ e=>e
theorem TAtO.lt (h:TAtO ok ty w d b):∀g,d.S g→g<w.heap.size:=fun g ⟨x,e⟩=>(h.box x g e).lt
theorem TAtO.atV (h:TAtO ok ty w d b){j:Nat}(hj:j<b.vars.length):d.at (.v j)=some (d.vs.getD j 0):=by
 show d.vs[j]? =some _;rw[gE,gG (by rw[h.vl];exact hj)];rfl
theorem TAtO.wrote {b':Tb}{g:Nat}(x:Tg)(h:TAt ty w d b)(hx:d.at x=some g)(hg:w.grownBy w' (some g))(hb:Box w' g)(vl:b'.vars.length=b.vars.length)(vr:(∀j,j<b.vars.length→Tg.v j≠x→VAt w' (d.vs.getD j 0) (b.var j))→∀j,j<b.vars.length→VAt w' (d.vs.getD j 0) (b'.var j))(bl:b'.basic.length=b.basic.length)(ba:(x≠.B→CRow w' d.B.1 b.basic.length fun j=>iv6 (b.basic.getD j 0))→CRow w' d.B.1 b.basic.length fun j=>iv6 (b'.basic.getD j 0))(fl:b'.free.length=b.free.length)(fr:(x≠.F→CRow w' d.F.1 b.free.length fun j=>iv6 (b.free.getD j 0))→CRow w' d.F.1 b.free.length fun j=>iv6 (b'.free.getD j 0))(tl:b'.t.length=b.t.length)(tll:∀i,(b'.t.getD i []).length=(b.t.getD i []).length)(tr:(∀i,i<b.t.length→Tg.l i≠x→QRow w' (d.ls.getD i (none,0)).1 (b.t.getD i []))→∀i,i<b.t.length→QRow w' (d.ls.getD i (none,0)).1 (b'.t.getD i []))(co:(x≠.C→QRow w' d.C.1 b.cost)→QRow w' d.C.1 b'.cost)(hh:x= .h→Blk w' d.t0 ty (headC d b'))(hV:x≠.V)(hT:x≠.T)(hhead:headC d b=headC d b'∨x= .h):TAt ty w' d b':=by
 have hbox:=h.box x g hx;have k:Stp (fun k=>k=g) w w':=Stp.wrote hbox hg rfl;have ne:∀y g',d.at y=some g'→y≠x→¬g'=g:=fun y g' hy hne e=>hne (h.apart y x g (by rw[←e];exact hy) hx);refine⟨?_,by rw[vl];exact h.vl,?_,?_,?_,?_,by rw[tl];exact h.tl,?_,?_,?_,fun y g' hy=> ?_,h.apart⟩
 ·rcases hhead with e|e
  ·by_cases hxh:x= .h
   ·exact hh hxh
   ·rw[←e];exact h.head.stp k (ne .h _ rfl fun e=>hxh e.symm)
  ·exact hh e
 ·rw[vl];exact h.vp.stp k fun g' e=>ne .V g' e fun e=>hV e.symm
 ·rw[vl];exact fun j hj _=>vr (fun j hj hne=>(h.vr j hj).stp k (ne (.v j) _ (h.atV hj) hne)) j hj
 ·rw[bl];exact ba fun hne=>h.ba.stp k fun g' e=>ne .B g' e fun e=>hne e.symm
 ·rw[fl];exact fr fun hne=>h.fr.stp k fun g' e=>ne .F g' e fun e=>hne e.symm
 ·rw[tl];simp only[tll];exact h.tp.stp k fun g' e=>ne .T g' e fun e=>hT e.symm
 ·rw[tl];exact tr fun i hi hne=>(h.tr i hi).stp k fun g' e=>ne (.l i) g' e hne
 ·exact co fun hne=>h.co.stp k fun g' e=>ne .C g' e fun e=>hne e.symm
 ·by_cases e:y=x
  ·subst e;rw[hx]at hy;injection hy with hy;rw[←hy];exact hb
  ·exact(h.box y g' hy).stp k (ne y g' hy e)
end
theorem set_getD {α:Type}{l:List α}{i j:Nat}{v z:α}(hi:i<l.length):(l.set i v).getD j z=if j=i then v else l.getD j z:=by
 rw[gE];by_cases e:j=i
 ·subst e;rw[List.getElem?_set_self hi,if_pos rfl];rfl
 ·rw[List.getElem?_set_ne (fun e2=>e e2.symm),if_neg e,←gE]
theorem Box.setCell {w:World}{g o:Nat}{v:Value}(h:Box w g)(hv:nu v=true):Box (w.setCell ⟨g,o,none⟩ v) g:=by
 obtain⟨cs,t,h,hn⟩:=h;refine⟨cs.setIfInBounds o v,t,Blk.set_ h o v,List.all_eq_true.2 fun x hx=> ?_⟩;rw[Array.toList_setIfInBounds]at hx;rcases List.mem_or_eq_of_mem_set hx with h1|h1
 ·exact List.all_eq_true.1 hn x h1
 ·rw[h1];exact hv
theorem gSC (w:World)(g o:Nat)(v:Value):w.grownBy (w.setCell ⟨g,o,none⟩ v) (some g):=
 ⟨rfl,rfl,rfl,by simp[World.setCell],fun k _ hne=>by
  have hk:g≠k:=fun e=>hne (by rw[e]);simp[World.setCell,Array.getElem?_modify,hk]⟩
theorem grown_trans1 {w w1 w2:World}{g:Nat}(h:w.grownBy w1 (some g))(k:w1.grownBy w2 (some g)):w.grownBy w2 (some g):=
 ⟨k.os.trans h.os,k.tape.trans h.tape,k.output.trans h.output,Nat.le_trans h.size k.size,fun i hi hs=>(k.block i (Nat.lt_of_lt_of_le hi h.size) hs).trans (h.block i hi hs)⟩
theorem grown_refl1 (w:World)(g:Nat):w.grownBy w (some g):=⟨rfl,rfl,rfl,Nat.le_refl _,fun _ _ _=>rfl⟩
theorem cells_put {g:Nat}:∀(vs:List Value)(o:Nat)(w:World),Box w g→vs.all nu=true→w.grownBy (w.setCells g o vs) (some g)∧Box (w.setCells g o vs) g
 |[],o,w,hb,_=>⟨grown_refl1 w g,hb⟩
 |v::r,o,w,hb,hv=>by
  rw[List.all_cons,Bool.and_eq_true]at hv;rw[World.setCells];obtain⟨h1,h2⟩:=cells_put r (o+1) _ (hb.setCell (o:=o) hv.1) hv.2;exact⟨grown_trans1 (gSC w g o v) h1,h2⟩
theorem Box.there {w:World}{g o n:Nat}(hb:Box w g)(h:∀j,j<n→(w.cell? ⟨g,o+j,none⟩).isSome=true):w.there g o n:=fun j hj=>⟨h j hj,by
 obtain⟨cs,t,h,_⟩:=hb;exact Blk.frozen h (o+j)⟩
theorem QAt.there {w:World}{g o:Nat}{q:Rat}(h:QAt w g o q)(hb:Box w g):w.there g o 4:=hb.there fun j hj=>by
 obtain⟨A,c,B,d,h1,h2,h3,h4,_⟩:=h;match j,hj with
 |0,_=>show(w.cell? ⟨g,o,none⟩).isSome=true;rw[h1];rfl
 |1,_=>rw[h2];rfl
 |2,_=>rw[h3];rfl
 |3,_=>rw[h4];rfl
theorem put_q {w:World}{g o c d:Nat}{A B:Option Addr}{q q0:Rat}(h:QAt w g o q0)(hb:Box w g)(hq:QR w A c B d q):w.grownBy (w.setCells g o (qcs q A c B d).toList) (some g)∧Box (w.setCells g o (qcs q A c B d).toList) g∧QAt (w.setCells g o (qcs q A c B d).toList) g o q∧∀o',o'<o∨o+4≤o'→(w.setCells g o (qcs q A c B d).toList).cell? ⟨g,o',none⟩=w.cell? ⟨g,o',none⟩:=by
 obtain⟨h1,h2⟩:=cells_put (qcs q A c B d).toList o w hb rfl;have ht:=h.there hb;have hr:=World.rangeAt_setCells_same w g o (qcs q A c B d).toList ht;refine⟨h1,h2,⟨A,c,B,d,hr 0 _ rfl,hr 1 _ rfl,hr 2 _ rfl,hr 3 _ rfl,hq.boxed hb h1⟩,fun o' ho=> ?_⟩;exact World.cell?_setCells_out g _ o w ⟨g,o',none⟩ fun _ _=>by
  rcases ho with ho|ho
  ·exact .inl ho
  ·exact .inr ho
theorem QAt.other {w w':World}{g o o':Nat}{q:Rat}(h:QAt w g o' q)(hb:Box w g)(hg:w.grownBy w' (some g))(hc:∀o',o'<o∨o+4≤o'→w'.cell? ⟨g,o',none⟩=w.cell? ⟨g,o',none⟩)(ha:o'+4≤o∨o+4≤o'):QAt w' g o' q:=by
 obtain⟨A,c,B,d,h1,h2,h3,h4,h5⟩:=h;exact⟨A,c,B,d,(hc _ (by omega)).trans h1,(hc _ (by omega)).trans h2,(hc _ (by omega)).trans h3,(hc _ (by omega)).trans h4,h5.boxed hb hg⟩
theorem QRow.at {w:World}{g o j:Nat}{l:List Rat}(h:QRow w (some ⟨g,o,none⟩) l)(hj:j<l.length):QAt w g (o+j*4) (l.getD j 0):=by
 obtain⟨g',o',e,h0⟩:=h j hj;injection e with e;injection e with e1 e2;subst e1 e2;exact h0
theorem CRow.at {w:World}{g o j n:Nat}{f:Nat→Value}(h:CRow w (some ⟨g,o,none⟩) n f)(hj:j<n):w.cell? ⟨g,o+j,none⟩=some (f j):=by
 obtain⟨g',o',e,h0⟩:=h j hj;injection e with e;injection e with e1 e2;subst e1 e2;exact h0
theorem QRow.put {w:World}{g o j c d:Nat}{A B:Option Addr}{q:Rat}{l:List Rat}(h:QRow w (some ⟨g,o,none⟩) l)(hj:j<l.length)(hb:Box w g)(hq:QR w A c B d q):w.there g (o+j*4) 4∧w.grownBy (w.setCells g (o+j*4) (qcs q A c B d).toList) (some g)∧Box (w.setCells g (o+j*4) (qcs q A c B d).toList) g∧QRow (w.setCells g (o+j*4) (qcs q A c B d).toList) (some ⟨g,o,none⟩) (l.set j q):=by
 have h0:=h.at hj;obtain⟨h1,h2,h3,h4⟩:=put_q h0 hb hq;refine⟨h0.there hb,h1,h2,fun i hi=>⟨g,o,rfl,?_⟩⟩;rw[List.length_set]at hi;by_cases e:i=j
 ·subst e;rw[gE,List.getElem?_set_self hi];exact h3
 ·rw[gE,List.getElem?_set_ne (fun e2=>e e2.symm),←gE];have h5:=h.at hi;refine h5.other hb h1 h4 ?_;rcases Nat.lt_or_gt_of_ne e with h|h
  ·left;omega
  ·right;omega
theorem CRow.put {w:World}{g o j n:Nat}{v:Value}{f:Nat→Value}(h:CRow w (some ⟨g,o,none⟩) n f)(hj:j<n)(hb:Box w g)(hv:nu v=true):w.grownBy (w.setCell ⟨g,o+j,none⟩ v) (some g)∧Box (w.setCell ⟨g,o+j,none⟩ v) g∧CRow (w.setCell ⟨g,o+j,none⟩ v) (some ⟨g,o,none⟩) n fun i=>if i=j then v else f i:=by
 refine⟨gSC w g _ v,hb.setCell hv,fun i hi=>⟨g,o,rfl,?_⟩⟩;have h5:=h.at hi;by_cases e:i=j
 ·subst e;show _=some (if i=i then v else f i);rw[if_pos rfl];exact World.cell?_setCell_same w _ v h5
 ·show _=some (if i=j then v else f i);rw[if_neg e,World.cell?_setCell_other _ _ _ _ (fun e2=>e (by injection e2 with _ e2;omega))];exact h5
section
variable {ty : TypeId} {w w' : World} {d : Ad} {b : Tb}
theorem TAtO.putV (h:TAt ty w d b){j:Nat}(hj:j<b.vars.length){A B:Option Addr}{c e:Nat}{q:Rat}(hq:QR w A c B e q):w.there (d.vs.getD j 0) 10 4∧Stp d.S w (w.setCells (d.vs.getD j 0) 10 (qcs q A c B e).toList)∧TAt ty (w.setCells (d.vs.getD j 0) 10 (qcs q A c B e).toList) d (b.setV j q):=by
 have hx:=h.atV hj;have hb:=h.box _ _ hx;have hv:=h.vr j hj;obtain⟨h1,h2,h3,h4⟩:=put_q hv.v hb hq;have hne:Tg.v j≠Tg.h:=fun e=>by cases e
 refine⟨hv.v.there hb,Stp.wrote hb h1 ⟨_,hx⟩,h.wrote (.v j) hx h1 h2 (by simp[Tb.setV]) (fun hr i hi=> ?_) rfl (fun k=>k (fun e=>by cases e)) rfl (fun k=>k (fun e=>by cases e)) rfl (fun _=>rfl) (fun k i hi=>k i hi (fun e=>by cases e)) (fun k=>k (fun e=>by cases e)) (fun e=>by cases e) (fun e=>by cases e) (fun e=>by cases e) (.inl (by simp[Tb.setV]))⟩;by_cases e:i=j
 ·subst e;have hw:(b.setV i q).var i={b.var i with v:=q}:=by
   unfold Tb.setV;show(b.vars.set i _).getD i vz=_;rw[gE,List.getElem?_set_self hi];rfl
  rw[hw];have side:∀(o:Nat)(s:Option Rat),(o=0∨o=5)→SideAt w (d.vs.getD i 0) o s→SideAt (w.setCells (d.vs.getD i 0) 10 (qcs q A c B e).toList) (d.vs.getD i 0) o s:=fun o s ho hs=>by
   cases s with
   |none=>exact(h4 o (by omega)).trans hs
   |some q'=>exact⟨(h4 o (by omega)).trans hs.1,hs.2.other hb h1 h4 (by omega)⟩
  exact⟨side 0 _ (.inl rfl) hv.lo,side 5 _ (.inr rfl) hv.hi,h3⟩
 ·have hw:(b.setV j q).var i=b.var i:=by
   unfold Tb.setV Tb.var;show(b.vars.set j _).getD i vz=_;rw[gE,List.getElem?_set_ne (fun e2=>e e2.symm),←gE]
  rw[hw];exact hr i hi (fun e2=>e (by injection e2))
theorem TAtO.putLine (h:TAt ty w d b){i g:Nat}(hi:i<b.t.length){l:List Rat}(hg:bl (d.ls.getD i (none,0)).1=some g)(h1:w.grownBy w' (some g))(h2:Box w' g)(h3:QRow w' (d.ls.getD i (none,0)).1 l)(hl:l.length=(b.t.getD i []).length):TAt ty w' d {b with t:=b.t.set i l}:=by
 refine h.wrote (.l i) hg h1 h2 rfl (fun k j hj=>k j hj (fun e=>by cases e)) rfl (fun k=>k (fun e=>by cases e)) rfl (fun k=>k (fun e=>by cases e)) (by simp) (fun j=> ?_) (fun k j hj=> ?_) (fun k=>k (fun e=>by cases e)) (fun e=>by cases e) (fun e=>by cases e) (fun e=>by cases e) (.inl (by simp))
 ·show((b.t.set i l).getD j []).length=_;rw[gE];by_cases e:j=i
  ·subst e;rw[List.getElem?_set_self hi];exact hl
  ·rw[List.getElem?_set_ne (fun e2=>e e2.symm),←gE]
 ·show QRow w' _ ((b.t.set i l).getD j []);rw[set_getD hi];by_cases e:j=i
  ·subst e;rw[if_pos rfl];exact h3
  ·rw[if_neg e];exact k j hj (fun e2=>e (by injection e2))
theorem TAtO.putCost (h:TAt ty w d b){g:Nat}{l:List Rat}(hg:bl d.C.1=some g)(h1:w.grownBy w' (some g))(h2:Box w' g)(h3:QRow w' d.C.1 l)(hl:l.length=b.cost.length):TAt ty w' d {b with cost:=l}:=
 h.wrote .C hg h1 h2 rfl (fun k j hj=>k j hj (fun e=>by cases e)) rfl (fun k=>k (fun e=>by cases e)) rfl (fun k=>k (fun e=>by cases e)) rfl (fun _=>rfl) (fun k j hj=>k j hj (fun e=>by cases e)) (fun _=>h3) (fun e=>by cases e) (fun e=>by cases e) (fun e=>by cases e) (.inl (by simp[hl]))
theorem TAtO.putB (h:TAt ty w d b){i v g o:Nat}(hi:i<b.basic.length)(hB:d.B.1=some ⟨g,o,none⟩):Stp d.S w (w.setCell ⟨g,o+i,none⟩ (iv6 v))∧TAt ty (w.setCell ⟨g,o+i,none⟩ (iv6 v)) d {b with basic:=b.basic.set i v}:=by
 have hx:d.at .B=some g:=by show bl d.B.1=_;rw[hB];rfl
 have hba:=h.ba;rw[hB]at hba;obtain⟨h1,h2,h3⟩:=hba.put hi (h.box _ _ hx) (v:=iv6 v) rfl;refine⟨Stp.wrote (h.box _ _ hx) h1 ⟨_,hx⟩,h.wrote .B hx h1 h2 rfl (fun k j hj=>k j hj (fun e=>by cases e)) (by simp) (fun k=> ?_) rfl (fun k=>k (fun e=>by cases e)) rfl (fun _=>rfl) (fun k j hj=>k j hj (fun e=>by cases e)) (fun k=>k (fun e=>by cases e)) (fun e=>by cases e) (fun e=>by cases e) (fun e=>by cases e) (.inl (by simp))⟩;rw[hB];intro j hj;obtain⟨g',o',e,hc⟩:=h3 j hj;refine⟨g',o',e,hc.trans ?_⟩;show some (if j=i then iv6 v else iv6 (b.basic.getD j 0))=some (iv6 ((b.basic.set i v).getD j 0));rw[set_getD hi];split<;>rfl
theorem TAtO.putF (h:TAt ty w d b){i v g o:Nat}(hi:i<b.free.length)(hB:d.F.1=some ⟨g,o,none⟩):Stp d.S w (w.setCell ⟨g,o+i,none⟩ (iv6 v))∧TAt ty (w.setCell ⟨g,o+i,none⟩ (iv6 v)) d {b with free:=b.free.set i v}:=by
 have hx:d.at .F=some g:=by show bl d.F.1=_;rw[hB];rfl
 have hba:=h.fr;rw[hB]at hba;obtain⟨h1,h2,h3⟩:=hba.put hi (h.box _ _ hx) (v:=iv6 v) rfl;refine⟨Stp.wrote (h.box _ _ hx) h1 ⟨_,hx⟩,h.wrote .F hx h1 h2 rfl (fun k j hj=>k j hj (fun e=>by cases e)) rfl (fun k=>k (fun e=>by cases e)) (by simp) (fun k=> ?_) rfl (fun _=>rfl) (fun k j hj=>k j hj (fun e=>by cases e)) (fun k=>k (fun e=>by cases e)) (fun e=>by cases e) (fun e=>by cases e) (fun e=>by cases e) (.inl (by simp))⟩;rw[hB];intro j hj;obtain⟨g',o',e,hc⟩:=h3 j hj;refine⟨g',o',e,hc.trans ?_⟩;show some (if j=i then iv6 v else iv6 (b.free.getD j 0))=some (iv6 ((b.free.set i v).getD j 0));rw[set_getD hi];split<;>rfl
theorem TAtO.putLeft (h:TAt ty w d b)(n:Nat):Stp d.S w (w.setCell ⟨d.t0,6,none⟩ (iv6 n))∧TAt ty (w.setCell ⟨d.t0,6,none⟩ (iv6 n)) d {b with left:=n}:=by
 have hb:=h.box .h _ rfl;have h1:=gSC w d.t0 6 (iv6 n);have h2:=hb.setCell (o:=6) (v:=iv6 n) rfl;refine⟨Stp.wrote hb h1 ⟨.h,rfl⟩,h.wrote .h rfl h1 h2 rfl (fun k j hj=>k j hj (fun e=>by cases e)) rfl (fun k=>k (fun e=>by cases e)) rfl (fun k=>k (fun e=>by cases e)) rfl (fun _=>rfl) (fun k j hj=>k j hj (fun e=>by cases e)) (fun k=>k (fun e=>by cases e)) (fun _=> ?_) (fun e=>by cases e) (fun e=>by cases e) (.inr rfl)⟩;exact h.head.set_ 6 (iv6 n)
end
theorem cmpQ_lss (a b:Rat):decide (cmpQ a b<0)=decide (a<b):=by
 unfold cmpQ;by_cases h:a<b
 ·rw[if_pos h,dT h];rfl
 ·rw[if_neg h,dF h];split<;>rfl
theorem cmpQ_gtr (a b:Rat):decide (0<cmpQ a b)=decide (b<a):=by
 unfold cmpQ;by_cases h:a<b
 ·rw[if_pos h,dF (fun h2=>absurd (Std.lt_trans h h2) Rat.lt_irrefl)];rfl
 ·rw[if_neg h];by_cases h2:b<a
  ·rw[if_pos h2,dT h2];rfl
  ·rw[if_neg h2,dF h2];rfl
theorem vbelow_any {w:World}{g:Nat}{x:Vr}(h:VAt w g x):Calls Tryz.prog 179 #[vptr g] w fun e w'=>e= .returned (.bool x.below)∧Below w.heap.size w w':=by
 have M:=Mem.start w;obtain⟨lo,hi,v⟩:=x;have hs:SideAt w g 0 lo:=h.lo;obtain⟨A,c,B,d,v1,v2,v3,v4,hq⟩:=h.v;have V1:=Lk.of v1;have V2:=Lk.of v2;have V3:=Lk.of v3;have V4:=Lk.of v4;have HQ:=ZH hq;clear h v1 v2 v3 v4 hq;cases lo with
 |none=>
  have S0:=Lk.of hs;clear hs;go_enter Tryz.func179,Tryz.ntmps179;go_upto_region 1 with fail;refine region_st (n:=19) (frame:= ?frame1) (fun jK=>[kP g 0,kP g 0,kP g 0,kP g 0,kB false,kB false,.none,.none,.none,.none,.none,.none,.none,.none,.none,.none,.none,kB false,kB false].getD jK .none) [] (by kernel_rfl) (by kernel_rfl) (by kernel_rfl) rfl M (fun _ h=>by cases h) (fun _ h=>by cases h) ?_ ?_ ?_
  case refine_1=>
   intro s;simp only[fr,Act.put,zA,zB,zC,zD,zE,zF,Nat.reduceAdd];rfl
  case refine_2=>
   iterate 19 (refine SN ?_ ?_;rotate_left)
   exact Steps.nil;all_goals (intro L s w9 hN hU hi hS K hK;dsimp only at hK⊢;simp only[Act.put,zD,zE,zF]at hK)
   ·go_simp;exact hS.o hK
   ·simp only[hS.f hN 0]at hK⊢;go_simp;exact hS.o hK
   ·simp only[hS.f hN 1]at hK⊢;go_simp;exact hS.o hK
   ·simp only[hS.f hN 2]at hK⊢;go_simp;exact hS.o hK
   ·simp only[hS.f hN 3]at hK⊢;have u0:=S0 _ hS.mem.bel;go_simp;exact hS.o hK
   ·simp only[hS.f hN 4]at hK⊢;go_simp;exact hS.o hK
   iterate 11 (simp only[hS.f hN 5]at hK⊢;go_simp;exact hS.u hK)
   ·simp only[hS.f hN 5]at hK⊢;go_simp;exact hS.o hK
   ·simp only[hS.f hN 17]at hK⊢;go_simp;exact hS.o hK
  intro L s w9 hall hS;have e9:=hS.fx 18 rfl rfl (hall 18 (by decide));have q9:=hS.mem.bel;clear hS hall;go_wp2_with fail;exact bodyPost_ret (v:= .bool false) (by simp[results,Tryz.results179,go_sem,e9]) rfl ⟨rfl,q9⟩
 |some l=>
  obtain⟨hs,A',c',B',d',v1,v2,v3,v4,hq⟩:=hs;have S0:=Lk.of hs;have S1:=Lk.of v1;have S2:=Lk.of v2;have S3:=Lk.of v3;have S4:=Lk.of v4;have HQ':=ZH hq;clear hs v1 v2 v3 v4 hq;have HE:Hid ((.bool (Vr.below ⟨some l,hi,v⟩):Value)= .bool (decide (cmpQ v l<0))):=by
   show _=_;rw[cmpQ_lss];rfl
  go_enter Tryz.func179,Tryz.ntmps179;go_upto_region 1 with fail;refine region_st (n:=19) (frame:= ?frame2) (fun jK=>[kP g 0,kP g 0,kP g 0,kP g 0,kB true,kB true,kP g 0,kP g 0,kP g 10,kF (qv v A c B d),kP g 0,kP g 0,kP g 0,kP g 1,kF (qv l A' c' B' d'),kI ((cmpQ v l)),kB ((decide (cmpQ v l<0))),kB ((decide (cmpQ v l<0))),kB ((decide (cmpQ v l<0)))].getD jK .none) [] (by kernel_rfl) (by kernel_rfl) (by kernel_rfl) rfl M (fun _ h=>by cases h) (fun _ h=>by cases h) ?_ ?_ ?_
  case refine_1=>
   intro s;simp only[fr,Act.put,zA,zB,zC,zD,zE,zF,Nat.reduceAdd];rfl
  case refine_2=>
   iterate 19 (refine SN ?_ ?_;rotate_left)
   exact Steps.nil;all_goals (intro L s w9 hN hU hi hS K hK;dsimp only at hK⊢;simp only[Act.put,zD,zE,zF]at hK)
   ·go_simp;exact hS.o hK
   ·simp only[hS.f hN 0]at hK⊢;go_simp;exact hS.o hK
   ·simp only[hS.f hN 1]at hK⊢;go_simp;exact hS.o hK
   ·simp only[hS.f hN 2]at hK⊢;go_simp;exact hS.o hK
   ·simp only[hS.f hN 3]at hK⊢;have u0:=S0 _ hS.mem.bel;go_simp;exact hS.o hK
   ·simp only[hS.f hN 4]at hK⊢;go_simp;exact hS.o hK
   ·simp only[hS.f hN 5]at hK⊢;go_simp;exact hS.o hK
   ·simp only[hS.f hN 6,hS.f hN 5]at hK⊢;go_simp;exact hS.o hK
   ·simp only[hS.f hN 7,hS.f hN 5]at hK⊢;go_simp;exact hS.o hK
   ·simp only[hS.f hN 8,hS.f hN 5]at hK⊢;have u0:=V1 _ hS.mem.bel;have u1:=V2 _ hS.mem.bel;have u2:=V3 _ hS.mem.bel;have u3:=V4 _ hS.mem.bel;go_simp;exact hS.o hK
   ·simp only[hS.f hN 5]at hK⊢;go_simp;exact hS.o hK
   ·simp only[hS.f hN 10,hS.f hN 5]at hK⊢;go_simp;exact hS.o hK
   ·simp only[hS.f hN 11,hS.f hN 5]at hK⊢;go_simp;exact hS.o hK
   ·simp only[hS.f hN 12,hS.f hN 5]at hK⊢;go_simp;exact hS.o hK
   ·simp only[hS.f hN 13,hS.f hN 5]at hK⊢;have u0:=S1 _ hS.mem.bel;have u1:=S2 _ hS.mem.bel;have u2:=S3 _ hS.mem.bel;have u3:=S4 _ hS.mem.bel;go_simp;exact hS.o hK
   ·simp only[hS.f hN 9,hS.f hN 14,hS.f hN 5]at hK⊢;go_simp;go_at_call 200;refine(pcmp_any (HQ.out.below hS.mem.bel) (HQ'.out.below hS.mem.bel)).mono ?_;rintro e9 w10 ⟨rfl,q⟩;exact hK.out _ _ (hS.val rfl (nSo rfl) q rfl)
   ·simp only[hS.f hN 15,hS.f hN 5]at hK⊢;go_simp;exact hS.o hK
   ·simp only[hS.f hN 5,hS.f hN 16]at hK⊢;go_simp;exact hS.o hK
   ·simp only[hS.f hN 17]at hK⊢;go_simp;exact hS.o hK
  intro L s w9 hall hS;have e9:=hS.fx 18 rfl rfl (hall 18 (by decide));have q9:=hS.mem.bel;clear hS hall;go_wp2_with fail;exact bodyPost_ret (v:= .bool (decide (cmpQ v l<0))) (by simp[results,Tryz.results179,go_sem,e9]) rfl ⟨congrArg _ HE.out.symm,q9⟩
theorem vabove_any {w:World}{g:Nat}{x:Vr}(h:VAt w g x):Calls Tryz.prog 199 #[vptr g] w fun e w'=>e= .returned (.bool x.above)∧Below w.heap.size w w':=by
 have M:=Mem.start w;obtain⟨lo,hi,v⟩:=x;have hs:SideAt w g 5 hi:=h.hi;obtain⟨A,c,B,d,v1,v2,v3,v4,hq⟩:=h.v;have V1:=Lk.of v1;have V2:=Lk.of v2;have V3:=Lk.of v3;have V4:=Lk.of v4;have HQ:=ZH hq;clear h v1 v2 v3 v4 hq;cases hi with
 |none=>
  have S0:=Lk.of hs;clear hs;go_enter Tryz.func199,Tryz.ntmps199;go_upto_region 1 with fail;refine region_st (n:=19) (frame:= ?frame3) (fun jK=>[kP g 0,kP g 0,kP g 5,kP g 5,kB false,kB false,.none,.none,.none,.none,.none,.none,.none,.none,.none,.none,.none,kB false,kB false].getD jK .none) [] (by kernel_rfl) (by kernel_rfl) (by kernel_rfl) rfl M (fun _ h=>by cases h) (fun _ h=>by cases h) ?_ ?_ ?_
  case refine_1=>
   intro s;simp only[fr,Act.put,zA,zB,zC,zD,zE,zF,Nat.reduceAdd];rfl
  case refine_2=>
   iterate 19 (refine SN ?_ ?_;rotate_left)
   exact Steps.nil;all_goals (intro L s w9 hN hU hi hS K hK;dsimp only at hK⊢;simp only[Act.put,zD,zE,zF]at hK)
   ·go_simp;exact hS.o hK
   ·simp only[hS.f hN 0]at hK⊢;go_simp;exact hS.o hK
   ·simp only[hS.f hN 1]at hK⊢;go_simp;exact hS.o hK
   ·simp only[hS.f hN 2]at hK⊢;go_simp;exact hS.o hK
   ·simp only[hS.f hN 3]at hK⊢;have u0:=S0 _ hS.mem.bel;go_simp;exact hS.o hK
   ·simp only[hS.f hN 4]at hK⊢;go_simp;exact hS.o hK
   iterate 11 (simp only[hS.f hN 5]at hK⊢;go_simp;exact hS.u hK)
   ·simp only[hS.f hN 5]at hK⊢;go_simp;exact hS.o hK
   ·simp only[hS.f hN 17]at hK⊢;go_simp;exact hS.o hK
  intro L s w9 hall hS;have e9:=hS.fx 18 rfl rfl (hall 18 (by decide));have q9:=hS.mem.bel;clear hS hall;go_wp2_with fail;exact bodyPost_ret (v:= .bool false) (by simp[results,Tryz.results199,go_sem,e9]) rfl ⟨rfl,q9⟩
 |some l=>
  obtain⟨hs,A',c',B',d',v1,v2,v3,v4,hq⟩:=hs;have S0:=Lk.of hs;have S1:=Lk.of v1;have S2:=Lk.of v2;have S3:=Lk.of v3;have S4:=Lk.of v4;have HQ':=ZH hq;clear hs v1 v2 v3 v4 hq;have HE:Hid ((.bool (Vr.above ⟨lo,some l,v⟩):Value)= .bool (decide (0<cmpQ v l))):=by
   show _=_;rw[cmpQ_gtr];rfl
  go_enter Tryz.func199,Tryz.ntmps199;go_upto_region 1 with fail;refine region_st (n:=19) (frame:= ?frame4) (fun jK=>[kP g 0,kP g 0,kP g 5,kP g 5,kB true,kB true,kP g 0,kP g 0,kP g 10,kF (qv v A c B d),kP g 0,kP g 0,kP g 5,kP g 6,kF (qv l A' c' B' d'),kI ((cmpQ v l)),kB ((decide (0<cmpQ v l))),kB ((decide (0<cmpQ v l))),kB ((decide (0<cmpQ v l)))].getD jK .none) [] (by kernel_rfl) (by kernel_rfl) (by kernel_rfl) rfl M (fun _ h=>by cases h) (fun _ h=>by cases h) ?_ ?_ ?_
  case refine_1=>
   intro s;simp only[fr,Act.put,zA,zB,zC,zD,zE,zF,Nat.reduceAdd];rfl
  case refine_2=>
   iterate 19 (refine SN ?_ ?_;rotate_left)
   exact Steps.nil;all_goals (intro L s w9 hN hU hi hS K hK;dsimp only at hK⊢;simp only[Act.put,zD,zE,zF]at hK)
   ·go_simp;exact hS.o hK
   ·simp only[hS.f hN 0]at hK⊢;go_simp;exact hS.o hK
   ·simp only[hS.f hN 1]at hK⊢;go_simp;exact hS.o hK
   ·simp only[hS.f hN 2]at hK⊢;go_simp;exact hS.o hK
   ·simp only[hS.f hN 3]at hK⊢;have u0:=S0 _ hS.mem.bel;go_simp;exact hS.o hK
   ·simp only[hS.f hN 4]at hK⊢;go_simp;exact hS.o hK
   ·simp only[hS.f hN 5]at hK⊢;go_simp;exact hS.o hK
   ·simp only[hS.f hN 6,hS.f hN 5]at hK⊢;go_simp;exact hS.o hK
   ·simp only[hS.f hN 7,hS.f hN 5]at hK⊢;go_simp;exact hS.o hK
   ·simp only[hS.f hN 8,hS.f hN 5]at hK⊢;have u0:=V1 _ hS.mem.bel;have u1:=V2 _ hS.mem.bel;have u2:=V3 _ hS.mem.bel;have u3:=V4 _ hS.mem.bel;go_simp;exact hS.o hK
   ·simp only[hS.f hN 5]at hK⊢;go_simp;exact hS.o hK
   ·simp only[hS.f hN 10,hS.f hN 5]at hK⊢;go_simp;exact hS.o hK
   ·simp only[hS.f hN 11,hS.f hN 5]at hK⊢;go_simp;exact hS.o hK
   ·simp only[hS.f hN 12,hS.f hN 5]at hK⊢;go_simp;exact hS.o hK
   ·simp only[hS.f hN 13,hS.f hN 5]at hK⊢;have u0:=S1 _ hS.mem.bel;have u1:=S2 _ hS.mem.bel;have u2:=S3 _ hS.mem.bel;have u3:=S4 _ hS.mem.bel;go_simp;exact hS.o hK
   ·simp only[hS.f hN 9,hS.f hN 14,hS.f hN 5]at hK⊢;go_simp;go_at_call 200;refine(pcmp_any (HQ.out.below hS.mem.bel) (HQ'.out.below hS.mem.bel)).mono ?_;rintro e9 w10 ⟨rfl,q⟩;exact hK.out _ _ (hS.val rfl (nSo rfl) q rfl)
   ·simp only[hS.f hN 15,hS.f hN 5]at hK⊢;go_simp;exact hS.o hK
   ·simp only[hS.f hN 5,hS.f hN 16]at hK⊢;go_simp;exact hS.o hK
   ·simp only[hS.f hN 17]at hK⊢;go_simp;exact hS.o hK
  intro L s w9 hall hS;have e9:=hS.fx 18 rfl rfl (hall 18 (by decide));have q9:=hS.mem.bel;clear hS hall;go_wp2_with fail;exact bodyPost_ret (v:= .bool (decide (0<cmpQ v l))) (by simp[results,Tryz.results199,go_sem,e9]) rfl ⟨congrArg _ HE.out.symm,q9⟩
theorem vrise_any {w:World}{g:Nat}{x:Vr}(h:VAt w g x):Calls Tryz.prog 202 #[vptr g] w fun e w'=>e= .returned (.bool x.mayRise)∧Below w.heap.size w w':=by
 have M:=Mem.start w;obtain⟨lo,hi,v⟩:=x;have hs:SideAt w g 5 hi:=h.hi;obtain⟨A,c,B,d,v1,v2,v3,v4,hq⟩:=h.v;have V1:=Lk.of v1;have V2:=Lk.of v2;have V3:=Lk.of v3;have V4:=Lk.of v4;have HQ:=ZH hq;clear h v1 v2 v3 v4 hq;cases hi with
 |none=>
  have S0:=Lk.of hs;clear hs;go_enter Tryz.func202,Tryz.ntmps202;go_upto_region 1 with fail;refine region_st (n:=20) (frame:= ?frame5) (fun jK=>[kP g 0,kP g 0,kP g 5,kP g 5,kB false,kB true,kB true,.none,.none,.none,.none,.none,.none,.none,.none,.none,.none,.none,kB true,kB true].getD jK .none) [] (by kernel_rfl) (by kernel_rfl) (by kernel_rfl) rfl M (fun _ h=>by cases h) (fun _ h=>by cases h) ?_ ?_ ?_
  case refine_1=>
   intro s;simp only[fr,Act.put,zA,zB,zC,zD,zE,zF,Nat.reduceAdd];rfl
  case refine_2=>
   iterate 20 (refine SN ?_ ?_;rotate_left)
   exact Steps.nil;all_goals (intro L s w9 hN hU hi hS K hK;dsimp only at hK⊢;simp only[Act.put,zD,zE,zF]at hK)
   ·go_simp;exact hS.o hK
   ·simp only[hS.f hN 0]at hK⊢;go_simp;exact hS.o hK
   ·simp only[hS.f hN 1]at hK⊢;go_simp;exact hS.o hK
   ·simp only[hS.f hN 2]at hK⊢;go_simp;exact hS.o hK
   ·simp only[hS.f hN 3]at hK⊢;have u0:=S0 _ hS.mem.bel;go_simp;exact hS.o hK
   ·simp only[hS.f hN 4]at hK⊢;go_simp;exact hS.o hK
   ·simp only[hS.f hN 5]at hK⊢;go_simp;exact hS.o hK
   iterate 11 (simp only[hS.f hN 6]at hK⊢;go_simp;exact hS.u hK)
   ·simp only[hS.f hN 6]at hK⊢;go_simp;exact hS.o hK
   ·simp only[hS.f hN 18]at hK⊢;go_simp;exact hS.o hK
  intro L s w9 hall hS;have e9:=hS.fx 19 rfl rfl (hall 19 (by decide));have q9:=hS.mem.bel;clear hS hall;go_wp2_with fail;exact bodyPost_ret (v:= .bool true) (by simp[results,Tryz.results202,go_sem,e9]) rfl ⟨rfl,q9⟩
 |some l=>
  obtain⟨hs,A',c',B',d',v1,v2,v3,v4,hq⟩:=hs;have S0:=Lk.of hs;have S1:=Lk.of v1;have S2:=Lk.of v2;have S3:=Lk.of v3;have S4:=Lk.of v4;have HQ':=ZH hq;clear hs v1 v2 v3 v4 hq;have HE:Hid ((.bool (Vr.mayRise ⟨lo,some l,v⟩):Value)= .bool (decide (cmpQ v l<0))):=by
   show _=_;rw[cmpQ_lss];rfl
  go_enter Tryz.func202,Tryz.ntmps202;go_upto_region 1 with fail;refine region_st (n:=20) (frame:= ?frame6) (fun jK=>[kP g 0,kP g 0,kP g 5,kP g 5,kB true,kB false,kB false,kP g 0,kP g 0,kP g 10,kF (qv v A c B d),kP g 0,kP g 0,kP g 5,kP g 6,kF (qv l A' c' B' d'),kI ((cmpQ v l)),kB ((decide (cmpQ v l<0))),kB ((decide (cmpQ v l<0))),kB ((decide (cmpQ v l<0)))].getD jK .none) [] (by kernel_rfl) (by kernel_rfl) (by kernel_rfl) rfl M (fun _ h=>by cases h) (fun _ h=>by cases h) ?_ ?_ ?_
  case refine_1=>
   intro s;simp only[fr,Act.put,zA,zB,zC,zD,zE,zF,Nat.reduceAdd];rfl
  case refine_2=>
   iterate 20 (refine SN ?_ ?_;rotate_left)
   exact Steps.nil;all_goals (intro L s w9 hN hU hi hS K hK;dsimp only at hK⊢;simp only[Act.put,zD,zE,zF]at hK)
   ·go_simp;exact hS.o hK
   ·simp only[hS.f hN 0]at hK⊢;go_simp;exact hS.o hK
   ·simp only[hS.f hN 1]at hK⊢;go_simp;exact hS.o hK
   ·simp only[hS.f hN 2]at hK⊢;go_simp;exact hS.o hK
   ·simp only[hS.f hN 3]at hK⊢;have u0:=S0 _ hS.mem.bel;go_simp;exact hS.o hK
   ·simp only[hS.f hN 4]at hK⊢;go_simp;exact hS.o hK
   ·simp only[hS.f hN 5]at hK⊢;go_simp;exact hS.o hK
   ·simp only[hS.f hN 6]at hK⊢;go_simp;exact hS.o hK
   ·simp only[hS.f hN 7,hS.f hN 6]at hK⊢;go_simp;exact hS.o hK
   ·simp only[hS.f hN 8,hS.f hN 6]at hK⊢;go_simp;exact hS.o hK
   ·simp only[hS.f hN 9,hS.f hN 6]at hK⊢;have u0:=V1 _ hS.mem.bel;have u1:=V2 _ hS.mem.bel;have u2:=V3 _ hS.mem.bel;have u3:=V4 _ hS.mem.bel;go_simp;exact hS.o hK
   ·simp only[hS.f hN 6]at hK⊢;go_simp;exact hS.o hK
   ·simp only[hS.f hN 11,hS.f hN 6]at hK⊢;go_simp;exact hS.o hK
   ·simp only[hS.f hN 12,hS.f hN 6]at hK⊢;go_simp;exact hS.o hK
   ·simp only[hS.f hN 13,hS.f hN 6]at hK⊢;go_simp;exact hS.o hK
   ·simp only[hS.f hN 14,hS.f hN 6]at hK⊢;have u0:=S1 _ hS.mem.bel;have u1:=S2 _ hS.mem.bel;have u2:=S3 _ hS.mem.bel;have u3:=S4 _ hS.mem.bel;go_simp;exact hS.o hK
   ·simp only[hS.f hN 10,hS.f hN 15,hS.f hN 6]at hK⊢;go_simp;go_at_call 200;refine(pcmp_any (HQ.out.below hS.mem.bel) (HQ'.out.below hS.mem.bel)).mono ?_;rintro e9 w10 ⟨rfl,q⟩;exact hK.out _ _ (hS.val rfl (nSo rfl) q rfl)
   ·simp only[hS.f hN 16,hS.f hN 6]at hK⊢;go_simp;exact hS.o hK
   ·simp only[hS.f hN 6,hS.f hN 17]at hK⊢;go_simp;exact hS.o hK
   ·simp only[hS.f hN 18]at hK⊢;go_simp;exact hS.o hK
  intro L s w9 hall hS;have e9:=hS.fx 19 rfl rfl (hall 19 (by decide));have q9:=hS.mem.bel;clear hS hall;go_wp2_with fail;exact bodyPost_ret (v:= .bool (decide (cmpQ v l<0))) (by simp[results,Tryz.results202,go_sem,e9]) rfl ⟨congrArg _ HE.out.symm,q9⟩
theorem vfall_any {w:World}{g:Nat}{x:Vr}(h:VAt w g x):Calls Tryz.prog 201 #[vptr g] w fun e w'=>e= .returned (.bool x.mayFall)∧Below w.heap.size w w':=by
 have M:=Mem.start w;obtain⟨lo,hi,v⟩:=x;have hs:SideAt w g 0 lo:=h.lo;obtain⟨A,c,B,d,v1,v2,v3,v4,hq⟩:=h.v;have V1:=Lk.of v1;have V2:=Lk.of v2;have V3:=Lk.of v3;have V4:=Lk.of v4;have HQ:=ZH hq;clear h v1 v2 v3 v4 hq;cases lo with
 |none=>
  have S0:=Lk.of hs;clear hs;go_enter Tryz.func201,Tryz.ntmps201;go_upto_region 1 with fail;refine region_st (n:=20) (frame:= ?frame7) (fun jK=>[kP g 0,kP g 0,kP g 0,kP g 0,kB false,kB true,kB true,.none,.none,.none,.none,.none,.none,.none,.none,.none,.none,.none,kB true,kB true].getD jK .none) [] (by kernel_rfl) (by kernel_rfl) (by kernel_rfl) rfl M (fun _ h=>by cases h) (fun _ h=>by cases h) ?_ ?_ ?_
  case refine_1=>
   intro s;simp only[fr,Act.put,zA,zB,zC,zD,zE,zF,Nat.reduceAdd];rfl
  case refine_2=>
   iterate 20 (refine SN ?_ ?_;rotate_left)
   exact Steps.nil;all_goals (intro L s w9 hN hU hi hS K hK;dsimp only at hK⊢;simp only[Act.put,zD,zE,zF]at hK)
   ·go_simp;exact hS.o hK
   ·simp only[hS.f hN 0]at hK⊢;go_simp;exact hS.o hK
   ·simp only[hS.f hN 1]at hK⊢;go_simp;exact hS.o hK
   ·simp only[hS.f hN 2]at hK⊢;go_simp;exact hS.o hK
   ·simp only[hS.f hN 3]at hK⊢;have u0:=S0 _ hS.mem.bel;go_simp;exact hS.o hK
   ·simp only[hS.f hN 4]at hK⊢;go_simp;exact hS.o hK
   ·simp only[hS.f hN 5]at hK⊢;go_simp;exact hS.o hK
   iterate 11 (simp only[hS.f hN 6]at hK⊢;go_simp;exact hS.u hK)
   ·simp only[hS.f hN 6]at hK⊢;go_simp;exact hS.o hK
   ·simp only[hS.f hN 18]at hK⊢;go_simp;exact hS.o hK
  intro L s w9 hall hS;have e9:=hS.fx 19 rfl rfl (hall 19 (by decide));have q9:=hS.mem.bel;clear hS hall;go_wp2_with fail;exact bodyPost_ret (v:= .bool true) (by simp[results,Tryz.results201,go_sem,e9]) rfl ⟨rfl,q9⟩
 |some l=>
  obtain⟨hs,A',c',B',d',v1,v2,v3,v4,hq⟩:=hs;have S0:=Lk.of hs;have S1:=Lk.of v1;have S2:=Lk.of v2;have S3:=Lk.of v3;have S4:=Lk.of v4;have HQ':=ZH hq;clear hs v1 v2 v3 v4 hq;have HE:Hid ((.bool (Vr.mayFall ⟨some l,hi,v⟩):Value)= .bool (decide (0<cmpQ v l))):=by
   show _=_;rw[cmpQ_gtr];rfl
  go_enter Tryz.func201,Tryz.ntmps201;go_upto_region 1 with fail;refine region_st (n:=20) (frame:= ?frame8) (fun jK=>[kP g 0,kP g 0,kP g 0,kP g 0,kB true,kB false,kB false,kP g 0,kP g 0,kP g 10,kF (qv v A c B d),kP g 0,kP g 0,kP g 0,kP g 1,kF (qv l A' c' B' d'),kI ((cmpQ v l)),kB ((decide (0<cmpQ v l))),kB ((decide (0<cmpQ v l))),kB ((decide (0<cmpQ v l)))].getD jK .none) [] (by kernel_rfl) (by kernel_rfl) (by kernel_rfl) rfl M (fun _ h=>by cases h) (fun _ h=>by cases h) ?_ ?_ ?_
  case refine_1=>
   intro s;simp only[fr,Act.put,zA,zB,zC,zD,zE,zF,Nat.reduceAdd];rfl
  case refine_2=>
   iterate 20 (refine SN ?_ ?_;rotate_left)
   exact Steps.nil;all_goals (intro L s w9 hN hU hi hS K hK;dsimp only at hK⊢;simp only[Act.put,zD,zE,zF]at hK)
   ·go_simp;exact hS.o hK
   ·simp only[hS.f hN 0]at hK⊢;go_simp;exact hS.o hK
   ·simp only[hS.f hN 1]at hK⊢;go_simp;exact hS.o hK
   ·simp only[hS.f hN 2]at hK⊢;go_simp;exact hS.o hK
   ·simp only[hS.f hN 3]at hK⊢;have u0:=S0 _ hS.mem.bel;go_simp;exact hS.o hK
   ·simp only[hS.f hN 4]at hK⊢;go_simp;exact hS.o hK
   ·simp only[hS.f hN 5]at hK⊢;go_simp;exact hS.o hK
   ·simp only[hS.f hN 6]at hK⊢;go_simp;exact hS.o hK
   ·simp only[hS.f hN 7,hS.f hN 6]at hK⊢;go_simp;exact hS.o hK
   ·simp only[hS.f hN 8,hS.f hN 6]at hK⊢;go_simp;exact hS.o hK
   ·simp only[hS.f hN 9,hS.f hN 6]at hK⊢;have u0:=V1 _ hS.mem.bel;have u1:=V2 _ hS.mem.bel;have u2:=V3 _ hS.mem.bel;have u3:=V4 _ hS.mem.bel;go_simp;exact hS.o hK
   ·simp only[hS.f hN 6]at hK⊢;go_simp;exact hS.o hK
   ·simp only[hS.f hN 11,hS.f hN 6]at hK⊢;go_simp;exact hS.o hK
   ·simp only[hS.f hN 12,hS.f hN 6]at hK⊢;go_simp;exact hS.o hK
   ·simp only[hS.f hN 13,hS.f hN 6]at hK⊢;go_simp;exact hS.o hK
   ·simp only[hS.f hN 14,hS.f hN 6]at hK⊢;have u0:=S1 _ hS.mem.bel;have u1:=S2 _ hS.mem.bel;have u2:=S3 _ hS.mem.bel;have u3:=S4 _ hS.mem.bel;go_simp;exact hS.o hK
   ·simp only[hS.f hN 10,hS.f hN 15,hS.f hN 6]at hK⊢;go_simp;go_at_call 200;refine(pcmp_any (HQ.out.below hS.mem.bel) (HQ'.out.below hS.mem.bel)).mono ?_;rintro e9 w10 ⟨rfl,q⟩;exact hK.out _ _ (hS.val rfl (nSo rfl) q rfl)
   ·simp only[hS.f hN 16,hS.f hN 6]at hK⊢;go_simp;exact hS.o hK
   ·simp only[hS.f hN 6,hS.f hN 17]at hK⊢;go_simp;exact hS.o hK
   ·simp only[hS.f hN 18]at hK⊢;go_simp;exact hS.o hK
  intro L s w9 hall hS;have e9:=hS.fx 19 rfl rfl (hall 19 (by decide));have q9:=hS.mem.bel;clear hS hall;go_wp2_with fail;exact bodyPost_ret (v:= .bool (decide (0<cmpQ v l))) (by simp[results,Tryz.results201,go_sem,e9]) rfl ⟨congrArg _ HE.out.symm,q9⟩
end Go.Proofs.YtecfcjdgmpopjaaGreat
