/-
  Joined texts: Gq, Gr.
-/
import Derived.Test.YtecfcjdgmpopjaaGreatGp
import Derived.Test.YtecfcjdgmpopjaaGreatKE
set_option linter.unusedSimpArgs false
set_option linter.unusedVariables false
namespace Go.Proofs.YtecfcjdgmpopjaaGreat
open Go.RowKit Num
abbrev tyRw:TypeId:=76
abbrev tyIs:TypeId:=28
abbrev tyI6:TypeId:=2
def rowVs (rs:List Adr)(a:List (List Int)):List Value:=(List.range a.length).map fun i=> .slice (rs.getD i ad0).1 (a.getD i []).length (rs.getD i ad0).2
structure RwAt (w:World) (base g:Nat) (m:Pa) (p:Pg):Prop where
 hd:Blk w g tyRw (pgC m p)
 gb:base≤g
 lo:IRow w m.lo.1 p.lo
 hi:IRow w m.hi.1 p.hi
 c:IRow w m.c.1 p.c
 ap:NRow w base tyIs 1 (.slice m.a.1 p.a.length m.a.2) p.a.length (rowVs m.rs p.a)
 bp:NRow w base tyI6 1 (.slice m.b.1 p.b.length m.b.2) p.b.length (p.b.map iw)
 ar:∀i,i<p.a.length→IRow w (m.rs.getD i ad0).1 (p.a.getD i [])
 rl:m.rs.length=p.a.length
 na:∀k,bl m.a.1=some k→k≠g
 nb:∀k,bl m.b.1=some k→k≠g∧bl m.a.1≠some k
 fix:∀k,(bl m.lo.1=some k∨bl m.hi.1=some k∨bl m.c.1=some k∨∃i,i<p.a.length∧bl (m.rs.getD i ad0).1=some k)→k<w.heap.size∧k≠g∧bl m.a.1≠some k∧bl m.b.1≠some k
 fb:∀k,(bl m.lo.1=some k∨bl m.hi.1=some k∨bl m.c.1=some k∨∃i,i<p.a.length∧bl (m.rs.getD i ad0).1=some k)→base≤k
theorem RwAt.below {w w':World}{base g:Nat}{m:Pa}{p:Pg}(h:RwAt w base g m p)(q:Below w.heap.size w w'):RwAt w' base g m p:=
 ⟨h.hd.below q ZL,h.gb,h.lo.below q,h.hi.below q,h.c.below q,h.ap.below q,h.bp.below q,fun i hi=>(h.ar i hi).below q,h.rl,h.na,h.nb,fun k hk=>⟨Nat.lt_of_lt_of_le (h.fix k hk).1 q.size,(h.fix k hk).2⟩,h.fb⟩
def OffR (m:Pa)(g k:Nat):Prop:=k≠g∧bl m.a.1≠some k∧bl m.b.1≠some k
structure Kp (g:Nat) (w w':World) (m m':Pa):Prop where
 size:w.heap.size≤w'.heap.size
 off:∀k,k<w.heap.size→OffR m g k→w'.heap[k]? =w.heap[k]?∧OffR m' g k
theorem Kp.trans {g:Nat}{w w1 w2:World}{m m1 m2:Pa}(h:Kp g w w1 m m1)(k:Kp g w1 w2 m1 m2):Kp g w w2 m m2:=
 ⟨Nat.le_trans h.size k.size,fun b hb ho=>by
  obtain⟨e1,o1⟩:=h.off b hb ho;obtain⟨e2,o2⟩:=k.off b (Nat.lt_of_lt_of_le hb h.size) o1;exact⟨e2.trans e1,o2⟩⟩
theorem Kp.of {g:Nat}{w w':World}(m:Pa)(q:Below w.heap.size w w'):Kp g w w' m m:=⟨q.size,fun b hb ho=>⟨q.block b hb,ho⟩⟩
theorem Kp.blk {g b:Nat}{w w':World}{m m':Pa}{t:TypeId}{cs:Array Value}(h:Kp g w w' m m')(hb:Blk w b t cs)(ho:OffR m g b):Blk w' b t cs∧OffR m' g b:=by
 obtain⟨e1,o1⟩:=h.off b hb.lt ho;exact⟨e1.trans hb,o1⟩
theorem rowVs_at {rs:List Adr}{a:List (List Int)}{i:Nat}(hi:i<a.length):(rowVs rs a)[i]? =some (.slice (rs.getD i ad0).1 (a.getD i []).length (rs.getD i ad0).2):=by
 unfold rowVs;rw[List.getElem?_map,List.getElem?_range hi];rfl
theorem rowVs_app {rs:List Adr}{a:List (List Int)}{R:Adr}{row:List Int}(h:rs.length=a.length):rowVs (rs++[R]) (a++[row])=rowVs rs a++[.slice R.1 row.length R.2]:=by
 unfold rowVs;rw[List.length_append,List.length_singleton,List.range_succ,List.map_append];congr 1
 ·refine List.map_congr_left fun i hi=> ?_;have hi:=List.mem_range.1 hi;rw[getD_app (l:=rs) (by omega),if_pos (by omega),getD_app (l:=a) (by omega),if_pos (by omega)]
 ·show[Value.slice ((rs++[R]).getD a.length ad0).1 ((a++[row]).getD a.length []).length ((rs++[R]).getD a.length ad0).2]=[_];rw[getD_app (l:=rs) (by omega),if_neg (by omega),getD_app (l:=a) (by omega),if_neg (by omega)]
theorem RwAt.pg {w:World}{base g:Nat}{m:Pa}{p:Pg}(h:RwAt w base g m p):PgAt w m p:=
 ⟨h.lo,h.hi,h.bp.crow fun j hj=>map_at _ hj,h.c,h.ap.crow fun j hj=>rowVs_at hj,h.ar⟩
theorem stp_app {w w4:World}{A:Option Addr}{g o:Nat}{u:Value}(hA:∀k,bl A=some k→Box w k)(hgr:w.grownBy w4 (bl A))(hg:Box w g)(hne:∀k,bl A=some k→k≠g)(hu:nu u=true):Stp (fun k=>k=g∨bl A=some k) w (w4.setCell ⟨g,o,none⟩ u)∧(∀{t cs},Blk w g t cs→Blk w4 g t cs)∧Box w4 g:=by
 have hs:Stp (fun k=>k=g∨bl A=some k) w w4:=by
  cases hx:bl A with
  |none=>
   rw[hx]at hgr;exact⟨hgr.os,hgr.tape,hgr.output,hgr.size,fun k hk _=>hgr.block k hk (by simp),fun r=>Rd.below r ⟨hgr.os,hgr.tape,hgr.output,hgr.size,fun k hk=>hgr.block k hk (by simp)⟩ ZL⟩
  |some b=>
   rw[hx]at hgr;exact Stp.wrote (hA b hx) hgr (.inr rfl)
 have kb:∀{t cs},Blk w g t cs→Blk w4 g t cs:=fun{t cs} hb=>(hgr.block g hb.lt fun e=>hne g e.symm rfl).trans hb;obtain⟨cs,t,e1,e2⟩:=hg;have hb4:Box w4 g:=(kb (t:=t) (cs:=cs) e1).box e2;exact⟨hs.trans (Stp.wrote hb4 (gSC w4 g o u) (.inl rfl)),kb,hb4⟩
theorem NRow.ltBl {w:World}{base:Nat}{e:TypeId}{size:Nat}{A:Option Addr}{c n:Nat}{xs:List Value}(h:NRow w base e size (.slice A n c) n xs){k:Nat}(hk:bl A=some k):base≤k∧k<w.heap.size:=World.ownsRow.lt h.1 k (by rw[own_bl];exact hk)
theorem RwAt.pushA {w w4:World}{base g:Nat}{m:Pa}{p:Pg}{A':Option Addr}{c':Nat}{R:Adr}{row:List Int}(h:RwAt w base g m p)(hR:IRow w R.1 row)(hk:∀k,bl R.1=some k→k<w.heap.size∧k≠g∧bl m.a.1≠some k∧bl m.b.1≠some k)(hkb:∀k,bl R.1=some k→base≤k)(hr:NRow w4 base tyIs 1 (.slice A' (p.a.length+1) c') (p.a.length+1) (rowVs m.rs p.a++[.slice R.1 row.length R.2]))(hgr:w.grownBy w4 (bl m.a.1))(hat:bl A'=bl m.a.1∨∀k,bl A'=some k→w.heap.size≤k):RwAt (w4.setCell ⟨g,2,none⟩ (.slice A' (p.a.length+1) c')) base g {m with a:=(A',c'),rs:=m.rs++[R]} {p with a:=p.a++[row]}∧∀w0,Below base w0 w→base≤w.heap.size→Below base w0 (w4.setCell ⟨g,2,none⟩ (.slice A' (p.a.length+1) c'))∧Kp g w (w4.setCell ⟨g,2,none⟩ (.slice A' (p.a.length+1) c')) m {m with a:=(A',c'),rs:=m.rs++[R]}:=by
 obtain⟨k,kb,hb4⟩:=stp_app (o:=2) (u:= .slice A' (p.a.length+1) c') (fun k hk=>h.ap.boxBl hk) hgr (h.hd.box rfl) h.na rfl;have hl:(p.a++[row]).length=p.a.length+1:=by rw[List.length_append,List.length_singleton]
 have ng:∀b,bl A'=some b→b≠g:=fun b hb e=>by
  rcases hat with h1|h1
  ·exact h.na b (h1▸hb) e
  ·have:=h1 b hb;have:=h.hd.lt;omega
 have fx:∀b,(bl m.lo.1=some b∨bl m.hi.1=some b∨bl m.c.1=some b∨∃i,i<p.a.length∧bl (m.rs.getD i ad0).1=some b)→¬(b=g∨bl m.a.1=some b):=fun b hb e=>by
  have:=h.fix b hb;rcases e with e|e
  ·exact this.2.1 e
  ·exact this.2.2.1 e
 have rx:∀b,bl R.1=some b→¬(b=g∨bl m.a.1=some b):=fun b hb e=>by
  have:=hk b hb;rcases e with e|e
  ·exact this.2.1 e
  ·exact this.2.2.1 e
 have bx:∀b,bl m.b.1=some b→¬(b=g∨bl m.a.1=some b):=fun b hb e=>by
  have:=h.nb b hb;rcases e with e|e
  ·exact this.1 e
  ·exact this.2 e
 have gt:∀i,i<p.a.length+1→(m.rs++[R]).getD i ad0=if i<p.a.length then m.rs.getD i ad0 else R:=fun i hi=>by
  rw[getD_app (l:=m.rs) (by rw[h.rl];exact hi),h.rl]
 refine⟨⟨?_,h.gb,h.lo.stp k fun b hb=>fx b (.inl hb),h.hi.stp k fun b hb=>fx b (.inr (.inl hb)),h.c.stp k fun b hb=>fx b (.inr (.inr (.inl hb))),?_,h.bp.stp k bx,fun i hi=> ?_,?_,ng,fun b hb=>⟨(h.nb b hb).1,fun e=> ?_⟩,fun b hb=> ?_,fun b hb=> ?_⟩,fun w0 hb hs=>⟨k.below hb hs fun b e=> ?_,k.size,fun b hb2 ho=>⟨k.block b hb2 fun e=>e.elim ho.1 ?_,ho.1,?_⟩⟩⟩
 ·show Blk _ g tyRw #[_,_,.slice A' (p.a++[row]).length c',_,_];rw[hl];exact(kb h.hd).set_ 2 _
 ·show NRow _ base tyIs 1 (.slice A' (p.a++[row]).length c') (p.a++[row]).length (rowVs (m.rs++[R]) (p.a++[row]));rw[hl,rowVs_app h.rl];exact hr.stp (Stp.wrote (S:=fun b=>b=g) hb4 (gSC w4 g 2 _) rfl) ng
 ·replace hi:i<(p.a++[row]).length:=hi;rw[hl]at hi;show IRow _ ((m.rs++[R]).getD i ad0).1 ((p.a++[row]).getD i []);rw[gt i hi,getD_app (l:=p.a) hi];split
  ·rename_i hi2;exact(h.ar i hi2).stp k fun b hb=>fx b (.inr (.inr (.inr ⟨i,hi2,hb⟩)))
  ·exact hR.stp k rx
 ·show(m.rs++[R]).length=(p.a++[row]).length;rw[List.length_append,hl,h.rl];rfl
 ·rcases hat with h1|h1
  ·exact(h.nb b hb).2 (h1▸e)
  ·have:=h1 b e;have:=(h.bp.ltBl hb).2;omega
 ·have old:b<w.heap.size∧b≠g∧bl m.a.1≠some b∧bl m.b.1≠some b:=by
   rcases hb with hb|hb|hb|⟨i,hi,hb⟩
   ·exact h.fix b (.inl hb)
   ·exact h.fix b (.inr (.inl hb))
   ·exact h.fix b (.inr (.inr (.inl hb)))
   ·replace hi:i<(p.a++[row]).length:=hi;rw[hl]at hi;replace hb:bl ((m.rs++[R]).getD i ad0).1=some b:=hb;rw[gt i hi]at hb;split at hb
    ·rename_i hi2;exact h.fix b (.inr (.inr (.inr ⟨i,hi2,hb⟩)))
    ·exact hk b hb
  refine⟨Nat.lt_of_lt_of_le old.1 k.size,old.2.1,fun e=> ?_,old.2.2.2⟩;rcases hat with h1|h1
  ·exact old.2.2.1 (h1▸e)
  ·have:=h1 b e;omega
 ·rcases hb with hb|hb|hb|⟨i,hi,hb⟩
  ·exact h.fb b (.inl hb)
  ·exact h.fb b (.inr (.inl hb))
  ·exact h.fb b (.inr (.inr (.inl hb)))
  ·replace hi:i<(p.a++[row]).length:=hi;rw[hl]at hi;replace hb:bl ((m.rs++[R]).getD i ad0).1=some b:=hb;rw[gt i hi]at hb;split at hb
   ·rename_i hi2;exact h.fb b (.inr (.inr (.inr ⟨i,hi2,hb⟩)))
   ·exact hkb b hb
 ·rcases e with rfl|e
  ·exact h.gb
  ·exact(h.ap.ltBl e).1
 ·exact ho.2.1
 ·refine⟨fun e=> ?_,ho.2.2⟩;rcases hat with h1|h1
  ·exact ho.2.1 (h1▸e)
  ·have:=h1 b e;omega
theorem RwAt.pushB {w w4:World}{base g:Nat}{m:Pa}{p:Pg}{A':Option Addr}{c':Nat}{z:Int}(h:RwAt w base g m p)(hr:NRow w4 base tyI6 1 (.slice A' (p.b.length+1) c') (p.b.length+1) (p.b.map iw++[iw z]))(hgr:w.grownBy w4 (bl m.b.1))(hat:bl A'=bl m.b.1∨∀k,bl A'=some k→w.heap.size≤k):RwAt (w4.setCell ⟨g,3,none⟩ (.slice A' (p.b.length+1) c')) base g {m with b:=(A',c')} {p with b:=p.b++[z]}∧∀w0,Below base w0 w→base≤w.heap.size→Below base w0 (w4.setCell ⟨g,3,none⟩ (.slice A' (p.b.length+1) c'))∧Kp g w (w4.setCell ⟨g,3,none⟩ (.slice A' (p.b.length+1) c')) m {m with b:=(A',c')}:=by
 obtain⟨k,kb,hb4⟩:=stp_app (o:=3) (u:= .slice A' (p.b.length+1) c') (fun k hk=>h.bp.boxBl hk) hgr (h.hd.box rfl) (fun b hb=>(h.nb b hb).1) rfl;have hl:(p.b++[z]).length=p.b.length+1:=by rw[List.length_append,List.length_singleton]
 have ng:∀b,bl A'=some b→b≠g:=fun b hb e=>by
  rcases hat with h1|h1
  ·exact(h.nb b (h1▸hb)).1 e
  ·have:=h1 b hb;have:=h.hd.lt;omega
 have fx:∀b,(bl m.lo.1=some b∨bl m.hi.1=some b∨bl m.c.1=some b∨∃i,i<p.a.length∧bl (m.rs.getD i ad0).1=some b)→¬(b=g∨bl m.b.1=some b):=fun b hb e=>by
  have:=h.fix b hb;rcases e with e|e
  ·exact this.2.1 e
  ·exact this.2.2.2 e
 have ax:∀b,bl m.a.1=some b→¬(b=g∨bl m.b.1=some b):=fun b hb e=>by
  rcases e with e|e
  ·exact h.na b hb e
  ·exact(h.nb b e).2 hb
 refine⟨⟨?_,h.gb,h.lo.stp k fun b hb=>fx b (.inl hb),h.hi.stp k fun b hb=>fx b (.inr (.inl hb)),h.c.stp k fun b hb=>fx b (.inr (.inr (.inl hb))),h.ap.stp k ax,?_,fun i hi=>(h.ar i hi).stp k fun b hb=>fx b (.inr (.inr (.inr ⟨i,hi,hb⟩))),h.rl,h.na,fun b hb=>⟨ng b hb,fun e=> ?_⟩,fun b hb=> ?_,h.fb⟩,fun w0 hb hs=>⟨k.below hb hs fun b e=> ?_,k.size,fun b hb2 ho=>⟨k.block b hb2 fun e=>e.elim ho.1 ?_,ho.1,?_⟩⟩⟩
 ·show Blk _ g tyRw #[_,_,_,.slice A' (p.b++[z]).length c',_];rw[hl];exact(kb h.hd).set_ 3 _
 ·show NRow _ base tyI6 1 (.slice A' (p.b++[z]).length c') (p.b++[z]).length ((p.b++[z]).map iw);rw[hl,List.map_append];exact hr.stp (Stp.wrote (S:=fun b=>b=g) hb4 (gSC w4 g 3 _) rfl) ng
 ·rcases hat with h1|h1
  ·exact(h.nb b (h1▸hb)).2 e
  ·have:=h1 b hb;have:=(h.ap.ltBl e).2;omega
 ·have old:=h.fix b hb;refine⟨Nat.lt_of_lt_of_le old.1 k.size,old.2.1,old.2.2.1,fun e=> ?_⟩;rcases hat with h1|h1
  ·exact old.2.2.2 (h1▸e)
  ·have:=h1 b e;omega
 ·rcases e with rfl|e
  ·exact h.gb
  ·exact(h.bp.ltBl e).1
 ·exact ho.2.2
 ·refine⟨ho.2.1,fun e=> ?_⟩;rcases hat with h1|h1
  ·exact ho.2.2 (h1▸e)
  ·have:=h1 b e;omega
theorem RwAt.pgS {w w':World}{base g b:Nat}{m:Pa}{p:Pg}(h:RwAt w base g m p)(k:Stp (fun x=>x=b) w w')(hb:b<base):PgAt w' m p:=by
 have hp:=h.pg;have f:∀k,(bl m.lo.1=some k∨bl m.hi.1=some k∨bl m.c.1=some k∨∃i,i<p.a.length∧bl (m.rs.getD i ad0).1=some k)→¬k=b:=fun k hk e=>by
  have:=h.fb k hk;omega
 exact⟨hp.lo.stp k fun x e=>f x (.inl e),hp.hi.stp k fun x e=>f x (.inr (.inl e)),hp.b.stp k fun x e e2=>by have:=(h.bp.ltBl e).1;omega,hp.c.stp k fun x e=>f x (.inr (.inr (.inl e))),hp.ap.stp k fun x e e2=>by have:=(h.ap.ltBl e).1;omega,fun i hi=>(hp.ar i hi).stp k fun x e=>f x (.inr (.inr (.inr ⟨i,hi,e⟩)))⟩
theorem info_i6:(Tryz.prog.info? 2).map (fun i=>(i.zero,i.size,i.bytes))=some (some (.int .i64 0),1,8):=by kernel_rfl
theorem info_is:(Tryz.prog.info? 28).map (fun i=>(i.zero,i.size,i.bytes))=some (some (.slice none 0 0),1,24):=by kernel_rfl
abbrev iwC (l:List Int):Array Value:=(l.map iw).toArray
theorem wp_make64 {ops:Array Oper}{rest:List Oper}{o:Oper}{a:Act}{Q:Exit→Act→World→Prop}(l c:Operand)(w:World)(n:Nat){C D:Int}(hC:C=(n:Int))(hD:D=(n:Int))(hn:n≤1000000)(hgd:o.guard=none)(ho:o.op=Op.makeSlice 28 l c)(hl:a.eval l= .int .i64 D)(hc:a.eval c= .int .i64 C)(K:∀w',Blk w' w.heap.size tyI6 (iwC (List.replicate n 0))→Below w.heap.size w w'→wpList Tryz.prog ops Q rest (a.put o.dst (.slice (some ⟨w.heap.size,0,none⟩) n n)) w'):wpList Tryz.prog ops Q (o::rest) a w:=by
 obtain⟨i0,hi,hz0,hz1,hz2⟩:=info_parts info_i6;refine wpList_make_full _ hgd l c 28 ho w.heap.size 2 i0 (.int .i64 0) 1 Tryz.underlying28 hi hz0 hz1 .i64 .i64 D C n hl hc hD hC (by rw[hz2];omega) (by unfold maxLen;omega) ZL ?_;intro w' h1 h2;refine K w' ?_ ((Below.refl _ _).grown h2 ZL (by intro k hk;cases hk));rcases h1.2 with ⟨hv,_⟩|⟨g,cap,cur,hv,_,hg,_,_,hs,ht⟩
 ·cases hv
 ·have hg1:g=w.heap.size∧cap=n:=by
   injection hv with hv _ hcap;injection hv with hv;injection hv with hv;exact⟨hv.symm,hcap.symm⟩
  obtain⟨rfl,rfl⟩:=hg1;rw[Nat.mul_one]at hs ht;have e:(Value.int .i64 0).cells= #[Value.int .i64 0]:=rfl;rw[e,toList_madeCells_one,List.take_of_length_le (by simp;omega)]at ht;have hcur:cur=iwC (List.replicate cap 0):=by
   have h3:cur=cur.toList.toArray:=by simp
   rw[h3,ht];unfold iwC;rw[List.map_replicate]
  subst hcur;exact hg
theorem iwC_set {l:List Int}{j:Nat}{z:Int}:(iwC l).setIfInBounds j (iw z)=iwC (l.set j z):=by
 show((l.map iw).toArray).setIfInBounds j (iw z)=((l.set j z).map iw).toArray;rw[List.map_set,zD]
theorem iwC_cell {w:World}{g:Nat}{l:List Int}(h:Blk w g tyI6 (iwC l)){j:Nat}(hj:j<l.length):w.cell? ⟨g,j,none⟩=some (iw (l.getD j 0)):=by
 refine(h.cell j).trans ?_;show((l.map iw).toArray)[j]? =_;rw[List.getElem?_toArray,List.getElem?_map,gG hj,gE,gG hj];rfl
theorem iwC_row {w:World}{g:Nat}{l:List Int}(h:Blk w g tyI6 (iwC l)):IRow w (some ⟨g,0,none⟩) l:=fun j hj=>⟨g,0,rfl,by rw[Nat.zero_add];exact iwC_cell h hj⟩
theorem iwC_nu (l:List Int):(iwC l).toList.all nu=true:=List.all_eq_true.2 fun x hx=>by
 obtain⟨z,_,rfl⟩:=List.mem_map.1 (show x∈l.map iw from hx);rfl
set_option maxHeartbeats 16000000
set_option maxRecDepth 100000
theorem within_all_in {l:List Int}(h:l.all withinB=true){j:Nat}(hj:j<l.length): -1048576≤l.getD j 0∧l.getD j 0≤1048576:=by
 rw[gE,gG hj];exact within_in (List.all_eq_true.1 h _ (List.getElem_mem hj))
theorem rowP_step {r A X:List Int}{s:Int}{j:Nat}(hj:j<A.length)(hx:j<X.length):rowP r s (A.drop j) (X.drop j)=rowP (r.set (X.getD j 0).toNat (r.getD (X.getD j 0).toNat 0+s*A.getD j 0)) s (A.drop (j+1)) (X.drop (j+1)):=by
 rw[drop_at (z:=0) hj,drop_at (z:=0) hx];rfl
theorem mem_set_in {l:List Int}{j:Nat}{u B C:Int}(h:∀z∈l,-B≤z∧z≤B)(hB:B≤C)(hu: -C≤u∧u≤C):∀z∈l.set j u,-C≤z∧z≤C:=fun z hz=>by
 rcases List.mem_or_eq_of_mem_set hz with h1|h1
 ·have:=h z h1;omega
 ·omega
theorem rwadd_any {w0 w:World}{g:Nat}{m:Pa}{p:Pg}{x aa:Adr}{c:Cn}{s most:Int}(hb:Below w0.heap.size w0 w)(hc:CnAt w0 x aa c)(h:RwAt w w0.heap.size g m p)(hl:c.a.length≤c.x.length)(ha:c.a.length≤1000)(hx:∀y∈c.x,0≤y∧y<p.lo.length)(hw:c.a.all withinB=true)(hs:s=1∨s= -1)(hn:p.lo.length≤1000)(hk:p.a.length≤1000)(hk2:p.b.length≤1000):Calls Tryz.prog 60 #[vptr g,.agg (cnC x aa c),.int .i64 s,.int .i64 most] w fun e w'=>e= .returned (.tuple #[])∧Below w0.heap.size w0 w'∧∃m',RwAt w' w0.heap.size g m' (addP p c s most)∧Kp g w w' m m':=by
 have H:=ZH h;have HB:=ZH hb;have HX:=ZH fun(w':World)(q:Below w0.heap.size w0 w')=>(hc.below q).x;have HA:=ZH fun(w':World)(q:Below w0.heap.size w0 w')=>(hc.below q).a;have HW:=ZH fun(j:Nat)(hj:j<c.a.length)=>within_all_in hw hj;have hwb:=hb.size;have M:=(Mem.start w).new 69 (cnC x aa c);obtain⟨c0,c1,c2,c3⟩:=(M.k (i:=0) rfl).four;obtain⟨h0,_,_,_,_⟩:=(h.hd.below M.bel ZL).fiveP;have HC0:=ZH (M.k (i:=0) rfl);have HM0:=ZH M.bel;obtain⟨n,hnn⟩:∃n,p.lo.length=n:=⟨_,rfl⟩;rw[hnn]at h0 hn;have HI:=ZH fun(j:Nat)(hj:j<c.x.length)=>by
  have:=hx _ (List.getElem_mem hj);rw[hnn]at this;rw[show c.x[j]=c.x.getD j 0 by rw[gE,gG hj];rfl]at this;exact this
 obtain⟨R,hR⟩:∃R,rowP (List.replicate n 0) s c.a c.x=R:=⟨_,rfl⟩;have HR:Hid (R=rowP (List.replicate n 0) s (c.a.drop 0) (c.x.drop 0)):=hR.symm;obtain⟨P',hP'⟩:∃P',addP p c s most=P':=⟨_,rfl⟩;have HP:Hid (P'=if R.all withinB then{p with a:=p.a++[R],b:=p.b++[most]} else p):=by
  show _=_;rw[←hP',←hR,←hnn];rfl
 have HRL:Hid (R.length=n):=by
  show _=_;rw[←hR,rowP_len,List.length_replicate]
 rw[hP'];obtain⟨k,X,A,C⟩:=c;replace hl:A.length≤X.length:=hl;replace ha:A.length≤1000:=ha;replace c0:_=some (Value.int .i64 k):=c0;replace c1:_=some (Value.slice x.1 X.length x.2):=c1;replace c2:_=some (Value.slice aa.1 A.length aa.2):=c2;replace c3:_=some (Value.int .i64 C):=c3;replace HX:Hid (∀(w':World)(q:Below w0.heap.size w0 w'),IRow w' x.1 X):=HX;replace HA:Hid (∀(w':World)(q:Below w0.heap.size w0 w'),IRow w' aa.1 A):=HA;replace HW:Hid (∀(j:Nat)(hj:j<A.length),-1048576≤A.getD j 0∧A.getD j 0≤1048576):=HW;replace HI:Hid (∀(j:Nat)(hj:j<X.length),0≤X.getD j 0∧X.getD j 0<n):=HI;replace HR:Hid (R=rowP (List.replicate n 0) s (A.drop 0) (X.drop 0)):=HR;clear h hb hc hw hx hR hP' hnn M;go_enter Tryz.func60,Tryz.ntmps60;go_wp2_with (at_make;refine wp_make64 _ _ _ n rfl rfl (by omega) rfl rfl rfl rfl ?_;intro w1 hrow1 hbel1;have c1:=(HC0.out.below hbel1 ZL).cell 1;have c2:w1.cell? ⟨w.heap.size,2,none⟩=some (.slice aa.1 A.length aa.2):=(HC0.out.below hbel1 ZL).cell 2);have HC1:=ZH (HC0.out.below hbel1 ZL);have HQ1:=ZH (bT HM0.out hbel1);have HRow1:=ZH hrow1;have hg0:(w.alloc (.cells (cnC x aa ⟨k,X,A,C⟩) 69)).heap.size=w.heap.size+1:=by simp
 clear hrow1 hbel1 c0 c1 c2 c3 h0 HC0;go_loopg [21] A.length (fun kk pp wr=>∃(j:Nat)(r:List Int),kk=A.length-j∧j≤A.length∧pp= .int .i64 (j:Nat)∧Hid (R=rowP r s (A.drop j) (X.drop j))∧r.length=n∧Hid (∀z∈r,-(1048576*(j:Int))≤z∧z≤1048576*(j:Int))∧Hid (Below w.heap.size w wr)∧Hid (Blk wr w.heap.size 69 (cnC x aa ⟨k,X,A,C⟩))∧Hid (Blk wr (w.heap.size+1) tyI6 (iwC r)))
 case atStart=>
  refine⟨0,List.replicate n 0,rfl,Nat.zero_le _,rfl,HR.out,List.length_replicate,fun z hz=> ?_,HQ1.out,HC1.out,?_⟩
  ·have:=List.eq_of_mem_replicate hz;omega
  ·have:=HRow1.out;rw[hg0]at this;exact this
 case round=>
  clear HC1 HQ1 HRow1 HR;obtain⟨j,r,hkk,hj,rfl,HL,hrn,HZ,HQ,HC,HRow⟩:=hrel;have HQ0:=ZH (HB.out.trans (HQ.out.mono hwb));by_cases hlt:j<A.length
  ·have d1:decide ((j:Int)<(A.length:Int))=true:=dT (by omega);have hxl:j<X.length:=by omega
   have HL2:=ZH (HL.out.trans (rowP_step hlt hxl));obtain⟨gx,ox,hxa,cj⟩:=HX.out wr HQ0.out j hxl;obtain⟨ga,oa,haa,cja⟩:=HA.out wr HQ0.out j hlt;replace cj:wr.cell? ⟨gx,ox+j,none⟩=some (.int .i64 (X.getD j 0)):=cj;replace cja:wr.cell? ⟨ga,oa+j,none⟩=some (.int .i64 (A.getD j 0)):=cja;obtain⟨c0,c1,c2,c3⟩:=HC.out.four;replace c1:_=some (Value.slice x.1 X.length x.2):=c1;rw[hxa]at c1;rw[haa];have HAA:=ZH haa;have hi:=HI.out j hxl;have hz:=HW.out j hlt;generalize A.getD j 0=z at*;generalize X.getD j 0=xi at*;obtain⟨i,rfl⟩:=Int.eq_ofNat_of_zero_le hi.1;have hin:i<n:=by omega
   have HL3:Hid (R=rowP (r.set i (r.getD i 0+s*z)) s (A.drop (j+1)) (X.drop (j+1))):=HL2.out;have cr:wr.cell? ⟨w.heap.size+1,i,none⟩=some (.int .i64 (r.getD i 0)):=iwC_cell HRow.out (by rw[hrn];exact hin);have hf:=HRow.out.frozen i;have hv: -(1048576*(j:Int))≤r.getD i 0∧r.getD i 0≤1048576*(j:Int):=by
    have hil:i<r.length:=by rw[hrn];exact hin
    rw[gE,gG hil];exact HZ.out _ (List.getElem_mem hil)
   generalize hv9:r.getD i 0=v at*;have hsz: -1048576≤s*z∧s*z≤1048576:=by
    rcases hs with rfl|rfl<;>omega
   generalize hsz9:s*z=sz at*;have x1:IntKind.i64.wrap (s*z)=sz:=by rw[hsz9,IntKind.wrap_i64];omega
   have x2:IntKind.i64.wrap (v+sz)=v+sz:=by rw[IntKind.wrap_i64];omega
   have y1:wrap64 (s*z)=sz:=by rw[hsz9];exact IntWalk.wrap64_in _ ⟨by omega,by omega⟩
   have y2:wrap64 (v+sz)=v+sz:=IntWalk.wrap64_in _ ⟨by omega,by omega⟩;have HROW:=ZH (show Blk (wr.setCell ⟨w.heap.size+1,i,none⟩ (iw (v+sz))) (w.heap.size+1) tyI6 (iwC (r.set i (v+sz))) from by rw[←iwC_set];exact HRow.out.set_ i (iw (v+sz)));have HGR:=ZH (gSC wr (w.heap.size+1) i (iw (v+sz)));have HZ2:Hid (∀u∈r.set i (v+sz),-(1048576*((j+1:Nat):Int))≤u∧u≤1048576*((j+1:Nat):Int)):=mem_set_in HZ.out (by omega) (by omega);have HZ3:=ZH hsz9;clear HL HL2 hxa haa hv9 hsz9 hi;go_wp2_with fail;rw[←HAA.out];go_roundg (A.length-(j+1))
   case measure=>omega
   case rel=>exact⟨j+1,r.set i (v+sz),rfl,by omega,by simp,HL3.out,by rw[List.length_set];exact hrn,HZ2.out,below_own HQ.out HGR.out (Nat.le_succ _),(HGR.out.block _ HC.out.lt (fun e=>by injection e with e;omega)).trans HC.out,HROW.out⟩
  ·have d1:decide ((j:Int)<(A.length:Int))=false:=dF (by omega);have hRr:R=r:=by
    rw[HL.out,List.drop_eq_nil_of_le (by omega)];cases X.drop j<;>rfl
   rw[←hRr]at HRow;clear hRr HL HZ;have HRW:=ZH (H.out.below HQ.out);have HCT:=ZH (contains_any (P:=fun z=> !withinB z) (c:=n) (iwC_row HRow.out) (by rw[HRL.out];omega) ad1_run fun z w'=>ad1_any z w');obtain⟨bR,hbR⟩:∃b,R.all withinB=b:=⟨_,rfl⟩;rw[show(R.any fun z=> !withinB z)= !bR by rw[←hbR,←any_within,Bool.not_not],HRL.out]at HCT;rw[hbR]at HP;have hgw:g<w.heap.size:=H.out.hd.lt;clear hbR hrn hs;go_wp2_with fail;refine HCT.out.mono ?_;rintro e w2 ⟨rfl,q2⟩;replace HRW:=ZH (HRW.out.below q2);have HQ2:=ZH (HQ0.out.trans (q2.mono HQ0.out.size));have HRow2:=ZH (HRow.out.below q2 ZL);have hbs:=HQ2.out.size;have HKP:=ZH (Kp.of (g:=g) m (bT HQ.out q2));clear HCT q2 HRow HC HQ0 HQ;cases bR with
   |false=>
    go_wp2_with fail;exact⟨rfl,_,by simp[results,Tryz.results60,go_sem],rfl,HQ2.out,m,by rw[HP.out];exact HRW.out,HKP.out⟩
   |true=>
    obtain⟨b0,b1,b2,b3,b4⟩:=HRW.out.hd.fiveP;have HAP:=ZH HRW.out.ap;generalize hAA:m.a.1=AA at b2 HAP;have HAA:=ZH hAA;generalize m.a.2=cA at b2 HAP;have hla:p.a.length≤1000000:=by omega
    clear b0 b1 b3 b4 hAA;go_upto_region 9 with (at_builtin;refine wp_appNu _ _ w2 w0.heap.size tyIs 1 (.slice AA p.a.length cA) p.a.length (rowVs m.rs p.a) #[.slice (some ⟨w.heap.size+1,0,none⟩) n n] (by first|rfl|simp) Tryz.underlying29 info_is rfl rfl (by decide) (by decide) HAP.out hbs hla rfl rfl rfl rfl rfl rfl rfl ?_;intro v7 w7 r1 r2 r3 r4;obtain⟨A7,c7,rfl⟩:=r1.slice;rw[own_bl]at r2 r4;rw[own_bl]at r4;have hh7:Blk w7 g tyRw (pgC m p):=(r2.block g HRW.out.hd.lt (fun e=>HRW.out.na g (by rw[HAA.out];exact e.symm) rfl)).trans HRW.out.hd;have k0:=(hh7.cell 2).trans rfl;have k1:=hh7.frozen 2);have hp:=HRW.out.pushA (A':=A7) (c':=c7) (R:=(some ⟨w.heap.size+1,0,none⟩,n)) (row:=R) (iwC_row HRow2.out) (fun b hb=>by
     obtain rfl:w.heap.size+1=b:=by injection hb
     refine⟨HRow2.out.lt,by omega,fun e=> ?_,fun e=> ?_⟩
     ·have:=(H.out.ap.ltBl e).2;omega
     ·have:=(H.out.bp.ltBl e).2;omega) (fun b hb=>by
     obtain rfl:w.heap.size+1=b:=by injection hb
     omega) (by rw[HRL.out];exact r1) (by rw[HAA.out];exact r2) (by rw[HAA.out];exact r4)
    obtain⟨W8,hW8⟩:∃W8,W8=w7.setCell ⟨g,2,none⟩ (.slice A7 (p.a.length+1) c7):=⟨_,rfl⟩;rw[←hW8]at hp⊢;obtain⟨hp,hpb⟩:=hp;have HQ8:=ZH (hpb w0 HQ2.out hbs).1;have HK8:=ZH (HKP.out.trans (hpb w0 HQ2.out hbs).2);have hbs8:=HQ8.out.size;have HP8:=ZH hp;obtain⟨q8,hq8⟩:∃q8,({p with a:=p.a++[R]}:Pg)=q8:=⟨_,rfl⟩;have HE:Hid (({p with a:=p.a++[R],b:=p.b++[most]}:Pg)={q8 with b:=q8.b++[most]}):=by
     show _=_;rw[←hq8]
    have hlb:q8.b.length≤1000000:=by
     rw[←hq8];show p.b.length≤_;omega
    have HPE:Hid (P'={q8 with b:=q8.b++[most]}):=HP.out.trans HE.out;rw[hq8]at HP8;generalize ({m with a:=(A7,c7),rs:=m.rs++[(some ⟨w.heap.size+1,0,none⟩,n)]}:Pa)=m8 at HP8 HK8;clear hp hpb r1 r2 r3 r4 hh7 k0 k1 hW8 b2 hq8 HE HAP HRW HRow2 HP;obtain⟨b0,b1,b2,b3,b4⟩:=HP8.out.hd.fiveP;have HBP:=ZH HP8.out.bp;generalize hBB:m8.b.1=BB at b3 HBP;have HBB:=ZH hBB;generalize m8.b.2=cB at b3 HBP;clear b0 b1 b2 b4 hBB;go_wp2_with (at_builtin;refine wp_appNu _ _ W8 w0.heap.size tyI6 1 (.slice BB q8.b.length cB) q8.b.length (q8.b.map iw) #[.int .i64 most] (by first|rfl|simp) Tryz.underlying28 info_i6 rfl rfl (by decide) (by decide) HBP.out hbs8 hlb rfl rfl rfl rfl rfl rfl rfl ?_;intro v7 w7 r1 r2 r3 r4;obtain⟨A9,c9,rfl⟩:=r1.slice;rw[own_bl]at r2 r4;rw[own_bl]at r4;have hh7:Blk w7 g tyRw (pgC m8 q8):=(r2.block g HP8.out.hd.lt (fun e=>(HP8.out.nb g (by rw[HBB.out];exact e.symm)).1 rfl)).trans HP8.out.hd;have k0:=(hh7.cell 3).trans rfl;have k1:=hh7.frozen 3);have hp:=HP8.out.pushB (A':=A9) (c':=c9) (z:=most) r1 (by rw[HBB.out];exact r2) (by rw[HBB.out];exact r4);exact⟨rfl,_,by simp[results,Tryz.results60,go_sem],rfl,(hp.2 w0 HQ8.out hbs8).1,_,by rw[HPE.out];exact hp.1,HK8.out.trans (hp.2 w0 HQ8.out hbs8).2⟩
end Go.Proofs.YtecfcjdgmpopjaaGreat
