/-
  Joined texts: Zo, Zq, Wa, Wb, Wc, Vs, Vt, Wd, We, Wf, Ce.
-/
import Derived.Test.YtjlhjabgclflcaaGreatDoorZn
import Derived.Test.YtjlhjabgclflcaaGreatDoorZi
import Derived.Lib.SplitLaws
import Derived.Test.YtjlhjabgclflcaaGreatDoorVi
import Derived.Test.YtjlhjabgclflcaaGreatDoorVx
import Derived.Test.YtjlhjabgclflcaaGreatDoorDab
import Derived.Test.YtjlhjabgclflcaaGreatDoorZl
set_option linter.unusedSimpArgs false
set_option linter.unusedVariables false
namespace Go.Proofs.YtjlhjabgclflcaaGreatDoor
open Go.RowKit Num Go.Joins
theorem mapW_snoc (b:Bool) (w:List UInt8):∀ws:List (List UInt8),mapW b (ws++[w])=(mapW b ws).bind fun v=>(valueW b w).map fun n=>v++[n]
 |[]=>by
  show (valueW b w).bind _=_;cases valueW b w<;>rfl
 |x::xs=>by
  show (valueW b x).bind (fun v=>(mapW b (xs++[w])).map (v::·))=_;rw[mapW_snoc b w xs];show _=((valueW b x).bind fun v=>(mapW b xs).map (v::·)).bind _;cases valueW b x with
  |none=>rfl
  |some n=>
   cases mapW b xs with
   |none=>rfl
   |some v=>cases valueW b w<;>rfl
theorem mapW_no {b:Bool} {w:List UInt8}:∀{ws:List (List UInt8)},w∈ws→valueW b w=none→mapW b ws=none
 |x::xs,h,hi=>by
  show (valueW b x).bind (fun v=>(mapW b xs).map (v::·))=none;rcases List.mem_cons.1 h with rfl|h
  ·rw[hi];rfl
  ·rw[mapW_no h hi];cases valueW b x<;>rfl
theorem mapW_len {b:Bool}:∀{ws:List (List UInt8)} {v:List Int},mapW b ws=some v→v.length=ws.length
 |[],v,h=>by
  obtain rfl:=Option.some.inj h;rfl
 |x::xs,v,h=>by
  have h':(valueW b x).bind (fun v=>(mapW b xs).map (v::·))=some v:=h;cases hx:valueW b x with
  |none=>rw[hx]at h';cases h'
  |some n=>
   cases hv:mapW b xs with
   |none=>rw[hx,hv]at h';cases h'
   |some u=>
    rw[hx,hv]at h';obtain rfl:=Option.some.inj h';show u.length+1=xs.length+1;rw[mapW_len hv]
theorem read_no1 {o:Ot} {s:List UInt8} (h:Lib.hasPrefix s (headS o)=false):readT o s=none:=by
 unfold readT;rw[if_neg (by rw[h];decide)]
theorem read_cut {o:Ot} {s:List UInt8} (h:Lib.hasPrefix s (headS o)=true):readT o s=if (Lib.cut (Lib.trimPrefix s (headS o)) (tailS o)).2.2=true then (mapW o.bool (wordsS o (Lib.cut (Lib.trimPrefix s (headS o)) (tailS o)).1)).bind fun vs=>if vs.length=o.x.length∧mayS o vs=true then some (vs,(Lib.cut (Lib.trimPrefix s (headS o)) (tailS o)).2.1) else none else none:=by
 unfold readT Lib.cut Lib.trimPrefix;rw[if_pos h,if_pos h];by_cases hi:0≤Lib.index (s.drop (headS o).length) (tailS o)
 ·rw[if_pos hi,if_pos hi,if_pos rfl]
 ·rw[if_neg hi,if_neg hi,if_neg (fun h=>by cases h)]
theorem words_nil {o:Ot}:o.x=[]→wordsS o []=[]:=fun h=>if_pos ⟨h,rfl⟩
theorem words_split {o:Ot} {line:List UInt8} (h:¬(o.x=[]∧line=[])):wordsS o line=Lib.split line [44,32]:=if_neg h
theorem splitB_words (l:ByteArray):(Lib.splitB ⟨#[44,32]⟩ 0 (Lib.countB l ⟨#[44,32]⟩) l).map (·.data.toList)=Lib.split l.data.toList [44,32]:=Lib.splitB_data _ _ _ _
theorem splitW_num (l:ByteArray):(Lib.splitB ⟨#[44,32]⟩ 0 (Lib.countB l ⟨#[44,32]⟩) l).length=Lib.countB l ⟨#[44,32]⟩+1:=Lib.splitB_all _ (by decide) _ _ _ rfl
theorem countB_small (l:ByteArray):Lib.countB l ⟨#[44,32]⟩≤l.size:=Lib.countB_le _ (by decide) _ _ (Nat.le_refl _)
structure RdG (w0 w:World) (g:Nat) (o:Ot) (A3:Option Addr) (n3:Nat) (A4:Option Addr) (c4:Nat) (v:List Int):Prop where
 b1:Blk w g 56 #[.string ⟨o.name.toArray⟩,.bool o.bool,.bool o.arr,.slice A3 o.x.length n3,.slice A4 v.length c4]
 own:(layN 2).own w0.heap.size w (.slice A4 v.length c4) v
 size:w0.heap.size≤w.heap.size
 lt:g<w0.heap.size
 bel:Below g w0 w
 rest:∀b,b<w0.heap.size→b≠g→w.heap[b]? =w0.heap[b]?
theorem RdG.start {w0 w:World} {g:Nat} {o:Ot} {A3:Option Addr} {n3:Nat} (b:Blk w0 g 56 #[.string ⟨o.name.toArray⟩,.bool o.bool,.bool o.arr,.slice A3 o.x.length n3,.slice none 0 0]) (q:Below w0.heap.size w0 w):RdG w0 w g o A3 n3 none 0 [] where
 b1:=b.below q (Nat.le_refl _)
 own:=Lay.own_nil _ _ _
 size:=q.size
 lt:=b.lt
 bel:=q.mono (Nat.le_of_lt b.lt)
 rest:=fun k hk _=>q.block k hk
theorem RdG.below {w0 w w1:World} {g:Nat} {o:Ot} {A3 A4:Option Addr} {n3 c4:Nat} {v:List Int} (h:RdG w0 w g o A3 n3 A4 c4 v) (q:Below w.heap.size w w1):RdG w0 w1 g o A3 n3 A4 c4 v where
 b1:=h.b1.below q (Nat.le_refl _)
 own:=Lay.own_below h.own q
 size:=Nat.le_trans h.size q.size
 lt:=h.lt
 bel:=h.bel.trans (q.mono (Nat.le_of_lt h.b1.lt))
 rest:=fun k hk hne=>(q.block k (Nat.lt_of_lt_of_le hk h.size)).trans (h.rest k hk hne)
theorem RdG.cells {w0 w : World} {g : Nat} {o : Ot} {A3 A4 : Option Addr} {n3 c4 : Nat} {v : List Int} (h : RdG w0 w g o A3 n3 A4 c4 v) :
    w.cell? ⟨g, 0, none⟩ = some (.string ⟨o.name.toArray⟩) ∧ w.cell? ⟨g, 1, none⟩ = some (.bool o.bool) ∧ w.cell? ⟨g, 2, none⟩ = some (.bool o.arr) ∧ w.cell? ⟨g, 3, none⟩ = some (.slice A3 o.x.length n3) ∧
      w.cell? ⟨g, 4, none⟩ = some (.slice A4 v.length c4) ∧ w.frozen? ⟨g, 4, none⟩ = false := by
  obtain ⟨a, b, c, d, e⟩ := h.b1.five
  exact ⟨a, b, c, d, e, h.b1.frozen 4⟩
theorem RdG.far {w0 w:World} {g:Nat} {o:Ot} {A3 A4:Option Addr} {n3 c4:Nat} {v:List Int} (h:RdG w0 w g o A3 n3 A4 c4 v):∀w7:World,w.grownBy w7 (Value.slice A4 v.length c4).ownBlock→Blk w7 g 56 #[.string ⟨o.name.toArray⟩,.bool o.bool,.bool o.arr,.slice A3 o.x.length n3,.slice A4 v.length c4]:=by
 intro w7 hg;exact (hg.block _ h.b1.lt (fun e=>by
  have:=(Lay.own_lt h.own g e.symm).1;have:=h.lt;omega)).trans h.b1
theorem RdG.put {w0 w w7:World} {g:Nat} {o:Ot} {A3 A4 A7:Option Addr} {n3 c4 c7:Nat} {v v2:List Int} (h:RdG w0 w g o A3 n3 A4 c4 v) (hg:w.grownBy w7 (Value.slice A4 v.length c4).ownBlock) (hb:Below w0.heap.size w w7) (ho:(layN 2).own w0.heap.size w7 (.slice A7 v2.length c7) v2):RdG w0 (w7.setCell ⟨g,4,none⟩ (.slice A7 v2.length c7)) g o A3 n3 A7 c7 v2 where
 b1:=(h.far w7 hg).set_ 4 _
 own:=Lay.own_grown ho (grown_set w7 ⟨g,4,none⟩ _) (fun k e=>by injection e with e;subst e;exact h.lt)
 size:=by
  simp;exact Nat.le_trans h.size hg.size
 lt:=h.lt
 rest:=fun k hk hne=>((grown_set w7 ⟨g,4,none⟩ _).block k (Nat.lt_of_lt_of_le hk (Nat.le_trans h.size hg.size)) (fun e=>by injection e with e;exact hne e)).trans ((hb.block k hk).trans (h.rest k hk hne))
 bel:=by
  have h2:=h.bel.trans (hb.mono (Nat.le_of_lt h.lt));exact h2.grown (grown_set w7 ⟨g,4,none⟩ _) (Nat.le_trans (Nat.le_of_lt h.lt) h2.size) (fun k e=>by injection e with e;subst e;exact Nat.le_refl _)
end Go.Proofs.YtjlhjabgclflcaaGreatDoor
set_option linter.unusedSimpArgs false
set_option linter.unusedVariables false
namespace Go.Proofs.YtjlhjabgclflcaaGreatDoor
open Go.RowKit Num Go.Joins
theorem readA_app:∀(l m:List Ot) (s:List UInt8),readA (l++m) s=(readA l s).bind fun p=>(readA m p.2).map fun q=>(p.1++q.1,q.2)
 |[],m,s=>by
  show readA m s=(readA m s).map fun q=>([]++q.1,q.2);cases readA m s<;>rfl
 |o::l,m,s=>by
  show (readT o s).bind (fun p=>(readA (l++m) p.2).map fun q=>(p.1::q.1,q.2))=((readT o s).bind fun p=>(readA l p.2).map fun q=>(p.1::q.1,q.2)).bind _;cases readT o s with
  |none=>rfl
  |some p=>
   rw[Option.bind_some,Option.bind_some,readA_app l m];cases readA l p.2 with
   |none=>rfl
   |some q=>
    rw[Option.bind_some,Option.map_some,Option.bind_some];cases readA m q.2<;>rfl
theorem readA_one (o:Ot) (s:List UInt8):readA [o] s=(readT o s).map fun p=>([p.1],p.2):=by
 show (readT o s).bind (fun p=>some (p.1::[],p.2))=_;cases readT o s<;>rfl
theorem readA_snoc {l:List Ot} {o:Ot} {s r t:List UInt8} {vs:List (List Int)} {v:List Int} (h:readA l s=some (vs,r)) (h2:readT o r=some (v,t)):readA (l++[o]) s=some (vs++[v],t):=by
 rw[readA_app,h,Option.bind_some,readA_one,h2];rfl
theorem readA_no {l:List Ot} {j:Nat} (hj:j<l.length) {s r:List UInt8} {vs:List (List Int)} (h:readA (l.take j) s=some (vs,r)) (h2:readT l[j] r=none):readA l s=none:=by
 have e:l=l.take j++(l[j]::l.drop (j+1)):=by simp
 rw[e,readA_app,h,Option.bind_some];have:readA (l[j]::l.drop (j+1)) r=none:=by
  show (readT l[j] r).bind _=none;rw[h2];rfl
 rw[this];rfl
theorem readT_small {o:Ot} {s r:List UInt8} {v:List Int} (h:readT o s=some (v,r)):v.length=o.x.length∧r.length≤s.length:=by
 unfold readT at h;split at h
 ·split at h
  ·obtain ⟨vs,hvs,h⟩:=Option.bind_eq_some_iff.1 h;split at h
   ·rename_i hc;obtain ⟨rfl,rfl⟩:=Prod.mk.inj (Option.some.inj h);refine ⟨hc.1,?_⟩;rw[List.length_drop,List.length_drop];omega
   ·cases h
  ·cases h
 ·cases h
theorem readS_1 {l:List Ot}:readS l unsatS=(1,[],0):=if_pos rfl
theorem readS_4 {l:List Ot}:readS l unknownS=(4,[],0):=by
 unfold readS;rw[if_neg (by decide),if_pos rfl]
theorem readS_no {l:List Ot} {s:List UInt8} (h1:¬s=unsatS) (h4:¬s=unknownS) (h:readA l s=none):readS l s=(0,[],5):=by
 unfold readS;rw[if_neg h1,if_neg h4,h]
theorem readS_some {l:List Ot} {s r:List UInt8} {vs:List (List Int)} (h1:¬s=unsatS) (h4:¬s=unknownS) (h:readA l s=some (vs,r)):readS l s=if 64<l.length then (0,[],5) else if r=dashesS++equalsS then (3,vs,0) else if r=dashesS then (2,vs,0) else (0,[],5):=by
 unfold readS;rw[if_neg h1,if_neg h4,h]
def layV (tv tn:TypeId):Lay (List Int):=⟨tv,1,fun _=>(layN tn).row⟩
theorem row_v {tv tn:TypeId} {F:Nat→Prop} {w:World} {A:Option Addr} {n c:Nat} {l:List (List Int)} (h:(layV tv tn).row.P F w (.slice A n c) l) (hn:l≠[]):∃b o,A=some ⟨b,o,none⟩∧b<w.heap.size∧∀j (hj:j<l.length),∃A3 c3,w.cell? ⟨b,o+j,none⟩=some (.slice A3 l[j].length c3)∧(layN tn).row.P F w (.slice A3 l[j].length c3) l[j]:=by
 obtain ⟨A',c',h1,h2,h3,h4⟩:=h;obtain ⟨b,o,h5,h6,h7,h8⟩:=h4 hn;injection h1 with e1 _ _;subst e1;refine ⟨b,o,h5,h7,fun j hj=> ?_⟩;obtain ⟨u0,k0,p0⟩:=h8 j hj 0 (by show 0<1;omega);have p0':(layN tn).row.P F w u0 l[j]:=p0;obtain ⟨A3,c3,e3⟩:=Lay.row_len p0';subst e3;have e:o+j*(layV tv tn).sz+0=o+j:=by
  show o+j*1+0=_;omega
 rw[e]at k0;exact ⟨A3,c3,k0,p0'⟩
theorem info_vals:(Tryz.prog.info? 23).map (fun i=>(i.zero,i.size,i.bytes))=some (some (.slice none 0 0),1,24):=by kernel_rfl
theorem v_new {tv tn:TypeId} {F:Nat→Prop} {w:World} {v:List Int} {V:Value} (h:(layN tn).row.P F w V v):∀k,k<(layV tv tn).sz→∃x,(#[V]:Array Value).toList[k]? =some x∧((layV tv tn).C k).P F w x v:=fun k hk=>by
 match k,hk with
 |0,_=>exact ⟨_,rfl,h⟩
end Go.Proofs.YtjlhjabgclflcaaGreatDoor
set_option linter.unusedSimpArgs false
set_option linter.unusedVariables false
namespace Go.Proofs.YtjlhjabgclflcaaGreatDoor
open Go.RowKit Num
end Go.Proofs.YtjlhjabgclflcaaGreatDoor
set_option linter.unusedSimpArgs false
set_option linter.unusedVariables false
namespace Go.Proofs.YtjlhjabgclflcaaGreatDoor
open Go.RowKit Num
def FewE (y:Ex):Prop:=y.s.length≤100∧y.l.length≤100∧∀z∈y.l,z.s.length≤100
def FewP (x:It):Prop:=x.name.length≤100∧x.vals.length≤100∧x.dom.length≤300∧∀y∈x.vals,FewE y
end Go.Proofs.YtjlhjabgclflcaaGreatDoor
set_option linter.unusedSimpArgs false
set_option linter.unusedVariables false
namespace Go.Proofs.YtjlhjabgclflcaaGreatDoor
open Go.RowKit Num Go.Joins
end Go.Proofs.YtjlhjabgclflcaaGreatDoor
set_option linter.unusedSimpArgs false
set_option linter.unusedVariables false
namespace Go.Proofs.YtjlhjabgclflcaaGreatDoor
def AT (l:List Tok):Prop:=∀t∈l,Alone (stripT t)∧(t.k=1→t.t.length≤8000)
theorem AT.tail {t:Tok} {l:List Tok} (h:AT (t::l)):AT l:=fun u hu=>h u (List.mem_cons_of_mem _ hu)
def Sw {α:Type} (f:Pm α) (p:α→Nat→Prop):Prop:=∀l x r,AT l→f l= .ok x r→AT r∧∃n,wt l=n+wt r∧p x n
theorem Sw.mono {α:Type} {f:Pm α} {p q:α→Nat→Prop} (h:Sw f p) (hp:∀x n,p x n→q x n):Sw f q:=fun l x r ha e=>by
 obtain ⟨h1,n,h2,h3⟩:=h l x r ha e;exact ⟨h1,n,h2,hp x n h3⟩
def J (S:Ex→TX) (xs:List Ex):Nat:=(xs.map fun x=>(S x).1.length+2).sum
end Go.Proofs.YtjlhjabgclflcaaGreatDoor
set_option linter.unusedSimpArgs false
set_option linter.unusedVariables false
namespace Go.Proofs.YtjlhjabgclflcaaGreatDoor
def Fine (x:It) (n:Nat):Prop:=RngI x∧(itemS x).2=true∧(itemS x).1.length≤2*n+1
theorem Sp.len {s:List UInt8} {ts:List T3} (h:Sp s ts):ts.length≤s.length:=by
 induction h with
 |nil=>exact Nat.le_refl _
 | @no x s ts h g t ih=>
  have h1:=(alone_blank h s).1;have h2:0<x.2.1.length:=List.length_pos_iff.2 h1;rw[List.length_cons,List.length_append];omega
 | @sp x s ts h t ih=>
  rw[List.length_cons,List.length_append,List.length_cons];omega
 | @lf x s ts h t ih=>
  rw[List.length_cons,List.length_append,List.length_cons];omega
end Go.Proofs.YtjlhjabgclflcaaGreatDoor
set_option linter.unusedSimpArgs false
set_option linter.unusedVariables false
namespace Go.Proofs.YtjlhjabgclflcaaGreatDoor
open Go.RowKit Num Go.Joins
end Go.Proofs.YtjlhjabgclflcaaGreatDoor
set_option linter.unusedSimpArgs false
set_option linter.unusedVariables false
namespace Go.Proofs.YtjlhjabgclflcaaGreatDoor
open Go.RowKit Num Go.Joins
end Go.Proofs.YtjlhjabgclflcaaGreatDoor
set_option linter.unusedSimpArgs false
set_option linter.unusedVariables false
namespace Go.Proofs.YtjlhjabgclflcaaGreatDoor
open Go.RowKit Num Go.Joins
def Lay.old {α:Type} (L:Lay α) (w0:World) (S:Nat→Prop):Lay α:=⟨L.ty,L.sz,fun k=>(L.C k).at_ w0 S⟩
theorem row_old {α:Type} {L:Lay α} {w0 w:World} {S F:Nat→Prop} {v:Value} {l:List α} (h:(L.old w0 S).row.P F w v l) (hb:Below w0.heap.size w0 w):L.row.P (fun _=>True) w v l:=by
 obtain ⟨A,c,h1,h2,h3,h4⟩:=h;refine ⟨A,c,h1,h2,h3,fun hn=> ?_⟩;obtain ⟨b,o,h5,h6,h7,h8⟩:=h4 hn;refine ⟨b,o,h5,trivial,h7,fun j hj k hk=> ?_⟩;obtain ⟨x,hx,hp⟩:=h8 j hj k hk;have hp':(L.C k).P S w0 x l[j]:=hp;exact ⟨x,hx,(L.C k).mono (fun _ _=>trivial) ((L.C k).below hp' hb (Nat.le_refl _))⟩
end Go.Proofs.YtjlhjabgclflcaaGreatDoor
set_option maxHeartbeats 8000000
set_option maxRecDepth 100000
set_option linter.unusedSimpArgs false
set_option linter.unusedVariables false
namespace Go.Proofs.YtjlhjabgclflcaaGreatDoor
open Go.RowKit Num Go.Joins
theorem info_mout:(Tryz.prog.info? 46).map (fun i=>(i.zero,i.size,i.bytes))=some (some (.agg #[.string ⟨#[]⟩,.bool false,.bool false,.slice none 0 0]),4,48):=by kernel_rfl
theorem o_new {ty tx:TypeId} {S F:Nat→Prop} {w0 w:World} {o:Ot} {A3:Option Addr} {c3:Nat} (h:(layN tx).row.P S w0 (.slice A3 o.x.length c3) o.x):∀k,k<((layO ty tx).old w0 S).sz→∃x,(#[.string ⟨o.name.toArray⟩,.bool o.bool,.bool o.arr,.slice A3 o.x.length c3]:Array Value).toList[k]? =some x∧(((layO ty tx).old w0 S).C k).P F w x o:=fun k hk=>by
 match k,hk with
 |0,_=>exact ⟨_,rfl,rfl⟩
 |1,_=>exact ⟨_,rfl,rfl⟩
 |2,_=>exact ⟨_,rfl,rfl⟩
 |3,_=>exact ⟨_,rfl,h⟩
theorem theirs23_any {F:Nat→Prop} (A:Option Addr) (c:Nat) (l:List Ot) (w:World) (ho:(layO 45 3).row.P F w (.slice A l.length c) l) (hl:l.length≤10000):Calls Tryz.prog 9 #[.slice A l.length c] w fun e w'=>(∃A' c',e= .returned (.slice A' l.length c')∧(layO 46 3).row.P (fun _=>True) w' (.slice A' l.length c') l)∧Below w.heap.size w w':=by
 go_enter Tryz.func9,Tryz.ntmps9;go_wp2_with fail;go_loopg [8,3] l.length (fun k p v wr=>∃(j:Nat),k=l.length-j∧j≤l.length∧p= .int .i64 (j:Nat)∧((layO 46 3).old w F).own w.heap.size wr v (l.take j)∧Below w.heap.size w wr)
 case atStart=>exact ⟨0,rfl,Nat.zero_le _,rfl,Lay.own_nil _ _ _,Below.refl _ _⟩
 case round=>
  obtain ⟨j,hk,hj,rfl,how,hbl⟩:=hrel;by_cases hlt:j<l.length
  ·have d1:decide ((j:Int)<(l.length:Int))=true:=decide_eq_true (by omega);obtain ⟨b,o,hA,hb1,hc⟩:=row_o ho (row_ne hlt);obtain ⟨c0,c1,c2,A3,n3,c3,hrow⟩:=hc j hlt;have c0:=(hbl.cell (p:=⟨b,o+j*4,none⟩) hb1).trans c0;have c1:=(hbl.cell (p:=⟨b,o+j*4+1,none⟩) hb1).trans c1;have c2:=(hbl.cell (p:=⟨b,o+j*4+2,none⟩) hb1).trans c2;have c3:=(hbl.cell (p:=⟨b,o+j*4+3,none⟩) hb1).trans c3;subst hA;clear hc;have HT:=Lib.hid (List.take_succ_eq_append_getElem hlt);have hlen:(l.take j).length≤1000000:=by rw[List.length_take];omega
   obtain ⟨lj,hlj⟩:∃lj,l.take j=lj:=⟨_,rfl⟩;rw[hlj]at how hlen HT;clear hlj;generalize l[j]=x at*;obtain ⟨xn,xb,xa,xx⟩:=x;dsimp only at c0 c1 c2 c3 hrow;have q1:=below_alloc1 wr (.cells #[.string ⟨xn.toArray⟩,.bool xb,.bool xa,.slice A3 xx.length n3] 45);have how2:=Lay.own_below how q1;have hbs:w.heap.size≤(wr.alloc (.cells #[.string ⟨xn.toArray⟩,.bool xb,.bool xa,.slice A3 xx.length n3] 45)).heap.size:=Nat.le_trans hbl.size q1.size;have q2:=below_trans hbl q1;clear how;go_wp2_with (at_builtin;refine Lay.wp_app ((layO 46 3).old w F) _ _ (wr.alloc (.cells #[.string ⟨xn.toArray⟩,.bool xb,.bool xa,.slice A3 xx.length n3] 45)) w.heap.size _ lj ⟨xn,xb,xa,xx⟩ #[.string ⟨xn.toArray⟩,.bool xb,.bool xa,.slice A3 xx.length n3] (by first|rfl|simp) Tryz.underlying31 info_mout rfl (by show 0<4;decide) (by decide) how2 hbs hlen rfl rfl (o_new (o:=⟨xn,xb,xa,xx⟩) hrow) rfl rfl rfl rfl ?_;intro v' w7 ho7 hg7 hb7 hat7);go_roundg (l.length-(j+1))
   case measure=>omega
   case rel=>exact ⟨j+1,rfl,by omega,by simp,by rw[HT.out];exact ho7,q2.trans hb7⟩
  ·have d1:decide ((j:Int)<(l.length:Int))=false:=decide_eq_false (by omega);have e1:l.take j=l:=List.take_of_length_le (by omega);rw[e1]at how;clear e1 ho;obtain ⟨A9,c9,rfl⟩:=Lay.own_len how;have HR:=Lib.hid (row_old (Lay.own_row how) hbl);clear how;go_wp2_with fail;refine bodyPost_ret (v:= .slice A9 l.length c9) (by simp[results,Tryz.results9,go_sem]) rfl ⟨⟨A9,c9,rfl,HR.out⟩,hbl⟩
def fitO (o:Ot):Bool:=decide (o.name.length≤200)&&decide (o.x.length≤100)
def fitsO (l:List Ot) (n:Nat):Bool:=decide (l.length≤100)&&(decide (n≤100)&&l.all fitO)
theorem fits_few {l:List Ot} {n:Nat} (h:fitsO l n=true):FewO l∧(∀o∈l,o.name.length≤200)∧n≤100:=by
 unfold fitsO at h;simp only[Bool.and_eq_true,decide_eq_true_eq,List.all_eq_true]at h;obtain ⟨h1,h2,h3⟩:=h;have h4:∀o∈l,o.name.length≤200∧o.x.length≤100:=fun o ho=>by
  have:=h3 o ho;unfold fitO at this;simpa using this
 exact ⟨⟨h1,fun o ho=>⟨Nat.le_trans (h4 o ho).1 (by decide),(h4 o ho).2⟩⟩,fun o ho=>(h4 o ho).1,h2⟩
theorem fits23_any {F:Nat→Prop} (A:Option Addr) (c:Nat) (l:List Ot) (B:Option Addr) (n d:Nat) (w:World) (ho:(layO 45 3).row.P F w (.slice A l.length c) l):Calls Tryz.prog 7 #[.slice A l.length c,.slice B n d] w fun e w'=>e= .returned (.bool (fitsO l n))∧Below w.heap.size w w':=by
 have HF:Hid (fitsO l n=(decide (l.length≤100)&&(decide (n≤100)&&l.all fitO))):=rfl;generalize fitsO l n=D at*;by_cases h1:l.length≤100
 ·have d1:decide ((100:Int)<(l.length:Int))=false:=decide_eq_false (by omega);have d2:decide (100<l.length)=false:=decide_eq_false (by omega);by_cases h2:n≤100
  ·have d3:decide ((100:Int)<(n:Int))=false:=decide_eq_false (by omega);have d4:decide (100<n)=false:=decide_eq_false (by omega);have HF2:Hid (D=l.all fitO):=by
    show _=_;rw[HF.out,decide_eq_true h1,decide_eq_true h2];rfl
   clear HF;go_enter Tryz.func7,Tryz.ntmps7;go_wp2_with fail;go_loopg [17] l.length (fun k p wr=>∃(j:Nat),k=l.length-j∧j≤l.length∧p= .int .i64 (j:Nat)∧(l.take j).all fitO=true∧Below w.heap.size w wr)
   case atStart=>exact ⟨0,rfl,Nat.zero_le _,rfl,rfl,Below.refl _ _⟩
   case round=>
    obtain ⟨j,hk,hj,rfl,hall,hbl⟩:=hrel;have HA:=Lib.hid hall;clear hall;by_cases hlt:j<l.length
    ·have d5:decide ((j:Int)<(l.length:Int))=true:=decide_eq_true (by omega);obtain ⟨b,o,hA,hb1,hc⟩:=row_o (Dt.below _ ho hbl (Nat.le_refl _)) (row_ne hlt);obtain ⟨c0,c1,c2,A3,n3,c3,-⟩:=hc j hlt;subst hA;clear hc;have HS:=Lib.hid (fun h=>all_step (p:=fitO) hlt HA.out h);have HN:=Lib.hid (fun h=>all_no (p:=fitO) hlt h);generalize l[j]=x at*;obtain ⟨xn,xb,xa,xx⟩:=x;dsimp only at c0 c1 c2 c3;have hx:fitO ⟨xn,xb,xa,xx⟩=(decide (xn.length≤200)&&decide (xx.length≤100)):=rfl;have q1:=below_trans hbl (below_alloc1 wr (.cells #[.string ⟨xn.toArray⟩,.bool xb,.bool xa,.slice A3 xx.length n3] 45));obtain ⟨N,hN,hNs⟩:∃N:ByteArray,(⟨xn.toArray⟩:ByteArray)=N∧N.size=xn.length:=⟨_,rfl,by simp[ByteArray.size]⟩;rw[hN]at c0 q1;by_cases g1:xn.length≤200
     ·have d6:decide ((200:Int)<(N.size:Int))=false:=decide_eq_false (by omega);have d7:decide (200<N.size)=false:=decide_eq_false (by omega);by_cases g2:xx.length≤100
      ·have d8:decide ((100:Int)<(xx.length:Int))=false:=decide_eq_false (by omega);have d9:decide (100<xx.length)=false:=decide_eq_false (by omega);have HSS:=Lib.hid (HS.out (by rw[hx,decide_eq_true g1,decide_eq_true g2];rfl));clear hx hN hNs g1 g2 HS HN;go_wp2_with fail;go_roundg (l.length-(j+1))
       case measure=>omega
       case rel=>exact ⟨j+1,rfl,by omega,by simp,HSS.out,q1⟩
      ·have d8:decide ((100:Int)<(xx.length:Int))=true:=decide_eq_true (by omega);have d9:decide (100<xx.length)=true:=decide_eq_true (by omega);have HNN:=Lib.hid (HN.out (by rw[hx,decide_eq_true g1,decide_eq_false g2];rfl));clear hx hN hNs g1 g2 HS HN;go_wp2_with fail;refine bodyPost_ret (v:= .bool false) (by simp[results,Tryz.results7,go_sem]) rfl ⟨?_,?_⟩
       ·rw[HF2.out,HNN.out]
       ·exact q1
     ·have d6:decide ((200:Int)<(N.size:Int))=true:=decide_eq_true (by omega);have d7:decide (200<N.size)=true:=decide_eq_true (by omega);have HNN:=Lib.hid (HN.out (by rw[hx,decide_eq_false g1];rfl));clear hx hN hNs g1 HS HN;go_wp2_with fail;refine bodyPost_ret (v:= .bool false) (by simp[results,Tryz.results7,go_sem]) rfl ⟨?_,?_⟩
      ·rw[HF2.out,HNN.out]
      ·exact q1
    ·have d5:decide ((j:Int)<(l.length:Int))=false:=decide_eq_false (by omega);have HSS:Hid (l.all fitO=true):=all_end (k:=j) (by omega) HA.out;clear ho;go_wp2_with fail;refine bodyPost_ret (v:= .bool true) (by simp[results,Tryz.results7,go_sem]) rfl ⟨?_,?_⟩
     ·rw[HF2.out,HSS.out]
     ·exact hbl
  ·have d3:decide ((100:Int)<(n:Int))=true:=decide_eq_true (by omega);have d4:decide (100<n)=true:=decide_eq_true (by omega);have HF2:Hid (D=false):=by
    show _=_;rw[HF.out,decide_eq_true h1,decide_eq_false h2];rfl
   clear HF h1 h2 ho;go_enter Tryz.func7,Tryz.ntmps7;go_wp2_with fail;refine bodyPost_ret (v:= .bool false) (by simp[results,Tryz.results7,go_sem]) rfl ⟨?_,?_⟩
   ·rw[HF2.out]
   ·exact Below.refl _ _
 ·have d1:decide ((100:Int)<(l.length:Int))=true:=decide_eq_true (by omega);have d2:decide (100<l.length)=true:=decide_eq_true (by omega);have HF2:Hid (D=false):=by
   show _=_;rw[HF.out,decide_eq_false h1];rfl
  clear HF h1 ho;go_enter Tryz.func7,Tryz.ntmps7;go_wp2_with fail;refine bodyPost_ret (v:= .bool false) (by simp[results,Tryz.results7,go_sem]) rfl ⟨?_,?_⟩
  ·rw[HF2.out]
  ·exact Below.refl _ _
end Go.Proofs.YtjlhjabgclflcaaGreatDoor
