/-
  Joined texts: Cg, Cj.
-/
import Derived.Test.YtjlhjabgclflcaaGreatDoorCe
import Derived.Test.YtjlhjabgclflcaaGreatDoorCi
set_option linter.unusedSimpArgs false
set_option linter.unusedVariables false
namespace Go.Proofs.YtjlhjabgclflcaaGreatDoor
open Go.RowKit Num Go.Joins
def Lay.flat {α:Type} (L:Lay α):Prop:=∀(k:Nat) (F F':Nat→Prop) (w w':World) (v:Value) (a:α),(L.C k).P F w v a→(L.C k).P F' w' v a
theorem Lay.own_kept {α:Type} {L:Lay α} (hf:L.flat) {base:Nat} {w w':World} {v:Value} {l:List α} {row:Option Nat} (h:L.own base w v l) (hg:w.grownBy w' row) (hne:v.ownBlock=none∨v.ownBlock≠row):L.own base w' v l:=by
 obtain ⟨xs,h1,h1',h2⟩:=h;refine ⟨xs,World.ownsRow.kept h1 hg hne,h1',fun j hj k hk=> ?_⟩;obtain ⟨x,hx,hp⟩:=h2 j hj k hk;exact ⟨x,hx,hf _ _ _ _ _ _ _ hp⟩
theorem Lay.own_row1 {α:Type} {L:Lay α} (hf:L.flat) {base:Nat} {w:World} {v:Value} {l:List α} (h:L.own base w v l):L.row.P (fun b=>v.ownBlock=some b) w v l:=by
 have hr:=Lay.own_row h;obtain ⟨xs,⟨_,h3⟩,_⟩:=h;obtain ⟨A,c,h1,h2,hc,h4⟩:=hr;refine ⟨A,c,h1,h2,hc,fun hn=> ?_⟩;obtain ⟨b,o,h5,h6,h7,h8⟩:=h4 hn;refine ⟨b,o,h5,?_,h7,fun j hj k hk=> ?_⟩
 ·rcases h3 with ⟨hv,h3⟩|⟨g,cap,cur,hv,_⟩
  ·exact absurd (List.length_eq_zero_iff.1 h3) hn
  ·rw[hv]at h1⊢;injection h1 with e1 _ _;rw[h5]at e1;injection e1 with e1;injection e1 with e1 _ _;rw[←e1];rfl
 ·obtain ⟨x,hx,hp⟩:=h8 j hj k hk;exact ⟨x,hx,hf _ _ _ _ _ _ _ hp⟩
theorem flat_n (ty:TypeId):(layN ty).flat:=fun _ _ _ _ _ _ _ h=>h
def layX (ty:TypeId):Lay (Ot×Value):=⟨ty,4,fun
 |0=> .eq fun x=> .string ⟨x.1.name.toArray⟩
 |1=> .eq fun x=> .bool x.1.bool
 |2=> .eq fun x=> .bool x.1.arr
 |_=> .eq fun x=>x.2⟩
theorem flat_x (ty:TypeId):(layX ty).flat:=fun k _ _ _ _ _ _ h=>by
 match k,h with
 |0,h=>exact h
 |1,h=>exact h
 |2,h=>exact h
 |_+3,h=>exact h
theorem x_new {ty:TypeId} {F:Nat→Prop} {w:World} {o:Ot} {V:Value}:∀k,k<(layX ty).sz→∃x,(#[.string ⟨o.name.toArray⟩,.bool o.bool,.bool o.arr,V]:Array Value).toList[k]? =some x∧((layX ty).C k).P F w x (o,V):=fun k hk=>by
 match k,hk with
 |0,_=>exact ⟨_,rfl,rfl⟩
 |1,_=>exact ⟨_,rfl,rfl⟩
 |2,_=>exact ⟨_,rfl,rfl⟩
 |3,_=>exact ⟨_,rfl,rfl⟩
theorem rowX_rowO {ty tx:TypeId} {base:Nat} {w:World} {v:Value} {ps:List (Ot×Value)} (h:(layX ty).own base w v ps) (hr:∀p∈ps,(layN tx).row.P (fun _=>True) w p.2 p.1.x):(layO ty tx).row.P (fun _=>True) w v (ps.map (·.1)):=by
 obtain ⟨A,c,h1,h2,hc,h4⟩:=Lay.own_row h;refine ⟨A,c,by rw[List.length_map];exact h1,by rw[List.length_map];exact h2,hc,fun hn=> ?_⟩;obtain ⟨b,o,h5,h6,h7,h8⟩:=h4 (fun e=>hn (by rw[e];rfl));refine ⟨b,o,h5,trivial,h7,fun j hj k hk=> ?_⟩;have hj2:j<ps.length:=by rw[List.length_map]at hj;exact hj
 obtain ⟨x,hx,hp⟩:=h8 j hj2 k hk;refine ⟨x,hx,?_⟩;rw[List.getElem_map];have hm:=hr _ (List.getElem_mem hj2);generalize ps[j]=q at*;have hk4:k<4:=hk;match k,hk4,hp with
 |0,_,hp=>exact hp
 |1,_,hp=>exact hp
 |2,_,hp=>exact hp
 |3,_,hp=>
  have hp':x=q.2:=hp;subst hp';exact hm
theorem row_lt {ty:TypeId} {F:Nat→Prop} {w:World} {v:Value} {l:List Int} (h:(layN ty).row.P F w v l):(layN ty).row.P (fun b=>F b∧b<w.heap.size) w v l:=by
 obtain ⟨A,c,h1,h2,h3,h4⟩:=h;refine ⟨A,c,h1,h2,h3,fun hn=> ?_⟩;obtain ⟨b,o,h5,h6,h7,h8⟩:=h4 hn;exact ⟨b,o,h5,⟨h6,h7⟩,h7,fun j hj k hk=>by
  obtain ⟨x,hx,hp⟩:=h8 j hj k hk;exact ⟨x,hx,flat_n ty _ _ _ _ _ _ _ hp⟩⟩
structure OnW (W w:World) (vO vA:Value) (ps:List (Ot×Value)) (av:List Int):Prop where
 outs:(layX 46).own W.heap.size w vO ps
 ow:(layN 2).own W.heap.size w vA av
 ne:∀g,vO.ownBlock=some g→vA.ownBlock≠some g
 xs:∀p∈ps,(layN 3).row.P (fun b=>W.heap.size≤b∧vO.ownBlock≠some b∧vA.ownBlock≠some b) w p.2 p.1.x
 bel:Below W.heap.size W w
theorem OnW.start (W:World):OnW W W (.slice none 0 0) (.slice none 0 0) [] []:=
 ⟨Lay.own_nil _ _ _,Lay.own_nil _ _ _,(fun g e=>by cases e),(fun p h=>by cases h),Below.refl _ _⟩
structure OnI (W W1 w:World) (o:Ot) (vO vA:Value) (ps:List (Ot×Value)) (av xv:List Int) (A4:Option Addr) (c4:Nat) (D:Nat→Prop):Prop where
 outs:(layX 46).own W.heap.size w vO ps
 ow:(layN 2).own W.heap.size w vA av
 hO:∀g,vO.ownBlock=some g→g<W1.heap.size
 hA:∀g,vA.ownBlock=some g→g≠W1.heap.size+1∧¬D g∧vO.ownBlock≠some g
 hD:∀b,D b→W.heap.size≤b∧b<W1.heap.size∧vO.ownBlock≠some b
 xs:∀p∈ps,(layN 3).row.P D w p.2 p.1.x
 p:Blk w (W1.heap.size+1) 46 #[.string ⟨o.name.toArray⟩,.bool o.bool,.bool o.arr,.slice A4 xv.length c4]
 own4:(layN 3).own (W1.heap.size+2) w (.slice A4 xv.length c4) xv
 ne4:∀g,(Value.slice A4 xv.length c4).ownBlock=some g→vA.ownBlock≠some g
 size:W1.heap.size+2≤w.heap.size
 sz0:W.heap.size≤W1.heap.size
 bel:Below W.heap.size W w
theorem OnW.step {W W1:World} {vO vA:Value} {ps:List (Ot×Value)} {av:List Int} (h:OnW W W1 vO vA ps av) (o:Ot) {t1:TypeId} {cs1:Array Value}:OnI W W1 ((W1.alloc (.cells cs1 t1)).alloc (.cells #[.string ⟨o.name.toArray⟩,.bool o.bool,.bool o.arr,.slice none 0 0] 46)) o vO vA ps av [] none 0 (fun b=>(W.heap.size≤b∧vO.ownBlock≠some b∧vA.ownBlock≠some b)∧b<W1.heap.size):=by
 have q:Below W1.heap.size W1 ((W1.alloc (.cells cs1 t1)).alloc (.cells #[.string ⟨o.name.toArray⟩,.bool o.bool,.bool o.arr,.slice none 0 0] 46)):=(below_alloc1 W1 _).alloc (by simp) _;refine ⟨Lay.own_below h.outs q,Lay.own_below h.ow q,fun g e=>(Lay.own_lt h.outs g e).2,fun g e=>⟨?_,fun hd=>hd.1.2.2 e,fun e2=>h.ne g e2 e⟩,fun b hb=>⟨hb.1.1,hb.2,hb.1.2.1⟩,fun p hp=> ?_,Blk.at_ (by simp),Lay.own_nil _ _ _,(fun g e=>by cases e),(by simp),h.bel.size,h.bel.trans (q.mono h.bel.size)⟩
 ·have:=(Lay.own_lt h.ow g e).2;omega
 ·exact Dt.below _ (row_lt (h.xs p hp)) q (Nat.le_refl _)
theorem OnI.far {W W1 w:World} {o:Ot} {vO vA:Value} {ps:List (Ot×Value)} {av xv:List Int} {A4:Option Addr} {c4:Nat} {D:Nat→Prop} (h:OnI W W1 w o vO vA ps av xv A4 c4 D):∀w7:World,w.grownBy w7 (Value.slice A4 xv.length c4).ownBlock→Blk w7 (W1.heap.size+1) 46 #[.string ⟨o.name.toArray⟩,.bool o.bool,.bool o.arr,.slice A4 xv.length c4]:=fun w7 hg=>
 (hg.block _ h.p.lt (fun e=>by
  have:=(Lay.own_lt h.own4 _ e.symm).1;omega)).trans h.p
theorem kept_or {v:Value} {row:Option Nat} (h:∀g,v.ownBlock=some g→row≠some g):v.ownBlock=none∨v.ownBlock≠row:=by
 cases hv:v.ownBlock with
 |none=>exact .inl rfl
 |some g=>exact .inr fun e=>h g hv e.symm
theorem OnI.putX {W W1 w w7:World} {o:Ot} {vO vA:Value} {ps:List (Ot×Value)} {av xv x2:List Int} {A4 A7:Option Addr} {c4 c7:Nat} {D:Nat→Prop} (h:OnI W W1 w o vO vA ps av xv A4 c4 D) (hg:w.grownBy w7 (Value.slice A4 xv.length c4).ownBlock) (ho:(layN 3).own (W1.heap.size+2) w7 (.slice A7 x2.length c7) x2) (hat:(Value.slice A7 x2.length c7).ownBlock=(Value.slice A4 xv.length c4).ownBlock∨∀g,(Value.slice A7 x2.length c7).ownBlock=some g→w.heap.size≤g):OnI W W1 (w7.setCell ⟨W1.heap.size+1,3,none⟩ (.slice A7 x2.length c7)) o vO vA ps av x2 A7 c7 D:=by
 have q:=grown_set w7 ⟨W1.heap.size+1,3,none⟩ (.slice A7 x2.length c7);have h4:=Lay.own_lt h.own4;have hO4:∀g,vO.ownBlock=some g→(Value.slice A4 xv.length c4).ownBlock≠some g:=fun g e e2=>by
  have:=h.hO g e;have:=(h4 g e2).1;omega
 have hOp:∀g,vO.ownBlock=some g→some (W1.heap.size+1)≠some g:=fun g e e2=>by
  have:=h.hO g e;injection e2 with e2;omega
 have hA4:∀g,vA.ownBlock=some g→(Value.slice A4 xv.length c4).ownBlock≠some g:=fun g e e2=>h.ne4 g e2 e;have hAp:∀g,vA.ownBlock=some g→some (W1.heap.size+1)≠some g:=fun g e e2=>by
  injection e2 with e2;exact (h.hA g e).1 e2.symm
 have hs:=h.size;have hz:=h.sz0;refine ⟨Lay.own_kept (flat_x _) (Lay.own_kept (flat_x _) h.outs hg (kept_or hO4)) q (kept_or hOp),Lay.own_kept (flat_n _) (Lay.own_kept (flat_n _) h.ow hg (kept_or hA4)) q (kept_or hAp),h.hO,h.hA,h.hD,fun p hp=> ?_,(h.far w7 hg).set_ 3 _,Lay.own_grown ho q (fun g e=>by injection e with e;subst e;show _+1<_;omega),fun g e e2=> ?_,?_,h.sz0,?_⟩
 ·refine Dt.grown _ (Dt.grown _ (h.xs p hp) hg fun b hb e=> ?_) q fun b hb e=> ?_
  ·have:=(h.hD b hb).2.1;have:=(h4 b e.symm).1;omega
  ·have:=(h.hD b hb).2.1;have e':b=W1.heap.size+1:=by injection e
   omega
 ·rcases hat with hat|hat
  ·rw[hat]at e;exact h.ne4 g e e2
  ·have:=hat g e;have:=(Lay.own_lt h.ow g e2).2;omega
 ·simp;exact Nat.le_trans hs hg.size
 ·have h2:Below W.heap.size W w7:=h.bel.grown hg h.bel.size (fun g e=>by
   have:=(h4 g e).1;omega)
  exact h2.grown q h2.size (fun g e=>by injection e with e;subst e;show _≤_+1;omega)
theorem OnI.putA {W W1 w w7:World} {o:Ot} {vO vA vA7:Value} {ps:List (Ot×Value)} {av av2 xv:List Int} {A4:Option Addr} {c4:Nat} {D:Nat→Prop} (h:OnI W W1 w o vO vA ps av xv A4 c4 D) (hg:w.grownBy w7 vA.ownBlock) (ho:(layN 2).own W.heap.size w7 vA7 av2) (hat:vA7.ownBlock=vA.ownBlock∨∀g,vA7.ownBlock=some g→w.heap.size≤g):OnI W W1 w7 o vO vA7 ps av2 xv A4 c4 D:=by
 have h4:=Lay.own_lt h.own4;have hs:=h.size;refine ⟨Lay.own_kept (flat_x _) h.outs hg (kept_or fun g e e2=>(h.hA g e2).2.2 e),ho,h.hO,fun g e=> ?_,h.hD,fun p hp=>Dt.grown _ (h.xs p hp) hg fun b hb e=>(h.hA b e.symm).2.1 hb,?_,Lay.own_kept (flat_n _) h.own4 hg (kept_or fun g e e2=>h.ne4 g e e2),fun g e e2=> ?_,Nat.le_trans hs hg.size,h.sz0,h.bel.grown hg h.bel.size (fun g e=>(Lay.own_lt h.ow g e).1)⟩
 ·rcases hat with hat|hat
  ·rw[hat]at e;exact h.hA g e
  ·have h5:=hat g e;refine ⟨by omega,fun hd=> ?_,fun e2=> ?_⟩
   ·have:=(h.hD g hd).2.1;omega
   ·have:=h.hO g e2;omega
 ·exact (hg.block _ h.p.lt (fun e=>(h.hA _ e.symm).1 rfl)).trans h.p
 ·rcases hat with hat|hat
  ·rw[hat]at e2;exact h.ne4 g e e2
  ·have:=hat g e2;have:=(h4 g e).2;omega
theorem OnI.putO {W W1 w w7:World} {o:Ot} {vO vA vO7:Value} {ps:List (Ot×Value)} {av xv:List Int} {A4:Option Addr} {c4:Nat} {D:Nat→Prop} (h:OnI W W1 w o vO vA ps av xv A4 c4 D) (hg:w.grownBy w7 vO.ownBlock) (ho:(layX 46).own W.heap.size w7 vO7 (ps++[(⟨o.name,o.bool,o.arr,xv⟩,.slice A4 xv.length c4)])) (hat:vO7.ownBlock=vO.ownBlock∨∀g,vO7.ownBlock=some g→w.heap.size≤g):OnW W w7 vO7 vA (ps++[(⟨o.name,o.bool,o.arr,xv⟩,.slice A4 xv.length c4)]) av:=by
 have h4:=Lay.own_lt h.own4;have hs:=h.size;have hz:=h.sz0;have hOA:∀g,vA.ownBlock=some g→vO7.ownBlock≠some g:=fun g e e2=>by
  rcases hat with hat|hat
  ·rw[hat]at e2;exact (h.hA g e).2.2 e2
  ·have:=hat g e2;have:=(Lay.own_lt h.ow g e).2;omega
 refine ⟨ho,Lay.own_kept (flat_n _) h.ow hg (kept_or fun g e e2=>(h.hA g e).2.2 e2),fun g e e2=>hOA g e2 e,fun p hp=> ?_,h.bel.grown hg h.bel.size (fun g e=>(Lay.own_lt h.outs g e).1)⟩;rcases List.mem_append.1 hp with hp|hp
 ·refine (layN 3).row.mono (fun b hb=> ?_) (Dt.grown _ (h.xs p hp) hg fun b hb e=>(h.hD b hb).2.2 e.symm);obtain ⟨d1,d2,d3⟩:=h.hD b hb;refine ⟨d1,fun e=> ?_,fun e=>(h.hA b e).2.1 hb⟩;rcases hat with hat|hat
  ·rw[hat]at e;exact d3 e
  ·have:=hat b e;omega
 ·rw[List.mem_singleton.1 hp];refine (layN 3).row.mono (fun b hb=> ?_) (Lay.own_row1 (flat_n _) (Lay.own_kept (flat_n _) h.own4 hg (kept_or fun g e e2=>by
   have:=h.hO g e2;have:=(h4 g e).1;omega)))
  obtain ⟨d1,d2⟩:=h4 b hb;refine ⟨by omega,fun e=> ?_,fun e=>h.ne4 b hb e⟩;rcases hat with hat|hat
  ·rw[hat]at e;have:=h.hO b e;omega
  ·have:=hat b e;omega
theorem outsP_snoc:∀(n:Nat) (l:List Ot) (vs:List (List Int)) (o:Ot) (v:List Int),l.length=vs.length→outsP n (l++[o]) (vs++[v])=outsP n l vs++[⟨o.name,o.bool,o.arr,placeX (n+vs.flatten.length) v.length⟩]
 |n,[],[],o,v,_=>rfl
 |n,x::l,y::vs,o,v,h=>by
  show _::outsP (n+y.length) (l++[o]) (vs++[v])=_::(outsP (n+y.length) l vs++_);rw[outsP_snoc (n+y.length) l vs o v (by simpa using h)];congr 3;rw[List.flatten_cons,List.length_append,Nat.add_assoc]
 |n,[],_::_,_,_,h=>by cases h
 |n,_::_,[],_,_,h=>by cases h
theorem place_snoc (n m:Nat):placeX n (m+1)=placeX n m++[((n+m:Nat):Int)]:=by
 unfold placeX;rw[List.range_succ,List.map_append];rfl
end Go.Proofs.YtjlhjabgclflcaaGreatDoor
set_option maxHeartbeats 8000000
set_option maxRecDepth 100000
set_option linter.unusedSimpArgs false
set_option linter.unusedVariables false
namespace Go.Proofs.YtjlhjabgclflcaaGreatDoor
open Go.RowKit Num Go.Joins
theorem readS_err (l:List Ot) (s:List UInt8):(readS l s).2.2=0∨readS l s=(0,[],5):=by
 unfold readS;split
 ·exact .inl rfl
 ·split
  ·exact .inl rfl
  ·split
   ·exact .inr rfl
   ·split
    ·exact .inr rfl
    ·split
     ·exact .inl rfl
     ·split
      ·exact .inl rfl
      ·exact .inr rfl
theorem info_int1:(Tryz.prog.info? 3).map (fun i=>(i.zero,i.size,i.bytes))=some (some (.int .i64 0),1,8):=by kernel_rfl
theorem few_outsP {l:List Ot} {vs:List (List Int)} (h:FewO l) (hl:l.length=vs.length) (hp:∀p∈l.zip vs,p.2.length=p.1.x.length):FewO (outsP 0 l vs):=by
 refine ⟨by rw[outs_len 0 l vs hl];exact h.1,fun o ho=> ?_⟩;have aux:∀(n:Nat) (l:List Ot) (vs:List (List Int)),l.length=vs.length→(∀o∈l,o.name.length≤10000∧o.x.length≤100)→(∀p∈l.zip vs,p.2.length=p.1.x.length)→∀o∈outsP n l vs,o.name.length≤10000∧o.x.length≤100:=by
  intro n l;induction l generalizing n with
  |nil=>
   intro vs hl _ _ o ho;unfold outsP at ho;cases ho
  |cons x l ih=>
   intro vs hl hf hp o ho;cases vs with
   |nil=>cases hl
   |cons y vs=>
    have ho':o∈(⟨x.name,x.bool,x.arr,placeX n y.length⟩:Ot)::outsP (n+y.length) l vs:=ho;rcases List.mem_cons.1 ho' with rfl|ho'
    ·refine ⟨(hf x List.mem_cons_self).1,?_⟩;show (placeX n y.length).length≤100;rw[place_len,hp (x,y) List.mem_cons_self];exact (hf x List.mem_cons_self).2
    ·exact ih (n+y.length) vs (by simpa using hl) (fun o ho=>hf o (List.mem_cons_of_mem _ ho)) (fun p hp'=>hp p (List.mem_cons_of_mem _ hp')) o ho'
 exact aux 0 l vs hl h.2 hp o ho
theorem read_lens {l:List Ot} {s:List UInt8} {k:Int} {vs:List (List Int)} (h:readS l s=(k,vs,0)) (hk:k=2∨k=3):l.length=vs.length∧∀p∈l.zip vs,p.2.length=p.1.x.length:=by
 unfold readS at h;split at h
 ·obtain ⟨a,_⟩:=Prod.mk.inj h;omega
 split at h
 ·obtain ⟨a,_⟩:=Prod.mk.inj h;omega
 cases hr:readA l s with
 |none=>
  rw[hr]at h;obtain ⟨_,b⟩:=Prod.mk.inj h;obtain ⟨_,b⟩:=Prod.mk.inj b;cases b
 |some p=>
  obtain ⟨us,r⟩:=p;rw[hr]at h;dsimp only at h;obtain ⟨c1,c2,c3,c4⟩:=lines_read hr;split at h
  ·obtain ⟨_,b⟩:=Prod.mk.inj h;obtain ⟨_,b⟩:=Prod.mk.inj b;cases b
  split at h
  ·obtain ⟨_,b⟩:=Prod.mk.inj h;obtain ⟨rfl,_⟩:=Prod.mk.inj b;exact ⟨c2,c3⟩
  split at h
  ·obtain ⟨_,b⟩:=Prod.mk.inj h;obtain ⟨rfl,_⟩:=Prod.mk.inj b;exact ⟨c2,c3⟩
  ·obtain ⟨_,b⟩:=Prod.mk.inj h;obtain ⟨_,b⟩:=Prod.mk.inj b;cases b
theorem flatten_len {vs:List (List Int)} (h:∀v∈vs,v.length≤100):vs.flatten.length≤100*vs.length:=by
 induction vs with
 |nil=>exact Nat.zero_le _
 |cons v vs ih=>
  have h1:=h v List.mem_cons_self;have h2:=ih fun v hv=>h v (List.mem_cons_of_mem _ hv);rw[List.flatten_cons,List.length_append,List.length_cons];omega
theorem text_nil (w:World) (hE:EnvM w) (k:Int) (hk:k=1∨k=4):Calls Tryz.prog 8 #[.slice none 0 0,.agg #[.int .i64 k,.slice none 0 0,.int .i64 0]] w fun e w2=>e= .returned (.tuple #[.string ⟨(if k=1 then unsatS else unknownS).toArray⟩,.int .i64 0])∧Below w.heap.size w w2:=by
 have:=rtxt_any (F:=fun _=>True) (G:=fun _=>True) none 0 [] k none 0 [] 0 w hE.env (Lay.row_nil (Nat.zero_le _)) (Lay.row_nil (Nat.zero_le _)) ⟨Nat.zero_le _,fun o ho=>by cases ho⟩ (Nat.zero_le _) (fun n hn=>by cases hn);rcases hk with rfl|rfl
 ·exact this
 ·exact this
theorem replyOnce_use (w:World) (hE:EnvM w) (A:Option Addr) (l:List Ot) (c:Nat) (ho:(layO 45 3).row.P (fun _=>True) w (.slice A l.length c) l) (hro:∀x∈l,RngO x) (s:ByteArray) (hss:s.size≤maxLen):Calls Tryz.prog 5 #[.slice A l.length c,.string s] w fun e w'=>e= .returned (.bool true)∧Below w.heap.size w w':=by
 have HA:=Lib.hid (alive23_any w hE);have HF:=Lib.hid (fun (w':World) (q:Below w.heap.size w w')=>fits23_any A c l none 0 0 w' (Dt.below _ ho q (Nat.le_refl _)));have HO:=Lib.hid ho;have HEn:Hid (∀w':World,Below w.heap.size w w'→EnvM w'):=fun w' q=>hE.below q;have HC:=Lib.hid (fun hf=>theirs_text w hE A l c ho 0 none [] 0 0 (Lay.row_nil (Nat.zero_le _)) (fun n hn=>by cases hn) hf);clear ho hss hro hE;go_enter Tryz.func5,Tryz.ntmps5;go_wp2_with fail;refine HA.out.mono ?_;rintro e w1 ⟨rfl,q1⟩;go_wp2_with fail;refine (HF.out _ q1).mono ?_;rintro e w2 ⟨rfl,q3⟩;have q4:=below_trans q1 q3;clear q1 q3;cases hf:fitsO l 0 with
 |false=>
  clear hf;go_wp2_with fail;refine bodyPost_ret (v:= .bool true) (by simp[results,Tryz.results5,go_sem]) rfl ⟨rfl,?_⟩;exact q4
 |true=>
  by_cases hbig:6000<s.size
  ·have d1:decide ((6000:Int)<(s.size:Int))=true:=decide_eq_true (by omega);have d2:decide (6000<s.size)=true:=decide_eq_true hbig;clear hf hbig;go_wp2_with fail;refine bodyPost_ret (v:= .bool true) (by simp[results,Tryz.results5,go_sem]) rfl ⟨rfl,?_⟩;exact q4
  ·have d1:decide ((6000:Int)<(s.size:Int))=false:=decide_eq_false (by omega);have d2:decide (6000<s.size)=false:=decide_eq_false hbig;obtain ⟨HTh,-,HRd⟩:=HC.out hf;obtain ⟨hfew,-,-⟩:=fits_few hf;have HFew:=Lib.hid hfew;have hll:=hfew.1;replace HTh:=Lib.hid HTh;have HRd2:=Lib.hid (fun (w':World) (A':Option Addr) (c':Nat) (q:Below w.heap.size w w') h=>HRd w' A' c' s (by omega) q h);have HS:=Lib.hid (readS_err l s.data.toList);have HOn:=Lib.hid (fun k vs (h:readS l s.data.toList=(k,vs,0))=>reply_once h);have HLs:=Lib.hid (fun k vs (h:readS l s.data.toList=(k,vs,0)) hk=>read_lens h hk);have HSl:=Lib.hid (ByteArray.toList_eq s);clear hf hfew HC HRd hbig HA HF;generalize readS l s.data.toList=P at*;obtain ⟨k,vs,er⟩:=P;go_wp2_with fail;refine (HTh.out _ q4).mono ?_;rintro e w6 ⟨⟨A',c',rfl,hr⟩,q6⟩;have q7:=below_trans q4 q6;clear HTh q4 q6;go_wp2_with fail;refine (HRd2.out _ A' c' q7 hr).mono ?_;rintro e w7 ⟨⟨V,rfl,hV,hVr⟩,q8⟩;obtain ⟨B7,d7,rfl⟩:=Lay.row_len hV;dsimp only at hV hVr⊢;have q9:=below_trans q7 q8;have hx8:=Blk.new w7 40 #[.int .i64 k,.slice B7 vs.length d7];have q10:=below_alloc1 w7 (.cells #[.int .i64 k,.slice B7 vs.length d7] 40);have hV8:=Dt.below _ hV q10 (Nat.le_refl _);have q11:=below_trans q9 q10;obtain ⟨x0,x1,_,_⟩:=hx8.both;clear hr hV q7 q8 q9 q10 HRd2;go_upto_region 6 with fail;generalize w7.alloc (.cells #[.int .i64 k,.slice B7 vs.length d7] 40)=W8 at*;generalize w7.heap.size=g7 at*;rcases HS.out with hs|hs
   ·obtain rfl:er=0:=hs;have hon:=HOn.out k vs rfl;have HLs2:=Lib.hid (HLs.out k vs rfl);clear HOn HLs HS;rcases hon with ⟨rfl,h2,rfl⟩|⟨rfl,h2,rfl⟩|⟨hk,hvl,hrep⟩
    ·have e1:((⟨unsatS.toArray⟩:ByteArray).toList==s.toList)=true:=by
      rw[ByteArray.toList_eq,HSl.out,h2];exact beq_self_eq_true _
     have HT:=Lib.hid (text_nil W8 (HEn.out _ q11) 1 (.inl rfl));rw[if_pos rfl]at HT;generalize (⟨unsatS.toArray⟩:ByteArray)=U at*;clear h2 hV8 hVr HLs2;go_wp2_with fail;refine HT.out.mono ?_;rintro e w9 ⟨rfl,q12⟩;go_wp2_with fail;refine bodyPost_ret (v:= .bool true) (by simp[results,Tryz.results5,go_sem]) rfl ⟨rfl,?_⟩;exact below_trans q11 q12
    ·have e1:((⟨unknownS.toArray⟩:ByteArray).toList==s.toList)=true:=by
      rw[ByteArray.toList_eq,HSl.out,h2];exact beq_self_eq_true _
     have HT:=Lib.hid (text_nil W8 (HEn.out _ q11) 4 (.inr rfl));rw[if_neg (by decide)]at HT;generalize (⟨unknownS.toArray⟩:ByteArray)=U at*;clear h2 hV8 hVr HLs2;go_wp2_with fail;refine HT.out.mono ?_;rintro e w9 ⟨rfl,q12⟩;go_wp2_with fail;refine bodyPost_ret (v:= .bool true) (by simp[results,Tryz.results5,go_sem]) rfl ⟨rfl,?_⟩;exact below_trans q11 q12
    ·have HRep:=Lib.hid hrep;have HVL:=Lib.hid hvl;have HLp:=Lib.hid (HLs2.out hk).2;clear hrep hvl HLs2;go_upto_region 10 with fail;go_cut [51] (fun s51 wx=>s51= .bool true∧wx=W8)
     case first=>
      by_cases h2:k=2
      ·have f2:(k==2)=true:=by rw[h2];rfl
       clear hk h2 x1 hV8 hVr;go_wp2_with fail;go_meet;exact ⟨rfl,rfl⟩
      ·have f2:(k==2)=false:=beq_false_of_ne h2;have h3:k=3:=by omega
       have f3:(k==3)=true:=by rw[h3];rfl
       clear hk h2 h3 x1 hV8 hVr;go_wp2_with fail;go_meet;exact ⟨rfl,rfl⟩
     case rest=>
      obtain ⟨rfl,rfl⟩:=hcut;have d3:((vs.length:Int) !=(l.length:Int))=false:=by rw[HVL.out];simp
      have HX8:=Lib.hid hx8;have HVw:=Lib.hid hV8;have HVr:=Lib.hid hVr;clear hx8 hV8 hVr hk d1 d2;have HTxt:Hid (∀(wr:World) (vO vA:Value) (ps:List (Ot×Value)) (av:List Int),ps.map (·.1)=outsP 0 l vs→av=vs.flatten→OnW wc wr vO vA ps av→∃A9 c9 A8 c8,vO= .slice A9 ps.length c9∧vA= .slice A8 av.length c8∧Calls Tryz.prog 8 #[.slice A9 ps.length c9,.agg #[.int .i64 k,.slice A8 av.length c8,.int .i64 0]] wr fun e w2=>e= .returned (.tuple #[.string s,.int .i64 0])∧Below wr.heap.size wr w2):=fun wr vO vA ps av h1 h2 hW=>by
       obtain ⟨A9,c9,rfl⟩:=Lay.own_len hW.outs;obtain ⟨A8,c8,rfl⟩:=Lay.own_len hW.ow;refine ⟨A9,c9,A8,c8,rfl,rfl,?_⟩;have hrow:=rowX_rowO (tx:=3) hW.outs (fun p hp=>(layN 3).row.mono (fun _ _=>trivial) (hW.xs p hp));have hl:ps.length=(outsP 0 l vs).length:=by rw[←h1,List.length_map]
       rw[h1,hl]at hrow;have hal:av.length≤100000:=by
        rw[h2];have:=flatten_len (vs:=vs) (fun v hv=>by
         obtain ⟨i,hi,rfl⟩:=List.mem_iff_getElem.1 hv;have hil:i<l.length:=by rw[HVL.out];exact hi
         have hz:i<(l.zip vs).length:=by rw[List.length_zip];omega
         have hm:=List.getElem_mem hz;rw[List.getElem_zip]at hm;have:=HLp.out _ hm;dsimp only at this;rw[this];exact (HFew.out.2 _ (List.getElem_mem hil)).2)
        have:=HVL.out;omega
       have:=rtxt_any A9 c9 (outsP 0 l vs) k A8 c8 av 0 wr (HEn.out _ (below_trans q11 hW.bel)).env hrow (Lay.own_row hW.ow) (few_outsP HFew.out HVL.out HLp.out) hal (fun n hn=>by
        rw[h2]at hn;obtain ⟨v,hv,hn⟩:=List.mem_flatten.1 hn;exact HVr.out v hv n hn)
       rw[h2]at this⊢;rw[HRep.out,←hl]at this;exact this
      go_wp2_with fail;clear d3;go_loopg [60,7,8] l.length (fun kk p vO vA wr=>∃(j:Nat) (ps:List (Ot×Value)) (av:List Int),kk=l.length-j∧j≤l.length∧p= .int .i64 (j:Nat)∧ps.map (·.1)=outsP 0 (l.take j) (vs.take j)∧av=(vs.take j).flatten∧av.length≤100*j∧ps.length=j∧OnW wc wr vO vA ps av)
      case atStart=>exact ⟨0,[],[],rfl,Nat.zero_le _,rfl,rfl,rfl,Nat.zero_le _,rfl,OnW.start wc⟩
      case round=>
       obtain ⟨j,ps,av,hkk,hj,rfl,hps,hav,hal,hpl,hW⟩:=hrel;obtain ⟨W1,rfl⟩:∃W1,W1=wr:=⟨_,rfl⟩;have HPs:=Lib.hid hps;have HAv:=Lib.hid hav;have HAl:=Lib.hid hal;have HPl:=Lib.hid hpl;have HW:=Lib.hid hW;clear hps hav hal hpl;by_cases hlt:j<l.length
       ·have d1:decide ((j:Int)<(l.length:Int))=true:=decide_eq_true (by omega);have hlt2:j<vs.length:=by rw[←HVL.out];exact hlt
        obtain ⟨b,o,hA,hb1,hc⟩:=row_o (Dt.below _ HO.out (below_trans q11 hW.bel) (Nat.le_refl _)) (row_ne hlt);obtain ⟨c0,c1,c2,A3,n3,c3,-⟩:=hc j hlt;obtain ⟨b2,o2,hB2,hb2',hc2⟩:=row_v HVw.out (row_ne hlt2);obtain ⟨A4,n4,k0,hv4⟩:=hc2 j hlt2;subst hA;clear hc hc2 hW;have HTl:=Lib.hid (List.take_succ_eq_append_getElem hlt);have HTv:=Lib.hid (List.take_succ_eq_append_getElem hlt2);have HVl:Hid ((vs[j]).length≤100):=by
         have hz:j<(l.zip vs).length:=by rw[List.length_zip];omega
         have hm:=List.getElem_mem hz;rw[List.getElem_zip]at hm;have:=HLp.out _ hm;dsimp only at this;show _≤_;rw[this];exact (HFew.out.2 _ (List.getElem_mem hlt)).2
        generalize l[j]=x at*;generalize vs[j]=v at*;obtain ⟨xn,xb,xa,xx⟩:=x;dsimp only at c0 c1 c2 c3;obtain ⟨D,hI⟩:∃D,OnI wc W1 ((W1.alloc (.cells #[.string ⟨xn.toArray⟩,.bool xb,.bool xa,.slice A3 xx.length n3] 45)).alloc (.cells #[.string ⟨xn.toArray⟩,.bool xb,.bool xa,.slice none 0 0] 46)) ⟨xn,xb,xa,[]⟩ u7 u8 ps av [] none 0 D:=⟨_,HW.out.step ⟨xn,xb,xa,[]⟩⟩;have HI:=Lib.hid hI;clear hI;go_upto_region 17 with fail;generalize (W1.alloc (.cells #[.string ⟨xn.toArray⟩,.bool xb,.bool xa,.slice A3 xx.length n3] 45)).alloc (.cells #[.string ⟨xn.toArray⟩,.bool xb,.bool xa,.slice none 0 0] 46)=W2 at*;obtain ⟨x0,x1,_,_⟩:=(HX8.out.below HI.out.bel (Nat.le_refl _)).both;have kk0:=(HI.out.bel.cell (p:=⟨b2,o2+j,none⟩) hb2').trans k0;subst hB2;clear c0 c1 c2 c3 k0;go_wp2_with fail;clear x0 x1 kk0 d1;go_loopg [78,8] v.length (fun kk p vA w2=>∃(i:Nat) (xv av2:List Int) (A5:Option Addr) (c5:Nat),kk=v.length-i∧i≤v.length∧p= .int .i64 (i:Nat)∧xv=placeX av.length i∧av2=av++v.take i∧OnI wc W1 w2 ⟨xn,xb,xa,[]⟩ u7 vA ps av2 xv A5 c5 D)
        case atStart=>exact ⟨0,[],av,none,0,rfl,Nat.zero_le _,rfl,rfl,by simp,HI.out⟩
        case round=>
         obtain ⟨i,xv,av2,A5,c5,hkk2,hi,rfl,hxv,hav2,hI⟩:=hrel;have hvl:=HVl.out;have hxl:Hid (xv.length=i):=by
          show _=_;rw[hxv,place_len]
         have hal2:Hid (av2.length=av.length+i):=by
          show _=_;rw[hav2,List.length_append,List.length_take];omega
         have HXv:=Lib.hid hxv;have HAv2:=Lib.hid hav2;clear hxv hav2;by_cases hit:i<v.length
         ·have d2:decide ((i:Int)<(v.length:Int))=true:=decide_eq_true (by omega);obtain ⟨b4,o4,hA4,hb4,hc4⟩:=row_n (Dt.below _ hv4 hI.bel (Nat.le_refl _)) (row_ne hit);have k1:=hc4 i hit;subst hA4;clear hc4;have HT2:=Lib.hid (List.take_succ_eq_append_getElem hit);generalize v[i]=n at*;obtain ⟨A8,c8,hA8⟩:=Lay.own_len hI.ow;subst hA8;obtain ⟨p0,p1,p2,p3⟩:=hI.p.four;have pf:=hI.p.frozen 3;have hlen4:xv.length≤1000000:=by rw[hxl.out];omega
          have HX2:Hid (xv++[(av2.length:Int)]=placeX av.length (i+1)):=by
           show _=_;rw[HXv.out,place_snoc,hal2.out]
          obtain ⟨x2,hx2⟩:∃x2,xv++[(av2.length:Int)]=x2:=⟨_,rfl⟩;have HS4:=Lib.hid hx2;rw[hx2]at HX2;have HA3:Hid (av2++[n]=av++v.take (i+1)):=by
           show _=_;rw[HAv2.out,HT2.out,List.append_assoc]
          obtain ⟨av3,ha3⟩:∃av3,av2++[n]=av3:=⟨_,rfl⟩;have HS5:=Lib.hid ha3;rw[ha3]at HA3;have own4:=hI.own4;have hsz:=hI.size;have HI2:=Lib.hid hI;clear hI hx2 ha3;go_upto_region 21 with (at_builtin;refine Lay.wp_app (layN 3) _ _ wr (W1.heap.size+2) (.slice A5 xv.length c5) xv (av2.length:Int) #[.int .i64 (av2.length:Int)] (by first|rfl|simp) Tryz.underlying43 info_int1 rfl (by decide) (by decide) own4 hsz hlen4 rfl rfl n_new rfl rfl rfl rfl ?_;intro v7 w7 ho7 hg7 hb7 hat7;have y1:=HI2.out.far w7 hg7;obtain ⟨_,_,_,y3⟩:=y1.four;have y4:=y1.frozen 3;rw[HS4.out]at ho7;obtain ⟨A7,c7,rfl⟩:=Lay.own_len ho7);have hI3:=HI2.out.putX hg7 ho7 hat7;generalize w7.setCell ⟨W1.heap.size+1,3,none⟩ (.slice A7 x2.length c7)=w8 at*;have how:=hI3.ow;have hbs:=hI3.bel.size;have hlen5:av2.length≤1000000:=by
           have:=HAl.out;rw[hal2.out];omega
          have HI3:=Lib.hid hI3;clear hI3 own4 hsz y1 y3 y4 ho7 hg7 hb7 hat7 p0 p1 p2 p3 pf k1;go_wp2_with (at_builtin;refine Lay.wp_app (layN 2) _ _ w8 wc.heap.size (.slice A8 av2.length c8) av2 n #[.int .i64 n] (by first|rfl|simp) Tryz.underlying23 info_n64 rfl (by decide) (by decide) how hbs hlen5 rfl rfl n_new rfl rfl rfl rfl ?_;intro v9 w9 ho9 hg9 hb9 hat9;rw[HS5.out]at ho9);go_roundg (v.length-(i+1))
          case measure=>omega
          case rel=>exact ⟨i+1,x2,av3,A7,c7,rfl,by omega,by simp,HX2.out,HA3.out,HI3.out.putA hg9 ho9 hat9⟩
         ·have d2:decide ((i:Int)<(v.length:Int))=false:=decide_eq_false (by omega);have hiv:i=v.length:=by omega
          obtain ⟨p0,p1,p2,p3⟩:=hI.p.four;have hos:=hI.outs;have hbs:=hI.bel.size;have hlen6:ps.length≤1000000:=by rw[HPl.out];omega
          have HPs2:Hid ((ps++[((⟨xn,xb,xa,xv⟩:Ot),Value.slice A5 xv.length c5)]).map (·.1)=outsP 0 (l.take (j+1)) (vs.take (j+1))):=by
           show _=_;rw[HTl.out,HTv.out,outsP_snoc 0 _ _ _ _ (by rw[List.length_take,List.length_take,HVL.out]),List.map_append,HPs.out,HXv.out,HAv.out,Nat.zero_add,hiv];rfl
          have HAv3:Hid (av2=(vs.take (j+1)).flatten):=by
           show _=_;rw[HTv.out,List.flatten_append,HAv2.out,HAv.out,hiv,List.take_length];simp
          have HAl3:Hid (av2.length≤100*(j+1)):=by
           show _≤_;have:=HAl.out;rw[hal2.out];omega
          have HI2:=Lib.hid hI;clear hI hiv;go_wp2_with (at_builtin;refine Lay.wp_app (layX 46) _ _ wr wc.heap.size _ ps (⟨xn,xb,xa,xv⟩,.slice A5 xv.length c5) #[.string ⟨xn.toArray⟩,.bool xb,.bool xa,.slice A5 xv.length c5] (by first|rfl|simp) Tryz.underlying31 info_mout rfl (by decide) (by decide) hos hbs hlen6 rfl rfl (x_new (o:=⟨xn,xb,xa,xv⟩)) rfl rfl rfl rfl ?_;intro v' w7 ho7 hg7 hb7 hat7);go_roundg (l.length-(j+1))
          case measure=>omega
          case rel=>exact ⟨j+1,_,av2,rfl,by omega,by simp,HPs2.out,HAv3.out,HAl3.out,by rw[List.length_append,HPl.out];rfl,HI2.out.putO hg7 ho7 hat7⟩
       ·have d1:decide ((j:Int)<(l.length:Int))=false:=decide_eq_false (by omega);have e1:l.take j=l:=List.take_of_length_le (by omega);have e2:vs.take j=vs:=List.take_of_length_le (by rw[←HVL.out];omega);have h1:=HPs.out;have h2:=HAv.out;rw[e1,e2]at h1;rw[e2]at h2;obtain ⟨A9,c9,A8,c8,hA9,hA8,HT⟩:=HTxt.out _ _ _ _ _ h1 h2 hW;replace HT:=Lib.hid HT;subst hA9 hA8;obtain ⟨x0,x1,_,_⟩:=(HX8.out.below hW.bel (Nat.le_refl _)).both;have q12:=below_trans q11 hW.bel;clear e1 e2 h1 h2 hW;go_wp2_with fail;refine HT.out.mono ?_;rintro e w9 ⟨rfl,q13⟩;go_wp2_with fail;refine bodyPost_ret (v:= .bool true) (by simp[results,Tryz.results5,go_sem]) rfl ⟨rfl,?_⟩;exact below_trans q12 q13
   ·obtain ⟨hs1,hs2⟩:=Prod.mk.inj hs;obtain ⟨hs3,hs4⟩:=Prod.mk.inj hs2;clear hs hs2;subst hs1 hs3 hs4;clear HOn HLs HS hV8 hVr;go_wp2_with fail;refine bodyPost_ret (v:= .bool true) (by simp[results,Tryz.results5,go_sem]) rfl ⟨rfl,?_⟩;exact q11
end Go.Proofs.YtjlhjabgclflcaaGreatDoor
