/-
  Joined texts: Zg, Zh, Zi.
-/
import Derived.Test.YtjlhjabgclflcaaGreatDoorZf
import Derived.Deep.RegionLaw
set_option maxHeartbeats 4000000
set_option maxRecDepth 100000
set_option linter.unusedSimpArgs false
set_option linter.unusedVariables false
namespace Go.Proofs.YtjlhjabgclflcaaGreatDoor
open Go.RowKit Num Go.Joins
theorem layG_rng {ty tv:TypeId} {F:Nat→Prop} {w:World} {A:Option Addr} {c:Nat} {l:List (Ot×List Int)} (h:(layG ty tv).row.P F w (.slice A l.length c) l):l.length≤c∧c≤maxLen:=by
 obtain ⟨A',c',h1,h2,h3,_⟩:=h;injection h1 with _ _ e3;subst e3;exact ⟨h2,h3⟩
theorem rbad_any {F:Nat→Prop} (o:Ot) (v:List Int) (A3:Option Addr) (c3:Nat) (A4:Option Addr) (c4:Nat) (w:World) (hE:Env w) (hnm:o.name.length≤10000) (hv:(layN 2).row.P F w (.slice A4 v.length c4) v):Calls Tryz.prog 21 #[thV o A3 c3 A4 v.length c4] w fun e w'=>e= .returned (.bool (!mayS o v))∧Below w.heap.size w w':=by
 have HM:=Lib.hid (fun (w':World) (q:Below w.heap.size w w')=>rmay_any o v A3 c3 A4 c4 w' (hE.below q) hnm (Dt.below _ hv q (Nat.le_refl _)));have q0:=below_alloc1 w (.cells #[.string ⟨o.name.toArray⟩,.bool o.bool,.bool o.arr,.slice A3 o.x.length c3,.slice A4 v.length c4] 56);clear hv;unfold thV at*;generalize mayS o v=m at*;go_enter Tryz.func21,Tryz.ntmps21;go_wp2_with fail;refine (HM.out _ q0).mono ?_;rintro e w3 ⟨rfl,q3⟩;go_wp2_with fail;refine bodyPost_ret (v:= .bool (!m)) (by simp[results,Tryz.results21,go_sem]) rfl ⟨rfl,below_trans q0 q3⟩
theorem rindex_g {F:Nat→Prop} (p:Ot×List Int→Bool) {f:Nat} (hcf:∀(args:Array Value) (w:World),(callFunc f args).run Tryz.prog w= .ok (.enter f args) w) (A:Option Addr) (c:Nat) (l:List (Ot×List Int)) (w:World) (hE:Env w) (ha:(layG 56 2).row.P F w (.slice A l.length c) l) (hone:∀x∈l,∀(A3:Option Addr) (c3:Nat) (A4:Option Addr) (c4:Nat) (w':World),Env w'→(layN 2).row.P F w' (.slice A4 x.2.length c4) x.2→Calls Tryz.prog f #[thV x.1 A3 c3 A4 x.2.length c4] w' fun e w2=>e= .returned (.bool (p x))∧Below w'.heap.size w' w2):Calls Tryz.prog 29 #[.slice A l.length c,.func (.func f) #[] #[]] w fun e w'=>(∃r:Int,e= .returned (.int .i64 r)∧decide (0≤r)=l.any p)∧Below w.heap.size w w':=by
 obtain ⟨hlc,hcm⟩:=layG_rng ha;have hlm:l.length≤9223372036854775807:=by unfold maxLen at hcm;omega
 clear hlc hcm;go_enter Tryz.func29,Tryz.ntmps29;go_wp2_with fail;go_loopg [8] l.length (fun k a wr=>∃(j:Nat),k=l.length-j∧j≤l.length∧a= .int .i64 (j:Nat)∧(∀y∈l.take j,p y=false)∧Below w.heap.size w wr)
 case atStart=>exact ⟨0,rfl,Nat.zero_le _,rfl,(by intro y hy;cases hy),Below.refl _ _⟩
 case round=>
  obtain ⟨j,hk,hj,rfl,hall,hbl⟩:=hrel;by_cases hlt:j<l.length
  ·have d1:decide ((j:Int)<(l.length:Int))=true:=decide_eq_true (by omega);obtain ⟨b,o,hA,hb1,hc⟩:=row_g (Dt.below _ ha hbl (Nat.le_refl _)) (fun e=>by rw[e]at hlt;cases hlt);obtain ⟨c0,c1,c2,⟨A3,n3,c3⟩,A4,n4,c4,hrow⟩:=hc j hlt;subst hA;clear hc ha;have HA:=Lib.hid hall;clear hall;have HO:=Lib.hid (fun (w':World) (q:Below w.heap.size w w') (q2:Below wr.heap.size wr w')=>hone l[j] (List.getElem_mem hlt) A3 n3 A4 n4 w' (hE.below q) (Dt.below _ hrow q2 (Nat.le_refl _)));have HT:=Lib.hid (List.take_succ_eq_append_getElem hlt);have HM:=Lib.hid (List.getElem_mem hlt);clear hone hrow;generalize l[j]=x at*;obtain ⟨⟨xn,xb,xa,xx⟩,xv⟩:=x;unfold thV at HO;dsimp only at HO c0 c1 c2 c3 c4;go_wp2_with fail;refine (HO.out _ hbl (Below.refl _ _)).mono ?_;rintro e w3 ⟨rfl,q3⟩;have q4:=below_trans hbl q3;clear c0 c1 c2 c3 c4;cases hg:p (⟨xn,xb,xa,xx⟩,xv) with
   |true=>
    have HF:Hid (l.any p=true):=List.any_eq_true.2 ⟨_,HM.out,hg⟩;go_wp2_with fail;refine bodyPost_ret (v:= .int .i64 (j:Nat)) (by simp[results,Tryz.results29,go_sem]) rfl ⟨⟨_,rfl,?_⟩,q4⟩;rw[HF.out];exact decide_eq_true (by omega)
   |false=>
    have HA2:Hid (∀y∈l.take (j+1),p y=false):=by
     show _;rw[HT.out];intro y hy;rcases List.mem_append.1 hy with hy|hy
     ·exact HA.out y hy
     ·rw[List.mem_singleton.1 hy,hg]
    go_wp2_with fail;go_roundg (l.length-(j+1))
    case measure=>omega
    case rel=>exact ⟨j+1,rfl,by omega,by simp,HA2.out,q4⟩
  ·have d1:decide ((j:Int)<(l.length:Int))=false:=decide_eq_false (by omega);have e1:l.take j=l:=List.take_of_length_le (by omega);rw[e1]at hall;clear e1 ha hone;have HF:Hid (l.any p=false):=by
    show _=_;rw[List.any_eq_false];intro x hx h;rw[hall x hx]at h;cases h
   clear hall;go_wp2_with fail;refine bodyPost_ret (v:= .int .i64 (-1)) (by simp[results,Tryz.results29,go_sem]) rfl ⟨⟨_,rfl,?_⟩,hbl⟩;rw[HF.out];rfl
theorem any_bad:∀(l:List (Ot×List Int)),(!l.any fun p=> !mayS p.1 p.2)=maysS (l.map (·.1)) (l.map (·.2))
 |[]=>rfl
 |x::l=>by
  rw[List.any_cons,Bool.not_or,Bool.not_not,any_bad l];rfl
theorem rhas_g {F:Nat→Prop} (A:Option Addr) (c:Nat) (l:List (Ot×List Int)) (w:World) (hE:Env w) (ha:(layG 56 2).row.P F w (.slice A l.length c) l) (hn:∀x∈l,x.1.name.length≤10000):Calls Tryz.prog 20 #[.slice A l.length c,.func (.func 21) #[] #[]] w fun e w'=>e= .returned (.bool (l.any fun p=> !mayS p.1 p.2))∧Below w.heap.size w w':=by
 have HC:=Lib.hid (rindex_g (f:=21) (fun p=> !mayS p.1 p.2) (fun _ _=>rfl) A c l w hE ha (fun x hx A3 c3 A4 c4 w' hE' hv=>rbad_any x.1 x.2 A3 c3 A4 c4 w' hE' (hn x hx) hv));clear ha;generalize (l.any fun p=> !mayS p.1 p.2)=m at*;go_enter Tryz.func20,Tryz.ntmps20;go_wp2_with fail;refine HC.out.mono ?_;rintro e w3 ⟨⟨r,rfl,hr⟩,q3⟩;have HR:=Lib.hid hr;clear hr;go_wp2_with fail;refine bodyPost_ret (v:= .bool (decide (0≤r))) (by simp[results,Tryz.results20,go_sem]) rfl ⟨by rw[HR.out],q3⟩
end Go.Proofs.YtjlhjabgclflcaaGreatDoor
set_option linter.unusedSimpArgs false
set_option linter.unusedVariables false
namespace Go.Proofs.YtjlhjabgclflcaaGreatDoor
open Go.RowKit Num Go.Joins
theorem valsO_snoc (a:List Int) (i:Int):∀xs:List Int,valsO a (xs++[i])=(valsO a xs).bind fun v=>(valO a i).map fun n=>v++[n]
 |[]=>by
  show (valO a i).bind _=_;cases valO a i<;>rfl
 |x::xs=>by
  show (valO a x).bind (fun v=>(valsO a (xs++[i])).map (v::·))=_;rw[valsO_snoc a i xs];show _=((valO a x).bind fun v=>(valsO a xs).map (v::·)).bind _;cases valO a x with
  |none=>rfl
  |some n=>
   cases valsO a xs with
   |none=>rfl
   |some v=>cases valO a i<;>rfl
theorem ownO_snoc (a:List Int) (o:Ot):∀l:List Ot,ownO a (l++[o])=(ownO a l).bind fun v=>(valsO a o.x).map fun n=>v++[n]
 |[]=>by
  show (valsO a o.x).bind _=_;cases valsO a o.x<;>rfl
 |x::xs=>by
  show (valsO a x.x).bind (fun v=>(ownO a (xs++[o])).map (v::·))=_;rw[ownO_snoc a o xs];show _=((valsO a x.x).bind fun v=>(ownO a xs).map (v::·)).bind _;cases valsO a x.x with
  |none=>rfl
  |some n=>
   cases ownO a xs with
   |none=>rfl
   |some v=>cases valsO a o.x<;>rfl
theorem valsO_no {a:List Int} {i:Int}:∀{xs:List Int},i∈xs→valO a i=none→valsO a xs=none
 |x::xs,h,hi=>by
  show (valO a x).bind (fun v=>(valsO a xs).map (v::·))=none;rcases List.mem_cons.1 h with rfl|h
  ·rw[hi];rfl
  ·rw[valsO_no h hi];cases valO a x<;>rfl
theorem ownO_no {a:List Int} {o:Ot}:∀{l:List Ot},o∈l→valsO a o.x=none→ownO a l=none
 |x::xs,h,hi=>by
  show (valsO a x.x).bind (fun v=>(ownO a xs).map (v::·))=none;rcases List.mem_cons.1 h with rfl|h
  ·rw[hi];rfl
  ·rw[ownO_no h hi];cases valsO a x.x<;>rfl
theorem valsO_len {a:List Int}:∀{xs v:List Int},valsO a xs=some v→v.length=xs.length
 |[],v,h=>by
  obtain rfl:=Option.some.inj h;rfl
 |x::xs,v,h=>by
  have h':(valO a x).bind (fun v=>(valsO a xs).map (v::·))=some v:=h;cases hx:valO a x with
  |none=>rw[hx]at h';cases h'
  |some n=>
   cases hv:valsO a xs with
   |none=>rw[hx,hv]at h';cases h'
   |some u=>
    rw[hx,hv]at h';obtain rfl:=Option.some.inj h';show u.length+1=xs.length+1;rw[valsO_len hv]
theorem ownO_len {a:List Int}:∀{l:List Ot} {vs:List (List Int)},ownO a l=some vs→vs.length=l.length
 |[],v,h=>by
  obtain rfl:=Option.some.inj h;rfl
 |x::xs,v,h=>by
  have h':(valsO a x.x).bind (fun v=>(ownO a xs).map (v::·))=some v:=h;cases hx:valsO a x.x with
  |none=>rw[hx]at h';cases h'
  |some n=>
   cases hv:ownO a xs with
   |none=>rw[hx,hv]at h';cases h'
   |some u=>
    rw[hx,hv]at h';obtain rfl:=Option.some.inj h';show u.length+1=xs.length+1;rw[ownO_len hv]
theorem zip_snoc {α β:Type} {l:List α} {r:List β} (h:r.length=l.length) (x:α) (y:β):(l++[x]).zip (r++[y])=l.zip r++[(x,y)]:=by
 rw[List.zip_append h.symm];rfl
theorem Lay.step_app {α:Type} (L:Lay α) {P:Program} {ops:Array Oper} {o:Oper} {a:Act} {Q:Exit→Act→World→Prop} {E:Prop} (s x:Operand) (w:World) (base:Nat) (v:Value) (l:List α) (y:α) (news:Array Value) {N sl bytes:Nat} {z:Value} (hN:N=w.heap.size) (hu:P.underlying sl=some (.slice L.ty)) (hinfo:(P.info? L.ty).map (fun i=>(i.zero,i.size,i.bytes))=some (some z,L.sz,bytes)) (hz:z.cells.size=L.sz) (hpos:0<L.sz) (hbt:bytes≤1000) (hown:L.own base w v l) (hb:base≤w.heap.size) (hlen:l.length≤1000000) (hnl:news.size=L.sz) (hn1:news.toList.all (·.oneCell')=true) (hnew:∀k,k<L.sz→∃x,news.toList[k]? =some x∧(L.C k).P (inF base w v) w x y) (hgd:o.guard=none) (ho:o.op= .call {callee:= .builtin .append,args:= #[s,x],argTypes:= #[sl,sl]}) (hs:a.eval s=v) (hx:a.eval x= .slice (some ⟨N,0,none⟩) 1 1) {KK:Act→World→Prop} (K:∀v' w',L.own base w' v' (l++[y])→w.grownBy w' v.ownBlock→Below base w w'→(v'.ownBlock=v.ownBlock∨∀g,v'.ownBlock=some g→w.heap.size≤g)→KK (a.put o.dst v') w'):if Region.wanted o (yielded ops a.tmps)=true then Oper.wp P o a (w.alloc (.cells news L.ty)) KK Q else E:=by
 have hw:Region.wanted o (yielded ops a.tmps)=true:=by simp[Region.wanted,hgd]
 rw[if_pos hw];exact Lay.wp_app1 L s x w base v l y news hN hu hinfo hz hpos hbt hown hb hlen hnl hn1 hnew ho hs hx K
theorem info_n64:(Tryz.prog.info? 2).map (fun i=>(i.zero,i.size,i.bytes))=some (some (.int .i64 0),1,8):=by kernel_rfl
theorem info_thing:(Tryz.prog.info? 56).map (fun i=>(i.zero,i.size,i.bytes))=some (some (.agg #[.string ⟨#[]⟩,.bool false,.bool false,.slice none 0 0,.slice none 0 0]),5,72):=by kernel_rfl
theorem n_new {ty:TypeId} {F:Nat→Prop} {w:World} {n:Int}:∀k,k<(layN ty).sz→∃x,(#[.int .i64 n]:Array Value).toList[k]? =some x∧((layN ty).C k).P F w x n:=fun k hk=>by
 match k,hk with
 |0,_=>exact ⟨_,rfl,rfl⟩
theorem g_new {ty tv:TypeId} {F:Nat→Prop} {w:World} {o:Ot} {v:List Int} {A3:Option Addr} {c3:Nat} {V:Value} (h:(layN tv).row.P F w V v):∀k,k<(layG ty tv).sz→∃x,(#[.string ⟨o.name.toArray⟩,.bool o.bool,.bool o.arr,.slice A3 o.x.length c3,V]:Array Value).toList[k]? =some x∧((layG ty tv).C k).P F w x (o,v):=fun k hk=>by
 match k,hk with
 |0,_=>exact ⟨_,rfl,rfl⟩
 |1,_=>exact ⟨_,rfl,rfl⟩
 |2,_=>exact ⟨_,rfl,rfl⟩
 |3,_=>exact ⟨_,rfl,⟨A3,c3,rfl⟩⟩
 |4,_=>exact ⟨_,rfl,h⟩
end Go.Proofs.YtjlhjabgclflcaaGreatDoor
set_option maxHeartbeats 8000000
set_option maxRecDepth 100000
set_option linter.unusedSimpArgs false
set_option linter.unusedVariables false
namespace Go.Proofs.YtjlhjabgclflcaaGreatDoor
open Go.RowKit Num Go.Joins
structure InT (W w:World) (o:Ot) (A3:Option Addr) (n3:Nat) (A4:Option Addr) (c4:Nat) (v:List Int):Prop where
 b0:Blk w W.heap.size 46 #[.string ⟨o.name.toArray⟩,.bool o.bool,.bool o.arr,.slice A3 o.x.length n3]
 b1:Blk w (W.heap.size+1) 56 #[.string ⟨o.name.toArray⟩,.bool o.bool,.bool o.arr,.slice A3 o.x.length n3,.slice A4 v.length c4]
 own:(layN 2).own (W.heap.size+2) w (.slice A4 v.length c4) v
 size:W.heap.size+2≤w.heap.size
 bel:Below W.heap.size W w
theorem InT.start (W:World) (o:Ot) (A3:Option Addr) (n3:Nat):InT W ((W.alloc (.cells #[.string ⟨o.name.toArray⟩,.bool o.bool,.bool o.arr,.slice A3 o.x.length n3] 46)).alloc (.cells #[.string ⟨o.name.toArray⟩,.bool o.bool,.bool o.arr,.slice A3 o.x.length n3,.slice none 0 0] 56)) o A3 n3 none 0 [] where
 b0:=(Blk.new W _ _).alloc _
 b1:=Blk.at_ (by simp)
 own:=Lay.own_nil _ _ _
 size:=by simp
 bel:=(below_alloc1 W _).alloc (by simp) _
theorem InT.cells {W w : World} {o : Ot} {A3 A4 : Option Addr} {n3 c4 : Nat} {v : List Int} (h : InT W w o A3 n3 A4 c4 v) :
    w.cell? ⟨W.heap.size + 1, 0, none⟩ = some (.string ⟨o.name.toArray⟩) ∧ w.cell? ⟨W.heap.size + 1, 1, none⟩ = some (.bool o.bool) ∧ w.cell? ⟨W.heap.size + 1, 2, none⟩ = some (.bool o.arr) ∧ w.cell? ⟨W.heap.size + 1, 3, none⟩ = some (.slice A3 o.x.length n3) ∧
      w.cell? ⟨W.heap.size + 1, 4, none⟩ = some (.slice A4 v.length c4) ∧ w.frozen? ⟨W.heap.size + 1, 4, none⟩ = false := by
  obtain ⟨a, b, c, d, e⟩ := h.b1.five
  exact ⟨a, b, c, d, e, h.b1.frozen 4⟩
theorem InT.drew {W w:World} {o:Ot} {A3 A4:Option Addr} {n3 c4:Nat} {v:List Int} (h:InT W w o A3 n3 A4 c4 v):(layN 2).own (W.heap.size+2) w.drew (.slice A4 v.length c4) v:=
 Lay.own_below h.own ((Read.refl w).drew.below _)
theorem InT.far {W w:World} {o:Ot} {A3 A4:Option Addr} {n3 c4:Nat} {v:List Int} (h:InT W w o A3 n3 A4 c4 v):∀w7:World,w.drew.grownBy w7 (Value.slice A4 v.length c4).ownBlock→Blk w7 W.heap.size 46 #[.string ⟨o.name.toArray⟩,.bool o.bool,.bool o.arr,.slice A3 o.x.length n3]∧Blk w7 (W.heap.size+1) 56 #[.string ⟨o.name.toArray⟩,.bool o.bool,.bool o.arr,.slice A3 o.x.length n3,.slice A4 v.length c4]:=by
 intro w7 hg;have hne:∀g,g<W.heap.size+2→some g≠(Value.slice A4 v.length c4).ownBlock:=fun g hlt e=>by
  have:=(Lay.own_lt h.own g e.symm).1;omega
 exact ⟨(hg.block _ h.b0.lt (hne _ (by omega))).trans h.b0,(hg.block _ h.b1.lt (hne _ (by omega))).trans h.b1⟩
theorem InT.put {W w w7:World} {o:Ot} {A3 A4 A7:Option Addr} {n3 c4 c7:Nat} {v v2:List Int} (h:InT W w o A3 n3 A4 c4 v) (hg:w.drew.grownBy w7 (Value.slice A4 v.length c4).ownBlock) (hb:Below (W.heap.size+2) w.drew w7) (ho:(layN 2).own (W.heap.size+2) w7 (.slice A7 v2.length c7) v2):InT W (w7.setCell ⟨W.heap.size+1,4,none⟩ (.slice A7 v2.length c7)) o A3 n3 A7 c7 v2 where
 b0:=(h.far w7 hg).1.far (by simp) _
 b1:=(h.far w7 hg).2.set_ 4 _
 own:=Lay.own_grown ho (grown_set w7 ⟨W.heap.size+1,4,none⟩ _) (fun g e=>by injection e with e;subst e;show _+1<_;omega)
 size:=by
  have:=h.size;have:=hg.size;simp;exact Nat.le_trans h.size hg.size
 bel:=by
  have h1:Below W.heap.size W w.drew:=h.bel.trans (((Read.refl w).drew).below _);have h2:=h1.trans (hb.mono (by omega));exact h2.grown (grown_set w7 ⟨W.heap.size+1,4,none⟩ _) h2.size (fun k e=>by injection e with e;subst e;show _≤_+1;omega)
theorem row_ne {α:Type} {l:List α} {j:Nat} (h:j<l.length):l≠[]:=fun e=>by rw[e]at h;cases h
theorem rthings_any {F G : Nat → Prop} (A : Option Addr) (c : Nat) (l : List Ot) (B : Option Addr) (d : Nat) (a : List Int) (w : World) (ho : (layO 46 3).row.P F w (.slice A l.length c) l) (ha : (layN 2).row.P G w (.slice B a.length d) a)
    (hn : l.length ≤ 100) (hm : ∀ o ∈ l, o.x.length ≤ 100) (han : a.length ≤ 100000) :
    Calls Tryz.prog 14 #[.slice A l.length c, .slice B a.length d] w fun e w' => ((ownO a l = none ∧ e = .returned (.tuple #[.slice none 0 0, .bool false])) ∨
      ∃ vs v, ownO a l = some vs ∧ e = .returned (.tuple #[v, .bool (decide (l.length ≤ 64))]) ∧ (layG 56 2).own w.heap.size w' v (l.zip vs)) ∧ Below w.heap.size w w' := by
  go_enter Tryz.func14, Tryz.ntmps14
  go_wp2_with fail
  go_loopg [6, 14] l.length (fun k v p wr => ∃ (j : Nat) (vs : List (List Int)), k = l.length - j ∧ j ≤ l.length ∧ p = .int .i64 (j : Nat) ∧ ownO a (l.take j) = some vs ∧ (layG 56 2).own w.heap.size wr v ((l.take j).zip vs) ∧ Below w.heap.size w wr)
  case atStart => exact ⟨0, [], rfl, Nat.zero_le _, rfl, rfl, Lay.own_nil _ _ _, Below.refl _ _⟩
  case round =>
    obtain ⟨j, vs, hk, hj, rfl, hvs, how, hbl⟩ := hrel
    obtain ⟨W0, rfl⟩ : ∃ W0, W0 = wr := ⟨_, rfl⟩
    by_cases hlt : j < l.length
    · have d1 : decide ((j : Int) < (l.length : Int)) = true := decide_eq_true (by omega)
      obtain ⟨b, o, hA, hb1, hc⟩ := row_o (Dt.below _ ho hbl (Nat.le_refl _)) (row_ne hlt)
      obtain ⟨c0, c1, c2, A3, n3, c3, hrow⟩ := hc j hlt
      subst hA
      clear hc
      have HT := Lib.hid (List.take_succ_eq_append_getElem hlt)
      have HM := Lib.hid (List.getElem_mem hlt)
      have HX := Lib.hid (hm _ (List.getElem_mem hlt))
      have HV := Lib.hid hvs
      clear hvs
      generalize hx0 : l[j] = x at *
      clear hx0
      obtain ⟨xn, xb, xa, xx⟩ := x
      dsimp only at c0 c1 c2 c3 hrow HX
      have HOW := Lib.hid how
      clear how
      go_wp2_with fail
      clear c0 c1 c2 c3
      go_loopg [23] xx.length (fun k p w2 => ∃ (i : Nat) (v : List Int) (A4 : Option Addr) (c4 : Nat), k = xx.length - i ∧ i ≤ xx.length ∧ p = .int .i64 (i : Nat) ∧ valsO a (xx.take i) = some v ∧ InT W0 w2 ⟨xn, xb, xa, xx⟩ A3 n3 A4 c4 v)
      case atStart => exact ⟨0, [], none, 0, rfl, Nat.zero_le _, rfl, rfl, InT.start W0 ⟨xn, xb, xa, xx⟩ A3 n3⟩
      case round =>
        obtain ⟨i, v, A4, c4, hk2, hi, rfl, hv, hI⟩ := hrel
        have hxl : xx.length ≤ 100 := HX.out
        have q2 := hI.bel
        have q3 := below_trans hbl q2
        by_cases hit : i < xx.length
        · have d2 : decide ((i : Int) < (xx.length : Int)) = true := decide_eq_true (by omega)
          obtain ⟨b3, o3, hA3, hb3, hc3⟩ := row_n (Dt.below _ hrow q2 (Nat.le_refl _)) (row_ne hit)
          have k1 := hc3 i hit
          subst hA3
          clear hc3
          have HT2 := Lib.hid (List.take_succ_eq_append_getElem hit)
          have HM2 := Lib.hid (List.getElem_mem hit)
          have HV2 := Lib.hid hv
          have HI := Lib.hid hI
          clear hv hI
          generalize hx1 : xx[i] = x at *
          clear hx1
          by_cases hneg : x < 0
          · have d3 : decide (x < 0) = true := decide_eq_true hneg
            have HN : Hid (ownO a l = none) := ownO_no HM.out (valsO_no HM2.out (by unfold valO; rw [if_neg (by omega)]))
            clear hneg
            go_wp2_with fail
            refine bodyPost_ret (v := .tuple #[.slice none 0 0, .bool false]) (by simp [results, Tryz.results14, go_sem]) rfl ⟨.inl ⟨HN.out, rfl⟩, q3⟩
          · obtain ⟨m, rfl⟩ := Int.eq_ofNat_of_zero_le (by omega : 0 ≤ x)
            have d3 : decide ((m : Int) < 0) = false := decide_eq_false (by omega)
            by_cases hbig : a.length ≤ m
            · have d4 : decide ((a.length : Int) ≤ (m : Int)) = true := decide_eq_true (by omega)
              have d5 : decide (a.length ≤ m) = true := decide_eq_true hbig
              have HN : Hid (ownO a l = none) := ownO_no HM.out (valsO_no HM2.out (by unfold valO; rw [if_pos (by omega), Int.toNat_natCast, List.getElem?_eq_none hbig]))
              clear hneg hbig
              go_wp2_with fail
              refine bodyPost_ret (v := .tuple #[.slice none 0 0, .bool false]) (by simp [results, Tryz.results14, go_sem]) rfl ⟨.inl ⟨HN.out, rfl⟩, q3⟩
            · have hml : m < a.length := by omega
              have d4 : decide ((a.length : Int) ≤ (m : Int)) = false := decide_eq_false (by omega)
              have d5 : decide (a.length ≤ m) = false := decide_eq_false (by omega)
              obtain ⟨ba, oa, hBa, hba, hca⟩ := row_n (Dt.below _ ha q3 (Nat.le_refl _)) (row_ne hml)
              have k2 := hca m hml
              subst hBa
              clear hca hneg hbig
              have HV3 : Hid (valO a (m : Int) = some a[m]) := by
                show _ = _
                unfold valO
                rw [if_pos (by omega), Int.toNat_natCast, List.getElem?_eq_getElem hml]
              generalize hx2 : a[m] = n at *
              clear hx2
              have HV4 : Hid (valsO a (xx.take (i + 1)) = some (v ++ [n])) := by
                show _ = _
                rw [HT2.out, valsO_snoc, HV2.out, HV3.out]
                rfl
              obtain ⟨v2, hv2⟩ : ∃ v2, v ++ [n] = v2 := ⟨_, rfl⟩
              have HS := Lib.hid hv2
              rw [hv2] at HV4
              clear hv2
              obtain ⟨t0, t1, t2, t3, t4, t5⟩ := HI.out.cells
              obtain ⟨_, _, _, _, t6⟩ := (HI.out.b1.alloc (.cells #[.int .i64 n] 2)).five
              have HL3 : Hid (v.length ≤ 1000000) := by
                show _ ≤ _
                have := valsO_len HV2.out
                rw [List.length_take] at this
                have := HX.out
                omega
              have HO3 := Lib.hid HI.out.drew
              have HB3 := Lib.hid HI.out.size
              have HK := Lib.hid HI.out.far
              go_wp2_with fail
              go_region_law (refine Lay.step_app (layN 2) _ _ wr.drew (W0.heap.size + 2) (.slice A4 v.length c4) v n #[.int .i64 n] (by first | rfl | simp) Tryz.underlying23 info_n64 rfl (by decide) (by decide) HO3.out HB3.out HL3.out rfl rfl n_new rfl rfl (by simp [Act.eval, Act.put]) (by simp [Act.eval, Act.put]) ?_; intro v7 w7 ho7 hg7 hb7 hat7; obtain ⟨y1, y2⟩ := HK.out w7 hg7; obtain ⟨_, _, _, _, y3⟩ := y2.five; have y4 := y2.frozen 4; rw [HS.out] at ho7; obtain ⟨A7, c7, rfl⟩ := Lay.own_len ho7)
              all_goals
                go_wp2_with fail
                go_roundg (xx.length - (i + 1))
                case measure => omega
                case rel => exact ⟨i + 1, v2, A7, c7, rfl, by omega, by simp, HV4.out, HI.out.put hg7 hb7 ho7⟩
        · have d2 : decide ((i : Int) < (xx.length : Int)) = false := decide_eq_false (by omega)
          have e1 : xx.take i = xx := List.take_of_length_le (by omega)
          rw [e1] at hv
          clear e1
          have hlt9 := Lay.own_lt HOW.out
          have hrow2 := (layN 2).row.mono (F' := inF w.heap.size wr u6) (fun b hb => ⟨Nat.le_trans hbl.size (Nat.le_trans (Nat.le_add_right _ 2) hb.1), hb.2, fun e => by
            have := (hlt9 b e).2
            have := hb.1
            omega⟩) (Lay.own_row hI.own)
          have how2 := Lay.own_below HOW.out q2
          have hbs : w.heap.size ≤ wr.heap.size := q3.size
          have hvl := ownO_len HV.out
          have hlen : ((l.take j).zip vs).length ≤ 1000000 := by
            rw [List.length_zip, List.length_take]
            omega
          have HZ : Hid ((l.take (j + 1)).zip (vs ++ [v]) = (l.take j).zip vs ++ [(⟨xn, xb, xa, xx⟩, v)]) := by
            show _ = _
            rw [HT.out, zip_snoc hvl]
          have HW : Hid (ownO a (l.take (j + 1)) = some (vs ++ [v])) := by
            show _ = _
            rw [HT.out, ownO_snoc, HV.out]
            show (valsO a xx).map _ = _
            rw [hv]
            rfl
          obtain ⟨t0, t1, t2, t3, t4, t5⟩ := hI.cells
          clear hrow hvl hv hlt9
          go_wp2_with (at_builtin; refine Lay.wp_app (layG 56 2) _ _ wr w.heap.size _ ((l.take j).zip vs) (⟨xn, xb, xa, xx⟩, v) #[.string ⟨xn.toArray⟩, .bool xb, .bool xa, .slice A3 xx.length n3, .slice A4 v.length c4] (by first | rfl | simp) Tryz.underlying48 info_thing rfl (by decide) (by decide) how2 hbs hlen rfl rfl (g_new (o := ⟨xn, xb, xa, xx⟩) hrow2) rfl rfl rfl rfl ?_; intro v' w7 ho7 hg7 hb7 hat7)
          go_roundg (l.length - (j + 1))
          case measure => omega
          case rel => exact ⟨j + 1, vs ++ [v], rfl, by omega, by simp, HW.out, by rw [HZ.out]; exact ho7, q3.trans hb7⟩
    · have d1 : decide ((j : Int) < (l.length : Int)) = false := decide_eq_false (by omega)
      have e1 : l.take j = l := List.take_of_length_le (by omega)
      rw [e1] at hvs how
      clear e1
      have hzl : (l.zip vs).length = l.length := by rw [List.length_zip, ownO_len hvs, Nat.min_self]
      obtain ⟨A9, c9, rfl⟩ := Lay.own_len how
      have HV := Lib.hid hvs
      have HO := Lib.hid how
      clear hvs how
      rw [hzl] at *
      clear hzl ho ha hm
      go_wp2_with fail
      refine bodyPost_ret (v := .tuple #[.slice A9 l.length c9, .bool (decide (l.length ≤ 64))]) (by simp [results, Tryz.results14, go_sem]; omega) rfl ⟨.inr ⟨vs, _, HV.out, rfl, HO.out⟩, hbl⟩
end Go.Proofs.YtjlhjabgclflcaaGreatDoor
