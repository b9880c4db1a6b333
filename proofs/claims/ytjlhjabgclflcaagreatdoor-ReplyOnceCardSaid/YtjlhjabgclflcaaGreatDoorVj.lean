/-
  Joined texts: Pm, Tm, To, Po, Vj.
-/
import Derived.Test.YtjlhjabgclflcaaGreatDoorPl
import Derived.Test.YtjlhjabgclflcaaGreatDoorVi
import Derived.Defers
import Derived.Recover
import Derived.Test.YtjlhjabgclflcaaGreatDoorPa
import Derived.KernelRfl
import Derived.Test.YtjlhjabgclflcaaGreatDoorShelf
import Derived.Lib.SmallJoins
import Derived.Lib.LaidTab
import Derived.Lib.AppendIntMem
set_option maxHeartbeats 4000000
set_option maxRecDepth 100000
set_option linter.unusedSimpArgs false
set_option linter.unusedVariables false
namespace Go.Proofs.YtjlhjabgclflcaaGreatDoor
open Go.RowKit
theorem info_fault:(Tryz.prog.info? 206).map (·.size)=some 2:=by kernel_rfl
theorem catch_on {O F : Nat} {w : World} {a c : Int} {v : Value} (hv : v.oneCell' = true) (hO : Blk w O 180 #[v]) (hF : Blk w F 206 #[.int .i64 0, .int .i64 0]) (hne : O ≠ F) :
    CallsD Tryz.prog 147 #[.pointer (some ⟨O, 0, none⟩), .pointer (some ⟨F, 0, none⟩)] (.panicking [{ v := .iface 206 (.agg #[.int .i64 a, .int .i64 c]), recovered := false }]) w fun e u w' =>
      e = .returned (.tuple #[]) ∧ u = .panicking [{ v := .iface 206 (.agg #[.int .i64 a, .int .i64 c]), recovered := true }] ∧ Blk w' O 180 #[.slice none 0 0] ∧ Blk w' F 206 #[.int .i64 a, .int .i64 c] ∧ Gr2 w w' O F := by
  have o0 : w.cell? ⟨O, 0, none⟩ = some v := hO.cell 0
  have of := hO.frozen 0
  have f0 : w.cell? ⟨F, 0, none⟩ = some (.int .i64 0) := hF.cell 0
  have f1 : w.cell? ⟨F, 1, none⟩ = some (.int .i64 0) := hF.cell 1
  have ff := hF.frozen 0
  have hO1 := hO.set_ 0 (.slice none 0 0)
  have qO := grown_set w ⟨O, 0, none⟩ (.slice none 0 0)
  have hF1 := hF.turn qO (fun e => hne e.symm)
  have hF2 := hF1.alloc (.cells #[.int .i64 a, .int .i64 c] 206)
  have hta : ∀ w : World, (Instr.typeAssert (.iface 206 (.agg #[.int .i64 a, .int .i64 c])) 20 206 true).run Tryz.prog w = .ok (.tuple #[.agg #[.int .i64 a, .int .i64 c], .bool true]) w := fun w => by kernel_rfl
  refine callsD_of_wpS Tryz.func147 rfl fun c₀ cs hu => ?_
  apply wpS_seq
  apply wpS_region
  simp [wpOpsS, go_sem, recoverD, hu, Tryz.ntmps147, Exit.thenS]
  refine wpS_of_wp ?_
  simp only [List.replicate, Array.replicate, List.setIfInBounds_toArray, List.set_cons_zero, List.set_cons_succ, List.append_toArray, List.cons_append, List.nil_append]
  go_wp2_with ((with_reducible refine st_ ?_); refine wp_put2 _ _ hF2 rfl rfl rfl rfl info_fault rfl rfl ?_; intro w9 b9 q9)
  have hO2 : Blk w9 O 180 #[.slice none 0 0] := (hO1.alloc _).turn q9 hne
  have g9 : Gr2 w w9 O F := (((Gr2.refl w O F).one qO).one (World.grownBy_alloc _ _ _)).two q9
  simp [bodyPostS, results, Tryz.results147, hO2, b9, g9]
theorem catch_idle (p q:Addr) (w:World):CallsD Tryz.prog 147 #[.pointer (some p),.pointer (some q)] .returning w fun e u w'=>e= .returned (.tuple #[])∧u= .returning∧w'=w:=by
 refine callsD_of_wpS Tryz.func147 rfl fun c₀ cs hu=> ?_;apply wpS_seq;apply wpS_region;simp[wpOpsS,go_sem,recoverD,hu,Tryz.ntmps147,Exit.thenS];refine wpS_of_wp ?_;simp only[List.replicate,Array.replicate,List.setIfInBounds_toArray,List.set_cons_zero,List.set_cons_succ,List.append_toArray,List.cons_append,List.nil_append];go_wp2_with fail;cases c₀;simp_all[bodyPostS,results,Tryz.results147]
def allR (n:Nat) (l:List Tok):List It×Int×Int:=match allGo 512 [] l with
 | .ok x _=>(x,0,0)
 | .bad e r=>([],placeP n r,e)
abbrev LI:Lay It:=layI 97 159
def VAll (B:Nat) (w:World) (v:Value) (r:List It×Int×Int):Prop:=∃A c,v= .tuple #[.slice A r.1.length c,.agg #[.int .i64 r.2.1,.int .i64 r.2.2]]∧LI.row.P (since B w) w (.slice A r.1.length c) r.1
theorem info_its:(Tryz.prog.info? 97).map (fun i=>(i.zero,i.size,i.bytes))=some (some (.agg zI),8,104):=by kernel_rfl
structure Rn (w w':World) (g n:Nat) (v:Value) (xs:List It) (l:List Tok):Prop where
 hO:Blk w' w.heap.size 180 #[v]
 hF:Blk w' (w.heap.size+1) 206 #[.int .i64 0,.int .i64 0]
 ho:LI.own (w.heap.size+2) w' v xs
 ps:Ps w' g l n
 gr:w.grownBy w' (some g)
 hg:g<w.heap.size
section
variable {w w1 w2 : World} {g n : Nat} {v u : Value} {xs : List It} {x : It} {l l2 : List Tok}
theorem Rn.call (R:Rn w w1 g n v xs l) (q:w1.grownBy w2 (some g)) (p:Ps w2 g l2 n):Rn w w2 g n v xs l2:=
 ⟨R.hO.turn q (by have:=R.hg;omega),R.hF.turn q (by have:=R.hg;omega),Lay.own_grown R.ho q (fun k e=>by injection e with e;have:=R.hg;omega),p,grown_tr R.gr q,R.hg⟩
theorem Rn.drew (R:Rn w w1 g n v xs l):Rn w w1.drew g n v xs l:=R.call ((Read.refl w1).drew.grown _) (R.ps.read (Read.refl w1).drew)
structure New (B:Nat) (w:World) (own:Value) (D V:Value) (x:It):Prop where
 dom:layR.row.P (inF B w own) w D x.dom
 vals:(layE 159).row.P (inF B w own) w V x.vals
theorem New.of {w3:World} {B B2:Nat} {own v:Value} (h:VIt B2 w3 v x) (hB:B≤B2) (ho:∀b,own.ownBlock=some b→b<B2):∃A c E d,v= .agg (icells x (.slice A x.dom.length c) (.slice E x.vals.length d))∧New B w3 own (.slice A x.dom.length c) (.slice E x.vals.length d) x:=by
 obtain ⟨D,V,h1,h2,h3⟩:=h;obtain ⟨A,c,rfl⟩:=Lay.row_len h2;obtain ⟨E,d,rfl⟩:=Lay.row_len h3;have hF:∀b,since B2 w3 b→inF B w3 own b:=fun b hb=>⟨Nat.le_trans hB hb.1,hb.2,fun e=>by have:=ho b e;have:=hb.1;omega⟩;exact ⟨A,c,E,d,h1,layR.row.mono hF h2,(layE 159).row.mono hF h3⟩
theorem New.cells {B:Nat} {own D V:Value} (h:New B w own D V x):∀k,k<LI.sz→∃u,(icells x D V).toList[k]? =some u∧(LI.C k).P (inF B w own) w u x:=fun k hk=>by
 have hk8:k<8:=hk;match k,hk8 with
 |0,_=>exact ⟨_,rfl,rfl⟩
 |1,_=>exact ⟨_,rfl,rfl⟩
 |2,_=>exact ⟨_,rfl,rfl⟩
 |3,_=>exact ⟨_,rfl,h.dom⟩
 |4,_=>exact ⟨_,rfl,rfl⟩
 |5,_=>exact ⟨_,rfl,rfl⟩
 |6,_=>exact ⟨_,rfl,h.vals⟩
 |7,_=>exact ⟨_,rfl,rfl⟩
end
structure Ph (w:World) (g n:Nat) (v:Value) (xs:List It) (l:List Tok) (L2 L3 L4 L5:Bool) (s2 s3 s4:Value) (w':World):Prop where
 p0:L2=false→Rn w w' g n v xs l
 p1:L2=true→L3=false→∃x l3,itemP l= .ok x l3∧Rn w w' g n v xs l3∧∃A c E d,s2= .agg (icells x (.slice A x.dom.length c) (.slice E x.vals.length d))∧New (w.heap.size+2) w' v (.slice A x.dom.length c) (.slice E x.vals.length d) x
 p2:L3=true→L4=false→∃x l3,itemP l= .ok x l3∧∃w3,Rn w w3 g n v xs l3∧∃A c E d,w'=w3.alloc (.cells (icells x (.slice A x.dom.length c) (.slice E x.vals.length d)) 97)∧s3= .slice (some ⟨w3.heap.size,0,none⟩) 1 1∧New (w.heap.size+2) w3 v (.slice A x.dom.length c) (.slice E x.vals.length d) x
 p3:L4=true→L5=false→∃x l3,itemP l= .ok x l3∧∃A c,s4= .slice A (xs++[x]).length c∧LI.own (w.heap.size+2) w' (.slice A (xs++[x]).length c) (xs++[x])∧Blk w' w.heap.size 180 #[v]∧Blk w' (w.heap.size+1) 206 #[.int .i64 0,.int .i64 0]∧Ps w' g l3 n∧w.grownBy w' (some g)∧g<w.heap.size
 p4:L5=true→∃x l3,itemP l= .ok x l3∧∃u,Rn w w' g n u (xs++[x]) l3
theorem Ph.cell {w w':World} {g n:Nat} {v:Value} {xs:List It} {l:List Tok} {L2 L3 L4 L5:Bool} {s2 s3 s4:Value} (h:Ph w g n v xs l L2 L3 L4 L5 s2 s3 s4 w') (hL:L4=false):w'.cell? ⟨w.heap.size,0,none⟩=some v:=by
 cases h2:L2 with
 |false=>exact (h.p0 h2).hO.cell 0
 |true=>
  cases h3:L3 with
  |false=>
   obtain ⟨_,_,_,R,_⟩:=h.p1 h2 h3;exact R.hO.cell 0
  |true=>
   obtain ⟨_,_,_,w3,R,_,_,_,_,rfl,_⟩:=h.p2 h3 hL;exact (R.hO.alloc _).cell 0
theorem gr2_own {w wr w3 w4:World} {g:Nat} (h:w.grownBy wr (some g)) (q:wr.grownBy w3 (some g)) (k:Gr2 w3 w4 w.heap.size (w.heap.size+1)):w.grownBy w4 (some g):=
 ⟨k.1.trans (q.os.trans h.os),k.2.1.trans (q.tape.trans h.tape),k.2.2.1.trans (q.output.trans h.output),Nat.le_trans h.size (Nat.le_trans q.size k.2.2.2.1),fun j hj hne=>
  (k.2.2.2.2 j (Nat.lt_of_lt_of_le hj (Nat.le_trans h.size q.size)) (by omega) (by omega)).trans ((q.block j (Nat.lt_of_lt_of_le hj h.size) hne).trans (h.block j hj hne))⟩
theorem vall_nil {B:Nat} {w:World} {a c:Int}:VAll B w (.tuple #[.slice none 0 0,.agg #[.int .i64 a,.int .i64 c]]) ([],a,c):=⟨none,0,rfl,Lay.row_nil (Nat.zero_le _)⟩
theorem all_gen (Q:List Tok→Prop) (hI:∀{g n:Nat} {l:List Tok} {w:World},Q l→l≠[]→Ps w g l n→Calls Tryz.prog 149 #[.pointer (some ⟨g,0,none⟩)] w (PPost g n w (VIt w.heap.size) (itemP l))) (hQ:∀l x l3 l4 u,Q l→itemP l= .ok x l3→takeP [59] l3= .ok u l4→Q l4) {g n:Nat} {l:List Tok} {w:World} (h:Ps w g l n) (hl0:Q l):Calls Tryz.prog 145 #[.pointer (some ⟨g,0,none⟩)] w fun e w'=>w.grownBy w' (some g)∧∃v,e= .returned v∧VAll w.heap.size w' v (allR n l):=by
 have HI:Hid (∀{g n:Nat} {l:List Tok} {w:World},Q l→l≠[]→Ps w g l n→Calls Tryz.prog 149 #[.pointer (some ⟨g,0,none⟩)] w (PPost g n w (VIt w.heap.size) (itemP l))):= @hI;have HQ:=Lib.hid hQ;have HL0:=Lib.hid hl0;clear hI hQ hl0;have hmf:∀(fn:Fn) (first cap:Array Value) (w:World),(Instr.makeFunc fn first cap).run Tryz.prog w= .ok (.func fn first cap) w:=fun _ _ _ _=>rfl;have hg:=h.lt;go_enter_defers Tryz.func145,Tryz.ntmps145;go_wp2_with fail;go_loopg [] (513) (fun k wr=>∃(xs:List It) (l':List Tok) (v:Value),k=513-xs.length∧xs.length≤512∧Hid (allGo 512 [] l=allGo (512-xs.length) xs l')∧Hid (Q l')∧Rn w wr g n v xs l')
 case atStart=>exact ⟨[],l,.slice none 0 0,rfl,Nat.zero_le _,rfl,HL0,(Blk.new ..).alloc _,Blk.at_ (by simp),Lay.own_nil _ _ _,(h.alloc _).alloc _,grown_tr (World.grownBy_alloc _ _ _) (World.grownBy_alloc _ _ _),hg⟩
 case round=>
  obtain ⟨xs,l',v,hk,hx,hT,HQL,R⟩:=hrel;obtain ⟨hO,hF,ho,hps,hq,_⟩:=R;have R:Rn w wr g n v xs l':=⟨hO,hF,ho,hps,hq,hg⟩;have hws:w.heap.size≤wr.heap.size:=hq.size;have hFl:=hF.lt;obtain ⟨A,c,rfl⟩:=Lay.own_len ho;have o0:wr.cell? ⟨w.heap.size,0,none⟩=some (.slice A xs.length c):=hO.cell 0;have f0:wr.cell? ⟨w.heap.size+1,0,none⟩=some (.int .i64 0):=hF.cell 0;have f1:wr.cell? ⟨w.heap.size+1,1,none⟩=some (.int .i64 0):=hF.cell 1;cases l' with
  |nil=>
   obtain ⟨A1,c1,h1,h2⟩:=hps.nil;obtain ⟨v1,v2,v3,v4⟩:=Blk.both h1;have z0:=hO.frozen 0;have z1:=hF.frozen 0;have z2:=hF.frozen 1;go_wp2_with fail;go_region;have bO:=(((hO.set_ 0 (.slice A xs.length c)).turn (grown_set _ ⟨w.heap.size+1,0,none⟩ (.int .i64 0)) (by show w.heap.size≠w.heap.size+1;omega)).turn (grown_set _ ⟨w.heap.size+1,1,none⟩ (.int .i64 0)) (by show w.heap.size≠w.heap.size+1;omega)).drew;have bF:=(((hF.turn (grown_set _ ⟨w.heap.size,0,none⟩ (.slice A xs.length c)) (by show w.heap.size+1≠w.heap.size;omega)).set_ 0 (.int .i64 0)).set_ 1 (.int .i64 0)).drew;have g9:=((((Gr2.refl wr w.heap.size (w.heap.size+1)).one (grown_set _ ⟨w.heap.size,0,none⟩ (.slice A xs.length c))).two (grown_set _ ⟨w.heap.size+1,0,none⟩ (.int .i64 0))).two (grown_set _ ⟨w.heap.size+1,1,none⟩ (.int .i64 0))).two ((Read.refl _).drew.grown _);have o9:=Lay.own_grown (Lay.own_grown (Lay.own_grown (Lay.own_grown ho (grown_set _ ⟨w.heap.size,0,none⟩ (.slice A xs.length c)) (fun k e=>by injection e with e;have e:w.heap.size=k:=e;omega)) (grown_set _ ⟨w.heap.size+1,0,none⟩ (.int .i64 0)) (fun k e=>by injection e with e;have e:w.heap.size+1=k:=e;omega)) (grown_set _ ⟨w.heap.size+1,1,none⟩ (.int .i64 0)) (fun k e=>by injection e with e;have e:w.heap.size+1=k:=e;omega)) ((Read.refl _).drew.grown none) (fun k e=>by cases e);generalize (((wr.setCell ⟨w.heap.size,0,none⟩ (.slice A xs.length c)).setCell ⟨w.heap.size+1,0,none⟩ (.int .i64 0)).setCell ⟨w.heap.size+1,1,none⟩ (.int .i64 0)).drew=w9 at*;have r0:w9.cell? ⟨w.heap.size,0,none⟩=some (.slice A xs.length c):=bO.cell 0;have r1:w9.cell? ⟨w.heap.size+1,0,none⟩=some (.int .i64 0):=bF.cell 0;have r2:w9.cell? ⟨w.heap.size+1,1,none⟩=some (.int .i64 0):=bF.cell 1;clear bO bF v1 v2 v3 v4 z0 z1 z2 o0 f0 f1;go_wp2_with fail;refine leaves_cons (f:=147) (args:= #[.pointer (some ⟨w.heap.size,0,none⟩),.pointer (some ⟨w.heap.size+1,0,none⟩)]) (by simp) (by simp[go_sem]) ?_;refine (catch_idle _ _ _).mono ?_;rintro e u w4 ⟨rfl,rfl,rfl⟩;simp[Leaves,settle,results,Tryz.results145,go_sem,r0,r1,r2];refine ⟨gr2_own R.gr (World.grownBy.refl _ _) g9,?_⟩;have e9:allR n l=(xs,0,0):=by
    unfold allR;rw[hT.out,allGo_nil]
   rw[e9];exact ⟨A,c,rfl,LI.row.mono (fun b hb=>⟨by have:=hb.1;omega,hb.2⟩) (Lay.own_row o9)⟩
  |cons t r=>
   have d1:decide ((0:Int)<((r.length:Int)+1))=true:=decide_eq_true (by omega);obtain ⟨b,o,c',i1,i2,i3,i4,c1,c2,c3,c4,i5⟩:=hps.cons;obtain ⟨v1,v2,v3,v4⟩:=Blk.both i1;clear i5;by_cases hx5:xs.length=512
   ·have d2:((xs.length:Int)==512)=true:=by rw[hx5];rfl
    go_wp2_with fail;refine (throw_any 3 hps).mono ?_;rintro e w3 ⟨rfl,q3⟩;go_wp2_with fail;refine leaves_cons (f:=147) (args:= #[.pointer (some ⟨w.heap.size,0,none⟩),.pointer (some ⟨w.heap.size+1,0,none⟩)]) (by simp) (by simp[go_sem]) ?_;refine (catch_on rfl (R.hO.turn q3 (by omega)) (R.hF.turn q3 (by omega)) (by omega)).mono ?_;rintro e u w4 ⟨rfl,rfl,b1,b2,g4⟩;have r0:w4.cell? ⟨w.heap.size,0,none⟩=some (.slice none 0 0):=b1.cell 0;have r1:w4.cell? ⟨w.heap.size+1,0,none⟩=some _:=b2.cell 0;have r2:w4.cell? ⟨w.heap.size+1,1,none⟩=some _:=b2.cell 1;simp[Leaves,settle,results,Tryz.results145,go_sem,r0,r1,r2];refine ⟨gr2_own R.gr q3 g4,?_⟩;have e9:allR n l=([],placeP n (t::r),3):=by
     unfold allR;rw[hT.out,hx5];rfl
    rw[e9];exact vall_nil
   ·have d2:((xs.length:Int)==512)=false:=beq_eq_false_iff_ne.2 (by omega);obtain ⟨j,hj⟩:∃j,512-xs.length=j+1:=⟨511-xs.length,by omega⟩;have hT2:=hT.out;rw[hj]at hT2;have HT2:=Lib.hid (show allGo 512 [] l=pbind itemP (fun x=>pbind (takeP [59]) fun _=>allGo j (xs++[x])) (t::r) from hT2);have HJ:=Lib.hid hj;clear hT hT2 hj;have hlt:=Lay.own_lt ho;have HL:=Lib.hid hlt;clear hlt;go_wp2_with fail;refine region_gen (n:=6) (frame:= ?frame5) (fun L s w'=>(L 0=true→s 0= .slice A xs.length c)∧(L 1=true→s 1= .pointer (some ⟨g,0,none⟩))∧Ph w g n (.slice A xs.length c) xs (t::r) (L 2) (L 3) (L 4) (L 5) (s 2) (s 3) (s 4) w') (by kernel_rfl) (by kernel_rfl) (by kernel_rfl) rfl ?_ ?_ ?_ ?_
    case refine_1=>exact fun s=>⟨(fun h=>by first|exact no_f h|exact no_t h),(fun h=>by first|exact no_f h|exact no_t h),fun _=>R.drew,(fun h=>by first|exact no_f h|exact no_t h),(fun h=>by first|exact no_f h|exact no_t h),(fun h=>by first|exact no_f h|exact no_t h),(fun h=>by first|exact no_f h|exact no_t h)⟩
    case refine_2=>
     intro s;simp only[fr,Act.put,List.append_eq,List.cons_append,List.nil_append,List.setIfInBounds_toArray,List.set_cons_zero,List.set_cons_succ,Nat.reduceAdd];rfl
    case refine_3=>
     refine Steps.cons 0 (j:=1) rfl ?_ (Steps.cons 1 (j:=2) rfl ?_ (Steps.cons 2 (j:=3) rfl ?_ (Steps.cons 3 (j:=4) rfl ?_ (Steps.cons 4 (j:=5) rfl ?_ (Steps.cons 5 (j:=6) rfl ?_ Steps.nil)))))
     ·intro L s w9 hN hU hi hC hS K hK;dsimp only at hK⊢;simp only[Act.put,List.setIfInBounds_toArray,List.set_cons_zero,List.set_cons_succ]at hK;obtain ⟨h0,h1,hP⟩:=hS;refine ite_of rfl ?_;have hc:=hP.cell (hU.out 4 _ rfl rfl);go_simp;exact hK.out _ _ ⟨fun _=>rfl,h1,hP⟩
     ·intro L s w9 hN hU hi hC hS K hK;dsimp only at hK⊢;simp only[Act.put,List.setIfInBounds_toArray,List.set_cons_zero,List.set_cons_succ]at hK;obtain ⟨h0,h1,hP⟩:=hS;refine ite_of rfl ?_;go_simp;exact hK.out _ _ ⟨h0,fun _=>rfl,hP⟩
     ·intro L s w9 hN hU hi hC hS K hK;dsimp only at hK⊢;simp only[Act.put,List.setIfInBounds_toArray,List.set_cons_zero,List.set_cons_succ]at hK;obtain ⟨h0,h1,hP⟩:=hS;refine ite_of rfl ?_;have e1:s 1= .pointer (some ⟨g,0,none⟩):=h1 (hN.out 1 rfl);simp only[e1]at hK⊢;have R9:=hP.p0 hi.out;go_simp;go_at_call 149;refine (HI.out HQL.out (fun e=>by cases e) R9.ps).mono ?_;rintro e w3 ⟨q3,⟨x,l3,e3,h3,v3,rfl,p3⟩|⟨c3,l3,e3,rfl⟩⟩
      ·have hle:w.heap.size+2≤w9.heap.size:=by have:=R9.hF.lt;omega
       obtain ⟨A1,c1,E1,d1,rfl,hw⟩:=New.of (B:=w.heap.size+2) (own:= .slice A xs.length c) p3 hle (fun b hb=>(Lay.own_lt R9.ho b hb).2);refine hK.out _ _ ⟨h0,h1,(fun h=>by first|exact no_f h|exact no_t h),fun _ _=>⟨x,l3,e3,R9.call q3 h3,A1,c1,E1,d1,rfl,hw⟩,fun h=> ?_,fun h=> ?_,fun h=> ?_⟩
       ·have h:L 3=true:=h;rw[hU.out 3 _ rfl rfl]at h;cases h
       ·have h:L 4=true:=h;rw[hU.out 4 _ rfl rfl]at h;cases h
       ·have h:L 5=true:=h;rw[hU.out 5 _ rfl rfl]at h;cases h
      ·go_wp2_with fail;refine leaves_cons (f:=147) (args:= #[.pointer (some ⟨w.heap.size,0,none⟩),.pointer (some ⟨w.heap.size+1,0,none⟩)]) (by simp) (by simp[go_sem]) ?_;refine (catch_on rfl (R9.hO.turn q3 (by omega)) (R9.hF.turn q3 (by omega)) (by omega)).mono ?_;rintro e u w4 ⟨rfl,rfl,b1,b2,g4⟩;have r0:w4.cell? ⟨w.heap.size,0,none⟩=some (.slice none 0 0):=b1.cell 0;have r1:w4.cell? ⟨w.heap.size+1,0,none⟩=some _:=b2.cell 0;have r2:w4.cell? ⟨w.heap.size+1,1,none⟩=some _:=b2.cell 1;simp[Leaves,settle,results,Tryz.results145,go_sem,r0,r1,r2];refine ⟨gr2_own R9.gr q3 g4,?_⟩;have e9:allR n l=([],placeP n l3,c3):=by
        unfold allR;rw[HT2.out];simp only[pbind,e3]
       rw[e9];exact vall_nil
     ·intro L s w9 hN hU hi hC hS K hK;dsimp only at hK⊢;simp only[Act.put,List.setIfInBounds_toArray,List.set_cons_zero,List.set_cons_succ]at hK;obtain ⟨h0,h1,hP⟩:=hS;refine ite_of rfl ?_;obtain ⟨x,l3,e3,R9,A1,c1,E1,d1,e2,hw⟩:=hP.p1 (hN.out 2 rfl) hi.out;simp only[e2,icells]at hK⊢;go_simp;refine hK.out _ _ ⟨h0,h1,fun h=> ?_,(fun _ h=>by first|exact no_f h|exact no_t h),fun _ _=>⟨x,l3,e3,w9,R9,A1,c1,E1,d1,rfl,rfl,hw⟩,fun h=> ?_,fun h=> ?_⟩
      ·have h:L 2=false:=h;rw[hN.out 2 rfl]at h;cases h
      ·have h:L 4=true:=h;rw[hU.out 4 _ rfl rfl]at h;cases h
      ·have h:L 5=true:=h;rw[hU.out 5 _ rfl rfl]at h;cases h
     ·intro L s w9 hN hU hi hC hS K hK;dsimp only at hK⊢;simp only[Act.put,List.setIfInBounds_toArray,List.set_cons_zero,List.set_cons_succ]at hK;obtain ⟨h0,h1,hP⟩:=hS;refine ite_of rfl ?_;have e0:s 0= .slice A xs.length c:=h0 (hN.out 0 rfl);obtain ⟨x,l3,e3,w3,R9,A1,c1,E1,d1,rfl,e4,hw⟩:=hP.p2 (hN.out 3 rfl) hi.out;simp only[e0,e4]at hK⊢;have hle:w.heap.size+2≤w3.heap.size:=by have:=R9.hF.lt;omega
      refine Lay.wp_app1 LI _ _ w3 (w.heap.size+2) _ xs x (icells x (.slice A1 x.dom.length c1) (.slice E1 x.vals.length d1)) rfl Tryz.underlying180 info_its rfl (by decide) (by decide) R9.ho hle (by omega) rfl rfl hw.cells rfl rfl rfl ?_;intro v4 w4 ho4 hg4 hb4 _;have hO4:=R9.hO;obtain ⟨A4,c4,rfl⟩:=Lay.own_len ho4;refine hK.out _ _ ⟨h0,h1,fun h=> ?_,fun _ h=> ?_,(fun _ h=>by first|exact no_f h|exact no_t h),fun _ _=>⟨x,l3,e3,A4,c4,rfl,ho4,(hb4.block _ (by omega)).trans R9.hO,(hb4.block _ (by omega)).trans R9.hF,R9.ps.belowB hb4 (by have:=R9.hg;omega),grown_belowB R9.gr hb4 (by omega),hg⟩,fun h=> ?_⟩
      ·have h:L 2=false:=h;rw[hN.out 2 rfl]at h;cases h
      ·have h:L 3=false:=h;rw[hN.out 3 rfl]at h;cases h
      ·have h:L 5=true:=h;rw[hU.out 5 _ rfl rfl]at h;cases h
     ·intro L s w9 hN hU hi hC hS K hK;dsimp only at hK⊢;simp only[Act.put,List.setIfInBounds_toArray,List.set_cons_zero,List.set_cons_succ]at hK;obtain ⟨h0,h1,hP⟩:=hS;refine ite_of rfl ?_;obtain ⟨x,l3,e3,A4,c4,e4,ho4,hO4,hF4,hp4,gr4,_⟩:=hP.p3 (hN.out 4 rfl) hi.out;rw[show (xs++[x]).length=xs.length+1 by simp]at e4 ho4;simp only[e4]at hK⊢;have k0:w9.cell? ⟨w.heap.size,0,none⟩=some (.slice A xs.length c):=hO4.cell 0;have k1:=hO4.frozen 0;go_simp;have qO:=grown_set w9 ⟨w.heap.size,0,none⟩ (.slice A4 (xs.length+1) c4);refine hK.out undef _ ⟨h0,h1,fun h=> ?_,fun _ h=> ?_,fun _ h=> ?_,(fun _ h=>by first|exact no_f h|exact no_t h),fun _=>⟨x,l3,e3,_,⟨hO4.set_ 0 _,hF4.turn qO (by show w.heap.size+1≠w.heap.size;omega),Lay.own_grown ho4 qO (fun k e=>by injection e with e;have e:w.heap.size=k:=e;omega),hp4.grown qO hg,grown_new gr4 qO (Nat.le_refl _),hg⟩⟩⟩
      ·have h:L 2=false:=h;rw[hN.out 2 rfl]at h;cases h
      ·have h:L 3=false:=h;rw[hN.out 3 rfl]at h;cases h
      ·have h:L 4=false:=h;rw[hN.out 4 rfl]at h;cases h
    case refine_4=>
     intro L s w9 hall hS;obtain ⟨x,l3,e3,u,R9⟩:=hS.2.2.p4 (hall 5 (by decide));obtain ⟨A9,c9,hu9⟩:=Lay.own_len R9.ho;subst hu9;clear hS;go_wp2_with fail;refine (taken1 ⟨#[59]⟩ R9.ps).mono ?_;rintro e w3 ⟨q3,⟨u3,l4,e4,h4,v4,rfl,rfl⟩|⟨c4,l4,e4,rfl⟩⟩
     ·have e4':takeP [59] l3= .ok u3 l4:=e4;go_wp2_with fail;go_roundg (513-(xs.length+1))
      case measure=>omega
      case rel=>
       refine ⟨xs++[x],l4,_,by simp,by simp;omega,?_,HQ.out _ _ _ _ _ HQL.out e3 e4',R9.call q3 h4⟩;show _=_;rw[HT2.out,show 512-(xs++[x]).length=j by rw[List.length_append,List.length_singleton];have:=HJ.out;omega];simp only[pbind,e3,e4']
     ·have e4':takeP [59] l3= .bad c4 l4:=e4;go_wp2_with fail;refine leaves_cons (f:=147) (args:= #[.pointer (some ⟨w.heap.size,0,none⟩),.pointer (some ⟨w.heap.size+1,0,none⟩)]) (by simp) (by simp[go_sem]) ?_;refine (catch_on rfl (R9.hO.turn q3 (by omega)) (R9.hF.turn q3 (by omega)) (by omega)).mono ?_;rintro e u w4 ⟨rfl,rfl,b1,b2,g4⟩;have r0:w4.cell? ⟨w.heap.size,0,none⟩=some (.slice none 0 0):=b1.cell 0;have r1:w4.cell? ⟨w.heap.size+1,0,none⟩=some _:=b2.cell 0;have r2:w4.cell? ⟨w.heap.size+1,1,none⟩=some _:=b2.cell 1;simp[Leaves,settle,results,Tryz.results145,go_sem,r0,r1,r2];refine ⟨gr2_own R9.gr q3 g4,?_⟩;have e9:allR n l=([],placeP n l4,c4):=by
       unfold allR;rw[HT2.out];simp only[pbind,e3,e4']
      rw[e9];exact vall_nil
end Go.Proofs.YtjlhjabgclflcaaGreatDoor
set_option linter.unusedSimpArgs false
set_option linter.unusedVariables false
namespace Go.Proofs.YtjlhjabgclflcaaGreatDoor
open Go.RowKit Num
end Go.Proofs.YtjlhjabgclflcaaGreatDoor
set_option linter.unusedSimpArgs false
set_option linter.unusedVariables false
namespace Go.Proofs.YtjlhjabgclflcaaGreatDoor
open Go.RowKit Num
theorem RdT.take {w:World} {A:Option Addr} {c:Nat} {l:List Tok} (h:RdT w A c l) (n:Nat):RdT w A c (l.take n):=by
 refine ⟨Nat.le_trans (List.length_take_le' n l) h.room,h.cap,fun hn=> ?_⟩;obtain ⟨b,o,hA,hlt,hc⟩:=h.at_ (by rintro rfl;simp at hn);refine ⟨b,o,hA,hlt,fun j hj=> ?_⟩;have hj2:j<l.length:=by rw[List.length_take]at hj;omega
 rw[show (l.take n)[j]=l[j] from List.getElem_take];exact hc j hj2
theorem RetTok.rd {ty:TypeId} {w w':World} {e:Ending} {r:List Tok×Nat×Int} (h:RetTok ty w w' e r):∃A c,e= .returned (.tuple #[.slice A r.1.length c,.int .i64 (r.2.1:Nat),.int .i64 r.2.2])∧RdT w' A c r.1∧Below w.heap.size w w':=by
 obtain ⟨⟨v,he,ho⟩,hb⟩:=h;obtain ⟨A,c,rfl,hr⟩:=ho.rd;exact ⟨A,c,he,hr,hb⟩
end Go.Proofs.YtjlhjabgclflcaaGreatDoor
set_option maxHeartbeats 4000000
set_option maxRecDepth 100000
set_option linter.unusedSimpArgs false
set_option linter.unusedVariables false
namespace Go.Proofs.YtjlhjabgclflcaaGreatDoor
open Go.RowKit Num
def RetIt (w w':World) (e:Ending) (r:List It×Int×Int):Prop:=
 ∃A c,e= .returned (.tuple #[.slice A r.1.length c,.int .i64 r.2.1,.int .i64 r.2.2])∧LI.row.P (since w.heap.size w') w' (.slice A r.1.length c) r.1∧Below w.heap.size w w'
theorem textP_ok2 {s:List UInt8} {l:List Tok} {p:Nat} (h:splitR s=(l,p,0)):textP s=allR s.length l:=by
 unfold textP allR;rw[h];simp;cases allGo 512 [] l<;>rfl
theorem textP_no {s:List UInt8} {l:List Tok} {p:Nat} {e:Int} (h:splitR s=(l,p,e)) (he:e≠0):textP s=([],(p:Int),e):=by
 unfold textP;rw[h];simp[he]
theorem ptext_gen (Q:List Tok→Prop) (hI:∀{g n:Nat} {l:List Tok} {w:World},Q l→l≠[]→Ps w g l n→Calls Tryz.prog 149 #[.pointer (some ⟨g,0,none⟩)] w (PPost g n w (VIt w.heap.size) (itemP l))) (hQ:∀l x l3 l4 u,Q l→itemP l= .ok x l3→takeP [59] l3= .ok u l4→Q l4) (s:ByteArray) (w:World) (hE:ErrVars w) (hs:s.size≤1000000) (h0:(splitR s.data.toList).2.2=0→Q (splitR s.data.toList).1):Calls Tryz.prog 131 #[.string s] w fun e w'=>RetIt w w' e (textP s.data.toList):=by
 have hsz:s.data.toList.length=s.size:=by simp
 have HA:=Lib.hid (fun (g n:Nat) (l:List Tok) (w:World) (h:Ps w g l n) (hl:Q l)=>all_gen Q hI hQ h hl);have HQ0:=Lib.hid h0;clear hI hQ h0;go_enter Tryz.func131,Tryz.ntmps131;go_wp2_with fail;refine (split_any s w hE).mono ?_;rintro e w1 h1;obtain ⟨⟨v1,rfl,ho1⟩,q1⟩:=h1;have hlt:=World.ownsRow.lt ho1;obtain ⟨A,c,rfl,hA⟩:=ho1.rd;clear ho1;generalize hr:splitR s.data.toList=r at*;obtain ⟨l,p,er⟩:=r;dsimp only at*;by_cases he:er=0
 ·subst he;have hq0:=HQ0.out rfl;have HQL:=Lib.hid hq0;clear hq0;have ht:=textP_ok2 hr;rw[hsz]at ht;have HT:=Lib.hid ht;have h2:Ps (w1.alloc (.cells #[.slice A l.length c,.int .i64 s.size] 204)) w1.heap.size l s.size:=
   ⟨A,c,Blk.new ..,hA.below (below_alloc1 _ _) (Nat.le_refl _),fun b o z hAe=>by
    subst hAe;exact (hlt b rfl).2⟩
  clear hlt;clear hr ht;go_wp2_with fail;refine (HA.out _ _ _ _ h2 HQL.out).mono ?_;rintro e w3 ⟨q3,v,rfl,A3,c3,rfl,hv⟩;go_wp2_with fail;generalize allR s.size l=R at*;obtain ⟨xs,at_,er⟩:=R;dsimp only at*;have hv2:=Dt.below _ hv (below_alloc1 w3 (.cells #[.int .i64 at_,.int .i64 er] 206)) (Nat.le_refl _);have q9:=below_trans (grown_below (below_trans q1 (below_alloc1 w1 (.cells #[.slice A l.length c,.int .i64 s.size] 204))) q3 q1.size) (below_alloc1 w3 (.cells #[.int .i64 at_,.int .i64 er] 206));have hB:∀b,since (w1.alloc (.cells #[.slice A l.length c,.int .i64 s.size] 204)).heap.size w3 b→since w.heap.size (w3.alloc (.cells #[.int .i64 at_,.int .i64 er] 206)).drew b:=fun b hb=>by
   have h1:=hb.1;have h2:=hb.2;have h3:=q1.size;simp at h1;exact ⟨by omega,by show b<(w3.alloc _).heap.size;simp;omega⟩
  have hv3:=(LI.row).mono hB (Dt.below _ hv2 ((Read.refl _).drew.below _) (Nat.le_refl _));have q10:=q9.trans ((Read.refl _).drew.below _);have HV:=Lib.hid hv3;clear hv hv2 hv3 hB q3 q9 h2;go_region;go_wp2_with fail;refine bodyPost_ret (v:= .tuple #[.slice A3 xs.length c3,.int .i64 at_,.int .i64 er]) (by simp[results,Tryz.results131,go_sem]) rfl ?_;rw[HT.out];exact ⟨A3,c3,rfl,HV.out,q10⟩
 ·have ht:=textP_no hr he;have d1:(er !=0)=true:=by simpa using he
  have HT:=Lib.hid ht;clear hr ht he hlt;go_wp2_with fail;refine bodyPost_ret (v:= .tuple #[.slice none 0 0,.int .i64 p,.int .i64 er]) (by simp[results,Tryz.results131,go_sem]) rfl ?_;rw[HT.out];exact ⟨none,0,rfl,Lay.row_nil (Nat.zero_le _),q1⟩
theorem ptext_sol (s:ByteArray) (w:World) (hE:ErrVars w) (hs:s.size≤1000000) (m:List Tok) (hm:isP wSolve m=true) (h1:∀x l3 l4 u,itemP m= .ok x l3→takeP [59] l3= .ok u l4→l4=[]) (h0:(splitR s.data.toList).2.2=0→(splitR s.data.toList).1=m):Calls Tryz.prog 131 #[.string s] w fun e w'=>RetIt w w' e (textP s.data.toList):=
 ptext_gen (fun l=>l=m∨l=[]) (fun {g n l w} hl hn h=>item_sol h (by rcases hl with rfl|rfl;exact hm;exact absurd rfl hn))
  (fun l x l3 l4 u hl e3 e4=>Or.inr (by
   rcases hl with rfl|rfl
   ·exact h1 x l3 l4 u e3 e4
   ·cases e3)) s w hE hs fun h=>Or.inl (h0 h)
end Go.Proofs.YtjlhjabgclflcaaGreatDoor
set_option maxRecDepth 100000
set_option linter.unusedSimpArgs false
set_option linter.unusedVariables false
namespace Go.Proofs.YtjlhjabgclflcaaGreatDoor
open Go.RowKit Num Go.Joins
structure Env (w:World):Prop where
 err:ErrVars w
 tab:Lib.TabIs Tryz.prog w "internal/strconv.uint64pow10" .u64 Lib.pow10Tab
theorem Env.below {w w':World} (h:Env w) (q:Below w.heap.size w w'):Env w':=
 ⟨h.err.below q,var_stays (by kernel_rfl:Tryz.prog.globalNamed "internal/strconv.uint64pow10" =some 1) h.tab q (Nat.le_refl _)⟩
theorem vnum_any (n:Int) (hn:I64 n) (w:World) (hE:Env w):Calls Tryz.prog 110 #[.int .i64 n] w fun e w'=>e= .returned (.string ⟨(Lib.itoa n).toArray⟩)∧Below w.heap.size w w':=by
 go_enter Tryz.func110,Tryz.ntmps110;go_wp2_with fail;refine (Tryz.strconv_FormatInt_10 n hn.1 hn.2 w hE.tab).mono ?_;rintro e w1 ⟨rfl,k,os,rfl⟩;have q:=Lib.below_grow w.heap.size w (Nat.le_refl _) k os;go_wp2_with fail;go_ret;exact ⟨rfl,q⟩
theorem vfits_any (s:ByteArray) (w:World) (hE:Env w):Calls Tryz.prog 56 #[.string s] w fun e w'=>e= .returned (.bool (fitsS s.data.toList))∧Below w.heap.size w w':=by
 go_enter Tryz.func56,Tryz.ntmps56;go_wp2_with fail;refine (split_any s w hE.err).mono ?_;rintro e w1 h1;obtain ⟨A,c,rfl,hA,q1⟩:=h1.rd;clear h1;have hf:fitsS s.data.toList=((splitR s.data.toList).2.2==0):=rfl;generalize splitR s.data.toList=R at*;obtain ⟨l,p,er⟩:=R;dsimp only at*;have HF:=Lib.hid hf;clear hf;go_wp2_with fail;go_ret;exact ⟨by rw[HF.out];rfl,q1⟩
theorem vtruth_any (b:Bool) (w:World):Calls Tryz.prog 106 #[.bool b] w fun e w'=>e= .returned (.string ⟨(truthS b).toArray⟩)∧Below w.heap.size w w':=by
 cases b with
 |true=>
  go_enter Tryz.func106,Tryz.ntmps106;go_wp2_with fail;go_ret;exact ⟨rfl,Below.refl _ _⟩
 |false=>
  go_enter Tryz.func106,Tryz.ntmps106;go_wp2_with fail;go_ret;exact ⟨rfl,Below.refl _ _⟩
end Go.Proofs.YtjlhjabgclflcaaGreatDoor
