/-
  Joined texts: Pj, Pk, Pl.
-/
import Derived.Test.YtjlhjabgclflcaaGreatDoorDab
set_option maxHeartbeats 40000000
set_option maxRecDepth 100000
set_option linter.unusedSimpArgs false
set_option linter.unusedVariables false
namespace Go.Proofs.YtjlhjabgclflcaaGreatDoor
open Go.RowKit
theorem pbind_ok {α β:Type} {f:Pm α} {g:α→Pm β} {l r:List Tok} {x:α} (h:f l= .ok x r):pbind f g l=g x r:=by
 unfold pbind;rw[h]
theorem pbind_bad {α β:Type} {f:Pm α} {g:α→Pm β} {l r:List Tok} {c:Int} (h:f l= .bad c r):pbind f g l= .bad c r:=by
 unfold pbind;rw[h]
theorem goal_any {g n:Nat} {l:List Tok} {w:World} (h:Ps w g l n):
 Calls Tryz.prog 161 #[.pointer (some ⟨g,0,none⟩)] w (PPost g n w (VIt w.heap.size) (goalP l)):=by
 have hmf:∀(fn:Fn) (first cap:Array Value) (w:World),(Instr.makeFunc fn first cap).run Tryz.prog w= .ok (.func fn first cap) w:=fun _ _ _ _=>rfl
 have T0:=two_start h ⟨6,[],false,[],0,false,[],0⟩ rfl rfl
 go_enter Tryz.func161,Tryz.ntmps161
 go_wp2_with fail
 refine (may_any ⟨wSatisfy.toArray⟩ T0.ps).mono ?_
 rintro e w1 ⟨b1,l1,e1,rfl,h1,q1⟩
 have T1:=T0.call q1 h1
 clear h1 q1 T0
 cases b1 with
 |true=>
  have h1:=(Eq.refl (goalP l)).trans (pbind_ok (show mayP wSatisfy l= .ok true l1 from e1))
  simp only[if_true]at h1
  have H1:=Lib.hid h1
  clear e1 h1
  obtain ⟨k20,k21,k22,k23,k24,k25,k26,k27⟩:=Blk.eight T1.it
  go_wp2_with ((with_reducible refine st_ ?_);refine wp_put2 _ _ T1.res rfl rfl rfl rfl info_it rfl rfl ?_;intro w20 b20 q20)
  obtain ⟨r0,r1,r2,r3,r4,r5,r6,r7⟩:=b20.eight
  refine bodyPost_ret (v:= .agg (icells _ _ _)) (by simp[results,Tryz.results161,go_sem,r0,r1,r2,r3,r4,r5,r6,r7];rfl) rfl (T1.done q20 ?_ rfl)
  exact H1.out
 |false=>
  have h1:=(Eq.refl (goalP l)).trans (pbind_ok (show mayP wSatisfy l= .ok false l1 from e1))
  simp only[Bool.false_eq_true,if_false]at h1
  have H1:=Lib.hid h1
  clear e1 h1
  go_wp2_with fail
  refine (may_any ⟨wMinimize.toArray⟩ T1.ps).mono ?_
  rintro e w4 ⟨b4,l4,e4,rfl,h4,q4⟩
  have T4:=T1.call q4 h4
  clear h4 q4 T1
  cases b4 with
  |true=>
   have h4:=H1.out.trans (pbind_ok (show mayP wMinimize l1= .ok true l4 from e4))
   simp only[if_true]at h4
   have H4:=Lib.hid h4
   clear e4 h4
   have k5:w4.cell? ⟨w.heap.size+1,7,none⟩=some (.int .i64 0):=T4.cell 7
   have f5:=T4.it.frozen 7
   have T5:=T4.ask 1
   go_wp2_with fail
   refine (name_any T5.ps).mono ?_
   rintro e w7 ⟨q7,⟨u7,l7,e7,h7,v7,rfl,rfl⟩|⟨c7,l7,e7,rfl⟩⟩
   ·have H7:=Lib.hid (H4.out.trans (pbind_ok (show nameP l4= .ok u7 l7 from e7)));have T7:=T5.call q7 h7;clear e7 h7 q7 T5 k5 f5 T4;have k8:w7.cell? ⟨w.heap.size+1,1,none⟩=some (.string ⟨#[]⟩):=T7.cell 1;have f8:=T7.it.frozen 1;have T8:=T7.name u7;obtain ⟨k90,k91,k92,k93,k94,k95,k96,k97⟩:=Blk.eight T8.it;go_wp2_with ((with_reducible refine st_ ?_);refine wp_put2 _ _ T8.res rfl rfl rfl rfl info_it rfl rfl ?_;intro w20 b20 q20);obtain ⟨r0,r1,r2,r3,r4,r5,r6,r7⟩:=b20.eight;refine bodyPost_ret (v:= .agg (icells _ _ _)) (by simp[results,Tryz.results161,go_sem,r0,r1,r2,r3,r4,r5,r6,r7];rfl) rfl (T8.done q20 ?_ rfl);exact H7.out
   ·have e7':=Lib.hid (show nameP l4= .bad c7 l7 from e7);clear e7;go_wp2_with fail;refine ⟨rfl,grown_tr T5.gr q7,Or.inr ⟨c7,l7,?_,rfl⟩⟩;exact H4.out.trans (pbind_bad e7'.out)
  |false=>
   have h4:=H1.out.trans (pbind_ok (show mayP wMinimize l1= .ok false l4 from e4))
   simp only[Bool.false_eq_true,if_false]at h4
   have H4:=Lib.hid h4
   clear e4 h4
   go_wp2_with fail
   refine (may_any ⟨wMaximize.toArray⟩ T4.ps).mono ?_
   rintro e w11 ⟨b11,l11,e11,rfl,h11,q11⟩
   have T11:=T4.call q11 h11
   clear h11 q11 T4
   cases b11 with
   |true=>
    have h11:=H4.out.trans (pbind_ok (show mayP wMaximize l4= .ok true l11 from e11))
    simp only[if_true]at h11
    have H11:=Lib.hid h11
    clear e11 h11
    have k12:w11.cell? ⟨w.heap.size+1,7,none⟩=some (.int .i64 0):=T11.cell 7
    have f12:=T11.it.frozen 7
    have T12:=T11.ask 2
    go_wp2_with fail
    refine (name_any T12.ps).mono ?_
    rintro e w14 ⟨q14,⟨u14,l14,e14,h14,v14,rfl,rfl⟩|⟨c14,l14,e14,rfl⟩⟩
    ·have H14:=Lib.hid (H11.out.trans (pbind_ok (show nameP l11= .ok u14 l14 from e14)));have T14:=T12.call q14 h14;clear e14 h14 q14 T12 k12 f12 T11;have k15:w14.cell? ⟨w.heap.size+1,1,none⟩=some (.string ⟨#[]⟩):=T14.cell 1;have f15:=T14.it.frozen 1;have T15:=T14.name u14;obtain ⟨k160,k161,k162,k163,k164,k165,k166,k167⟩:=Blk.eight T15.it;go_wp2_with ((with_reducible refine st_ ?_);refine wp_put2 _ _ T15.res rfl rfl rfl rfl info_it rfl rfl ?_;intro w20 b20 q20);obtain ⟨r0,r1,r2,r3,r4,r5,r6,r7⟩:=b20.eight;refine bodyPost_ret (v:= .agg (icells _ _ _)) (by simp[results,Tryz.results161,go_sem,r0,r1,r2,r3,r4,r5,r6,r7];rfl) rfl (T15.done q20 ?_ rfl);exact H14.out
    ·have e14':=Lib.hid (show nameP l11= .bad c14 l14 from e14);clear e14;go_wp2_with fail;refine ⟨rfl,grown_tr T12.gr q14,Or.inr ⟨c14,l14,?_,rfl⟩⟩;exact H11.out.trans (pbind_bad e14'.out)
   |false=>
    have h11:=H4.out.trans (pbind_ok (show mayP wMaximize l4= .ok false l11 from e11))
    simp only[Bool.false_eq_true,if_false]at h11
    have H11:=Lib.hid h11
    clear e11 h11
    go_wp2_with fail
    refine (wrong_any T11.ps).mono ?_
    rintro e w18 ⟨rfl,q18⟩
    go_wp2_with fail
    refine ⟨rfl,grown_tr T11.gr q18,Or.inr ⟨_,_,?_,rfl⟩⟩
    exact H11.out
end Go.Proofs.YtjlhjabgclflcaaGreatDoor
set_option linter.unusedSimpArgs false
set_option linter.unusedVariables false
namespace Go.Proofs.YtjlhjabgclflcaaGreatDoor
open Go.RowKit
theorem VIt.done {w w1 w9:World} {o:Obj} {v:Value} {x:It} (h:VIt (w.alloc o).heap.size w1 v x) (q:w1.grownBy w9 (some w.heap.size)):VIt w.heap.size w9 v x:=by
 obtain ⟨D,V,h1,h2,h3⟩:=h;have hs:(w.alloc o).heap.size=w.heap.size+1:=by simp
 rw[hs]at h2 h3;refine ⟨D,V,h1,?_,?_⟩
 ·exact layR.row.mono (fun b hb=>⟨by have:=hb.1;omega,Nat.lt_of_lt_of_le hb.2 q.size⟩) (layR.row.grown h2 q fun b hb e=>by injection e with e;have:=hb.1;omega)
 ·exact (layE 159).row.mono (fun b hb=>⟨by have:=hb.1;omega,Nat.lt_of_lt_of_le hb.2 q.size⟩) ((layE 159).row.grown h3 q fun b hb e=>by injection e with e;have:=hb.1;omega)
end Go.Proofs.YtjlhjabgclflcaaGreatDoor
set_option maxHeartbeats 20000000
set_option maxRecDepth 100000
set_option linter.unusedSimpArgs false
set_option linter.unusedVariables false
namespace Go.Proofs.YtjlhjabgclflcaaGreatDoor
open Go.RowKit
theorem VIt.put {w8 w9:World} {B H:Nat} {v:Value} {x:It} (h:VIt B w8 v x) (hB:H<B) (q:w8.grownBy w9 (some H)):VIt H w9 v x:=by
 obtain ⟨D,V,h1,h2,h3⟩:=h;refine ⟨D,V,h1,?_,?_⟩
 ·exact layR.row.mono (fun b hb=>⟨by have:=hb.1;omega,Nat.lt_of_lt_of_le hb.2 q.size⟩) (layR.row.grown h2 q fun b hb e=>by injection e with e;have:=hb.1;omega)
 ·exact (layE 159).row.mono (fun b hb=>⟨by have:=hb.1;omega,Nat.lt_of_lt_of_le hb.2 q.size⟩) ((layE 159).row.grown h3 q fun b hb e=>by injection e with e;have:=hb.1;omega)
theorem not_sol {l:List Tok} {s:List UInt8} (h:isP wSolve l=true) (hne:s≠wSolve):isP s l=false:=by
 cases l with
 |nil=>rfl
 |cons t r=>
  have h1:t.t=wSolve:=eq_of_beq h;show (t.t==s)=false;rw[h1];exact beq_false_of_ne (Ne.symm hne)
theorem may_not {l l3:List Tok} {s:List UInt8} {b:Bool} (h:isP wSolve l=true) (hne:s≠wSolve) (e:mayP s l= .ok b l3):b=false∧l3=l:=by
 unfold mayP at e;rw[if_neg (by rw[not_sol h hne];decide)]at e;injection e with e1 e2;exact ⟨e1.symm,e2.symm⟩
theorem item_sol {g n:Nat} {l:List Tok} {w:World} (h:Ps w g l n) (hs:isP wSolve l=true):Calls Tryz.prog 149 #[.pointer (some ⟨g,0,none⟩)] w (PPost g n w (VIt w.heap.size) (itemP l)):=by
 have HS:=Lib.hid hs;clear hs;have hmf:∀(fn:Fn) (first cap:Array Value) (w:World),(Instr.makeFunc fn first cap).run Tryz.prog w= .ok (.func fn first cap) w:=fun _ _ _ _=>rfl;have hg:=h.lt;have h0:=h.alloc (.cells zI 97);have b0:Blk (w.alloc (.cells zI 97)) w.heap.size 97 zI:=Blk.new ..;have q0:=World.grownBy_alloc w (.cells zI 97) (some g);go_enter Tryz.func149,Tryz.ntmps149;go_wp2_with fail;refine (is_any ⟨wInt.toArray⟩ h0).mono ?_;rintro e w1 ⟨rfl,p1⟩;obtain ⟨h1,q1⟩:=h0.after p1;have b1:=b0.turn q1 (by omega);have i1':isP (⟨wInt.toArray⟩:ByteArray).data.toList l=false:=not_sol HS.out (by decide);go_wp2_with fail;refine (is_any ⟨wBool.toArray⟩ h1).mono ?_;rintro e w2 ⟨rfl,p2⟩;obtain ⟨h2,q2⟩:=h1.after p2;have b2:=b1.turn q2 (by omega);replace q1:=grown_tr (grown_tr q0 q1) q2;have i2':isP (⟨wBool.toArray⟩:ByteArray).data.toList l=false:=not_sol HS.out (by decide);have I1:Hid (isP wInt l=false):=not_sol HS.out (by decide);have I2:Hid (isP wBool l=false):=not_sol HS.out (by decide);go_wp2_with fail;refine (may_any ⟨wVar.toArray⟩ h2).mono ?_;rintro e w3 ⟨b,l3,e3,rfl,h3,q3⟩;have e3':mayP wVar l= .ok b l3:=e3;obtain ⟨rfl,rfl⟩:=may_not HS.out (by decide) e3';have b3:=b2.turn q3 (by omega);replace q1:=grown_tr q1 q3;clear i1' i2';go_wp2_with fail;refine (may_any ⟨wArray.toArray⟩ h3).mono ?_;rintro e w4 ⟨b,l4,e4,rfl,h4,q4⟩;have e4':mayP wArray l3= .ok b l4:=e4;obtain ⟨rfl,rfl⟩:=may_not HS.out (by decide) e4';have b4:=b3.turn q4 (by omega);replace q1:=grown_tr q1 q4;go_wp2_with fail;refine (may_any ⟨wConstraint.toArray⟩ h4).mono ?_;rintro e w5 ⟨b,l5,e5,rfl,h5,q5⟩;have e5':mayP wConstraint l4= .ok b l5:=e5;obtain ⟨rfl,rfl⟩:=may_not HS.out (by decide) e5';have b5:=b4.turn q5 (by omega);replace q1:=grown_tr q1 q5;go_wp2_with fail;refine (may_any ⟨wSolve.toArray⟩ h5).mono ?_;rintro e w6 ⟨b,l6,e6,rfl,h6,q6⟩;have e6':mayP wSolve l5= .ok b l6:=e6;have b6:=b5.turn q6 (by omega);replace q1:=grown_tr q1 q6;cases b with
 |true=>
  go_wp2_with fail;have hb6:=b6;refine (goal_any h6).mono ?_;rintro e w8 ⟨q8,⟨x,l8,e8,h8,v,rfl,hv⟩|⟨c8,l8,e8,rfl⟩⟩
  ·have b8:=hb6.turn q8 (by omega);have e8':goalP l6= .ok x l8:=e8;have hv':=hv;obtain ⟨D,V,rfl,hD,hV⟩:=hv;obtain ⟨A1,c1,rfl⟩:=Lay.row_len hD;obtain ⟨A2,c2,rfl⟩:=Lay.row_len hV;go_wp2_with ((with_reducible refine st_ ?_);refine wp_put2 _ _ b8 rfl rfl rfl rfl info_it rfl rfl ?_;intro w20 b20 q20);obtain ⟨r0,r1,r2,r3,r4,r5,r6,r7⟩:=Blk.eight b20;refine bodyPost_ret (v:= .agg (icells x (.slice A1 x.dom.length c1) (.slice A2 x.vals.length c2))) (by simp[results,Tryz.results149,go_sem,r0,r1,r2,r3,r4,r5,r6,r7];rfl) rfl ⟨grown_new (grown_tr q1 q8) q20 (Nat.le_refl _),Or.inl ⟨x,l8,?_,h8.grown q20 hg,_,rfl,hv'.put hb6.lt q20⟩⟩;simp only[itemP,pbind,I1.out,I2.out,Bool.or_self,Bool.false_eq_true,if_false,e3',e4',e5',e6',if_true,e8']
  ·have e8':goalP l6= .bad c8 l8:=e8;go_wp2_with fail;refine ⟨rfl,grown_tr q1 q8,Or.inr ⟨c8,l8,?_,rfl⟩⟩;simp only[itemP,pbind,I1.out,I2.out,Bool.or_self,Bool.false_eq_true,if_false,e3',e4',e5',e6',if_true,e8']
 |false=>
  exfalso;unfold mayP at e6';rw[if_pos HS.out]at e6';cases e6'
end Go.Proofs.YtjlhjabgclflcaaGreatDoor
