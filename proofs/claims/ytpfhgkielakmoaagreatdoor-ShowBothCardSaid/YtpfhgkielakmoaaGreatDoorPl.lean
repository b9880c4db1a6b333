/-
  Contract of item.
-/
import Derived.Test.YtpfhgkielakmoaaGreatDoorPk
set_option linter.unusedSimpArgs false
set_option linter.unusedVariables false
namespace Go.Proofs.YtpfhgkielakmoaaGreatDoor
open Go.RowKit

/-- An item that was told is put into an elder block. -/
theorem VIt.put {w8 w9 : World} {B H : Nat} {v : Value} {x : It} (h : VIt B w8 v x) (hB : H < B) (q : w8.grownBy w9 (some H)) : VIt H w9 v x := by
  obtain ⟨D, V, h1, h2, h3⟩ := h
  refine ⟨D, V, h1, ?_, ?_⟩
  · exact layR.row.mono (fun b hb => ⟨by have := hb.1; omega, Nat.lt_of_lt_of_le hb.2 q.size⟩) (layR.row.grown h2 q fun b hb e => by injection e with e; have := hb.1; omega)
  · exact (layE 102).row.mono (fun b hb => ⟨by have := hb.1; omega, Nat.lt_of_lt_of_le hb.2 q.size⟩) ((layE 102).row.grown h3 q fun b hb e => by injection e with e; have := hb.1; omega)
set_option maxRecDepth 100000 in
set_option maxHeartbeats 20000000 in
theorem item_any {g n : Nat} {l : List Tok} {w : World} (h : Ps w g l n) :
    Calls Tryz.prog 41 #[.pointer (some ⟨g, 0, none⟩)] w (PPost g n w (VIt w.heap.size) (itemP l)) := by
  have hmf : ∀ (fn : Fn) (first cap : Array Value) (w : World), (Instr.makeFunc fn first cap).run Tryz.prog w = .ok (.func fn first cap) w := fun _ _ _ _ => rfl
  have hg := h.lt
  have h0 := h.alloc (.cells zI 47)
  have b0 : Blk (w.alloc (.cells zI 47)) w.heap.size 47 zI := Blk.new ..
  have q0 := World.grownBy_alloc w (.cells zI 47) (some g)
  go_enter Tryz.func41, Tryz.ntmps41
  go_wp2_with fail
  refine (is_any ⟨wInt.toArray⟩ h0).mono ?_
  rintro e w1 ⟨rfl, p1⟩
  obtain ⟨h1, q1⟩ := h0.after p1
  have b1 := b0.turn q1 (by omega)
  cases i1 : isP wInt l with
  | true =>
    have i1' : isP (⟨wInt.toArray⟩ : ByteArray).data.toList l = true := i1
    have I1 := Lib.hid i1
    go_wp2_with fail
    have hb6 := b1
    refine (par_any h1).mono ?_
    rintro e w8 ⟨q8, ⟨x, l8, e8, h8, v, rfl, hv⟩ | ⟨c8, l8, e8, rfl⟩⟩
    · have b8 := hb6.turn q8 (by omega)
      have e8' : parP l = .ok x l8 := e8
      have hv' := hv
      obtain ⟨D, V, rfl, hD, hV⟩ := hv
      obtain ⟨A1, c1, rfl⟩ := Lay.row_len hD
      obtain ⟨A2, c2, rfl⟩ := Lay.row_len hV
      go_wp2_with ((with_reducible show wpList _ _ _ (Oper.mk none (Op.store _ _ _) _ _ _ _ :: _) _ _); refine wp_put (o := ⟨none, .store _ _ _, _, _, _, _⟩) _ _ b8 rfl rfl rfl rfl info_it rfl rfl ?_; intro w20 b20 q20)
      obtain ⟨r0, r1, r2, r3, r4, r5, r6, r7⟩ := Blk.eight b20
      refine bodyPost_ret (v := .agg (icells x (.slice A1 x.dom.length c1) (.slice A2 x.vals.length c2))) (by simp [results, Tryz.results41, go_sem, r0, r1, r2, r3, r4, r5, r6, r7]; rfl) rfl ⟨grown_new (grown_tr (grown_tr q0 q1) q8) q20 (Nat.le_refl _), Or.inl ⟨x, l8, ?_, h8.grown q20 hg, _, rfl, hv'.put hb6.lt q20⟩⟩
      simp only [itemP, pbind, I1.out, Bool.true_or, if_true, e8']
    · have e8' : parP l = .bad c8 l8 := e8
      go_wp2_with fail
      refine ⟨rfl, grown_tr (grown_tr q0 q1) q8, Or.inr ⟨c8, l8, ?_, rfl⟩⟩
      simp only [itemP, pbind, I1.out, Bool.true_or, if_true, e8']
  | false =>
    have i1' : isP (⟨wInt.toArray⟩ : ByteArray).data.toList l = false := i1
    have I1 := Lib.hid i1
    go_wp2_with fail
    refine (is_any ⟨wBool.toArray⟩ h1).mono ?_
    rintro e w2 ⟨rfl, p2⟩
    obtain ⟨h2, q2⟩ := h1.after p2
    have b2 := b1.turn q2 (by omega)
    replace q1 := grown_tr (grown_tr q0 q1) q2
    cases i2 : isP wBool l with
    | true =>
      have i2' : isP (⟨wBool.toArray⟩ : ByteArray).data.toList l = true := i2
      have I2 := Lib.hid i2
      go_wp2_with fail
      have hb6 := b2
      refine (par_any h2).mono ?_
      rintro e w8 ⟨q8, ⟨x, l8, e8, h8, v, rfl, hv⟩ | ⟨c8, l8, e8, rfl⟩⟩
      · have b8 := hb6.turn q8 (by omega)
        have e8' : parP l = .ok x l8 := e8
        have hv' := hv
        obtain ⟨D, V, rfl, hD, hV⟩ := hv
        obtain ⟨A1, c1, rfl⟩ := Lay.row_len hD
        obtain ⟨A2, c2, rfl⟩ := Lay.row_len hV
        go_wp2_with ((with_reducible show wpList _ _ _ (Oper.mk none (Op.store _ _ _) _ _ _ _ :: _) _ _); refine wp_put (o := ⟨none, .store _ _ _, _, _, _, _⟩) _ _ b8 rfl rfl rfl rfl info_it rfl rfl ?_; intro w20 b20 q20)
        obtain ⟨r0, r1, r2, r3, r4, r5, r6, r7⟩ := Blk.eight b20
        refine bodyPost_ret (v := .agg (icells x (.slice A1 x.dom.length c1) (.slice A2 x.vals.length c2))) (by simp [results, Tryz.results41, go_sem, r0, r1, r2, r3, r4, r5, r6, r7]; rfl) rfl ⟨grown_new (grown_tr q1 q8) q20 (Nat.le_refl _), Or.inl ⟨x, l8, ?_, h8.grown q20 hg, _, rfl, hv'.put hb6.lt q20⟩⟩
        simp only [itemP, pbind, I1.out, I2.out, Bool.or_true, if_true, e8']
      · have e8' : parP l = .bad c8 l8 := e8
        go_wp2_with fail
        refine ⟨rfl, grown_tr q1 q8, Or.inr ⟨c8, l8, ?_, rfl⟩⟩
        simp only [itemP, pbind, I1.out, I2.out, Bool.or_true, if_true, e8']
    | false =>
      have i2' : isP (⟨wBool.toArray⟩ : ByteArray).data.toList l = false := i2
      have I2 := Lib.hid i2
      go_wp2_with fail
      refine (may_any ⟨wVar.toArray⟩ h2).mono ?_
      rintro e w3 ⟨b, l3, e3, rfl, h3, q3⟩
      have e3' : mayP wVar l = .ok b l3 := e3
      have b3 := b2.turn q3 (by omega)
      replace q1 := grown_tr q1 q3
      clear i1 i2 i1' i2'
      cases b with
      | true =>
        go_wp2_with fail
        have hb6 := b3
        refine (variable_any h3).mono ?_
        rintro e w8 ⟨q8, ⟨x, l8, e8, h8, v, rfl, hv⟩ | ⟨c8, l8, e8, rfl⟩⟩
        · have b8 := hb6.turn q8 (by omega)
          have e8' : variableP l3 = .ok x l8 := e8
          have hv' := hv
          obtain ⟨D, V, rfl, hD, hV⟩ := hv
          obtain ⟨A1, c1, rfl⟩ := Lay.row_len hD
          obtain ⟨A2, c2, rfl⟩ := Lay.row_len hV
          go_wp2_with ((with_reducible show wpList _ _ _ (Oper.mk none (Op.store _ _ _) _ _ _ _ :: _) _ _); refine wp_put (o := ⟨none, .store _ _ _, _, _, _, _⟩) _ _ b8 rfl rfl rfl rfl info_it rfl rfl ?_; intro w20 b20 q20)
          obtain ⟨r0, r1, r2, r3, r4, r5, r6, r7⟩ := Blk.eight b20
          refine bodyPost_ret (v := .agg (icells x (.slice A1 x.dom.length c1) (.slice A2 x.vals.length c2))) (by simp [results, Tryz.results41, go_sem, r0, r1, r2, r3, r4, r5, r6, r7]; rfl) rfl ⟨grown_new (grown_tr q1 q8) q20 (Nat.le_refl _), Or.inl ⟨x, l8, ?_, h8.grown q20 hg, _, rfl, hv'.put hb6.lt q20⟩⟩
          simp only [itemP, pbind, I1.out, I2.out, Bool.or_self, Bool.false_eq_true, if_false, e3', if_true, e8']
        · have e8' : variableP l3 = .bad c8 l8 := e8
          go_wp2_with fail
          refine ⟨rfl, grown_tr q1 q8, Or.inr ⟨c8, l8, ?_, rfl⟩⟩
          simp only [itemP, pbind, I1.out, I2.out, Bool.or_self, Bool.false_eq_true, if_false, e3', if_true, e8']
      | false =>
        go_wp2_with fail
        refine (may_any ⟨wArray.toArray⟩ h3).mono ?_
        rintro e w4 ⟨b, l4, e4, rfl, h4, q4⟩
        have e4' : mayP wArray l3 = .ok b l4 := e4
        have b4 := b3.turn q4 (by omega)
        replace q1 := grown_tr q1 q4
        cases b with
        | true =>
          go_wp2_with fail
          have hb6 := b4
          refine (array_any h4).mono ?_
          rintro e w8 ⟨q8, ⟨x, l8, e8, h8, v, rfl, hv⟩ | ⟨c8, l8, e8, rfl⟩⟩
          · have b8 := hb6.turn q8 (by omega)
            have e8' : arrayP l4 = .ok x l8 := e8
            have hv' := hv
            obtain ⟨D, V, rfl, hD, hV⟩ := hv
            obtain ⟨A1, c1, rfl⟩ := Lay.row_len hD
            obtain ⟨A2, c2, rfl⟩ := Lay.row_len hV
            go_wp2_with ((with_reducible show wpList _ _ _ (Oper.mk none (Op.store _ _ _) _ _ _ _ :: _) _ _); refine wp_put (o := ⟨none, .store _ _ _, _, _, _, _⟩) _ _ b8 rfl rfl rfl rfl info_it rfl rfl ?_; intro w20 b20 q20)
            obtain ⟨r0, r1, r2, r3, r4, r5, r6, r7⟩ := Blk.eight b20
            refine bodyPost_ret (v := .agg (icells x (.slice A1 x.dom.length c1) (.slice A2 x.vals.length c2))) (by simp [results, Tryz.results41, go_sem, r0, r1, r2, r3, r4, r5, r6, r7]; rfl) rfl ⟨grown_new (grown_tr q1 q8) q20 (Nat.le_refl _), Or.inl ⟨x, l8, ?_, h8.grown q20 hg, _, rfl, hv'.put hb6.lt q20⟩⟩
            simp only [itemP, pbind, I1.out, I2.out, Bool.or_self, Bool.false_eq_true, if_false, e3', e4', if_true, e8']
          · have e8' : arrayP l4 = .bad c8 l8 := e8
            go_wp2_with fail
            refine ⟨rfl, grown_tr q1 q8, Or.inr ⟨c8, l8, ?_, rfl⟩⟩
            simp only [itemP, pbind, I1.out, I2.out, Bool.or_self, Bool.false_eq_true, if_false, e3', e4', if_true, e8']
        | false =>
          go_wp2_with fail
          refine (may_any ⟨wConstraint.toArray⟩ h4).mono ?_
          rintro e w5 ⟨b, l5, e5, rfl, h5, q5⟩
          have e5' : mayP wConstraint l4 = .ok b l5 := e5
          have b5 := b4.turn q5 (by omega)
          replace q1 := grown_tr q1 q5
          cases b with
          | true =>
            go_wp2_with fail
            refine (name_any h5).mono ?_
            rintro e wA ⟨qA, ⟨nm, lA, eA, hA, vA, rfl, rfl⟩ | ⟨cA, lA, eA, rfl⟩⟩
            · have zA : w.heap.size < wA.heap.size := (b5.turn qA (by omega)).lt
              have T0 := two_at (b5.turn qA (by omega)) hA (grown_tr q1 qA) hg ⟨5, nm, false, [], 0, false, [], 0⟩ rfl rfl
              clear h0 b0 h1 h2 h3 h4 h5 b1 b2 b3 b4
              go_wp2_with fail
              refine (taken1N ⟨#[40]⟩ T0.ps (by simp)).mono ?_
              rintro e w101 ⟨q101, ⟨u101, l101, e101, h101, v101, rfl, rfl⟩ | ⟨c101, l101, e101, rfl⟩⟩
              · have e101' := Lib.hid (show takeP [40] lA = .ok u101 l101 from e101)
                have T101 := T0.call q101 h101
                clear e101 h101 q101 T0
                go_wp2_with fail
                refine (args_any ⟨#[41]⟩ T101.ps).mono ?_
                rintro e w103 ⟨q103, ⟨u103, l103, e103, h103, v103, rfl, hr103⟩ | ⟨c103, l103, e103, rfl⟩⟩
                · have e103' := Lib.hid (show exprsP [41] exprP l101 = .ok u103 l103 from e103)
                  obtain ⟨z103a, z103b, z103c⟩ := T101.lt
                  have T103 := T101.call q103 h103
                  clear e103 h103 q103
                  obtain ⟨A103, d103, rfl⟩ := Lay.row_len hr103
                  have k104 : w103.cell? ⟨wA.heap.size, 6, none⟩ = some (.slice none 0 0) := T103.cell 6
                  have f104 := T103.it.frozen 6
                  have T104 := T103.put ((layE 102).row.mono (T103.fr z103c z103a z103b) hr103)
                  obtain ⟨k1050, k1051, k1052, k1053, k1054, k1055, k1056, k1057⟩ := Blk.eight T104.it
                  go_wp2_with ((with_reducible show wpList _ _ _ (Oper.mk none (Op.store _ _ _) _ _ _ _ :: _) _ _); refine wp_put (o := ⟨none, .store _ _ _, _, _, _, _⟩) _ _ T104.res rfl rfl rfl rfl info_it rfl rfl ?_; intro w20 b20 q20)
                  obtain ⟨r0, r1, r2, r3, r4, r5, r6, r7⟩ := b20.eight
                  refine bodyPost_ret (v := .agg (icells _ _ _)) (by simp [results, Tryz.results41, go_sem, r0, r1, r2, r3, r4, r5, r6, r7]; rfl) rfl (T104.done q20 ?_ rfl)
                  simp only [itemP, pbind, I1.out, I2.out, Bool.or_self, Bool.false_eq_true, if_false, e3', e4', e5', if_true, eA, e101'.out, e103'.out, pret]
                · have e103' := Lib.hid (show exprsP [41] exprP l101 = .bad c103 l103 from e103)
                  clear e103
                  go_wp2_with fail
                  refine ⟨rfl, grown_tr T101.gr q103, Or.inr ⟨c103, l103, ?_, rfl⟩⟩
                  simp only [itemP, pbind, I1.out, I2.out, Bool.or_self, Bool.false_eq_true, if_false, e3', e4', e5', if_true, eA, e101'.out, e103'.out]
              · have e101' := Lib.hid (show takeP [40] lA = .bad c101 l101 from e101)
                clear e101
                go_wp2_with fail
                refine ⟨rfl, grown_tr T0.gr q101, Or.inr ⟨c101, l101, ?_, rfl⟩⟩
                simp only [itemP, pbind, I1.out, I2.out, Bool.or_self, Bool.false_eq_true, if_false, e3', e4', e5', if_true, eA, e101'.out]
            · go_wp2_with fail
              refine ⟨rfl, grown_tr q1 qA, Or.inr ⟨cA, lA, ?_, rfl⟩⟩
              simp only [itemP, pbind, I1.out, I2.out, Bool.or_self, Bool.false_eq_true, if_false, e3', e4', e5', if_true, eA]
          | false =>
            go_wp2_with fail
            refine (may_any ⟨wSolve.toArray⟩ h5).mono ?_
            rintro e w6 ⟨b, l6, e6, rfl, h6, q6⟩
            have e6' : mayP wSolve l5 = .ok b l6 := e6
            have b6 := b5.turn q6 (by omega)
            replace q1 := grown_tr q1 q6
            cases b with
            | true =>
              go_wp2_with fail
              have hb6 := b6
              refine (goal_any h6).mono ?_
              rintro e w8 ⟨q8, ⟨x, l8, e8, h8, v, rfl, hv⟩ | ⟨c8, l8, e8, rfl⟩⟩
              · have b8 := hb6.turn q8 (by omega)
                have e8' : goalP l6 = .ok x l8 := e8
                have hv' := hv
                obtain ⟨D, V, rfl, hD, hV⟩ := hv
                obtain ⟨A1, c1, rfl⟩ := Lay.row_len hD
                obtain ⟨A2, c2, rfl⟩ := Lay.row_len hV
                go_wp2_with ((with_reducible show wpList _ _ _ (Oper.mk none (Op.store _ _ _) _ _ _ _ :: _) _ _); refine wp_put (o := ⟨none, .store _ _ _, _, _, _, _⟩) _ _ b8 rfl rfl rfl rfl info_it rfl rfl ?_; intro w20 b20 q20)
                obtain ⟨r0, r1, r2, r3, r4, r5, r6, r7⟩ := Blk.eight b20
                refine bodyPost_ret (v := .agg (icells x (.slice A1 x.dom.length c1) (.slice A2 x.vals.length c2))) (by simp [results, Tryz.results41, go_sem, r0, r1, r2, r3, r4, r5, r6, r7]; rfl) rfl ⟨grown_new (grown_tr q1 q8) q20 (Nat.le_refl _), Or.inl ⟨x, l8, ?_, h8.grown q20 hg, _, rfl, hv'.put hb6.lt q20⟩⟩
                simp only [itemP, pbind, I1.out, I2.out, Bool.or_self, Bool.false_eq_true, if_false, e3', e4', e5', e6', if_true, e8']
              · have e8' : goalP l6 = .bad c8 l8 := e8
                go_wp2_with fail
                refine ⟨rfl, grown_tr q1 q8, Or.inr ⟨c8, l8, ?_, rfl⟩⟩
                simp only [itemP, pbind, I1.out, I2.out, Bool.or_self, Bool.false_eq_true, if_false, e3', e4', e5', e6', if_true, e8']
            | false =>
              go_wp2_with fail
              refine (wrong_any h6).mono ?_
              rintro e w7 ⟨rfl, q7⟩
              go_wp2_with fail
              refine ⟨rfl, grown_tr q1 q7, Or.inr ⟨_, _, ?_, rfl⟩⟩
              simp only [itemP, pbind, I1.out, I2.out, Bool.or_self, Bool.false_eq_true, if_false, e3', e4', e5', e6', wrongP]
end Go.Proofs.YtpfhgkielakmoaaGreatDoor
