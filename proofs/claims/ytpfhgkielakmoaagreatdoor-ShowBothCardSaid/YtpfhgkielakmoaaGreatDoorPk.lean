/-
  Contracts of par, item.
-/
import Derived.Test.YtpfhgkielakmoaaGreatDoorPj
set_option linter.unusedSimpArgs false
set_option linter.unusedVariables false
namespace Go.Proofs.YtpfhgkielakmoaaGreatDoor
open Go.RowKit

theorem two_at {w w1 : World} {g n : Nat} {l : List Tok} (res : Blk w1 w.heap.size 47 zI) (p : Ps w1 g l n) (gr : w.grownBy w1 (some g)) (hg : g < w.heap.size) (x : It) (hd : x.dom = []) (hv : x.vals = []) :
    Two w (w1.alloc (.cells (icells x (.slice none 0 0) (.slice none 0 0)) 47)) g n w.heap.size w1.heap.size l x (.slice none 0 0) (.slice none 0 0) := by
  have hlt := res.lt
  refine ⟨p.alloc _, res.alloc _, Blk.new .., ?_, ?_, grown_tr gr (World.grownBy_alloc _ _ _), Nat.le_refl _, by omega, by omega, hg⟩
  · rw [hd]
    exact Lay.row_nil (Nat.zero_le _)
  · rw [hv]
    exact Lay.row_nil (Nat.zero_le _)
theorem is_out {g n : Nat} {l : List Tok} {w0 w : World} {s : List UInt8} {b : Bool} (H : isP s l = b) (h : Ps w0 g l n) (q : Below w0.heap.size w0 w) :
    Calls Tryz.prog 75 #[.pointer (some ⟨g, 0, none⟩), .string ⟨s.toArray⟩] w fun e w' => e = .returned (.bool b) ∧ Below w.heap.size w w' :=
  (is_any ⟨s.toArray⟩ (h.below q)).mono fun e w' ⟨h1, h2⟩ => ⟨by rw [← H]; exact h1, h2.below _⟩
theorem kind_out {g n : Nat} {l : List Tok} {w0 w : World} {k : Int} (H : kindP l = k) (h : Ps w0 g l n) (q : Below w0.heap.size w0 w) :
    Calls Tryz.prog 116 #[.pointer (some ⟨g, 0, none⟩)] w fun e w' => e = .returned (.int .i64 k) ∧ Below w.heap.size w w' :=
  (kind_any (h.below q)).mono fun e w' ⟨h1, h2⟩ => ⟨by rw [← H]; exact h1, h2⟩
theorem VIt.done {w w1 w9 : World} {o : Obj} {v : Value} {x : It} (h : VIt (w.alloc o).heap.size w1 v x) (q : w1.grownBy w9 (some w.heap.size)) : VIt w.heap.size w9 v x := by
  obtain ⟨D, V, h1, h2, h3⟩ := h
  have hs : (w.alloc o).heap.size = w.heap.size + 1 := by simp
  rw [hs] at h2 h3
  refine ⟨D, V, h1, ?_, ?_⟩
  · exact layR.row.mono (fun b hb => ⟨by have := hb.1; omega, Nat.lt_of_lt_of_le hb.2 q.size⟩) (layR.row.grown h2 q fun b hb e => by injection e with e; have := hb.1; omega)
  · exact (layE 102).row.mono (fun b hb => ⟨by have := hb.1; omega, Nat.lt_of_lt_of_le hb.2 q.size⟩) ((layE 102).row.grown h3 q fun b hb e => by injection e with e; have := hb.1; omega)
set_option maxRecDepth 100000 in
theorem args_any {g n : Nat} {l : List Tok} {w : World} (s : ByteArray) (h : Ps w g l n) :
    Calls Tryz.prog 81 #[.pointer (some ⟨g, 0, none⟩), .string s, .func (.func 82) #[.pointer (some ⟨g, 0, none⟩)] #[]] w (PPost g n w (fun w' v xs => (layE 102).row.P (since w.heap.size w') w' v xs) (exprsP s.data.toList exprP l)) :=
  exprs_any (fun _ _ => rfl) (fun _ _ h => expr_any h) s h

set_option maxRecDepth 100000 in
set_option maxHeartbeats 20000000 in
theorem par_any {g n : Nat} {l : List Tok} {w : World} (h : Ps w g l n) :
    Calls Tryz.prog 76 #[.pointer (some ⟨g, 0, none⟩)] w (PPost g n w (VIt w.heap.size) (parP l)) := by
  have hg := h.lt
  have h0 := h.alloc (.cells zI 47)
  have b0 : Blk (w.alloc (.cells zI 47)) w.heap.size 47 zI := Blk.new ..
  have q0 := World.grownBy_alloc w (.cells zI 47) (some g)
  go_enter Tryz.func76, Tryz.ntmps76
  go_wp2_with fail
  refine (truth_any h0).mono ?_
  rintro e wA ⟨qA, ⟨bo, lA, eA, hA, vA, rfl, rfl⟩ | ⟨cA, lA, eA, rfl⟩⟩
  · have T0 := two_at (b0.turn qA (by omega)) hA (grown_tr q0 qA) hg ⟨1, [], bo, [], 0, false, [], 0⟩ rfl rfl
    have zA : w.heap.size < wA.heap.size := (b0.turn qA (by omega)).lt
    clear h0 b0
    go_wp2_with fail
    have H0 := Lib.hid ((rfl : parP l = parP l).trans (pbind_ok eA))
    clear eA
    refine (taken1N ⟨#[58]⟩ T0.ps (by simp)).mono ?_
    rintro e w1 ⟨q1, ⟨u1, l1, e1, h1, v1, rfl, rfl⟩ | ⟨c1, l1, e1, rfl⟩⟩
    · have H1 := Lib.hid (H0.out.trans (pbind_ok (show takeP [58] lA = .ok u1 l1 from e1)))
      have T1 := T0.call q1 h1
      clear e1 h1 q1 T0
      go_wp2_with fail
      refine (name_any T1.ps).mono ?_
      rintro e w3 ⟨q3, ⟨u3, l3, e3, h3, v3, rfl, rfl⟩ | ⟨c3, l3, e3, rfl⟩⟩
      · have H3 := Lib.hid (H1.out.trans (pbind_ok (show nameP l1 = .ok u3 l3 from e3)))
        have T3 := T1.call q3 h3
        clear e3 h3 q3 T1
        have k4 : w3.cell? ⟨wA.heap.size, 1, none⟩ = some (.string ⟨#[]⟩) := T3.cell 1
        have f4 := T3.it.frozen 1
        have T4 := T3.name u3
        go_wp2_with fail
        refine (taken1N ⟨#[61]⟩ T4.ps (by simp)).mono ?_
        rintro e w6 ⟨q6, ⟨u6, l6, e6, h6, v6, rfl, rfl⟩ | ⟨c6, l6, e6, rfl⟩⟩
        · have H6 := Lib.hid (H3.out.trans (pbind_ok (show takeP [61] l3 = .ok u6 l6 from e6)))
          have T6 := T4.call q6 h6
          clear e6 h6 q6 T4 k4 f4 T3
          go_wp2_with fail
          cases bo with
          | true =>
            cases hT1 : isP wTrue l6 with
            | true =>
              have HT1 := Lib.hid hT1
              clear hT1
              have M : Mem w6 w6 [(wA.heap.size, 47, icells _ _ _)] [] := (Mem.start w6).addK T6.it
              refine region_st (n := 19) (frame := ?frame1) (fun jK => [.val (.fix (.pointer (some ⟨(wA.heap.size), 2, none⟩))), .val (.fix (.bool true)), .val (.fix (.pointer (some ⟨g, 0, none⟩))), .val (.fix (.bool true)), .val (.fix (.bool true)), .none, .none, .val (.fix (.bool true)), .val (.fix (.bool false)), .val (.fix (.bool false)), .val (.fix (.pointer (some ⟨(wA.heap.size), 2, none⟩))), .val (.fix (.bool true)), .val (.fix (.bool false)), .val (.fix (.bool false)), .none, .none, .none, .val (.fix (.bool false)), .val (.fix (.bool false))].getD jK .none) [] (by kernel_rfl) (by kernel_rfl) (by kernel_rfl) rfl M (fun _ h => by cases h) (fun _ h => by cases h) ?_ ?_ ?_
              case refine_1 =>
                intro s
                simp only [fr, Act.put, List.append_eq, List.cons_append, List.nil_append, List.setIfInBounds_toArray, List.set_cons_zero, List.set_cons_succ, Nat.reduceAdd]
                rfl
              case refine_2 =>
                refine Steps.cons 0 (j := 1) rfl ?_ (Steps.cons 1 (j := 2) rfl ?_ (Steps.cons 2 (j := 3) rfl ?_ (Steps.cons 3 (j := 4) rfl ?_ (Steps.cons 4 (j := 5) rfl ?_ (Steps.cons 5 (j := 6) rfl ?_ (Steps.cons 6 (j := 7) rfl ?_ (Steps.cons 7 (j := 8) rfl ?_ (Steps.cons 8 (j := 9) rfl ?_ (Steps.cons 9 (j := 10) rfl ?_ (Steps.cons 10 (j := 11) rfl ?_ (Steps.cons 11 (j := 12) rfl ?_ (Steps.cons 12 (j := 13) rfl ?_ (Steps.cons 13 (j := 14) rfl ?_ (Steps.cons 14 (j := 15) rfl ?_ (Steps.cons 15 (j := 16) rfl ?_ (Steps.cons 16 (j := 17) rfl ?_ (Steps.cons 17 (j := 18) rfl ?_ (Steps.cons 18 (j := 19) rfl ?_ Steps.nil))))))))))))))))))
                · intro L s w9 hN hU hi hS K hK
                  dsimp only at hK ⊢
                  simp only [Act.put, List.setIfInBounds_toArray, List.set_cons_zero, List.set_cons_succ] at hK
                  go_simp
                  exact hK.out _ _ (hS.val rfl (noStore_of rfl) (Below.refl _ _) rfl)
                · intro L s w9 hN hU hi hS K hK
                  dsimp only at hK ⊢
                  simp only [Act.put, List.setIfInBounds_toArray, List.set_cons_zero, List.set_cons_succ] at hK
                  have e0 : s 0 = .pointer (some ⟨(wA.heap.size), 2, none⟩) := hS.val_at 0 rfl (by decide) (hN.out 0 rfl)
                  simp only [e0] at hK ⊢
                  obtain ⟨u1, u2, u3, u4, u5, u6, u7, u8⟩ := Blk.eight (hS.mem.k (i := 0) rfl)
                  go_simp
                  exact hK.out _ _ (hS.val rfl (noStore_of rfl) (Below.refl _ _) rfl)
                · intro L s w9 hN hU hi hS K hK
                  dsimp only at hK ⊢
                  simp only [Act.put, List.setIfInBounds_toArray, List.set_cons_zero, List.set_cons_succ] at hK
                  go_simp
                  exact hK.out _ _ (hS.val rfl (noStore_of rfl) (Below.refl _ _) rfl)
                · intro L s w9 hN hU hi hS K hK
                  dsimp only at hK ⊢
                  simp only [Act.put, List.setIfInBounds_toArray, List.set_cons_zero, List.set_cons_succ] at hK
                  have e2 : s 2 = .pointer (some ⟨g, 0, none⟩) := hS.val_at 2 rfl (by decide) (hN.out 2 rfl)
                  simp only [e2] at hK ⊢
                  go_simp
                  go_at_call 75
                  refine (is_out (s := wTrue) HT1.out T6.ps hS.mem.bel).mono ?_
                  rintro e9 w10 ⟨rfl, q⟩
                  exact hK.out _ _ (hS.val rfl (noStore_of rfl) q rfl)
                · intro L s w9 hN hU hi hS K hK
                  dsimp only at hK ⊢
                  simp only [Act.put, List.setIfInBounds_toArray, List.set_cons_zero, List.set_cons_succ] at hK
                  have e3 : s 3 = .bool true := hS.val_at 3 rfl (by decide) (hN.out 3 rfl)
                  simp only [e3] at hK ⊢
                  go_simp
                  exact hK.out _ _ (hS.val rfl (noStore_of rfl) (Below.refl _ _) rfl)
                · intro L s w9 hN hU hi hS K hK
                  dsimp only at hK ⊢
                  simp only [Act.put, List.setIfInBounds_toArray, List.set_cons_zero, List.set_cons_succ] at hK
                  have e4 : s 4 = .bool true := hS.val_at 4 rfl (by decide) (hN.out 4 rfl)
                  simp only [e4] at hK ⊢
                  go_simp
                  exact hK.out undef _ (hS.skip rfl (noStore_of rfl) (Below.refl _ _))
                · intro L s w9 hN hU hi hS K hK
                  dsimp only at hK ⊢
                  simp only [Act.put, List.setIfInBounds_toArray, List.set_cons_zero, List.set_cons_succ] at hK
                  have e4 : s 4 = .bool true := hS.val_at 4 rfl (by decide) (hN.out 4 rfl)
                  simp only [e4] at hK ⊢
                  go_simp
                  exact hK.out undef _ (hS.skip rfl (noStore_of rfl) (Below.refl _ _))
                · intro L s w9 hN hU hi hS K hK
                  dsimp only at hK ⊢
                  simp only [Act.put, List.setIfInBounds_toArray, List.set_cons_zero, List.set_cons_succ] at hK
                  have e4 : s 4 = .bool true := hS.val_at 4 rfl (by decide) (hN.out 4 rfl)
                  simp only [e4] at hK ⊢
                  go_simp
                  exact hK.out _ _ (hS.val rfl (noStore_of rfl) (Below.refl _ _) rfl)
                · intro L s w9 hN hU hi hS K hK
                  dsimp only at hK ⊢
                  simp only [Act.put, List.setIfInBounds_toArray, List.set_cons_zero, List.set_cons_succ] at hK
                  have e1 : s 1 = .bool true := hS.val_at 1 rfl (by decide) (hN.out 1 rfl)
                  simp only [e1] at hK ⊢
                  have e7 : s 7 = .bool true := hS.val_at 7 rfl (by decide) (hN.out 7 rfl)
                  simp only [e7] at hK ⊢
                  go_simp
                  exact hK.out _ _ (hS.val rfl (noStore_of rfl) (Below.refl _ _) rfl)
                · intro L s w9 hN hU hi hS K hK
                  dsimp only at hK ⊢
                  simp only [Act.put, List.setIfInBounds_toArray, List.set_cons_zero, List.set_cons_succ] at hK
                  have e8 : s 8 = .bool false := hS.val_at 8 rfl (by decide) (hN.out 8 rfl)
                  simp only [e8] at hK ⊢
                  go_simp
                  exact hK.out _ _ (hS.val rfl (noStore_of rfl) (Below.refl _ _) rfl)
                · intro L s w9 hN hU hi hS K hK
                  dsimp only at hK ⊢
                  simp only [Act.put, List.setIfInBounds_toArray, List.set_cons_zero, List.set_cons_succ] at hK
                  have e9 : s 9 = .bool false := hS.val_at 9 rfl (by decide) (hN.out 9 rfl)
                  simp only [e9] at hK ⊢
                  go_simp
                  exact hK.out _ _ (hS.val rfl (noStore_of rfl) (Below.refl _ _) rfl)
                · intro L s w9 hN hU hi hS K hK
                  dsimp only at hK ⊢
                  simp only [Act.put, List.setIfInBounds_toArray, List.set_cons_zero, List.set_cons_succ] at hK
                  have e10 : s 10 = .pointer (some ⟨(wA.heap.size), 2, none⟩) := hS.val_at 10 rfl (by decide) (hN.out 10 rfl)
                  simp only [e10] at hK ⊢
                  have e9 : s 9 = .bool false := hS.val_at 9 rfl (by decide) (hN.out 9 rfl)
                  simp only [e9] at hK ⊢
                  obtain ⟨u1, u2, u3, u4, u5, u6, u7, u8⟩ := Blk.eight (hS.mem.k (i := 0) rfl)
                  go_simp
                  exact hK.out _ _ (hS.val rfl (noStore_of rfl) (Below.refl _ _) rfl)
                · intro L s w9 hN hU hi hS K hK
                  dsimp only at hK ⊢
                  simp only [Act.put, List.setIfInBounds_toArray, List.set_cons_zero, List.set_cons_succ] at hK
                  have e11 : s 11 = .bool true := hS.val_at 11 rfl (by decide) (hN.out 11 rfl)
                  simp only [e11] at hK ⊢
                  have e9 : s 9 = .bool false := hS.val_at 9 rfl (by decide) (hN.out 9 rfl)
                  simp only [e9] at hK ⊢
                  go_simp
                  exact hK.out _ _ (hS.val rfl (noStore_of rfl) (Below.refl _ _) rfl)
                · intro L s w9 hN hU hi hS K hK
                  dsimp only at hK ⊢
                  simp only [Act.put, List.setIfInBounds_toArray, List.set_cons_zero, List.set_cons_succ] at hK
                  have e12 : s 12 = .bool false := hS.val_at 12 rfl (by decide) (hN.out 12 rfl)
                  simp only [e12] at hK ⊢
                  have e9 : s 9 = .bool false := hS.val_at 9 rfl (by decide) (hN.out 9 rfl)
                  simp only [e9] at hK ⊢
                  go_simp
                  exact hK.out _ _ (hS.val rfl (noStore_of rfl) (Below.refl _ _) rfl)
                · intro L s w9 hN hU hi hS K hK
                  dsimp only at hK ⊢
                  simp only [Act.put, List.setIfInBounds_toArray, List.set_cons_zero, List.set_cons_succ] at hK
                  have e13 : s 13 = .bool false := hS.val_at 13 rfl (by decide) (hN.out 13 rfl)
                  simp only [e13] at hK ⊢
                  go_simp
                  exact hK.out undef _ (hS.skip rfl (noStore_of rfl) (Below.refl _ _))
                · intro L s w9 hN hU hi hS K hK
                  dsimp only at hK ⊢
                  simp only [Act.put, List.setIfInBounds_toArray, List.set_cons_zero, List.set_cons_succ] at hK
                  have e13 : s 13 = .bool false := hS.val_at 13 rfl (by decide) (hN.out 13 rfl)
                  simp only [e13] at hK ⊢
                  go_simp
                  exact hK.out undef _ (hS.skip rfl (noStore_of rfl) (Below.refl _ _))
                · intro L s w9 hN hU hi hS K hK
                  dsimp only at hK ⊢
                  simp only [Act.put, List.setIfInBounds_toArray, List.set_cons_zero, List.set_cons_succ] at hK
                  have e13 : s 13 = .bool false := hS.val_at 13 rfl (by decide) (hN.out 13 rfl)
                  simp only [e13] at hK ⊢
                  go_simp
                  exact hK.out undef _ (hS.skip rfl (noStore_of rfl) (Below.refl _ _))
                · intro L s w9 hN hU hi hS K hK
                  dsimp only at hK ⊢
                  simp only [Act.put, List.setIfInBounds_toArray, List.set_cons_zero, List.set_cons_succ] at hK
                  have e13 : s 13 = .bool false := hS.val_at 13 rfl (by decide) (hN.out 13 rfl)
                  simp only [e13] at hK ⊢
                  have e9 : s 9 = .bool false := hS.val_at 9 rfl (by decide) (hN.out 9 rfl)
                  simp only [e9] at hK ⊢
                  go_simp
                  exact hK.out _ _ (hS.val rfl (noStore_of rfl) (Below.refl _ _) rfl)
                · intro L s w9 hN hU hi hS K hK
                  dsimp only at hK ⊢
                  simp only [Act.put, List.setIfInBounds_toArray, List.set_cons_zero, List.set_cons_succ] at hK
                  have e9 : s 9 = .bool false := hS.val_at 9 rfl (by decide) (hN.out 9 rfl)
                  simp only [e9] at hK ⊢
                  have e17 : s 17 = .bool false := hS.val_at 17 rfl (by decide) (hN.out 17 rfl)
                  simp only [e17] at hK ⊢
                  go_simp
                  exact hK.out _ _ (hS.val rfl (noStore_of rfl) (Below.refl _ _) rfl)
              intro L s w9 hall hS
              have eF : s 18 = .bool false := hS.val_at 18 rfl (by decide) (hall 18 (by decide))
              have TR := T6.call (below_gr hS.mem.bel _) (T6.ps.below hS.mem.bel)
              clear hS
              generalize s 18 = u18 at eF ⊢
              subst eF
              go_wp2_with fail
              refine (plain_any TR.ps).mono ?_
              rintro e w10 ⟨q10, ⟨x, l10, e10, h10, v, rfl, hx, rfl⟩ | ⟨c10, l10, e10, rfl⟩⟩
              · have T10 := TR.call q10 h10
                have T11 := T10.alloc (.cells #[.int .i64 x.k, .int .i64 x.n, .string ⟨x.s.toArray⟩, .slice none 0 0] 102)
                obtain ⟨z1, z2, z3⟩ := T10.lt
                have T12 := T11.put (V' := .slice (some ⟨w10.heap.size, 0, none⟩) 1 1) (xs := [x]) (row_one (Blk.new ..) hx ⟨z3, by simp, by omega, by omega⟩)
                have hW : (w10.alloc (.cells #[.int .i64 x.k, .int .i64 x.n, .string ⟨x.s.toArray⟩, .slice none 0 0] 102)).setCell ⟨wA.heap.size, 6, none⟩ (.slice (some ⟨w10.heap.size, 0, none⟩) 1 1) = (w10.setCell ⟨wA.heap.size, 6, none⟩ (.slice (some ⟨w10.heap.size, 0, none⟩) 1 1)).alloc (.cells #[.int .i64 x.k, .int .i64 x.n, .string ⟨x.s.toArray⟩, .slice none 0 0] 102) := setCell_alloc z2 _ _ _
                rw [hW] at T12
                obtain ⟨k0, k1, k2, k3, k4, k5, k6, k7⟩ := Blk.eight T12.it
                have k8 := T11.it.frozen 6
                have k9 : (w10.alloc (.cells #[.int .i64 x.k, .int .i64 x.n, .string ⟨x.s.toArray⟩, .slice none 0 0] 102)).cell? ⟨wA.heap.size, 6, none⟩ = some (.slice none 0 0) := T11.cell 6
                go_wp2_with ((with_reducible show wpList _ _ _ (Oper.mk none (Op.store _ _ _) _ _ _ _ :: _) _ _); refine wp_put (o := ⟨none, .store _ _ _, _, _, _, _⟩) _ _ T12.res rfl rfl rfl rfl info_it rfl rfl ?_; intro w20 b20 q20)
                obtain ⟨r0, r1, r2, r3, r4, r5, r6, r7⟩ := b20.eight
                refine bodyPost_ret (v := .agg (icells _ _ _)) (by simp [results, Tryz.results76, go_sem, r0, r1, r2, r3, r4, r5, r6, r7]; rfl) rfl (T12.done q20 ?_ rfl)
                refine H6.out.trans ?_
                simp only [fitsP, HT1.out, if_true, Bool.true_or, Bool.or_true, Bool.false_or, Bool.or_false, Bool.or_self, Bool.false_eq_true, if_false, Bool.not_true, Bool.not_false, Bool.false_and, Bool.true_and, pbind, e10, pret]
              · go_wp2_with fail
                refine ⟨rfl, grown_tr TR.gr q10, Or.inr ⟨c10, l10, ?_, rfl⟩⟩
                refine H6.out.trans ?_
                simp only [fitsP, HT1.out, if_true, Bool.true_or, Bool.or_true, Bool.false_or, Bool.or_false, Bool.or_self, Bool.false_eq_true, if_false, Bool.not_true, Bool.not_false, Bool.false_and, Bool.true_and, pbind, e10]
            | false =>
              cases hT2 : isP wFalse l6 with
              | true =>
                have HT1 := Lib.hid hT1
                have HT2 := Lib.hid hT2
                clear hT1 hT2
                have M : Mem w6 w6 [(wA.heap.size, 47, icells _ _ _)] [] := (Mem.start w6).addK T6.it
                refine region_st (n := 19) (frame := ?frame2) (fun jK => [.val (.fix (.pointer (some ⟨(wA.heap.size), 2, none⟩))), .val (.fix (.bool true)), .val (.fix (.pointer (some ⟨g, 0, none⟩))), .val (.fix (.bool false)), .val (.fix (.bool false)), .val (.fix (.pointer (some ⟨g, 0, none⟩))), .val (.fix (.bool true)), .val (.fix (.bool true)), .val (.fix (.bool false)), .val (.fix (.bool false)), .val (.fix (.pointer (some ⟨(wA.heap.size), 2, none⟩))), .val (.fix (.bool true)), .val (.fix (.bool false)), .val (.fix (.bool false)), .none, .none, .none, .val (.fix (.bool false)), .val (.fix (.bool false))].getD jK .none) [] (by kernel_rfl) (by kernel_rfl) (by kernel_rfl) rfl M (fun _ h => by cases h) (fun _ h => by cases h) ?_ ?_ ?_
                case refine_1 =>
                  intro s
                  simp only [fr, Act.put, List.append_eq, List.cons_append, List.nil_append, List.setIfInBounds_toArray, List.set_cons_zero, List.set_cons_succ, Nat.reduceAdd]
                  rfl
                case refine_2 =>
                  refine Steps.cons 0 (j := 1) rfl ?_ (Steps.cons 1 (j := 2) rfl ?_ (Steps.cons 2 (j := 3) rfl ?_ (Steps.cons 3 (j := 4) rfl ?_ (Steps.cons 4 (j := 5) rfl ?_ (Steps.cons 5 (j := 6) rfl ?_ (Steps.cons 6 (j := 7) rfl ?_ (Steps.cons 7 (j := 8) rfl ?_ (Steps.cons 8 (j := 9) rfl ?_ (Steps.cons 9 (j := 10) rfl ?_ (Steps.cons 10 (j := 11) rfl ?_ (Steps.cons 11 (j := 12) rfl ?_ (Steps.cons 12 (j := 13) rfl ?_ (Steps.cons 13 (j := 14) rfl ?_ (Steps.cons 14 (j := 15) rfl ?_ (Steps.cons 15 (j := 16) rfl ?_ (Steps.cons 16 (j := 17) rfl ?_ (Steps.cons 17 (j := 18) rfl ?_ (Steps.cons 18 (j := 19) rfl ?_ Steps.nil))))))))))))))))))
                  · intro L s w9 hN hU hi hS K hK
                    dsimp only at hK ⊢
                    simp only [Act.put, List.setIfInBounds_toArray, List.set_cons_zero, List.set_cons_succ] at hK
                    go_simp
                    exact hK.out _ _ (hS.val rfl (noStore_of rfl) (Below.refl _ _) rfl)
                  · intro L s w9 hN hU hi hS K hK
                    dsimp only at hK ⊢
                    simp only [Act.put, List.setIfInBounds_toArray, List.set_cons_zero, List.set_cons_succ] at hK
                    have e0 : s 0 = .pointer (some ⟨(wA.heap.size), 2, none⟩) := hS.val_at 0 rfl (by decide) (hN.out 0 rfl)
                    simp only [e0] at hK ⊢
                    obtain ⟨u1, u2, u3, u4, u5, u6, u7, u8⟩ := Blk.eight (hS.mem.k (i := 0) rfl)
                    go_simp
                    exact hK.out _ _ (hS.val rfl (noStore_of rfl) (Below.refl _ _) rfl)
                  · intro L s w9 hN hU hi hS K hK
                    dsimp only at hK ⊢
                    simp only [Act.put, List.setIfInBounds_toArray, List.set_cons_zero, List.set_cons_succ] at hK
                    go_simp
                    exact hK.out _ _ (hS.val rfl (noStore_of rfl) (Below.refl _ _) rfl)
                  · intro L s w9 hN hU hi hS K hK
                    dsimp only at hK ⊢
                    simp only [Act.put, List.setIfInBounds_toArray, List.set_cons_zero, List.set_cons_succ] at hK
                    have e2 : s 2 = .pointer (some ⟨g, 0, none⟩) := hS.val_at 2 rfl (by decide) (hN.out 2 rfl)
                    simp only [e2] at hK ⊢
                    go_simp
                    go_at_call 75
                    refine (is_out (s := wTrue) HT1.out T6.ps hS.mem.bel).mono ?_
                    rintro e9 w10 ⟨rfl, q⟩
                    exact hK.out _ _ (hS.val rfl (noStore_of rfl) q rfl)
                  · intro L s w9 hN hU hi hS K hK
                    dsimp only at hK ⊢
                    simp only [Act.put, List.setIfInBounds_toArray, List.set_cons_zero, List.set_cons_succ] at hK
                    have e3 : s 3 = .bool false := hS.val_at 3 rfl (by decide) (hN.out 3 rfl)
                    simp only [e3] at hK ⊢
                    go_simp
                    exact hK.out _ _ (hS.val rfl (noStore_of rfl) (Below.refl _ _) rfl)
                  · intro L s w9 hN hU hi hS K hK
                    dsimp only at hK ⊢
                    simp only [Act.put, List.setIfInBounds_toArray, List.set_cons_zero, List.set_cons_succ] at hK
                    have e4 : s 4 = .bool false := hS.val_at 4 rfl (by decide) (hN.out 4 rfl)
                    simp only [e4] at hK ⊢
                    go_simp
                    exact hK.out _ _ (hS.val rfl (noStore_of rfl) (Below.refl _ _) rfl)
                  · intro L s w9 hN hU hi hS K hK
                    dsimp only at hK ⊢
                    simp only [Act.put, List.setIfInBounds_toArray, List.set_cons_zero, List.set_cons_succ] at hK
                    have e5 : s 5 = .pointer (some ⟨g, 0, none⟩) := hS.val_at 5 rfl (by decide) (hN.out 5 rfl)
                    simp only [e5] at hK ⊢
                    have e4 : s 4 = .bool false := hS.val_at 4 rfl (by decide) (hN.out 4 rfl)
                    simp only [e4] at hK ⊢
                    go_simp
                    go_at_call 75
                    refine (is_out (s := wFalse) HT2.out T6.ps hS.mem.bel).mono ?_
                    rintro e9 w10 ⟨rfl, q⟩
                    exact hK.out _ _ (hS.val rfl (noStore_of rfl) q rfl)
                  · intro L s w9 hN hU hi hS K hK
                    dsimp only at hK ⊢
                    simp only [Act.put, List.setIfInBounds_toArray, List.set_cons_zero, List.set_cons_succ] at hK
                    have e4 : s 4 = .bool false := hS.val_at 4 rfl (by decide) (hN.out 4 rfl)
                    simp only [e4] at hK ⊢
                    have e6 : s 6 = .bool true := hS.val_at 6 rfl (by decide) (hN.out 6 rfl)
                    simp only [e6] at hK ⊢
                    go_simp
                    exact hK.out _ _ (hS.val rfl (noStore_of rfl) (Below.refl _ _) rfl)
                  · intro L s w9 hN hU hi hS K hK
                    dsimp only at hK ⊢
                    simp only [Act.put, List.setIfInBounds_toArray, List.set_cons_zero, List.set_cons_succ] at hK
                    have e1 : s 1 = .bool true := hS.val_at 1 rfl (by decide) (hN.out 1 rfl)
                    simp only [e1] at hK ⊢
                    have e7 : s 7 = .bool true := hS.val_at 7 rfl (by decide) (hN.out 7 rfl)
                    simp only [e7] at hK ⊢
                    go_simp
                    exact hK.out _ _ (hS.val rfl (noStore_of rfl) (Below.refl _ _) rfl)
                  · intro L s w9 hN hU hi hS K hK
                    dsimp only at hK ⊢
                    simp only [Act.put, List.setIfInBounds_toArray, List.set_cons_zero, List.set_cons_succ] at hK
                    have e8 : s 8 = .bool false := hS.val_at 8 rfl (by decide) (hN.out 8 rfl)
                    simp only [e8] at hK ⊢
                    go_simp
                    exact hK.out _ _ (hS.val rfl (noStore_of rfl) (Below.refl _ _) rfl)
                  · intro L s w9 hN hU hi hS K hK
                    dsimp only at hK ⊢
                    simp only [Act.put, List.setIfInBounds_toArray, List.set_cons_zero, List.set_cons_succ] at hK
                    have e9 : s 9 = .bool false := hS.val_at 9 rfl (by decide) (hN.out 9 rfl)
                    simp only [e9] at hK ⊢
                    go_simp
                    exact hK.out _ _ (hS.val rfl (noStore_of rfl) (Below.refl _ _) rfl)
                  · intro L s w9 hN hU hi hS K hK
                    dsimp only at hK ⊢
                    simp only [Act.put, List.setIfInBounds_toArray, List.set_cons_zero, List.set_cons_succ] at hK
                    have e10 : s 10 = .pointer (some ⟨(wA.heap.size), 2, none⟩) := hS.val_at 10 rfl (by decide) (hN.out 10 rfl)
                    simp only [e10] at hK ⊢
                    have e9 : s 9 = .bool false := hS.val_at 9 rfl (by decide) (hN.out 9 rfl)
                    simp only [e9] at hK ⊢
                    obtain ⟨u1, u2, u3, u4, u5, u6, u7, u8⟩ := Blk.eight (hS.mem.k (i := 0) rfl)
                    go_simp
                    exact hK.out _ _ (hS.val rfl (noStore_of rfl) (Below.refl _ _) rfl)
                  · intro L s w9 hN hU hi hS K hK
                    dsimp only at hK ⊢
                    simp only [Act.put, List.setIfInBounds_toArray, List.set_cons_zero, List.set_cons_succ] at hK
                    have e11 : s 11 = .bool true := hS.val_at 11 rfl (by decide) (hN.out 11 rfl)
                    simp only [e11] at hK ⊢
                    have e9 : s 9 = .bool false := hS.val_at 9 rfl (by decide) (hN.out 9 rfl)
                    simp only [e9] at hK ⊢
                    go_simp
                    exact hK.out _ _ (hS.val rfl (noStore_of rfl) (Below.refl _ _) rfl)
                  · intro L s w9 hN hU hi hS K hK
                    dsimp only at hK ⊢
                    simp only [Act.put, List.setIfInBounds_toArray, List.set_cons_zero, List.set_cons_succ] at hK
                    have e12 : s 12 = .bool false := hS.val_at 12 rfl (by decide) (hN.out 12 rfl)
                    simp only [e12] at hK ⊢
                    have e9 : s 9 = .bool false := hS.val_at 9 rfl (by decide) (hN.out 9 rfl)
                    simp only [e9] at hK ⊢
                    go_simp
                    exact hK.out _ _ (hS.val rfl (noStore_of rfl) (Below.refl _ _) rfl)
                  · intro L s w9 hN hU hi hS K hK
                    dsimp only at hK ⊢
                    simp only [Act.put, List.setIfInBounds_toArray, List.set_cons_zero, List.set_cons_succ] at hK
                    have e13 : s 13 = .bool false := hS.val_at 13 rfl (by decide) (hN.out 13 rfl)
                    simp only [e13] at hK ⊢
                    go_simp
                    exact hK.out undef _ (hS.skip rfl (noStore_of rfl) (Below.refl _ _))
                  · intro L s w9 hN hU hi hS K hK
                    dsimp only at hK ⊢
                    simp only [Act.put, List.setIfInBounds_toArray, List.set_cons_zero, List.set_cons_succ] at hK
                    have e13 : s 13 = .bool false := hS.val_at 13 rfl (by decide) (hN.out 13 rfl)
                    simp only [e13] at hK ⊢
                    go_simp
                    exact hK.out undef _ (hS.skip rfl (noStore_of rfl) (Below.refl _ _))
                  · intro L s w9 hN hU hi hS K hK
                    dsimp only at hK ⊢
                    simp only [Act.put, List.setIfInBounds_toArray, List.set_cons_zero, List.set_cons_succ] at hK
                    have e13 : s 13 = .bool false := hS.val_at 13 rfl (by decide) (hN.out 13 rfl)
                    simp only [e13] at hK ⊢
                    go_simp
                    exact hK.out undef _ (hS.skip rfl (noStore_of rfl) (Below.refl _ _))
                  · intro L s w9 hN hU hi hS K hK
                    dsimp only at hK ⊢
                    simp only [Act.put, List.setIfInBounds_toArray, List.set_cons_zero, List.set_cons_succ] at hK
                    have e13 : s 13 = .bool false := hS.val_at 13 rfl (by decide) (hN.out 13 rfl)
                    simp only [e13] at hK ⊢
                    have e9 : s 9 = .bool false := hS.val_at 9 rfl (by decide) (hN.out 9 rfl)
                    simp only [e9] at hK ⊢
                    go_simp
                    exact hK.out _ _ (hS.val rfl (noStore_of rfl) (Below.refl _ _) rfl)
                  · intro L s w9 hN hU hi hS K hK
                    dsimp only at hK ⊢
                    simp only [Act.put, List.setIfInBounds_toArray, List.set_cons_zero, List.set_cons_succ] at hK
                    have e9 : s 9 = .bool false := hS.val_at 9 rfl (by decide) (hN.out 9 rfl)
                    simp only [e9] at hK ⊢
                    have e17 : s 17 = .bool false := hS.val_at 17 rfl (by decide) (hN.out 17 rfl)
                    simp only [e17] at hK ⊢
                    go_simp
                    exact hK.out _ _ (hS.val rfl (noStore_of rfl) (Below.refl _ _) rfl)
                intro L s w9 hall hS
                have eF : s 18 = .bool false := hS.val_at 18 rfl (by decide) (hall 18 (by decide))
                have TR := T6.call (below_gr hS.mem.bel _) (T6.ps.below hS.mem.bel)
                clear hS
                generalize s 18 = u18 at eF ⊢
                subst eF
                go_wp2_with fail
                refine (plain_any TR.ps).mono ?_
                rintro e w10 ⟨q10, ⟨x, l10, e10, h10, v, rfl, hx, rfl⟩ | ⟨c10, l10, e10, rfl⟩⟩
                · have T10 := TR.call q10 h10
                  have T11 := T10.alloc (.cells #[.int .i64 x.k, .int .i64 x.n, .string ⟨x.s.toArray⟩, .slice none 0 0] 102)
                  obtain ⟨z1, z2, z3⟩ := T10.lt
                  have T12 := T11.put (V' := .slice (some ⟨w10.heap.size, 0, none⟩) 1 1) (xs := [x]) (row_one (Blk.new ..) hx ⟨z3, by simp, by omega, by omega⟩)
                  have hW : (w10.alloc (.cells #[.int .i64 x.k, .int .i64 x.n, .string ⟨x.s.toArray⟩, .slice none 0 0] 102)).setCell ⟨wA.heap.size, 6, none⟩ (.slice (some ⟨w10.heap.size, 0, none⟩) 1 1) = (w10.setCell ⟨wA.heap.size, 6, none⟩ (.slice (some ⟨w10.heap.size, 0, none⟩) 1 1)).alloc (.cells #[.int .i64 x.k, .int .i64 x.n, .string ⟨x.s.toArray⟩, .slice none 0 0] 102) := setCell_alloc z2 _ _ _
                  rw [hW] at T12
                  obtain ⟨k0, k1, k2, k3, k4, k5, k6, k7⟩ := Blk.eight T12.it
                  have k8 := T11.it.frozen 6
                  have k9 : (w10.alloc (.cells #[.int .i64 x.k, .int .i64 x.n, .string ⟨x.s.toArray⟩, .slice none 0 0] 102)).cell? ⟨wA.heap.size, 6, none⟩ = some (.slice none 0 0) := T11.cell 6
                  go_wp2_with ((with_reducible show wpList _ _ _ (Oper.mk none (Op.store _ _ _) _ _ _ _ :: _) _ _); refine wp_put (o := ⟨none, .store _ _ _, _, _, _, _⟩) _ _ T12.res rfl rfl rfl rfl info_it rfl rfl ?_; intro w20 b20 q20)
                  obtain ⟨r0, r1, r2, r3, r4, r5, r6, r7⟩ := b20.eight
                  refine bodyPost_ret (v := .agg (icells _ _ _)) (by simp [results, Tryz.results76, go_sem, r0, r1, r2, r3, r4, r5, r6, r7]; rfl) rfl (T12.done q20 ?_ rfl)
                  refine H6.out.trans ?_
                  simp only [fitsP, HT1.out, HT2.out, if_true, Bool.true_or, Bool.or_true, Bool.false_or, Bool.or_false, Bool.or_self, Bool.false_eq_true, if_false, Bool.not_true, Bool.not_false, Bool.false_and, Bool.true_and, pbind, e10, pret]
                · go_wp2_with fail
                  refine ⟨rfl, grown_tr TR.gr q10, Or.inr ⟨c10, l10, ?_, rfl⟩⟩
                  refine H6.out.trans ?_
                  simp only [fitsP, HT1.out, HT2.out, if_true, Bool.true_or, Bool.or_true, Bool.false_or, Bool.or_false, Bool.or_self, Bool.false_eq_true, if_false, Bool.not_true, Bool.not_false, Bool.false_and, Bool.true_and, pbind, e10]
              | false =>
                have HT1 := Lib.hid hT1
                have HT2 := Lib.hid hT2
                clear hT1 hT2
                have M : Mem w6 w6 [(wA.heap.size, 47, icells _ _ _)] [] := (Mem.start w6).addK T6.it
                refine region_st (n := 19) (frame := ?frame3) (fun jK => [.val (.fix (.pointer (some ⟨(wA.heap.size), 2, none⟩))), .val (.fix (.bool true)), .val (.fix (.pointer (some ⟨g, 0, none⟩))), .val (.fix (.bool false)), .val (.fix (.bool false)), .val (.fix (.pointer (some ⟨g, 0, none⟩))), .val (.fix (.bool false)), .val (.fix (.bool false)), .val (.fix (.bool true)), .val (.fix (.bool true)), .none, .none, .none, .val (.fix (undef)), .none, .none, .none, .none, .val (.fix (.bool true))].getD jK .none) [] (by kernel_rfl) (by kernel_rfl) (by kernel_rfl) rfl M (fun _ h => by cases h) (fun _ h => by cases h) ?_ ?_ ?_
                case refine_1 =>
                  intro s
                  simp only [fr, Act.put, List.append_eq, List.cons_append, List.nil_append, List.setIfInBounds_toArray, List.set_cons_zero, List.set_cons_succ, Nat.reduceAdd]
                  rfl
                case refine_2 =>
                  refine Steps.cons 0 (j := 1) rfl ?_ (Steps.cons 1 (j := 2) rfl ?_ (Steps.cons 2 (j := 3) rfl ?_ (Steps.cons 3 (j := 4) rfl ?_ (Steps.cons 4 (j := 5) rfl ?_ (Steps.cons 5 (j := 6) rfl ?_ (Steps.cons 6 (j := 7) rfl ?_ (Steps.cons 7 (j := 8) rfl ?_ (Steps.cons 8 (j := 9) rfl ?_ (Steps.cons 9 (j := 10) rfl ?_ (Steps.cons 10 (j := 11) rfl ?_ (Steps.cons 11 (j := 12) rfl ?_ (Steps.cons 12 (j := 13) rfl ?_ (Steps.cons 13 (j := 14) rfl ?_ (Steps.cons 14 (j := 15) rfl ?_ (Steps.cons 15 (j := 16) rfl ?_ (Steps.cons 16 (j := 17) rfl ?_ (Steps.cons 17 (j := 18) rfl ?_ (Steps.cons 18 (j := 19) rfl ?_ Steps.nil))))))))))))))))))
                  · intro L s w9 hN hU hi hS K hK
                    dsimp only at hK ⊢
                    simp only [Act.put, List.setIfInBounds_toArray, List.set_cons_zero, List.set_cons_succ] at hK
                    go_simp
                    exact hK.out _ _ (hS.val rfl (noStore_of rfl) (Below.refl _ _) rfl)
                  · intro L s w9 hN hU hi hS K hK
                    dsimp only at hK ⊢
                    simp only [Act.put, List.setIfInBounds_toArray, List.set_cons_zero, List.set_cons_succ] at hK
                    have e0 : s 0 = .pointer (some ⟨(wA.heap.size), 2, none⟩) := hS.val_at 0 rfl (by decide) (hN.out 0 rfl)
                    simp only [e0] at hK ⊢
                    obtain ⟨u1, u2, u3, u4, u5, u6, u7, u8⟩ := Blk.eight (hS.mem.k (i := 0) rfl)
                    go_simp
                    exact hK.out _ _ (hS.val rfl (noStore_of rfl) (Below.refl _ _) rfl)
                  · intro L s w9 hN hU hi hS K hK
                    dsimp only at hK ⊢
                    simp only [Act.put, List.setIfInBounds_toArray, List.set_cons_zero, List.set_cons_succ] at hK
                    go_simp
                    exact hK.out _ _ (hS.val rfl (noStore_of rfl) (Below.refl _ _) rfl)
                  · intro L s w9 hN hU hi hS K hK
                    dsimp only at hK ⊢
                    simp only [Act.put, List.setIfInBounds_toArray, List.set_cons_zero, List.set_cons_succ] at hK
                    have e2 : s 2 = .pointer (some ⟨g, 0, none⟩) := hS.val_at 2 rfl (by decide) (hN.out 2 rfl)
                    simp only [e2] at hK ⊢
                    go_simp
                    go_at_call 75
                    refine (is_out (s := wTrue) HT1.out T6.ps hS.mem.bel).mono ?_
                    rintro e9 w10 ⟨rfl, q⟩
                    exact hK.out _ _ (hS.val rfl (noStore_of rfl) q rfl)
                  · intro L s w9 hN hU hi hS K hK
                    dsimp only at hK ⊢
                    simp only [Act.put, List.setIfInBounds_toArray, List.set_cons_zero, List.set_cons_succ] at hK
                    have e3 : s 3 = .bool false := hS.val_at 3 rfl (by decide) (hN.out 3 rfl)
                    simp only [e3] at hK ⊢
                    go_simp
                    exact hK.out _ _ (hS.val rfl (noStore_of rfl) (Below.refl _ _) rfl)
                  · intro L s w9 hN hU hi hS K hK
                    dsimp only at hK ⊢
                    simp only [Act.put, List.setIfInBounds_toArray, List.set_cons_zero, List.set_cons_succ] at hK
                    have e4 : s 4 = .bool false := hS.val_at 4 rfl (by decide) (hN.out 4 rfl)
                    simp only [e4] at hK ⊢
                    go_simp
                    exact hK.out _ _ (hS.val rfl (noStore_of rfl) (Below.refl _ _) rfl)
                  · intro L s w9 hN hU hi hS K hK
                    dsimp only at hK ⊢
                    simp only [Act.put, List.setIfInBounds_toArray, List.set_cons_zero, List.set_cons_succ] at hK
                    have e5 : s 5 = .pointer (some ⟨g, 0, none⟩) := hS.val_at 5 rfl (by decide) (hN.out 5 rfl)
                    simp only [e5] at hK ⊢
                    have e4 : s 4 = .bool false := hS.val_at 4 rfl (by decide) (hN.out 4 rfl)
                    simp only [e4] at hK ⊢
                    go_simp
                    go_at_call 75
                    refine (is_out (s := wFalse) HT2.out T6.ps hS.mem.bel).mono ?_
                    rintro e9 w10 ⟨rfl, q⟩
                    exact hK.out _ _ (hS.val rfl (noStore_of rfl) q rfl)
                  · intro L s w9 hN hU hi hS K hK
                    dsimp only at hK ⊢
                    simp only [Act.put, List.setIfInBounds_toArray, List.set_cons_zero, List.set_cons_succ] at hK
                    have e4 : s 4 = .bool false := hS.val_at 4 rfl (by decide) (hN.out 4 rfl)
                    simp only [e4] at hK ⊢
                    have e6 : s 6 = .bool false := hS.val_at 6 rfl (by decide) (hN.out 6 rfl)
                    simp only [e6] at hK ⊢
                    go_simp
                    exact hK.out _ _ (hS.val rfl (noStore_of rfl) (Below.refl _ _) rfl)
                  · intro L s w9 hN hU hi hS K hK
                    dsimp only at hK ⊢
                    simp only [Act.put, List.setIfInBounds_toArray, List.set_cons_zero, List.set_cons_succ] at hK
                    have e1 : s 1 = .bool true := hS.val_at 1 rfl (by decide) (hN.out 1 rfl)
                    simp only [e1] at hK ⊢
                    have e7 : s 7 = .bool false := hS.val_at 7 rfl (by decide) (hN.out 7 rfl)
                    simp only [e7] at hK ⊢
                    go_simp
                    exact hK.out _ _ (hS.val rfl (noStore_of rfl) (Below.refl _ _) rfl)
                  · intro L s w9 hN hU hi hS K hK
                    dsimp only at hK ⊢
                    simp only [Act.put, List.setIfInBounds_toArray, List.set_cons_zero, List.set_cons_succ] at hK
                    have e8 : s 8 = .bool true := hS.val_at 8 rfl (by decide) (hN.out 8 rfl)
                    simp only [e8] at hK ⊢
                    go_simp
                    exact hK.out _ _ (hS.val rfl (noStore_of rfl) (Below.refl _ _) rfl)
                  · intro L s w9 hN hU hi hS K hK
                    dsimp only at hK ⊢
                    simp only [Act.put, List.setIfInBounds_toArray, List.set_cons_zero, List.set_cons_succ] at hK
                    have e9 : s 9 = .bool true := hS.val_at 9 rfl (by decide) (hN.out 9 rfl)
                    simp only [e9] at hK ⊢
                    go_simp
                    exact hK.out undef _ (hS.skip rfl (noStore_of rfl) (Below.refl _ _))
                  · intro L s w9 hN hU hi hS K hK
                    dsimp only at hK ⊢
                    simp only [Act.put, List.setIfInBounds_toArray, List.set_cons_zero, List.set_cons_succ] at hK
                    have e9 : s 9 = .bool true := hS.val_at 9 rfl (by decide) (hN.out 9 rfl)
                    simp only [e9] at hK ⊢
                    go_simp
                    exact hK.out undef _ (hS.skip rfl (noStore_of rfl) (Below.refl _ _))
                  · intro L s w9 hN hU hi hS K hK
                    dsimp only at hK ⊢
                    simp only [Act.put, List.setIfInBounds_toArray, List.set_cons_zero, List.set_cons_succ] at hK
                    have e9 : s 9 = .bool true := hS.val_at 9 rfl (by decide) (hN.out 9 rfl)
                    simp only [e9] at hK ⊢
                    go_simp
                    exact hK.out undef _ (hS.skip rfl (noStore_of rfl) (Below.refl _ _))
                  · intro L s w9 hN hU hi hS K hK
                    dsimp only at hK ⊢
                    simp only [Act.put, List.setIfInBounds_toArray, List.set_cons_zero, List.set_cons_succ] at hK
                    have e9 : s 9 = .bool true := hS.val_at 9 rfl (by decide) (hN.out 9 rfl)
                    simp only [e9] at hK ⊢
                    go_simp
                    exact hK.out undef _ (hS.val rfl (noStore_of rfl) (Below.refl _ _) rfl)
                  · intro L s w9 hN hU hi hS K hK
                    dsimp only at hK ⊢
                    simp only [Act.put, List.setIfInBounds_toArray, List.set_cons_zero, List.set_cons_succ] at hK
                    have e13 : s 13 = undef := hS.val_at 13 rfl (by decide) (hN.out 13 rfl)
                    simp only [e13] at hK ⊢
                    go_simp
                    exact hK.out undef _ (hS.skip rfl (noStore_of rfl) (Below.refl _ _))
                  · intro L s w9 hN hU hi hS K hK
                    dsimp only at hK ⊢
                    simp only [Act.put, List.setIfInBounds_toArray, List.set_cons_zero, List.set_cons_succ] at hK
                    have e13 : s 13 = undef := hS.val_at 13 rfl (by decide) (hN.out 13 rfl)
                    simp only [e13] at hK ⊢
                    go_simp
                    exact hK.out undef _ (hS.skip rfl (noStore_of rfl) (Below.refl _ _))
                  · intro L s w9 hN hU hi hS K hK
                    dsimp only at hK ⊢
                    simp only [Act.put, List.setIfInBounds_toArray, List.set_cons_zero, List.set_cons_succ] at hK
                    have e13 : s 13 = undef := hS.val_at 13 rfl (by decide) (hN.out 13 rfl)
                    simp only [e13] at hK ⊢
                    go_simp
                    exact hK.out undef _ (hS.skip rfl (noStore_of rfl) (Below.refl _ _))
                  · intro L s w9 hN hU hi hS K hK
                    dsimp only at hK ⊢
                    simp only [Act.put, List.setIfInBounds_toArray, List.set_cons_zero, List.set_cons_succ] at hK
                    have e9 : s 9 = .bool true := hS.val_at 9 rfl (by decide) (hN.out 9 rfl)
                    simp only [e9] at hK ⊢
                    go_simp
                    exact hK.out undef _ (hS.skip rfl (noStore_of rfl) (Below.refl _ _))
                  · intro L s w9 hN hU hi hS K hK
                    dsimp only at hK ⊢
                    simp only [Act.put, List.setIfInBounds_toArray, List.set_cons_zero, List.set_cons_succ] at hK
                    have e9 : s 9 = .bool true := hS.val_at 9 rfl (by decide) (hN.out 9 rfl)
                    simp only [e9] at hK ⊢
                    go_simp
                    exact hK.out _ _ (hS.val rfl (noStore_of rfl) (Below.refl _ _) rfl)
                intro L s w9 hall hS
                have eF : s 18 = .bool true := hS.val_at 18 rfl (by decide) (hall 18 (by decide))
                have TR := T6.call (below_gr hS.mem.bel _) (T6.ps.below hS.mem.bel)
                clear hS
                generalize s 18 = u18 at eF ⊢
                subst eF
                go_wp2_with fail
                refine (wrong_any TR.ps).mono ?_
                rintro e w11 ⟨rfl, q11⟩
                go_wp2_with fail
                refine ⟨rfl, grown_tr TR.gr q11, Or.inr ⟨_, _, ?_, rfl⟩⟩
                refine H6.out.trans ?_
                simp only [fitsP, HT1.out, HT2.out, if_true, Bool.true_or, Bool.or_true, Bool.false_or, Bool.or_false, Bool.or_self, Bool.false_eq_true, if_false, Bool.not_true, Bool.not_false, Bool.false_and, Bool.true_and]
                rfl
          | false =>
            cases hT1 : isP wTrue l6 with
            | true =>
              have HT1 := Lib.hid hT1
              clear hT1
              have M : Mem w6 w6 [(wA.heap.size, 47, icells _ _ _)] [] := (Mem.start w6).addK T6.it
              refine region_st (n := 19) (frame := ?frame4) (fun jK => [.val (.fix (.pointer (some ⟨(wA.heap.size), 2, none⟩))), .val (.fix (.bool false)), .val (.fix (.pointer (some ⟨g, 0, none⟩))), .val (.fix (.bool true)), .val (.fix (.bool true)), .none, .none, .val (.fix (.bool true)), .val (.fix (.bool true)), .val (.fix (.bool true)), .none, .none, .none, .val (.fix (undef)), .none, .none, .none, .none, .val (.fix (.bool true))].getD jK .none) [] (by kernel_rfl) (by kernel_rfl) (by kernel_rfl) rfl M (fun _ h => by cases h) (fun _ h => by cases h) ?_ ?_ ?_
              case refine_1 =>
                intro s
                simp only [fr, Act.put, List.append_eq, List.cons_append, List.nil_append, List.setIfInBounds_toArray, List.set_cons_zero, List.set_cons_succ, Nat.reduceAdd]
                rfl
              case refine_2 =>
                refine Steps.cons 0 (j := 1) rfl ?_ (Steps.cons 1 (j := 2) rfl ?_ (Steps.cons 2 (j := 3) rfl ?_ (Steps.cons 3 (j := 4) rfl ?_ (Steps.cons 4 (j := 5) rfl ?_ (Steps.cons 5 (j := 6) rfl ?_ (Steps.cons 6 (j := 7) rfl ?_ (Steps.cons 7 (j := 8) rfl ?_ (Steps.cons 8 (j := 9) rfl ?_ (Steps.cons 9 (j := 10) rfl ?_ (Steps.cons 10 (j := 11) rfl ?_ (Steps.cons 11 (j := 12) rfl ?_ (Steps.cons 12 (j := 13) rfl ?_ (Steps.cons 13 (j := 14) rfl ?_ (Steps.cons 14 (j := 15) rfl ?_ (Steps.cons 15 (j := 16) rfl ?_ (Steps.cons 16 (j := 17) rfl ?_ (Steps.cons 17 (j := 18) rfl ?_ (Steps.cons 18 (j := 19) rfl ?_ Steps.nil))))))))))))))))))
                · intro L s w9 hN hU hi hS K hK
                  dsimp only at hK ⊢
                  simp only [Act.put, List.setIfInBounds_toArray, List.set_cons_zero, List.set_cons_succ] at hK
                  go_simp
                  exact hK.out _ _ (hS.val rfl (noStore_of rfl) (Below.refl _ _) rfl)
                · intro L s w9 hN hU hi hS K hK
                  dsimp only at hK ⊢
                  simp only [Act.put, List.setIfInBounds_toArray, List.set_cons_zero, List.set_cons_succ] at hK
                  have e0 : s 0 = .pointer (some ⟨(wA.heap.size), 2, none⟩) := hS.val_at 0 rfl (by decide) (hN.out 0 rfl)
                  simp only [e0] at hK ⊢
                  obtain ⟨u1, u2, u3, u4, u5, u6, u7, u8⟩ := Blk.eight (hS.mem.k (i := 0) rfl)
                  go_simp
                  exact hK.out _ _ (hS.val rfl (noStore_of rfl) (Below.refl _ _) rfl)
                · intro L s w9 hN hU hi hS K hK
                  dsimp only at hK ⊢
                  simp only [Act.put, List.setIfInBounds_toArray, List.set_cons_zero, List.set_cons_succ] at hK
                  go_simp
                  exact hK.out _ _ (hS.val rfl (noStore_of rfl) (Below.refl _ _) rfl)
                · intro L s w9 hN hU hi hS K hK
                  dsimp only at hK ⊢
                  simp only [Act.put, List.setIfInBounds_toArray, List.set_cons_zero, List.set_cons_succ] at hK
                  have e2 : s 2 = .pointer (some ⟨g, 0, none⟩) := hS.val_at 2 rfl (by decide) (hN.out 2 rfl)
                  simp only [e2] at hK ⊢
                  go_simp
                  go_at_call 75
                  refine (is_out (s := wTrue) HT1.out T6.ps hS.mem.bel).mono ?_
                  rintro e9 w10 ⟨rfl, q⟩
                  exact hK.out _ _ (hS.val rfl (noStore_of rfl) q rfl)
                · intro L s w9 hN hU hi hS K hK
                  dsimp only at hK ⊢
                  simp only [Act.put, List.setIfInBounds_toArray, List.set_cons_zero, List.set_cons_succ] at hK
                  have e3 : s 3 = .bool true := hS.val_at 3 rfl (by decide) (hN.out 3 rfl)
                  simp only [e3] at hK ⊢
                  go_simp
                  exact hK.out _ _ (hS.val rfl (noStore_of rfl) (Below.refl _ _) rfl)
                · intro L s w9 hN hU hi hS K hK
                  dsimp only at hK ⊢
                  simp only [Act.put, List.setIfInBounds_toArray, List.set_cons_zero, List.set_cons_succ] at hK
                  have e4 : s 4 = .bool true := hS.val_at 4 rfl (by decide) (hN.out 4 rfl)
                  simp only [e4] at hK ⊢
                  go_simp
                  exact hK.out undef _ (hS.skip rfl (noStore_of rfl) (Below.refl _ _))
                · intro L s w9 hN hU hi hS K hK
                  dsimp only at hK ⊢
                  simp only [Act.put, List.setIfInBounds_toArray, List.set_cons_zero, List.set_cons_succ] at hK
                  have e4 : s 4 = .bool true := hS.val_at 4 rfl (by decide) (hN.out 4 rfl)
                  simp only [e4] at hK ⊢
                  go_simp
                  exact hK.out undef _ (hS.skip rfl (noStore_of rfl) (Below.refl _ _))
                · intro L s w9 hN hU hi hS K hK
                  dsimp only at hK ⊢
                  simp only [Act.put, List.setIfInBounds_toArray, List.set_cons_zero, List.set_cons_succ] at hK
                  have e4 : s 4 = .bool true := hS.val_at 4 rfl (by decide) (hN.out 4 rfl)
                  simp only [e4] at hK ⊢
                  go_simp
                  exact hK.out _ _ (hS.val rfl (noStore_of rfl) (Below.refl _ _) rfl)
                · intro L s w9 hN hU hi hS K hK
                  dsimp only at hK ⊢
                  simp only [Act.put, List.setIfInBounds_toArray, List.set_cons_zero, List.set_cons_succ] at hK
                  have e1 : s 1 = .bool false := hS.val_at 1 rfl (by decide) (hN.out 1 rfl)
                  simp only [e1] at hK ⊢
                  have e7 : s 7 = .bool true := hS.val_at 7 rfl (by decide) (hN.out 7 rfl)
                  simp only [e7] at hK ⊢
                  go_simp
                  exact hK.out _ _ (hS.val rfl (noStore_of rfl) (Below.refl _ _) rfl)
                · intro L s w9 hN hU hi hS K hK
                  dsimp only at hK ⊢
                  simp only [Act.put, List.setIfInBounds_toArray, List.set_cons_zero, List.set_cons_succ] at hK
                  have e8 : s 8 = .bool true := hS.val_at 8 rfl (by decide) (hN.out 8 rfl)
                  simp only [e8] at hK ⊢
                  go_simp
                  exact hK.out _ _ (hS.val rfl (noStore_of rfl) (Below.refl _ _) rfl)
                · intro L s w9 hN hU hi hS K hK
                  dsimp only at hK ⊢
                  simp only [Act.put, List.setIfInBounds_toArray, List.set_cons_zero, List.set_cons_succ] at hK
                  have e9 : s 9 = .bool true := hS.val_at 9 rfl (by decide) (hN.out 9 rfl)
                  simp only [e9] at hK ⊢
                  go_simp
                  exact hK.out undef _ (hS.skip rfl (noStore_of rfl) (Below.refl _ _))
                · intro L s w9 hN hU hi hS K hK
                  dsimp only at hK ⊢
                  simp only [Act.put, List.setIfInBounds_toArray, List.set_cons_zero, List.set_cons_succ] at hK
                  have e9 : s 9 = .bool true := hS.val_at 9 rfl (by decide) (hN.out 9 rfl)
                  simp only [e9] at hK ⊢
                  go_simp
                  exact hK.out undef _ (hS.skip rfl (noStore_of rfl) (Below.refl _ _))
                · intro L s w9 hN hU hi hS K hK
                  dsimp only at hK ⊢
                  simp only [Act.put, List.setIfInBounds_toArray, List.set_cons_zero, List.set_cons_succ] at hK
                  have e9 : s 9 = .bool true := hS.val_at 9 rfl (by decide) (hN.out 9 rfl)
                  simp only [e9] at hK ⊢
                  go_simp
                  exact hK.out undef _ (hS.skip rfl (noStore_of rfl) (Below.refl _ _))
                · intro L s w9 hN hU hi hS K hK
                  dsimp only at hK ⊢
                  simp only [Act.put, List.setIfInBounds_toArray, List.set_cons_zero, List.set_cons_succ] at hK
                  have e9 : s 9 = .bool true := hS.val_at 9 rfl (by decide) (hN.out 9 rfl)
                  simp only [e9] at hK ⊢
                  go_simp
                  exact hK.out undef _ (hS.val rfl (noStore_of rfl) (Below.refl _ _) rfl)
                · intro L s w9 hN hU hi hS K hK
                  dsimp only at hK ⊢
                  simp only [Act.put, List.setIfInBounds_toArray, List.set_cons_zero, List.set_cons_succ] at hK
                  have e13 : s 13 = undef := hS.val_at 13 rfl (by decide) (hN.out 13 rfl)
                  simp only [e13] at hK ⊢
                  go_simp
                  exact hK.out undef _ (hS.skip rfl (noStore_of rfl) (Below.refl _ _))
                · intro L s w9 hN hU hi hS K hK
                  dsimp only at hK ⊢
                  simp only [Act.put, List.setIfInBounds_toArray, List.set_cons_zero, List.set_cons_succ] at hK
                  have e13 : s 13 = undef := hS.val_at 13 rfl (by decide) (hN.out 13 rfl)
                  simp only [e13] at hK ⊢
                  go_simp
                  exact hK.out undef _ (hS.skip rfl (noStore_of rfl) (Below.refl _ _))
                · intro L s w9 hN hU hi hS K hK
                  dsimp only at hK ⊢
                  simp only [Act.put, List.setIfInBounds_toArray, List.set_cons_zero, List.set_cons_succ] at hK
                  have e13 : s 13 = undef := hS.val_at 13 rfl (by decide) (hN.out 13 rfl)
                  simp only [e13] at hK ⊢
                  go_simp
                  exact hK.out undef _ (hS.skip rfl (noStore_of rfl) (Below.refl _ _))
                · intro L s w9 hN hU hi hS K hK
                  dsimp only at hK ⊢
                  simp only [Act.put, List.setIfInBounds_toArray, List.set_cons_zero, List.set_cons_succ] at hK
                  have e9 : s 9 = .bool true := hS.val_at 9 rfl (by decide) (hN.out 9 rfl)
                  simp only [e9] at hK ⊢
                  go_simp
                  exact hK.out undef _ (hS.skip rfl (noStore_of rfl) (Below.refl _ _))
                · intro L s w9 hN hU hi hS K hK
                  dsimp only at hK ⊢
                  simp only [Act.put, List.setIfInBounds_toArray, List.set_cons_zero, List.set_cons_succ] at hK
                  have e9 : s 9 = .bool true := hS.val_at 9 rfl (by decide) (hN.out 9 rfl)
                  simp only [e9] at hK ⊢
                  go_simp
                  exact hK.out _ _ (hS.val rfl (noStore_of rfl) (Below.refl _ _) rfl)
              intro L s w9 hall hS
              have eF : s 18 = .bool true := hS.val_at 18 rfl (by decide) (hall 18 (by decide))
              have TR := T6.call (below_gr hS.mem.bel _) (T6.ps.below hS.mem.bel)
              clear hS
              generalize s 18 = u18 at eF ⊢
              subst eF
              go_wp2_with fail
              refine (wrong_any TR.ps).mono ?_
              rintro e w11 ⟨rfl, q11⟩
              go_wp2_with fail
              refine ⟨rfl, grown_tr TR.gr q11, Or.inr ⟨_, _, ?_, rfl⟩⟩
              refine H6.out.trans ?_
              simp only [fitsP, HT1.out, if_true, Bool.true_or, Bool.or_true, Bool.false_or, Bool.or_false, Bool.or_self, Bool.false_eq_true, if_false, Bool.not_true, Bool.not_false, Bool.false_and, Bool.true_and]
              rfl
            | false =>
              cases hT2 : isP wFalse l6 with
              | true =>
                have HT1 := Lib.hid hT1
                have HT2 := Lib.hid hT2
                clear hT1 hT2
                have M : Mem w6 w6 [(wA.heap.size, 47, icells _ _ _)] [] := (Mem.start w6).addK T6.it
                refine region_st (n := 19) (frame := ?frame5) (fun jK => [.val (.fix (.pointer (some ⟨(wA.heap.size), 2, none⟩))), .val (.fix (.bool false)), .val (.fix (.pointer (some ⟨g, 0, none⟩))), .val (.fix (.bool false)), .val (.fix (.bool false)), .val (.fix (.pointer (some ⟨g, 0, none⟩))), .val (.fix (.bool true)), .val (.fix (.bool true)), .val (.fix (.bool true)), .val (.fix (.bool true)), .none, .none, .none, .val (.fix (undef)), .none, .none, .none, .none, .val (.fix (.bool true))].getD jK .none) [] (by kernel_rfl) (by kernel_rfl) (by kernel_rfl) rfl M (fun _ h => by cases h) (fun _ h => by cases h) ?_ ?_ ?_
                case refine_1 =>
                  intro s
                  simp only [fr, Act.put, List.append_eq, List.cons_append, List.nil_append, List.setIfInBounds_toArray, List.set_cons_zero, List.set_cons_succ, Nat.reduceAdd]
                  rfl
                case refine_2 =>
                  refine Steps.cons 0 (j := 1) rfl ?_ (Steps.cons 1 (j := 2) rfl ?_ (Steps.cons 2 (j := 3) rfl ?_ (Steps.cons 3 (j := 4) rfl ?_ (Steps.cons 4 (j := 5) rfl ?_ (Steps.cons 5 (j := 6) rfl ?_ (Steps.cons 6 (j := 7) rfl ?_ (Steps.cons 7 (j := 8) rfl ?_ (Steps.cons 8 (j := 9) rfl ?_ (Steps.cons 9 (j := 10) rfl ?_ (Steps.cons 10 (j := 11) rfl ?_ (Steps.cons 11 (j := 12) rfl ?_ (Steps.cons 12 (j := 13) rfl ?_ (Steps.cons 13 (j := 14) rfl ?_ (Steps.cons 14 (j := 15) rfl ?_ (Steps.cons 15 (j := 16) rfl ?_ (Steps.cons 16 (j := 17) rfl ?_ (Steps.cons 17 (j := 18) rfl ?_ (Steps.cons 18 (j := 19) rfl ?_ Steps.nil))))))))))))))))))
                  · intro L s w9 hN hU hi hS K hK
                    dsimp only at hK ⊢
                    simp only [Act.put, List.setIfInBounds_toArray, List.set_cons_zero, List.set_cons_succ] at hK
                    go_simp
                    exact hK.out _ _ (hS.val rfl (noStore_of rfl) (Below.refl _ _) rfl)
                  · intro L s w9 hN hU hi hS K hK
                    dsimp only at hK ⊢
                    simp only [Act.put, List.setIfInBounds_toArray, List.set_cons_zero, List.set_cons_succ] at hK
                    have e0 : s 0 = .pointer (some ⟨(wA.heap.size), 2, none⟩) := hS.val_at 0 rfl (by decide) (hN.out 0 rfl)
                    simp only [e0] at hK ⊢
                    obtain ⟨u1, u2, u3, u4, u5, u6, u7, u8⟩ := Blk.eight (hS.mem.k (i := 0) rfl)
                    go_simp
                    exact hK.out _ _ (hS.val rfl (noStore_of rfl) (Below.refl _ _) rfl)
                  · intro L s w9 hN hU hi hS K hK
                    dsimp only at hK ⊢
                    simp only [Act.put, List.setIfInBounds_toArray, List.set_cons_zero, List.set_cons_succ] at hK
                    go_simp
                    exact hK.out _ _ (hS.val rfl (noStore_of rfl) (Below.refl _ _) rfl)
                  · intro L s w9 hN hU hi hS K hK
                    dsimp only at hK ⊢
                    simp only [Act.put, List.setIfInBounds_toArray, List.set_cons_zero, List.set_cons_succ] at hK
                    have e2 : s 2 = .pointer (some ⟨g, 0, none⟩) := hS.val_at 2 rfl (by decide) (hN.out 2 rfl)
                    simp only [e2] at hK ⊢
                    go_simp
                    go_at_call 75
                    refine (is_out (s := wTrue) HT1.out T6.ps hS.mem.bel).mono ?_
                    rintro e9 w10 ⟨rfl, q⟩
                    exact hK.out _ _ (hS.val rfl (noStore_of rfl) q rfl)
                  · intro L s w9 hN hU hi hS K hK
                    dsimp only at hK ⊢
                    simp only [Act.put, List.setIfInBounds_toArray, List.set_cons_zero, List.set_cons_succ] at hK
                    have e3 : s 3 = .bool false := hS.val_at 3 rfl (by decide) (hN.out 3 rfl)
                    simp only [e3] at hK ⊢
                    go_simp
                    exact hK.out _ _ (hS.val rfl (noStore_of rfl) (Below.refl _ _) rfl)
                  · intro L s w9 hN hU hi hS K hK
                    dsimp only at hK ⊢
                    simp only [Act.put, List.setIfInBounds_toArray, List.set_cons_zero, List.set_cons_succ] at hK
                    have e4 : s 4 = .bool false := hS.val_at 4 rfl (by decide) (hN.out 4 rfl)
                    simp only [e4] at hK ⊢
                    go_simp
                    exact hK.out _ _ (hS.val rfl (noStore_of rfl) (Below.refl _ _) rfl)
                  · intro L s w9 hN hU hi hS K hK
                    dsimp only at hK ⊢
                    simp only [Act.put, List.setIfInBounds_toArray, List.set_cons_zero, List.set_cons_succ] at hK
                    have e5 : s 5 = .pointer (some ⟨g, 0, none⟩) := hS.val_at 5 rfl (by decide) (hN.out 5 rfl)
                    simp only [e5] at hK ⊢
                    have e4 : s 4 = .bool false := hS.val_at 4 rfl (by decide) (hN.out 4 rfl)
                    simp only [e4] at hK ⊢
                    go_simp
                    go_at_call 75
                    refine (is_out (s := wFalse) HT2.out T6.ps hS.mem.bel).mono ?_
                    rintro e9 w10 ⟨rfl, q⟩
                    exact hK.out _ _ (hS.val rfl (noStore_of rfl) q rfl)
                  · intro L s w9 hN hU hi hS K hK
                    dsimp only at hK ⊢
                    simp only [Act.put, List.setIfInBounds_toArray, List.set_cons_zero, List.set_cons_succ] at hK
                    have e4 : s 4 = .bool false := hS.val_at 4 rfl (by decide) (hN.out 4 rfl)
                    simp only [e4] at hK ⊢
                    have e6 : s 6 = .bool true := hS.val_at 6 rfl (by decide) (hN.out 6 rfl)
                    simp only [e6] at hK ⊢
                    go_simp
                    exact hK.out _ _ (hS.val rfl (noStore_of rfl) (Below.refl _ _) rfl)
                  · intro L s w9 hN hU hi hS K hK
                    dsimp only at hK ⊢
                    simp only [Act.put, List.setIfInBounds_toArray, List.set_cons_zero, List.set_cons_succ] at hK
                    have e1 : s 1 = .bool false := hS.val_at 1 rfl (by decide) (hN.out 1 rfl)
                    simp only [e1] at hK ⊢
                    have e7 : s 7 = .bool true := hS.val_at 7 rfl (by decide) (hN.out 7 rfl)
                    simp only [e7] at hK ⊢
                    go_simp
                    exact hK.out _ _ (hS.val rfl (noStore_of rfl) (Below.refl _ _) rfl)
                  · intro L s w9 hN hU hi hS K hK
                    dsimp only at hK ⊢
                    simp only [Act.put, List.setIfInBounds_toArray, List.set_cons_zero, List.set_cons_succ] at hK
                    have e8 : s 8 = .bool true := hS.val_at 8 rfl (by decide) (hN.out 8 rfl)
                    simp only [e8] at hK ⊢
                    go_simp
                    exact hK.out _ _ (hS.val rfl (noStore_of rfl) (Below.refl _ _) rfl)
                  · intro L s w9 hN hU hi hS K hK
                    dsimp only at hK ⊢
                    simp only [Act.put, List.setIfInBounds_toArray, List.set_cons_zero, List.set_cons_succ] at hK
                    have e9 : s 9 = .bool true := hS.val_at 9 rfl (by decide) (hN.out 9 rfl)
                    simp only [e9] at hK ⊢
                    go_simp
                    exact hK.out undef _ (hS.skip rfl (noStore_of rfl) (Below.refl _ _))
                  · intro L s w9 hN hU hi hS K hK
                    dsimp only at hK ⊢
                    simp only [Act.put, List.setIfInBounds_toArray, List.set_cons_zero, List.set_cons_succ] at hK
                    have e9 : s 9 = .bool true := hS.val_at 9 rfl (by decide) (hN.out 9 rfl)
                    simp only [e9] at hK ⊢
                    go_simp
                    exact hK.out undef _ (hS.skip rfl (noStore_of rfl) (Below.refl _ _))
                  · intro L s w9 hN hU hi hS K hK
                    dsimp only at hK ⊢
                    simp only [Act.put, List.setIfInBounds_toArray, List.set_cons_zero, List.set_cons_succ] at hK
                    have e9 : s 9 = .bool true := hS.val_at 9 rfl (by decide) (hN.out 9 rfl)
                    simp only [e9] at hK ⊢
                    go_simp
                    exact hK.out undef _ (hS.skip rfl (noStore_of rfl) (Below.refl _ _))
                  · intro L s w9 hN hU hi hS K hK
                    dsimp only at hK ⊢
                    simp only [Act.put, List.setIfInBounds_toArray, List.set_cons_zero, List.set_cons_succ] at hK
                    have e9 : s 9 = .bool true := hS.val_at 9 rfl (by decide) (hN.out 9 rfl)
                    simp only [e9] at hK ⊢
                    go_simp
                    exact hK.out undef _ (hS.val rfl (noStore_of rfl) (Below.refl _ _) rfl)
                  · intro L s w9 hN hU hi hS K hK
                    dsimp only at hK ⊢
                    simp only [Act.put, List.setIfInBounds_toArray, List.set_cons_zero, List.set_cons_succ] at hK
                    have e13 : s 13 = undef := hS.val_at 13 rfl (by decide) (hN.out 13 rfl)
                    simp only [e13] at hK ⊢
                    go_simp
                    exact hK.out undef _ (hS.skip rfl (noStore_of rfl) (Below.refl _ _))
                  · intro L s w9 hN hU hi hS K hK
                    dsimp only at hK ⊢
                    simp only [Act.put, List.setIfInBounds_toArray, List.set_cons_zero, List.set_cons_succ] at hK
                    have e13 : s 13 = undef := hS.val_at 13 rfl (by decide) (hN.out 13 rfl)
                    simp only [e13] at hK ⊢
                    go_simp
                    exact hK.out undef _ (hS.skip rfl (noStore_of rfl) (Below.refl _ _))
                  · intro L s w9 hN hU hi hS K hK
                    dsimp only at hK ⊢
                    simp only [Act.put, List.setIfInBounds_toArray, List.set_cons_zero, List.set_cons_succ] at hK
                    have e13 : s 13 = undef := hS.val_at 13 rfl (by decide) (hN.out 13 rfl)
                    simp only [e13] at hK ⊢
                    go_simp
                    exact hK.out undef _ (hS.skip rfl (noStore_of rfl) (Below.refl _ _))
                  · intro L s w9 hN hU hi hS K hK
                    dsimp only at hK ⊢
                    simp only [Act.put, List.setIfInBounds_toArray, List.set_cons_zero, List.set_cons_succ] at hK
                    have e9 : s 9 = .bool true := hS.val_at 9 rfl (by decide) (hN.out 9 rfl)
                    simp only [e9] at hK ⊢
                    go_simp
                    exact hK.out undef _ (hS.skip rfl (noStore_of rfl) (Below.refl _ _))
                  · intro L s w9 hN hU hi hS K hK
                    dsimp only at hK ⊢
                    simp only [Act.put, List.setIfInBounds_toArray, List.set_cons_zero, List.set_cons_succ] at hK
                    have e9 : s 9 = .bool true := hS.val_at 9 rfl (by decide) (hN.out 9 rfl)
                    simp only [e9] at hK ⊢
                    go_simp
                    exact hK.out _ _ (hS.val rfl (noStore_of rfl) (Below.refl _ _) rfl)
                intro L s w9 hall hS
                have eF : s 18 = .bool true := hS.val_at 18 rfl (by decide) (hall 18 (by decide))
                have TR := T6.call (below_gr hS.mem.bel _) (T6.ps.below hS.mem.bel)
                clear hS
                generalize s 18 = u18 at eF ⊢
                subst eF
                go_wp2_with fail
                refine (wrong_any TR.ps).mono ?_
                rintro e w11 ⟨rfl, q11⟩
                go_wp2_with fail
                refine ⟨rfl, grown_tr TR.gr q11, Or.inr ⟨_, _, ?_, rfl⟩⟩
                refine H6.out.trans ?_
                simp only [fitsP, HT1.out, HT2.out, if_true, Bool.true_or, Bool.or_true, Bool.false_or, Bool.or_false, Bool.or_self, Bool.false_eq_true, if_false, Bool.not_true, Bool.not_false, Bool.false_and, Bool.true_and]
                rfl
              | false =>
                have HT1 := Lib.hid hT1
                have HT2 := Lib.hid hT2
                cases hK2 : (kindP l6 != 2) with
                | true =>
                  have hK3 : decide (kindP l6 = 2) = false := by simpa using hK2
                  have HK2 := Lib.hid hK2
                  have HK3 := Lib.hid hK3
                  clear hT1 hT2 hK2 hK3
                  have M : Mem w6 w6 [(wA.heap.size, 47, icells _ _ _)] [] := (Mem.start w6).addK T6.it
                  refine region_st (n := 19) (frame := ?frame6) (fun jK => [.val (.fix (.pointer (some ⟨(wA.heap.size), 2, none⟩))), .val (.fix (.bool false)), .val (.fix (.pointer (some ⟨g, 0, none⟩))), .val (.fix (.bool false)), .val (.fix (.bool false)), .val (.fix (.pointer (some ⟨g, 0, none⟩))), .val (.fix (.bool false)), .val (.fix (.bool false)), .val (.fix (.bool false)), .val (.fix (.bool false)), .val (.fix (.pointer (some ⟨(wA.heap.size), 2, none⟩))), .val (.fix (.bool false)), .val (.fix (.bool true)), .val (.fix (.bool true)), .val (.fix (.pointer (some ⟨g, 0, none⟩))), .val (.fix (.int .i64 (kindP l6))), .val (.fix (.bool (kindP l6 != 2))), .val (.fix (.bool (kindP l6 != 2))), .val (.fix (.bool (kindP l6 != 2)))].getD jK .none) [] (by kernel_rfl) (by kernel_rfl) (by kernel_rfl) rfl M (fun _ h => by cases h) (fun _ h => by cases h) ?_ ?_ ?_
                  case refine_1 =>
                    intro s
                    simp only [fr, Act.put, List.append_eq, List.cons_append, List.nil_append, List.setIfInBounds_toArray, List.set_cons_zero, List.set_cons_succ, Nat.reduceAdd]
                    rfl
                  case refine_2 =>
                    refine Steps.cons 0 (j := 1) rfl ?_ (Steps.cons 1 (j := 2) rfl ?_ (Steps.cons 2 (j := 3) rfl ?_ (Steps.cons 3 (j := 4) rfl ?_ (Steps.cons 4 (j := 5) rfl ?_ (Steps.cons 5 (j := 6) rfl ?_ (Steps.cons 6 (j := 7) rfl ?_ (Steps.cons 7 (j := 8) rfl ?_ (Steps.cons 8 (j := 9) rfl ?_ (Steps.cons 9 (j := 10) rfl ?_ (Steps.cons 10 (j := 11) rfl ?_ (Steps.cons 11 (j := 12) rfl ?_ (Steps.cons 12 (j := 13) rfl ?_ (Steps.cons 13 (j := 14) rfl ?_ (Steps.cons 14 (j := 15) rfl ?_ (Steps.cons 15 (j := 16) rfl ?_ (Steps.cons 16 (j := 17) rfl ?_ (Steps.cons 17 (j := 18) rfl ?_ (Steps.cons 18 (j := 19) rfl ?_ Steps.nil))))))))))))))))))
                    · intro L s w9 hN hU hi hS K hK
                      dsimp only at hK ⊢
                      simp only [Act.put, List.setIfInBounds_toArray, List.set_cons_zero, List.set_cons_succ] at hK
                      go_simp
                      exact hK.out _ _ (hS.val rfl (noStore_of rfl) (Below.refl _ _) rfl)
                    · intro L s w9 hN hU hi hS K hK
                      dsimp only at hK ⊢
                      simp only [Act.put, List.setIfInBounds_toArray, List.set_cons_zero, List.set_cons_succ] at hK
                      have e0 : s 0 = .pointer (some ⟨(wA.heap.size), 2, none⟩) := hS.val_at 0 rfl (by decide) (hN.out 0 rfl)
                      simp only [e0] at hK ⊢
                      obtain ⟨u1, u2, u3, u4, u5, u6, u7, u8⟩ := Blk.eight (hS.mem.k (i := 0) rfl)
                      go_simp
                      exact hK.out _ _ (hS.val rfl (noStore_of rfl) (Below.refl _ _) rfl)
                    · intro L s w9 hN hU hi hS K hK
                      dsimp only at hK ⊢
                      simp only [Act.put, List.setIfInBounds_toArray, List.set_cons_zero, List.set_cons_succ] at hK
                      go_simp
                      exact hK.out _ _ (hS.val rfl (noStore_of rfl) (Below.refl _ _) rfl)
                    · intro L s w9 hN hU hi hS K hK
                      dsimp only at hK ⊢
                      simp only [Act.put, List.setIfInBounds_toArray, List.set_cons_zero, List.set_cons_succ] at hK
                      have e2 : s 2 = .pointer (some ⟨g, 0, none⟩) := hS.val_at 2 rfl (by decide) (hN.out 2 rfl)
                      simp only [e2] at hK ⊢
                      go_simp
                      go_at_call 75
                      refine (is_out (s := wTrue) HT1.out T6.ps hS.mem.bel).mono ?_
                      rintro e9 w10 ⟨rfl, q⟩
                      exact hK.out _ _ (hS.val rfl (noStore_of rfl) q rfl)
                    · intro L s w9 hN hU hi hS K hK
                      dsimp only at hK ⊢
                      simp only [Act.put, List.setIfInBounds_toArray, List.set_cons_zero, List.set_cons_succ] at hK
                      have e3 : s 3 = .bool false := hS.val_at 3 rfl (by decide) (hN.out 3 rfl)
                      simp only [e3] at hK ⊢
                      go_simp
                      exact hK.out _ _ (hS.val rfl (noStore_of rfl) (Below.refl _ _) rfl)
                    · intro L s w9 hN hU hi hS K hK
                      dsimp only at hK ⊢
                      simp only [Act.put, List.setIfInBounds_toArray, List.set_cons_zero, List.set_cons_succ] at hK
                      have e4 : s 4 = .bool false := hS.val_at 4 rfl (by decide) (hN.out 4 rfl)
                      simp only [e4] at hK ⊢
                      go_simp
                      exact hK.out _ _ (hS.val rfl (noStore_of rfl) (Below.refl _ _) rfl)
                    · intro L s w9 hN hU hi hS K hK
                      dsimp only at hK ⊢
                      simp only [Act.put, List.setIfInBounds_toArray, List.set_cons_zero, List.set_cons_succ] at hK
                      have e5 : s 5 = .pointer (some ⟨g, 0, none⟩) := hS.val_at 5 rfl (by decide) (hN.out 5 rfl)
                      simp only [e5] at hK ⊢
                      have e4 : s 4 = .bool false := hS.val_at 4 rfl (by decide) (hN.out 4 rfl)
                      simp only [e4] at hK ⊢
                      go_simp
                      go_at_call 75
                      refine (is_out (s := wFalse) HT2.out T6.ps hS.mem.bel).mono ?_
                      rintro e9 w10 ⟨rfl, q⟩
                      exact hK.out _ _ (hS.val rfl (noStore_of rfl) q rfl)
                    · intro L s w9 hN hU hi hS K hK
                      dsimp only at hK ⊢
                      simp only [Act.put, List.setIfInBounds_toArray, List.set_cons_zero, List.set_cons_succ] at hK
                      have e4 : s 4 = .bool false := hS.val_at 4 rfl (by decide) (hN.out 4 rfl)
                      simp only [e4] at hK ⊢
                      have e6 : s 6 = .bool false := hS.val_at 6 rfl (by decide) (hN.out 6 rfl)
                      simp only [e6] at hK ⊢
                      go_simp
                      exact hK.out _ _ (hS.val rfl (noStore_of rfl) (Below.refl _ _) rfl)
                    · intro L s w9 hN hU hi hS K hK
                      dsimp only at hK ⊢
                      simp only [Act.put, List.setIfInBounds_toArray, List.set_cons_zero, List.set_cons_succ] at hK
                      have e1 : s 1 = .bool false := hS.val_at 1 rfl (by decide) (hN.out 1 rfl)
                      simp only [e1] at hK ⊢
                      have e7 : s 7 = .bool false := hS.val_at 7 rfl (by decide) (hN.out 7 rfl)
                      simp only [e7] at hK ⊢
                      go_simp
                      exact hK.out _ _ (hS.val rfl (noStore_of rfl) (Below.refl _ _) rfl)
                    · intro L s w9 hN hU hi hS K hK
                      dsimp only at hK ⊢
                      simp only [Act.put, List.setIfInBounds_toArray, List.set_cons_zero, List.set_cons_succ] at hK
                      have e8 : s 8 = .bool false := hS.val_at 8 rfl (by decide) (hN.out 8 rfl)
                      simp only [e8] at hK ⊢
                      go_simp
                      exact hK.out _ _ (hS.val rfl (noStore_of rfl) (Below.refl _ _) rfl)
                    · intro L s w9 hN hU hi hS K hK
                      dsimp only at hK ⊢
                      simp only [Act.put, List.setIfInBounds_toArray, List.set_cons_zero, List.set_cons_succ] at hK
                      have e9 : s 9 = .bool false := hS.val_at 9 rfl (by decide) (hN.out 9 rfl)
                      simp only [e9] at hK ⊢
                      go_simp
                      exact hK.out _ _ (hS.val rfl (noStore_of rfl) (Below.refl _ _) rfl)
                    · intro L s w9 hN hU hi hS K hK
                      dsimp only at hK ⊢
                      simp only [Act.put, List.setIfInBounds_toArray, List.set_cons_zero, List.set_cons_succ] at hK
                      have e10 : s 10 = .pointer (some ⟨(wA.heap.size), 2, none⟩) := hS.val_at 10 rfl (by decide) (hN.out 10 rfl)
                      simp only [e10] at hK ⊢
                      have e9 : s 9 = .bool false := hS.val_at 9 rfl (by decide) (hN.out 9 rfl)
                      simp only [e9] at hK ⊢
                      obtain ⟨u1, u2, u3, u4, u5, u6, u7, u8⟩ := Blk.eight (hS.mem.k (i := 0) rfl)
                      go_simp
                      exact hK.out _ _ (hS.val rfl (noStore_of rfl) (Below.refl _ _) rfl)
                    · intro L s w9 hN hU hi hS K hK
                      dsimp only at hK ⊢
                      simp only [Act.put, List.setIfInBounds_toArray, List.set_cons_zero, List.set_cons_succ] at hK
                      have e11 : s 11 = .bool false := hS.val_at 11 rfl (by decide) (hN.out 11 rfl)
                      simp only [e11] at hK ⊢
                      have e9 : s 9 = .bool false := hS.val_at 9 rfl (by decide) (hN.out 9 rfl)
                      simp only [e9] at hK ⊢
                      go_simp
                      exact hK.out _ _ (hS.val rfl (noStore_of rfl) (Below.refl _ _) rfl)
                    · intro L s w9 hN hU hi hS K hK
                      dsimp only at hK ⊢
                      simp only [Act.put, List.setIfInBounds_toArray, List.set_cons_zero, List.set_cons_succ] at hK
                      have e12 : s 12 = .bool true := hS.val_at 12 rfl (by decide) (hN.out 12 rfl)
                      simp only [e12] at hK ⊢
                      have e9 : s 9 = .bool false := hS.val_at 9 rfl (by decide) (hN.out 9 rfl)
                      simp only [e9] at hK ⊢
                      go_simp
                      exact hK.out _ _ (hS.val rfl (noStore_of rfl) (Below.refl _ _) rfl)
                    · intro L s w9 hN hU hi hS K hK
                      dsimp only at hK ⊢
                      simp only [Act.put, List.setIfInBounds_toArray, List.set_cons_zero, List.set_cons_succ] at hK
                      have e13 : s 13 = .bool true := hS.val_at 13 rfl (by decide) (hN.out 13 rfl)
                      simp only [e13] at hK ⊢
                      go_simp
                      exact hK.out _ _ (hS.val rfl (noStore_of rfl) (Below.refl _ _) rfl)
                    · intro L s w9 hN hU hi hS K hK
                      dsimp only at hK ⊢
                      simp only [Act.put, List.setIfInBounds_toArray, List.set_cons_zero, List.set_cons_succ] at hK
                      have e14 : s 14 = .pointer (some ⟨g, 0, none⟩) := hS.val_at 14 rfl (by decide) (hN.out 14 rfl)
                      simp only [e14] at hK ⊢
                      have e13 : s 13 = .bool true := hS.val_at 13 rfl (by decide) (hN.out 13 rfl)
                      simp only [e13] at hK ⊢
                      go_simp
                      go_at_call 116
                      refine (kind_out rfl T6.ps hS.mem.bel).mono ?_
                      rintro e9 w10 ⟨rfl, q⟩
                      exact hK.out _ _ (hS.val rfl (noStore_of rfl) q rfl)
                    · intro L s w9 hN hU hi hS K hK
                      dsimp only at hK ⊢
                      simp only [Act.put, List.setIfInBounds_toArray, List.set_cons_zero, List.set_cons_succ] at hK
                      have e15 : s 15 = .int .i64 (kindP l6) := hS.val_at 15 rfl (by decide) (hN.out 15 rfl)
                      simp only [e15] at hK ⊢
                      have e13 : s 13 = .bool true := hS.val_at 13 rfl (by decide) (hN.out 13 rfl)
                      simp only [e13] at hK ⊢
                      go_simp
                      exact hK.out _ _ (hS.val rfl (noStore_of rfl) (Below.refl _ _) rfl)
                    · intro L s w9 hN hU hi hS K hK
                      dsimp only at hK ⊢
                      simp only [Act.put, List.setIfInBounds_toArray, List.set_cons_zero, List.set_cons_succ] at hK
                      have e13 : s 13 = .bool true := hS.val_at 13 rfl (by decide) (hN.out 13 rfl)
                      simp only [e13] at hK ⊢
                      have e16 : s 16 = .bool (kindP l6 != 2) := hS.val_at 16 rfl (by decide) (hN.out 16 rfl)
                      simp only [e16] at hK ⊢
                      have e9 : s 9 = .bool false := hS.val_at 9 rfl (by decide) (hN.out 9 rfl)
                      simp only [e9] at hK ⊢
                      go_simp
                      exact hK.out _ _ (hS.val rfl (noStore_of rfl) (Below.refl _ _) rfl)
                    · intro L s w9 hN hU hi hS K hK
                      dsimp only at hK ⊢
                      simp only [Act.put, List.setIfInBounds_toArray, List.set_cons_zero, List.set_cons_succ] at hK
                      have e9 : s 9 = .bool false := hS.val_at 9 rfl (by decide) (hN.out 9 rfl)
                      simp only [e9] at hK ⊢
                      have e17 : s 17 = .bool (kindP l6 != 2) := hS.val_at 17 rfl (by decide) (hN.out 17 rfl)
                      simp only [e17] at hK ⊢
                      go_simp
                      exact hK.out _ _ (hS.val rfl (noStore_of rfl) (Below.refl _ _) rfl)
                  intro L s w9 hall hS
                  have eF : s 18 = .bool (kindP l6 != 2) := hS.val_at 18 rfl (by decide) (hall 18 (by decide))
                  rw [HK2.out] at eF
                  have TR := T6.call (below_gr hS.mem.bel _) (T6.ps.below hS.mem.bel)
                  clear hS
                  generalize s 18 = u18 at eF ⊢
                  subst eF
                  go_wp2_with fail
                  refine (wrong_any TR.ps).mono ?_
                  rintro e w11 ⟨rfl, q11⟩
                  go_wp2_with fail
                  refine ⟨rfl, grown_tr TR.gr q11, Or.inr ⟨_, _, ?_, rfl⟩⟩
                  refine H6.out.trans ?_
                  simp only [fitsP, HT1.out, HT2.out, HK3.out, if_true, Bool.true_or, Bool.or_true, Bool.false_or, Bool.or_false, Bool.or_self, Bool.false_eq_true, if_false, Bool.not_true, Bool.not_false, Bool.false_and, Bool.true_and]
                  rfl
                | false =>
                  have hK3 : decide (kindP l6 = 2) = true := by simpa using hK2
                  have HK2 := Lib.hid hK2
                  have HK3 := Lib.hid hK3
                  clear hT1 hT2 hK2 hK3
                  have M : Mem w6 w6 [(wA.heap.size, 47, icells _ _ _)] [] := (Mem.start w6).addK T6.it
                  refine region_st (n := 19) (frame := ?frame7) (fun jK => [.val (.fix (.pointer (some ⟨(wA.heap.size), 2, none⟩))), .val (.fix (.bool false)), .val (.fix (.pointer (some ⟨g, 0, none⟩))), .val (.fix (.bool false)), .val (.fix (.bool false)), .val (.fix (.pointer (some ⟨g, 0, none⟩))), .val (.fix (.bool false)), .val (.fix (.bool false)), .val (.fix (.bool false)), .val (.fix (.bool false)), .val (.fix (.pointer (some ⟨(wA.heap.size), 2, none⟩))), .val (.fix (.bool false)), .val (.fix (.bool true)), .val (.fix (.bool true)), .val (.fix (.pointer (some ⟨g, 0, none⟩))), .val (.fix (.int .i64 (kindP l6))), .val (.fix (.bool (kindP l6 != 2))), .val (.fix (.bool (kindP l6 != 2))), .val (.fix (.bool (kindP l6 != 2)))].getD jK .none) [] (by kernel_rfl) (by kernel_rfl) (by kernel_rfl) rfl M (fun _ h => by cases h) (fun _ h => by cases h) ?_ ?_ ?_
                  case refine_1 =>
                    intro s
                    simp only [fr, Act.put, List.append_eq, List.cons_append, List.nil_append, List.setIfInBounds_toArray, List.set_cons_zero, List.set_cons_succ, Nat.reduceAdd]
                    rfl
                  case refine_2 =>
                    refine Steps.cons 0 (j := 1) rfl ?_ (Steps.cons 1 (j := 2) rfl ?_ (Steps.cons 2 (j := 3) rfl ?_ (Steps.cons 3 (j := 4) rfl ?_ (Steps.cons 4 (j := 5) rfl ?_ (Steps.cons 5 (j := 6) rfl ?_ (Steps.cons 6 (j := 7) rfl ?_ (Steps.cons 7 (j := 8) rfl ?_ (Steps.cons 8 (j := 9) rfl ?_ (Steps.cons 9 (j := 10) rfl ?_ (Steps.cons 10 (j := 11) rfl ?_ (Steps.cons 11 (j := 12) rfl ?_ (Steps.cons 12 (j := 13) rfl ?_ (Steps.cons 13 (j := 14) rfl ?_ (Steps.cons 14 (j := 15) rfl ?_ (Steps.cons 15 (j := 16) rfl ?_ (Steps.cons 16 (j := 17) rfl ?_ (Steps.cons 17 (j := 18) rfl ?_ (Steps.cons 18 (j := 19) rfl ?_ Steps.nil))))))))))))))))))
                    · intro L s w9 hN hU hi hS K hK
                      dsimp only at hK ⊢
                      simp only [Act.put, List.setIfInBounds_toArray, List.set_cons_zero, List.set_cons_succ] at hK
                      go_simp
                      exact hK.out _ _ (hS.val rfl (noStore_of rfl) (Below.refl _ _) rfl)
                    · intro L s w9 hN hU hi hS K hK
                      dsimp only at hK ⊢
                      simp only [Act.put, List.setIfInBounds_toArray, List.set_cons_zero, List.set_cons_succ] at hK
                      have e0 : s 0 = .pointer (some ⟨(wA.heap.size), 2, none⟩) := hS.val_at 0 rfl (by decide) (hN.out 0 rfl)
                      simp only [e0] at hK ⊢
                      obtain ⟨u1, u2, u3, u4, u5, u6, u7, u8⟩ := Blk.eight (hS.mem.k (i := 0) rfl)
                      go_simp
                      exact hK.out _ _ (hS.val rfl (noStore_of rfl) (Below.refl _ _) rfl)
                    · intro L s w9 hN hU hi hS K hK
                      dsimp only at hK ⊢
                      simp only [Act.put, List.setIfInBounds_toArray, List.set_cons_zero, List.set_cons_succ] at hK
                      go_simp
                      exact hK.out _ _ (hS.val rfl (noStore_of rfl) (Below.refl _ _) rfl)
                    · intro L s w9 hN hU hi hS K hK
                      dsimp only at hK ⊢
                      simp only [Act.put, List.setIfInBounds_toArray, List.set_cons_zero, List.set_cons_succ] at hK
                      have e2 : s 2 = .pointer (some ⟨g, 0, none⟩) := hS.val_at 2 rfl (by decide) (hN.out 2 rfl)
                      simp only [e2] at hK ⊢
                      go_simp
                      go_at_call 75
                      refine (is_out (s := wTrue) HT1.out T6.ps hS.mem.bel).mono ?_
                      rintro e9 w10 ⟨rfl, q⟩
                      exact hK.out _ _ (hS.val rfl (noStore_of rfl) q rfl)
                    · intro L s w9 hN hU hi hS K hK
                      dsimp only at hK ⊢
                      simp only [Act.put, List.setIfInBounds_toArray, List.set_cons_zero, List.set_cons_succ] at hK
                      have e3 : s 3 = .bool false := hS.val_at 3 rfl (by decide) (hN.out 3 rfl)
                      simp only [e3] at hK ⊢
                      go_simp
                      exact hK.out _ _ (hS.val rfl (noStore_of rfl) (Below.refl _ _) rfl)
                    · intro L s w9 hN hU hi hS K hK
                      dsimp only at hK ⊢
                      simp only [Act.put, List.setIfInBounds_toArray, List.set_cons_zero, List.set_cons_succ] at hK
                      have e4 : s 4 = .bool false := hS.val_at 4 rfl (by decide) (hN.out 4 rfl)
                      simp only [e4] at hK ⊢
                      go_simp
                      exact hK.out _ _ (hS.val rfl (noStore_of rfl) (Below.refl _ _) rfl)
                    · intro L s w9 hN hU hi hS K hK
                      dsimp only at hK ⊢
                      simp only [Act.put, List.setIfInBounds_toArray, List.set_cons_zero, List.set_cons_succ] at hK
                      have e5 : s 5 = .pointer (some ⟨g, 0, none⟩) := hS.val_at 5 rfl (by decide) (hN.out 5 rfl)
                      simp only [e5] at hK ⊢
                      have e4 : s 4 = .bool false := hS.val_at 4 rfl (by decide) (hN.out 4 rfl)
                      simp only [e4] at hK ⊢
                      go_simp
                      go_at_call 75
                      refine (is_out (s := wFalse) HT2.out T6.ps hS.mem.bel).mono ?_
                      rintro e9 w10 ⟨rfl, q⟩
                      exact hK.out _ _ (hS.val rfl (noStore_of rfl) q rfl)
                    · intro L s w9 hN hU hi hS K hK
                      dsimp only at hK ⊢
                      simp only [Act.put, List.setIfInBounds_toArray, List.set_cons_zero, List.set_cons_succ] at hK
                      have e4 : s 4 = .bool false := hS.val_at 4 rfl (by decide) (hN.out 4 rfl)
                      simp only [e4] at hK ⊢
                      have e6 : s 6 = .bool false := hS.val_at 6 rfl (by decide) (hN.out 6 rfl)
                      simp only [e6] at hK ⊢
                      go_simp
                      exact hK.out _ _ (hS.val rfl (noStore_of rfl) (Below.refl _ _) rfl)
                    · intro L s w9 hN hU hi hS K hK
                      dsimp only at hK ⊢
                      simp only [Act.put, List.setIfInBounds_toArray, List.set_cons_zero, List.set_cons_succ] at hK
                      have e1 : s 1 = .bool false := hS.val_at 1 rfl (by decide) (hN.out 1 rfl)
                      simp only [e1] at hK ⊢
                      have e7 : s 7 = .bool false := hS.val_at 7 rfl (by decide) (hN.out 7 rfl)
                      simp only [e7] at hK ⊢
                      go_simp
                      exact hK.out _ _ (hS.val rfl (noStore_of rfl) (Below.refl _ _) rfl)
                    · intro L s w9 hN hU hi hS K hK
                      dsimp only at hK ⊢
                      simp only [Act.put, List.setIfInBounds_toArray, List.set_cons_zero, List.set_cons_succ] at hK
                      have e8 : s 8 = .bool false := hS.val_at 8 rfl (by decide) (hN.out 8 rfl)
                      simp only [e8] at hK ⊢
                      go_simp
                      exact hK.out _ _ (hS.val rfl (noStore_of rfl) (Below.refl _ _) rfl)
                    · intro L s w9 hN hU hi hS K hK
                      dsimp only at hK ⊢
                      simp only [Act.put, List.setIfInBounds_toArray, List.set_cons_zero, List.set_cons_succ] at hK
                      have e9 : s 9 = .bool false := hS.val_at 9 rfl (by decide) (hN.out 9 rfl)
                      simp only [e9] at hK ⊢
                      go_simp
                      exact hK.out _ _ (hS.val rfl (noStore_of rfl) (Below.refl _ _) rfl)
                    · intro L s w9 hN hU hi hS K hK
                      dsimp only at hK ⊢
                      simp only [Act.put, List.setIfInBounds_toArray, List.set_cons_zero, List.set_cons_succ] at hK
                      have e10 : s 10 = .pointer (some ⟨(wA.heap.size), 2, none⟩) := hS.val_at 10 rfl (by decide) (hN.out 10 rfl)
                      simp only [e10] at hK ⊢
                      have e9 : s 9 = .bool false := hS.val_at 9 rfl (by decide) (hN.out 9 rfl)
                      simp only [e9] at hK ⊢
                      obtain ⟨u1, u2, u3, u4, u5, u6, u7, u8⟩ := Blk.eight (hS.mem.k (i := 0) rfl)
                      go_simp
                      exact hK.out _ _ (hS.val rfl (noStore_of rfl) (Below.refl _ _) rfl)
                    · intro L s w9 hN hU hi hS K hK
                      dsimp only at hK ⊢
                      simp only [Act.put, List.setIfInBounds_toArray, List.set_cons_zero, List.set_cons_succ] at hK
                      have e11 : s 11 = .bool false := hS.val_at 11 rfl (by decide) (hN.out 11 rfl)
                      simp only [e11] at hK ⊢
                      have e9 : s 9 = .bool false := hS.val_at 9 rfl (by decide) (hN.out 9 rfl)
                      simp only [e9] at hK ⊢
                      go_simp
                      exact hK.out _ _ (hS.val rfl (noStore_of rfl) (Below.refl _ _) rfl)
                    · intro L s w9 hN hU hi hS K hK
                      dsimp only at hK ⊢
                      simp only [Act.put, List.setIfInBounds_toArray, List.set_cons_zero, List.set_cons_succ] at hK
                      have e12 : s 12 = .bool true := hS.val_at 12 rfl (by decide) (hN.out 12 rfl)
                      simp only [e12] at hK ⊢
                      have e9 : s 9 = .bool false := hS.val_at 9 rfl (by decide) (hN.out 9 rfl)
                      simp only [e9] at hK ⊢
                      go_simp
                      exact hK.out _ _ (hS.val rfl (noStore_of rfl) (Below.refl _ _) rfl)
                    · intro L s w9 hN hU hi hS K hK
                      dsimp only at hK ⊢
                      simp only [Act.put, List.setIfInBounds_toArray, List.set_cons_zero, List.set_cons_succ] at hK
                      have e13 : s 13 = .bool true := hS.val_at 13 rfl (by decide) (hN.out 13 rfl)
                      simp only [e13] at hK ⊢
                      go_simp
                      exact hK.out _ _ (hS.val rfl (noStore_of rfl) (Below.refl _ _) rfl)
                    · intro L s w9 hN hU hi hS K hK
                      dsimp only at hK ⊢
                      simp only [Act.put, List.setIfInBounds_toArray, List.set_cons_zero, List.set_cons_succ] at hK
                      have e14 : s 14 = .pointer (some ⟨g, 0, none⟩) := hS.val_at 14 rfl (by decide) (hN.out 14 rfl)
                      simp only [e14] at hK ⊢
                      have e13 : s 13 = .bool true := hS.val_at 13 rfl (by decide) (hN.out 13 rfl)
                      simp only [e13] at hK ⊢
                      go_simp
                      go_at_call 116
                      refine (kind_out rfl T6.ps hS.mem.bel).mono ?_
                      rintro e9 w10 ⟨rfl, q⟩
                      exact hK.out _ _ (hS.val rfl (noStore_of rfl) q rfl)
                    · intro L s w9 hN hU hi hS K hK
                      dsimp only at hK ⊢
                      simp only [Act.put, List.setIfInBounds_toArray, List.set_cons_zero, List.set_cons_succ] at hK
                      have e15 : s 15 = .int .i64 (kindP l6) := hS.val_at 15 rfl (by decide) (hN.out 15 rfl)
                      simp only [e15] at hK ⊢
                      have e13 : s 13 = .bool true := hS.val_at 13 rfl (by decide) (hN.out 13 rfl)
                      simp only [e13] at hK ⊢
                      go_simp
                      exact hK.out _ _ (hS.val rfl (noStore_of rfl) (Below.refl _ _) rfl)
                    · intro L s w9 hN hU hi hS K hK
                      dsimp only at hK ⊢
                      simp only [Act.put, List.setIfInBounds_toArray, List.set_cons_zero, List.set_cons_succ] at hK
                      have e13 : s 13 = .bool true := hS.val_at 13 rfl (by decide) (hN.out 13 rfl)
                      simp only [e13] at hK ⊢
                      have e16 : s 16 = .bool (kindP l6 != 2) := hS.val_at 16 rfl (by decide) (hN.out 16 rfl)
                      simp only [e16] at hK ⊢
                      have e9 : s 9 = .bool false := hS.val_at 9 rfl (by decide) (hN.out 9 rfl)
                      simp only [e9] at hK ⊢
                      go_simp
                      exact hK.out _ _ (hS.val rfl (noStore_of rfl) (Below.refl _ _) rfl)
                    · intro L s w9 hN hU hi hS K hK
                      dsimp only at hK ⊢
                      simp only [Act.put, List.setIfInBounds_toArray, List.set_cons_zero, List.set_cons_succ] at hK
                      have e9 : s 9 = .bool false := hS.val_at 9 rfl (by decide) (hN.out 9 rfl)
                      simp only [e9] at hK ⊢
                      have e17 : s 17 = .bool (kindP l6 != 2) := hS.val_at 17 rfl (by decide) (hN.out 17 rfl)
                      simp only [e17] at hK ⊢
                      go_simp
                      exact hK.out _ _ (hS.val rfl (noStore_of rfl) (Below.refl _ _) rfl)
                  intro L s w9 hall hS
                  have eF : s 18 = .bool (kindP l6 != 2) := hS.val_at 18 rfl (by decide) (hall 18 (by decide))
                  rw [HK2.out] at eF
                  have TR := T6.call (below_gr hS.mem.bel _) (T6.ps.below hS.mem.bel)
                  clear hS
                  generalize s 18 = u18 at eF ⊢
                  subst eF
                  go_wp2_with fail
                  refine (plain_any TR.ps).mono ?_
                  rintro e w10 ⟨q10, ⟨x, l10, e10, h10, v, rfl, hx, rfl⟩ | ⟨c10, l10, e10, rfl⟩⟩
                  · have T10 := TR.call q10 h10
                    have T11 := T10.alloc (.cells #[.int .i64 x.k, .int .i64 x.n, .string ⟨x.s.toArray⟩, .slice none 0 0] 102)
                    obtain ⟨z1, z2, z3⟩ := T10.lt
                    have T12 := T11.put (V' := .slice (some ⟨w10.heap.size, 0, none⟩) 1 1) (xs := [x]) (row_one (Blk.new ..) hx ⟨z3, by simp, by omega, by omega⟩)
                    have hW : (w10.alloc (.cells #[.int .i64 x.k, .int .i64 x.n, .string ⟨x.s.toArray⟩, .slice none 0 0] 102)).setCell ⟨wA.heap.size, 6, none⟩ (.slice (some ⟨w10.heap.size, 0, none⟩) 1 1) = (w10.setCell ⟨wA.heap.size, 6, none⟩ (.slice (some ⟨w10.heap.size, 0, none⟩) 1 1)).alloc (.cells #[.int .i64 x.k, .int .i64 x.n, .string ⟨x.s.toArray⟩, .slice none 0 0] 102) := setCell_alloc z2 _ _ _
                    rw [hW] at T12
                    obtain ⟨k0, k1, k2, k3, k4, k5, k6, k7⟩ := Blk.eight T12.it
                    have k8 := T11.it.frozen 6
                    have k9 : (w10.alloc (.cells #[.int .i64 x.k, .int .i64 x.n, .string ⟨x.s.toArray⟩, .slice none 0 0] 102)).cell? ⟨wA.heap.size, 6, none⟩ = some (.slice none 0 0) := T11.cell 6
                    go_wp2_with ((with_reducible show wpList _ _ _ (Oper.mk none (Op.store _ _ _) _ _ _ _ :: _) _ _); refine wp_put (o := ⟨none, .store _ _ _, _, _, _, _⟩) _ _ T12.res rfl rfl rfl rfl info_it rfl rfl ?_; intro w20 b20 q20)
                    obtain ⟨r0, r1, r2, r3, r4, r5, r6, r7⟩ := b20.eight
                    refine bodyPost_ret (v := .agg (icells _ _ _)) (by simp [results, Tryz.results76, go_sem, r0, r1, r2, r3, r4, r5, r6, r7]; rfl) rfl (T12.done q20 ?_ rfl)
                    refine H6.out.trans ?_
                    simp only [fitsP, HT1.out, HT2.out, HK3.out, if_true, Bool.true_or, Bool.or_true, Bool.false_or, Bool.or_false, Bool.or_self, Bool.false_eq_true, if_false, Bool.not_true, Bool.not_false, Bool.false_and, Bool.true_and, pbind, e10, pret]
                  · go_wp2_with fail
                    refine ⟨rfl, grown_tr TR.gr q10, Or.inr ⟨c10, l10, ?_, rfl⟩⟩
                    refine H6.out.trans ?_
                    simp only [fitsP, HT1.out, HT2.out, HK3.out, if_true, Bool.true_or, Bool.or_true, Bool.false_or, Bool.or_false, Bool.or_self, Bool.false_eq_true, if_false, Bool.not_true, Bool.not_false, Bool.false_and, Bool.true_and, pbind, e10]
        · have e6' := Lib.hid (show takeP [61] l3 = .bad c6 l6 from e6)
          clear e6
          go_wp2_with fail
          refine ⟨rfl, grown_tr T4.gr q6, Or.inr ⟨c6, l6, ?_, rfl⟩⟩
          exact H3.out.trans (pbind_bad e6'.out)
      · have e3' := Lib.hid (show nameP l1 = .bad c3 l3 from e3)
        clear e3
        go_wp2_with fail
        refine ⟨rfl, grown_tr T1.gr q3, Or.inr ⟨c3, l3, ?_, rfl⟩⟩
        exact H1.out.trans (pbind_bad e3'.out)
    · have e1' := Lib.hid (show takeP [58] lA = .bad c1 l1 from e1)
      clear e1
      go_wp2_with fail
      refine ⟨rfl, grown_tr T0.gr q1, Or.inr ⟨c1, l1, ?_, rfl⟩⟩
      exact H0.out.trans (pbind_bad e1'.out)
  · go_wp2_with fail
    exact ⟨rfl, grown_tr q0 qA, Or.inr ⟨cA, lA, by simp only [parP, pbind, eA], rfl⟩⟩
end Go.Proofs.YtpfhgkielakmoaaGreatDoor
