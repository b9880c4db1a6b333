/-
  The walks of the laws RatioMakes and RatioRounds.
-/
import Derived.Test.YtdhikpfppbcjkaaQi
set_option linter.unusedSimpArgs false
set_option linter.unusedVariables false
namespace Go.Proofs.Ytdhikpfppbcjkaa
open Go.RowKit Num

theorem fitQ_len (q : Rat) : (fitQ q).2.1.length ≤ 64 ∧ (fitQ q).2.2.2.1.length ≤ 64 := by
  unfold fitQ
  split
  · rename_i h
    exact h
  · exact ⟨Nat.zero_le _, Nat.zero_le _⟩
theorem qmakeR_len (n m : Bool) (xs ys : List Nat) : (qmakeR n xs m ys).2.1.length ≤ 64 ∧ (qmakeR n xs m ys).2.2.2.1.length ≤ 64 := by
  unfold qmakeR
  split
  · exact fitQ_len _
  · exact ⟨Nat.zero_le _, Nat.zero_le _⟩
theorem sD_i64Q {z : Int} (h : -9223372036854775808 ≤ z) (h' : z ≤ 9223372036854775807) : (sD z).length ≤ 1000000 := Nat.le_trans (sD_small (k := 2) (by omega)) (by decide)
theorem qmake_eq {n m : Bool} {A B : Option Addr} {c d : Nat} {xs ys : List Nat} {w : World} {r : R5} (hr : qmakeR n xs m ys = r) (ha : Rd w A c xs) (hb : Rd w B d ys) :
    Calls Try.prog 13 #[iv n A xs.length c, iv m B ys.length d] w fun e w' => RetQE w w' e r := by
  subst hr
  exact qmake_any ha hb
set_option maxRecDepth 100000 in
set_option maxHeartbeats 4000000 in
theorem ratioMakes_use (w : World) (n : Bool) (A : Option Addr) (c : Nat) (xs : List Nat) (ha : Rd w A c xs) (m : Bool) (B : Option Addr) (d : Nat) (ys : List Nat) (hb : Rd w B d ys) (z : Int) (hz : (Lit.int .i64 z).wf = true) :
    Calls Try.prog 3 #[rv n A xs.length c m B ys.length d, .int .i64 z] w fun e w' => e = .returned (.bool true) ∧ Below w.heap.size w w' := by
  obtain ⟨z1, z2⟩ := bounds_i64 hz
  clear hz
  have M : Mem w (w.alloc (.cells #[.bool n, .slice A xs.length c, .bool m, .slice B ys.length d] 26)) [(w.heap.size, 26, #[.bool n, .slice A xs.length c, .bool m, .slice B ys.length d])] [(B, d, ys), (A, c, xs)] :=
    ((((Mem.start w).addR ha).addR hb).new 26 #[.bool n, .slice A xs.length c, .bool m, .slice B ys.length d])
  have ox := ha.ok
  have oy := hb.ok
  clear ha hb
  by_cases hf : xs.length ≤ 8 ∧ ys.length ≤ 8
  case neg =>
    have HF : Hid (decide (xs.length ≤ 8 ∧ ys.length ≤ 8) = false) := decide_eq_false hf
    clear hf
    go_enter Try.func3, Try.ntmps3
    go_wp2_with fail
    refine (qalive_any _).mono ?_
    rintro e y1 ⟨rfl, q⟩
    replace M := M.below q
    clear q
    obtain ⟨v1, v2, v3, v4⟩ := (M.k (i := 0) rfl).four
    go_wp2_with fail
    refine (few4_1 rfl).mono ?_
    rw [HF.out]
    rintro e y2 ⟨rfl, q⟩
    replace M := M.below q
    clear q v1 v2 v3 v4
    go_wp2
    go_ret
    exact ⟨rfl, M.bel⟩
  have HF : Hid (decide (xs.length ≤ 8 ∧ ys.length ≤ 8) = true) := decide_eq_true hf
  obtain ⟨hf1, hf2⟩ := hf
  have hl := qmakeR_len n m xs ys
  generalize hr : qmakeR n xs m ys = r at hl
  obtain ⟨r1, r2, r3, r4, r5⟩ := r
  have HR := Lib.hid hr
  have HL1 : Hid (r2.length ≤ 1000000) := Nat.le_trans hl.1 (by decide)
  have HL2 : Hid (r4.length ≤ 1000000) := Nat.le_trans hl.2 (by decide)
  have HL3 : Hid ((sD z).length ≤ 1000000) := sD_i64Q z1 z2
  clear hr hl ox oy
  go_enter Try.func3, Try.ntmps3
  go_wp2_with fail
  refine (qalive_any _).mono ?_
  rintro e y1 ⟨rfl, q⟩
  replace M := M.below q
  clear q
  obtain ⟨v1, v2, v3, v4⟩ := (M.k (i := 0) rfl).four
  go_wp2_with fail
  refine (few4_1 rfl).mono ?_
  rw [HF.out]
  rintro e y2 ⟨rfl, q⟩
  replace M := M.below q
  clear q v1 v2 v3 v4
  go_upto_region 5 with fail
  go_cut [5, 6] (fun s5 s6 wx => ∃ (g5 : Nat) (A5 B5 : Option Addr) (c5 d5 : Nat), s5 = .pointer (some ⟨g5, 0, none⟩) ∧ s6 = .int .i64 r5 ∧ Mem w wx [(g5, 31, #[.bool r1, .slice A5 r2.length c5, .bool r3, .slice B5 r4.length d5]), (w.heap.size, 26, #[.bool n, .slice A xs.length c, .bool m, .slice B ys.length d])] [(A5, c5, r2), (B5, d5, r4), (B, d, ys), (A, c, xs)])
  case first =>
    refine region_st (n := 13) (frame := ?frame1) (fun j => [.val (.fix (.pointer (some ⟨w.heap.size, 0, none⟩))), .val (.fix (.agg #[.bool n, .slice A xs.length c])), .val (.fix (iv n A xs.length c)), .val (.fix (.pointer (some ⟨w.heap.size, 2, none⟩))), .val (.fix (.agg #[.bool m, .slice B ys.length d])), .val (.fix (iv m B ys.length d)), .val (.re (r1, r2, r3, r4, r5)), .val (.re (r1, r2, r3, r4, r5)), .val (.rat (r1) (r2) (r3) (r4)), .val (.fix (.int .i64 r5)), .cell 11 31 #[.bool false, .slice none 0 0, .bool false, .slice none 0 0] (.rat (r1) (r2) (r3) (r4)), .none, .val (.fix (.int .i64 r5))].getD j .none) [] (by kernel_rfl) (by kernel_rfl) (by kernel_rfl) rfl M (fun _ h => by cases h) (fun _ h => by cases h) ?_ ?_ ?_
    case refine_1 =>
      intro s
      simp only [fr, Act.put, List.append_eq, List.cons_append, List.nil_append, List.setIfInBounds_toArray, List.set_cons_zero, List.set_cons_succ, Nat.reduceAdd]
      rfl
    case refine_2 =>
      refine Steps.cons 0 (j := 1) rfl ?_ (Steps.cons 1 (j := 2) rfl ?_ (Steps.cons 2 (j := 3) rfl ?_ (Steps.cons 3 (j := 4) rfl ?_ (Steps.cons 4 (j := 5) rfl ?_ (Steps.cons 5 (j := 6) rfl ?_ (Steps.cons 6 (j := 7) rfl ?_ (Steps.cons 7 (j := 8) rfl ?_ (Steps.cons 8 (j := 9) rfl ?_ (Steps.cons 9 (j := 10) rfl ?_ (Steps.cons 10 (j := 11) rfl ?_ (Steps.cons 11 (j := 12) rfl ?_ (Steps.cons 12 (j := 13) rfl ?_ Steps.nil))))))))))))
      · intro L s w9 hN hU hi hS K hK
        dsimp only at hK ⊢
        simp only [Act.put, List.setIfInBounds_toArray, List.set_cons_zero, List.set_cons_succ] at hK
        go_simp
        exact hK.out _ _ (hS.val rfl rfl (Below.refl _ _) rfl)
      · intro L s w9 hN hU hi hS K hK
        dsimp only at hK ⊢
        simp only [Act.put, List.setIfInBounds_toArray, List.set_cons_zero, List.set_cons_succ] at hK
        have e0 : s 0 = .pointer (some ⟨w.heap.size, 0, none⟩) := hS.val_at 0 rfl (by decide) (hN.out 0 rfl)
        simp only [e0] at hK ⊢
        obtain ⟨u1, u2, u3, u4⟩ := (hS.mem.k (i := 0) rfl).four
        go_simp
        exact hK.out _ _ (hS.val rfl rfl (Below.refl _ _) rfl)
      · intro L s w9 hN hU hi hS K hK
        dsimp only at hK ⊢
        simp only [Act.put, List.setIfInBounds_toArray, List.set_cons_zero, List.set_cons_succ] at hK
        have e1 : s 1 = .agg #[.bool n, .slice A xs.length c] := hS.val_at 1 rfl (by decide) (hN.out 1 rfl)
        simp only [e1] at hK ⊢
        go_simp
        go_at_call 14
        refine (whole_any _ _ _ _ _).mono ?_
        rintro e9 w10 ⟨rfl, q⟩
        exact hK.out _ _ (hS.val rfl rfl q rfl)
      · intro L s w9 hN hU hi hS K hK
        dsimp only at hK ⊢
        simp only [Act.put, List.setIfInBounds_toArray, List.set_cons_zero, List.set_cons_succ] at hK
        go_simp
        exact hK.out _ _ (hS.val rfl rfl (Below.refl _ _) rfl)
      · intro L s w9 hN hU hi hS K hK
        dsimp only at hK ⊢
        simp only [Act.put, List.setIfInBounds_toArray, List.set_cons_zero, List.set_cons_succ] at hK
        have e3 : s 3 = .pointer (some ⟨w.heap.size, 2, none⟩) := hS.val_at 3 rfl (by decide) (hN.out 3 rfl)
        simp only [e3] at hK ⊢
        obtain ⟨u1, u2, u3, u4⟩ := (hS.mem.k (i := 0) rfl).four
        go_simp
        exact hK.out _ _ (hS.val rfl rfl (Below.refl _ _) rfl)
      · intro L s w9 hN hU hi hS K hK
        dsimp only at hK ⊢
        simp only [Act.put, List.setIfInBounds_toArray, List.set_cons_zero, List.set_cons_succ] at hK
        have e4 : s 4 = .agg #[.bool m, .slice B ys.length d] := hS.val_at 4 rfl (by decide) (hN.out 4 rfl)
        simp only [e4] at hK ⊢
        go_simp
        go_at_call 14
        refine (whole_any _ _ _ _ _).mono ?_
        rintro e9 w10 ⟨rfl, q⟩
        exact hK.out _ _ (hS.val rfl rfl q rfl)
      · intro L s w9 hN hU hi hS K hK
        dsimp only at hK ⊢
        simp only [Act.put, List.setIfInBounds_toArray, List.set_cons_zero, List.set_cons_succ] at hK
        have e2 : s 2 = iv n A xs.length c := hS.val_at 2 rfl (by decide) (hN.out 2 rfl)
        simp only [e2] at hK ⊢
        have e5 : s 5 = iv m B ys.length d := hS.val_at 5 rfl (by decide) (hN.out 5 rfl)
        simp only [e5] at hK ⊢
        go_simp
        go_at_call 13
        refine (qmake_eq HR.out (hS.mem.r (i := 1) rfl) (hS.mem.r (i := 0) rfl)).mono ?_
        rintro e9 w10 ⟨⟨A0, c0, B0, d0, rfl, h0, k0⟩, q⟩
        exact hK.out _ _ (hS.val rfl rfl q ⟨A0, c0, B0, d0, rfl, h0, k0⟩)
      · intro L s w9 hN hU hi hS K hK
        dsimp only at hK ⊢
        simp only [Act.put, List.setIfInBounds_toArray, List.set_cons_zero, List.set_cons_succ] at hK
        obtain ⟨A6, c6, B6, d6, e6, h6, k6⟩ := hS.val_at 6 rfl (by decide) (hN.out 6 rfl)
        simp only [e6] at hK ⊢
        go_simp
        exact hK.out _ _ (hS.val rfl rfl (Below.refl _ _) ⟨A6, c6, B6, d6, rfl, h6, k6⟩)
      · intro L s w9 hN hU hi hS K hK
        dsimp only at hK ⊢
        simp only [Act.put, List.setIfInBounds_toArray, List.set_cons_zero, List.set_cons_succ] at hK
        obtain ⟨A7, c7, B7, d7, e7, h7, k7⟩ := hS.val_at 7 rfl (by decide) (hN.out 7 rfl)
        simp only [e7] at hK ⊢
        go_simp
        exact hK.out _ _ (hS.val rfl rfl (Below.refl _ _) ⟨A7, c7, B7, d7, rfl, h7, k7⟩)
      · intro L s w9 hN hU hi hS K hK
        dsimp only at hK ⊢
        simp only [Act.put, List.setIfInBounds_toArray, List.set_cons_zero, List.set_cons_succ] at hK
        obtain ⟨A7, c7, B7, d7, e7, h7, k7⟩ := hS.val_at 7 rfl (by decide) (hN.out 7 rfl)
        simp only [e7] at hK ⊢
        go_simp
        exact hK.out _ _ (hS.val rfl rfl (Below.refl _ _) rfl)
      · intro L s w9 hN hU hi hS K hK
        dsimp only at hK ⊢
        simp only [Act.put, List.setIfInBounds_toArray, List.set_cons_zero, List.set_cons_succ] at hK
        go_simp
        exact hK.out _ _ (hS.new rfl rfl hi.out (fun _ => hU.out 11 _ rfl rfl) rfl)
      · intro L s w9 hN hU hi hS K hK
        dsimp only at hK ⊢
        simp only [Act.put, List.setIfInBounds_toArray, List.set_cons_zero, List.set_cons_succ] at hK
        obtain ⟨A8, c8, B8, d8, e8, h8, k8⟩ := hS.val_at 8 rfl (by decide) (hN.out 8 rfl)
        simp only [e8] at hK ⊢
        obtain ⟨g9, cs9, e9, l9, b9, n9, z9, _⟩ := hS.cell_at 10 rfl (by decide) (hN.out 10 rfl)
        obtain rfl := z9 hi.out
        simp only [e9] at hK ⊢
        refine ite_of rfl ?_
        refine wp_store_row _ _ _ rfl g9 _ rfl rfl _ _ b9 info_rat rfl (by rw [← Array.all_toList]; rfl) ?_
        simp only [Act.put]
        exact hK.out undef _ (hS.fill (u := undef) (c := .rat (r1) (r2) (r3) (r4)) rfl rfl (by decide) rfl (hN.out 10 rfl) hi.out e9 (setRow_grown _ _ _) (b9.row _) rfl ⟨A8, c8, B8, d8, rfl, h8, k8⟩)
      · intro L s w9 hN hU hi hS K hK
        dsimp only at hK ⊢
        simp only [Act.put, List.setIfInBounds_toArray, List.set_cons_zero, List.set_cons_succ] at hK
        have e9 : s 9 = .int .i64 r5 := hS.val_at 9 rfl (by decide) (hN.out 9 rfl)
        simp only [e9] at hK ⊢
        go_simp
        exact hK.out _ _ (hS.val rfl rfl (Below.refl _ _) rfl)
    intro L s w9 hall hS
    obtain ⟨g10, cs10, e10, l10, b10, n10, _, z10⟩ := hS.cell_at 10 rfl (by decide) (hall 10 (by decide))
    obtain ⟨A10, c10, B10, d10, rfl, h10, k10⟩ := z10 (hall 11 (by decide))
    rw [e10]
    have e12 := hS.val_at 12 rfl (by decide) (hall 12 (by decide))
    go_wp2_with fail
    go_meet
    exact ⟨_, A10, B10, c10, d10, rfl, e12, ((hS.mem.addR k10).addR h10).addK b10⟩
  case rest =>
    clear M
    obtain ⟨g5, A5, B5, c5, d5, rfl, rfl, M⟩ := hcut
    obtain ⟨v1, v2, v3, v4⟩ := (M.k (i := 1) rfl).four
    go_wp2_with fail
    refine (rqmake_any (M.r (i := 3) rfl) (M.r (i := 2) rfl)).mono ?_
    rw [HR.out]
    rintro e w6 ⟨⟨A7, c7, B7, d7, rfl, h, k⟩, q⟩
    replace M := (((M.below q).addR k).addR h).new 26 #[.bool r1, .slice A7 r2.length c7, .bool r3, .slice B7 r4.length d7]
    clear q h k v1 v2 v3 v4
    go_upto_region 7 with fail
    generalize hw6 : w6.heap.size = g7 at *
    generalize w6.alloc (.cells #[.bool r1, .slice A7 r2.length c7, .bool r3, .slice B7 r4.length d7] 26) = W at *
    refine region_st (n := 26) (frame := ?frame2) (fun j => [.val (.fix (.agg #[.bool n, .slice A xs.length c, .bool m, .slice B ys.length d])), .val (.fix (rv n A xs.length c m B ys.length d)), .val (.fix (.bool (qright n xs m ys))), .val (.fix (.agg #[.bool n, .slice A xs.length c, .bool m, .slice B ys.length d])), .val (.fix (.bool (qright n xs m ys))), .val (.fix (.bool true)), .val (.fix (.bool true)), .val (.fix (.agg #[.bool r1, .slice A5 r2.length c5, .bool r3, .slice B5 r4.length d5])), .val (.fix (rv r1 A5 r2.length c5 r3 B5 r4.length d5)), .val (.fix (.agg #[.bool r1, .slice A7 r2.length c7, .bool r3, .slice B7 r4.length d7])), .val (.fix (.bool true)), .val (.fix (.bool true)), .val (.fix (.bool true)), .val (.fix (.int .i64 r5)), .val (.fix (.int .i64 r5)), .val (.fix (.bool true)), .val (.fix (.bool true)), .val (.fix (.bool true)), .val (.fix (.int .i64 z)), .val (.rat ((sN z)) ((sD z)) (false) ([1])), .val (.rat ((sN z)) ((sD z)) (false) ([1])), .val (.fix (.int .i64 z)), .val (.rat ((sN z)) ((sD z)) (false) ([1])), .val (.fix (.bool true)), .val (.fix (.bool true)), .val (.fix (.bool true))].getD j .none) [] (by kernel_rfl) (by kernel_rfl) (by kernel_rfl) rfl M (fun _ h => by cases h) (fun _ h => by cases h) ?_ ?_ ?_
    case refine_1 =>
      intro s
      simp only [fr, Act.put, List.append_eq, List.cons_append, List.nil_append, List.setIfInBounds_toArray, List.set_cons_zero, List.set_cons_succ, Nat.reduceAdd]
      rfl
    case refine_2 =>
      refine Steps.cons 0 (j := 1) rfl ?_ (Steps.cons 1 (j := 2) rfl ?_ (Steps.cons 2 (j := 3) rfl ?_ (Steps.cons 3 (j := 4) rfl ?_ (Steps.cons 4 (j := 5) rfl ?_ (Steps.cons 5 (j := 6) rfl ?_ (Steps.cons 6 (j := 7) rfl ?_ (Steps.cons 7 (j := 8) rfl ?_ (Steps.cons 8 (j := 9) rfl ?_ (Steps.cons 9 (j := 10) rfl ?_ (Steps.cons 10 (j := 11) rfl ?_ (Steps.cons 11 (j := 12) rfl ?_ (Steps.cons 12 (j := 13) rfl ?_ (Steps.cons 13 (j := 14) rfl ?_ (Steps.cons 14 (j := 15) rfl ?_ (Steps.cons 15 (j := 16) rfl ?_ (Steps.cons 16 (j := 17) rfl ?_ (Steps.cons 17 (j := 18) rfl ?_ (Steps.cons 18 (j := 19) rfl ?_ (Steps.cons 19 (j := 20) rfl ?_ (Steps.cons 20 (j := 21) rfl ?_ (Steps.cons 21 (j := 22) rfl ?_ (Steps.cons 22 (j := 23) rfl ?_ (Steps.cons 23 (j := 24) rfl ?_ (Steps.cons 24 (j := 25) rfl ?_ (Steps.cons 25 (j := 26) rfl ?_ Steps.nil)))))))))))))))))))))))))
      · intro L s w9 hN hU hi hS K hK
        dsimp only at hK ⊢
        simp only [Act.put, List.setIfInBounds_toArray, List.set_cons_zero, List.set_cons_succ] at hK
        obtain ⟨u1, u2, u3, u4⟩ := (hS.mem.k (i := 2) rfl).four
        go_simp
        exact hK.out _ _ (hS.val rfl (noStore_of rfl) (Below.refl _ _) rfl)
      · intro L s w9 hN hU hi hS K hK
        dsimp only at hK ⊢
        simp only [Act.put, List.setIfInBounds_toArray, List.set_cons_zero, List.set_cons_succ] at hK
        have e0 : s 0 = .agg #[.bool n, .slice A xs.length c, .bool m, .slice B ys.length d] := hS.val_at 0 rfl (by decide) (hN.out 0 rfl)
        simp only [e0] at hK ⊢
        go_simp
        go_at_call 17
        refine (theirs4_any _ _ _ _ _ _ _ _ _).mono ?_
        rintro e9 w10 ⟨rfl, q⟩
        exact hK.out _ _ (hS.val rfl (noStore_of rfl) q rfl)
      · intro L s w9 hN hU hi hS K hK
        dsimp only at hK ⊢
        simp only [Act.put, List.setIfInBounds_toArray, List.set_cons_zero, List.set_cons_succ] at hK
        have e1 : s 1 = rv n A xs.length c m B ys.length d := hS.val_at 1 rfl (by decide) (hN.out 1 rfl)
        simp only [e1] at hK ⊢
        go_simp
        go_at_call 16
        refine (qright_any (hS.mem.r (i := 5) rfl) (hS.mem.r (i := 4) rfl)).mono ?_
        rintro e9 w10 ⟨rfl, q⟩
        exact hK.out _ _ (hS.val rfl (noStore_of rfl) q rfl)
      · intro L s w9 hN hU hi hS K hK
        dsimp only at hK ⊢
        simp only [Act.put, List.setIfInBounds_toArray, List.set_cons_zero, List.set_cons_succ] at hK
        obtain ⟨u1, u2, u3, u4⟩ := (hS.mem.k (i := 2) rfl).four
        go_simp
        exact hK.out _ _ (hS.val rfl (noStore_of rfl) (Below.refl _ _) rfl)
      · intro L s w9 hN hU hi hS K hK
        dsimp only at hK ⊢
        simp only [Act.put, List.setIfInBounds_toArray, List.set_cons_zero, List.set_cons_succ] at hK
        have e3 : s 3 = .agg #[.bool n, .slice A xs.length c, .bool m, .slice B ys.length d] := hS.val_at 3 rfl (by decide) (hN.out 3 rfl)
        simp only [e3] at hK ⊢
        go_simp
        go_at_call 18
        refine (rqright_any (hS.mem.r (i := 5) rfl) (hS.mem.r (i := 4) rfl)).mono ?_
        rintro e9 w10 ⟨rfl, q⟩
        exact hK.out _ _ (hS.val rfl (noStore_of rfl) q rfl)
      · intro L s w9 hN hU hi hS K hK
        dsimp only at hK ⊢
        simp only [Act.put, List.setIfInBounds_toArray, List.set_cons_zero, List.set_cons_succ] at hK
        have e2 : s 2 = .bool (qright n xs m ys) := hS.val_at 2 rfl (by decide) (hN.out 2 rfl)
        simp only [e2] at hK ⊢
        have e4 : s 4 = .bool (qright n xs m ys) := hS.val_at 4 rfl (by decide) (hN.out 4 rfl)
        simp only [e4] at hK ⊢
        go_simp
        exact hK.out _ _ (hS.val rfl (noStore_of rfl) (Below.refl _ _) rfl)
      · intro L s w9 hN hU hi hS K hK
        dsimp only at hK ⊢
        simp only [Act.put, List.setIfInBounds_toArray, List.set_cons_zero, List.set_cons_succ] at hK
        have e5 : s 5 = .bool true := hS.val_at 5 rfl (by decide) (hN.out 5 rfl)
        simp only [e5] at hK ⊢
        go_simp
        exact hK.out _ _ (hS.val rfl (noStore_of rfl) (Below.refl _ _) rfl)
      · intro L s w9 hN hU hi hS K hK
        dsimp only at hK ⊢
        simp only [Act.put, List.setIfInBounds_toArray, List.set_cons_zero, List.set_cons_succ] at hK
        have e6 : s 6 = .bool true := hS.val_at 6 rfl (by decide) (hN.out 6 rfl)
        simp only [e6] at hK ⊢
        obtain ⟨u1, u2, u3, u4⟩ := (hS.mem.k (i := 1) rfl).four
        go_simp
        exact hK.out _ _ (hS.val rfl (noStore_of rfl) (Below.refl _ _) rfl)
      · intro L s w9 hN hU hi hS K hK
        dsimp only at hK ⊢
        simp only [Act.put, List.setIfInBounds_toArray, List.set_cons_zero, List.set_cons_succ] at hK
        have e7 : s 7 = .agg #[.bool r1, .slice A5 r2.length c5, .bool r3, .slice B5 r4.length d5] := hS.val_at 7 rfl (by decide) (hN.out 7 rfl)
        simp only [e7] at hK ⊢
        have e6 : s 6 = .bool true := hS.val_at 6 rfl (by decide) (hN.out 6 rfl)
        simp only [e6] at hK ⊢
        go_simp
        go_at_call 20
        refine (ours4_any _ _ _ _ _ _ _ _ _).mono ?_
        rintro e9 w10 ⟨rfl, q⟩
        exact hK.out _ _ (hS.val rfl (noStore_of rfl) q rfl)
      · intro L s w9 hN hU hi hS K hK
        dsimp only at hK ⊢
        simp only [Act.put, List.setIfInBounds_toArray, List.set_cons_zero, List.set_cons_succ] at hK
        have e6 : s 6 = .bool true := hS.val_at 6 rfl (by decide) (hN.out 6 rfl)
        simp only [e6] at hK ⊢
        obtain ⟨u1, u2, u3, u4⟩ := (hS.mem.k (i := 0) rfl).four
        go_simp
        exact hK.out _ _ (hS.val rfl (noStore_of rfl) (Below.refl _ _) rfl)
      · intro L s w9 hN hU hi hS K hK
        dsimp only at hK ⊢
        simp only [Act.put, List.setIfInBounds_toArray, List.set_cons_zero, List.set_cons_succ] at hK
        have e8 : s 8 = rv r1 A5 r2.length c5 r3 B5 r4.length d5 := hS.val_at 8 rfl (by decide) (hN.out 8 rfl)
        simp only [e8] at hK ⊢
        have e9 : s 9 = .agg #[.bool r1, .slice A7 r2.length c7, .bool r3, .slice B7 r4.length d7] := hS.val_at 9 rfl (by decide) (hN.out 9 rfl)
        simp only [e9] at hK ⊢
        have e6 : s 6 = .bool true := hS.val_at 6 rfl (by decide) (hN.out 6 rfl)
        simp only [e6] at hK ⊢
        go_simp
        go_at_call 19
        refine (rqsame_self (hS.mem.r (i := 2) rfl) (hS.mem.r (i := 3) rfl) (hS.mem.r (i := 0) rfl) (hS.mem.r (i := 1) rfl) HL1.out HL2.out).mono ?_
        rintro e9 w10 ⟨rfl, q⟩
        exact hK.out _ _ (hS.val rfl (noStore_of rfl) q rfl)
      · intro L s w9 hN hU hi hS K hK
        dsimp only at hK ⊢
        simp only [Act.put, List.setIfInBounds_toArray, List.set_cons_zero, List.set_cons_succ] at hK
        have e6 : s 6 = .bool true := hS.val_at 6 rfl (by decide) (hN.out 6 rfl)
        simp only [e6] at hK ⊢
        have e10 : s 10 = .bool true := hS.val_at 10 rfl (by decide) (hN.out 10 rfl)
        simp only [e10] at hK ⊢
        go_simp
        exact hK.out _ _ (hS.val rfl (noStore_of rfl) (Below.refl _ _) rfl)
      · intro L s w9 hN hU hi hS K hK
        dsimp only at hK ⊢
        simp only [Act.put, List.setIfInBounds_toArray, List.set_cons_zero, List.set_cons_succ] at hK
        have e11 : s 11 = .bool true := hS.val_at 11 rfl (by decide) (hN.out 11 rfl)
        simp only [e11] at hK ⊢
        go_simp
        exact hK.out _ _ (hS.val rfl (noStore_of rfl) (Below.refl _ _) rfl)
      · intro L s w9 hN hU hi hS K hK
        dsimp only at hK ⊢
        simp only [Act.put, List.setIfInBounds_toArray, List.set_cons_zero, List.set_cons_succ] at hK
        have e12 : s 12 = .bool true := hS.val_at 12 rfl (by decide) (hN.out 12 rfl)
        simp only [e12] at hK ⊢
        go_simp
        exact hK.out _ _ (hS.val rfl (noStore_of rfl) (Below.refl _ _) rfl)
      · intro L s w9 hN hU hi hS K hK
        dsimp only at hK ⊢
        simp only [Act.put, List.setIfInBounds_toArray, List.set_cons_zero, List.set_cons_succ] at hK
        have e12 : s 12 = .bool true := hS.val_at 12 rfl (by decide) (hN.out 12 rfl)
        simp only [e12] at hK ⊢
        go_simp
        exact hK.out _ _ (hS.val rfl (noStore_of rfl) (Below.refl _ _) rfl)
      · intro L s w9 hN hU hi hS K hK
        dsimp only at hK ⊢
        simp only [Act.put, List.setIfInBounds_toArray, List.set_cons_zero, List.set_cons_succ] at hK
        have e13 : s 13 = .int .i64 r5 := hS.val_at 13 rfl (by decide) (hN.out 13 rfl)
        simp only [e13] at hK ⊢
        have e14 : s 14 = .int .i64 r5 := hS.val_at 14 rfl (by decide) (hN.out 14 rfl)
        simp only [e14] at hK ⊢
        have e12 : s 12 = .bool true := hS.val_at 12 rfl (by decide) (hN.out 12 rfl)
        simp only [e12] at hK ⊢
        go_simp
        exact hK.out _ _ (hS.val rfl (noStore_of rfl) (Below.refl _ _) rfl)
      · intro L s w9 hN hU hi hS K hK
        dsimp only at hK ⊢
        simp only [Act.put, List.setIfInBounds_toArray, List.set_cons_zero, List.set_cons_succ] at hK
        have e12 : s 12 = .bool true := hS.val_at 12 rfl (by decide) (hN.out 12 rfl)
        simp only [e12] at hK ⊢
        have e15 : s 15 = .bool true := hS.val_at 15 rfl (by decide) (hN.out 15 rfl)
        simp only [e15] at hK ⊢
        go_simp
        exact hK.out _ _ (hS.val rfl (noStore_of rfl) (Below.refl _ _) rfl)
      · intro L s w9 hN hU hi hS K hK
        dsimp only at hK ⊢
        simp only [Act.put, List.setIfInBounds_toArray, List.set_cons_zero, List.set_cons_succ] at hK
        have e16 : s 16 = .bool true := hS.val_at 16 rfl (by decide) (hN.out 16 rfl)
        simp only [e16] at hK ⊢
        go_simp
        exact hK.out _ _ (hS.val rfl (noStore_of rfl) (Below.refl _ _) rfl)
      · intro L s w9 hN hU hi hS K hK
        dsimp only at hK ⊢
        simp only [Act.put, List.setIfInBounds_toArray, List.set_cons_zero, List.set_cons_succ] at hK
        have e17 : s 17 = .bool true := hS.val_at 17 rfl (by decide) (hN.out 17 rfl)
        simp only [e17] at hK ⊢
        go_simp
        exact hK.out _ _ (hS.val rfl (noStore_of rfl) (Below.refl _ _) rfl)
      · intro L s w9 hN hU hi hS K hK
        dsimp only at hK ⊢
        simp only [Act.put, List.setIfInBounds_toArray, List.set_cons_zero, List.set_cons_succ] at hK
        have e18 : s 18 = .int .i64 z := hS.val_at 18 rfl (by decide) (hN.out 18 rfl)
        simp only [e18] at hK ⊢
        have e17 : s 17 = .bool true := hS.val_at 17 rfl (by decide) (hN.out 17 rfl)
        simp only [e17] at hK ⊢
        go_simp
        go_at_call 21
        refine (qof_any z _ z1 z2).mono ?_
        rintro e9 w10 ⟨⟨A0, c0, B0, d0, rfl, h0, k0⟩, q⟩
        exact hK.out _ _ (hS.val rfl (noStore_of rfl) q ⟨A0, c0, B0, d0, rfl, h0, k0⟩)
      · intro L s w9 hN hU hi hS K hK
        dsimp only at hK ⊢
        simp only [Act.put, List.setIfInBounds_toArray, List.set_cons_zero, List.set_cons_succ] at hK
        obtain ⟨A19, c19, B19, d19, e19, h19, k19⟩ := hS.val_at 19 rfl (by decide) (hN.out 19 rfl)
        simp only [e19] at hK ⊢
        have e17 : s 17 = .bool true := hS.val_at 17 rfl (by decide) (hN.out 17 rfl)
        simp only [e17] at hK ⊢
        go_simp
        go_at_call 20
        refine (ours4_any _ _ _ _ _ _ _ _ _).mono ?_
        rintro e9 w10 ⟨rfl, q⟩
        exact hK.out _ _ (hS.val rfl (noStore_of rfl) q ⟨A19, c19, B19, d19, rfl, h19.below q (Nat.le_refl _), k19.below q (Nat.le_refl _)⟩)
      · intro L s w9 hN hU hi hS K hK
        dsimp only at hK ⊢
        simp only [Act.put, List.setIfInBounds_toArray, List.set_cons_zero, List.set_cons_succ] at hK
        have e17 : s 17 = .bool true := hS.val_at 17 rfl (by decide) (hN.out 17 rfl)
        simp only [e17] at hK ⊢
        go_simp
        exact hK.out _ _ (hS.val rfl (noStore_of rfl) (Below.refl _ _) rfl)
      · intro L s w9 hN hU hi hS K hK
        dsimp only at hK ⊢
        simp only [Act.put, List.setIfInBounds_toArray, List.set_cons_zero, List.set_cons_succ] at hK
        have e21 : s 21 = .int .i64 z := hS.val_at 21 rfl (by decide) (hN.out 21 rfl)
        simp only [e21] at hK ⊢
        have e17 : s 17 = .bool true := hS.val_at 17 rfl (by decide) (hN.out 17 rfl)
        simp only [e17] at hK ⊢
        go_simp
        go_at_call 22
        refine (rqof_any z _ z1 z2).mono ?_
        rintro e9 w10 ⟨⟨A0, c0, B0, d0, rfl, h0, k0⟩, q⟩
        exact hK.out _ _ (hS.val rfl (noStore_of rfl) q ⟨A0, c0, B0, d0, rfl, h0, k0⟩)
      · intro L s w9 hN hU hi hS K hK
        dsimp only at hK ⊢
        simp only [Act.put, List.setIfInBounds_toArray, List.set_cons_zero, List.set_cons_succ] at hK
        obtain ⟨A20, c20, B20, d20, e20, h20, k20⟩ := hS.val_at 20 rfl (by decide) (hN.out 20 rfl)
        simp only [e20] at hK ⊢
        obtain ⟨A22, c22, B22, d22, e22, h22, k22⟩ := hS.val_at 22 rfl (by decide) (hN.out 22 rfl)
        simp only [e22] at hK ⊢
        have e17 : s 17 = .bool true := hS.val_at 17 rfl (by decide) (hN.out 17 rfl)
        simp only [e17] at hK ⊢
        go_simp
        go_at_call 19
        refine (rqsame_self h20 k20 h22 k22 HL3.out (by decide)).mono ?_
        rintro e9 w10 ⟨rfl, q⟩
        exact hK.out _ _ (hS.val rfl (noStore_of rfl) q rfl)
      · intro L s w9 hN hU hi hS K hK
        dsimp only at hK ⊢
        simp only [Act.put, List.setIfInBounds_toArray, List.set_cons_zero, List.set_cons_succ] at hK
        have e17 : s 17 = .bool true := hS.val_at 17 rfl (by decide) (hN.out 17 rfl)
        simp only [e17] at hK ⊢
        have e23 : s 23 = .bool true := hS.val_at 23 rfl (by decide) (hN.out 23 rfl)
        simp only [e23] at hK ⊢
        go_simp
        exact hK.out _ _ (hS.val rfl (noStore_of rfl) (Below.refl _ _) rfl)
      · intro L s w9 hN hU hi hS K hK
        dsimp only at hK ⊢
        simp only [Act.put, List.setIfInBounds_toArray, List.set_cons_zero, List.set_cons_succ] at hK
        have e24 : s 24 = .bool true := hS.val_at 24 rfl (by decide) (hN.out 24 rfl)
        simp only [e24] at hK ⊢
        go_simp
        exact hK.out _ _ (hS.val rfl (noStore_of rfl) (Below.refl _ _) rfl)
    intro L s w9 hall hS
    have eL : s 25 = .bool true := hS.val_at 25 rfl (by decide) (hall 25 (by decide))
    go_wp2
    refine bodyPost_ret (v := .bool true) (by simp [results, Try.results3, go_sem, eL]) rfl ⟨rfl, hS.mem.bel⟩
end Go.Proofs.Ytdhikpfppbcjkaa
