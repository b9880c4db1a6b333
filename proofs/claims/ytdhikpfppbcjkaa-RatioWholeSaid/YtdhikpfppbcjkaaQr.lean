/-
  The walk of the law RatioWhole.
-/
import Derived.Test.YtdhikpfppbcjkaaQn
set_option linter.unusedSimpArgs false
set_option linter.unusedVariables false
namespace Go.Proofs.Ytdhikpfppbcjkaa
open Go.RowKit Num

theorem sz_cast {a : Int} {k : Nat} (h : (sD a).length ≤ k) (hk : 1 ≤ k) : Sz (a : Rat) k := ⟨by rw [Rat.num_intCast]; exact h, by rw [Rat.den_intCast]; exact hk⟩
theorem small_i32 {a : Int} (h1 : -2147483648 ≤ a) (h2 : a ≤ 2147483647) : (sD a).length ≤ 1 := sD_small (k := 1) (by omega)
theorem cmpQ_int (a b : Int) : cmpQ (a : Rat) (b : Rat) = cmpZ a b := by
  unfold cmpQ cmpZ
  simp only [Rat.intCast_lt_intCast]
theorem ssmall_int {a : Int} (h1 : -9223372036854775808 ≤ a) (h2 : a ≤ 9223372036854775807) : ssmallR (sN a) (sD a) = (a, 0) := by
  have hl : (sD a).length ≤ 2 := sD_small (k := 2) (by omega)
  unfold ssmallR
  rw [if_pos (sright_sd (by omega)), sv_sd, if_pos ⟨h1, by omega⟩]
theorem whole_of {a b : Int} (ha : (sD a).length ≤ 1) (hb : (sD b).length ≤ 1) :
    qaddR (sN a) (sD a) false [1] (sN b) (sD b) false [1] = (sN (a + b), sD (a + b), false, [1], 0) ∧ qmulR (sN a) (sD a) false [1] (sN b) (sD b) false [1] = (sN (a * b), sD (a * b), false, [1], 0) ∧
    qcmpR (sN a) (sD a) false [1] (sN b) (sD b) false [1] = (cmpZ a b, 0) ∧ qfloorR (sN a) (sD a) false [1] = (sN a, sD a, 0) ∧ qceilR (sN a) (sD a) false [1] = (sN a, sD a, 0) := by
  have sa := sz_cast ha (Nat.le_refl _)
  have sb := sz_cast hb (Nat.le_refl _)
  have h1 := qadd_sz sa sb (by decide)
  have h2 := qmul_sz sa sb (by decide)
  have h3 := qcmp_sz sa sb (by decide) (by decide)
  have h4 := qfloor_sz sa (by decide)
  have h5 := qceil_sz sa (by decide)
  rw [← Rat.intCast_add, Rat.num_intCast, Rat.den_intCast, Rat.num_intCast, Rat.den_intCast, Rat.num_intCast, Rat.den_intCast] at h1
  rw [← Rat.intCast_mul, Rat.num_intCast, Rat.den_intCast, Rat.num_intCast, Rat.den_intCast, Rat.num_intCast, Rat.den_intCast] at h2
  rw [cmpQ_int, Rat.num_intCast, Rat.den_intCast, Rat.num_intCast, Rat.den_intCast] at h3
  rw [Rat.floor_intCast, Rat.num_intCast, Rat.den_intCast] at h4
  rw [Rat.ceil_intCast, Rat.num_intCast, Rat.den_intCast] at h5
  exact ⟨h1, h2, h3, h4, h5⟩
theorem mul_i64 {a b : Int} (h1 : -2147483648 ≤ a) (h2 : a ≤ 2147483647) (h3 : -2147483648 ≤ b) (h4 : b ≤ 2147483647) : -9223372036854775808 ≤ a * b ∧ a * b ≤ 9223372036854775807 := by
  have h : (a * b).natAbs ≤ 2147483648 * 2147483648 := by
    rw [Int.natAbs_mul]
    exact Nat.mul_le_mul (by omega) (by omega)
  omega
theorem bounds_i32 {n : Int} (h : (Lit.int .i32 n).wf = true) : -2147483648 ≤ n ∧ n ≤ 2147483647 := by
  simp [Lit.wf, IntKind.min, IntKind.max, IntKind.signed, IntKind.bits] at h
  omega
set_option maxRecDepth 100000 in
set_option maxHeartbeats 8000000 in
theorem ratioWhole_use (w : World) (a : Int) (ha : (Lit.int .i32 a).wf = true) (b : Int) (hb : (Lit.int .i32 b).wf = true) :
    Calls Try.prog 10 #[.int .i32 a, .int .i32 b] w fun e w' => e = .returned (.bool true) ∧ Below w.heap.size w w' := by
  obtain ⟨a1, a2⟩ := bounds_i32 ha
  obtain ⟨b1, b2⟩ := bounds_i32 hb
  clear ha hb
  have la := small_i32 a1 a2
  have lb := small_i32 b1 b2
  obtain ⟨h1, h2, h3, h4, h5⟩ := whole_of la lb
  obtain ⟨m1, m2⟩ := mul_i64 a1 a2 b1 b2
  have h6 := ssmall_int (a := a) (by omega) (by omega)
  have H1 := Lib.hid h1
  have H2 := Lib.hid h2
  have H3 := Lib.hid h3
  have H4 := Lib.hid h4
  have H5 := Lib.hid h5
  have H6 := Lib.hid h6
  have L1 : Hid ((sD (a + b)).length ≤ 1000000) := sD_i64Q (by omega) (by omega)
  have L2 : Hid ((sD (a * b)).length ≤ 1000000) := sD_i64Q m1 m2
  have X : Hid ((cmpZ a b = -1 ∧ decide (a < b) = true ∧ decide (b < a) = false) ∨ (cmpZ a b = 0 ∧ decide (a < b) = false ∧ decide (b < a) = false) ∨ (cmpZ a b = 1 ∧ decide (a < b) = false ∧ decide (b < a) = true)) := by
    show _ ∨ _
    unfold cmpZ
    rcases Int.lt_trichotomy a b with h | h | h
    · exact .inl ⟨if_pos h, decide_eq_true h, decide_eq_false (by omega)⟩
    · exact .inr (.inl ⟨by rw [if_neg (by omega), if_neg (by omega)], decide_eq_false (by omega), decide_eq_false (by omega)⟩)
    · exact .inr (.inr ⟨by rw [if_neg (by omega), if_pos h], decide_eq_false (by omega), decide_eq_true h⟩)
  generalize cmpZ a b = x at *
  clear h1 h2 h3 h4 h5 h6 la lb
  go_enter Try.func10, Try.ntmps10
  go_wp2_with fail
  refine (qalive_any _).mono ?_
  rintro e y1 ⟨rfl, q⟩
  have M := (Mem.start w).below q
  clear q
  go_wp2_with fail
  refine (qof_any a _ (by omega) (by omega)).mono ?_
  rintro e y2 ⟨⟨A5, c5, B5, d5, rfl, h, k⟩, q⟩
  replace M := ((M.below q).addR k).addR h
  clear q h k
  go_wp2_with fail
  refine (qof_any b _ (by omega) (by omega)).mono ?_
  rintro e w5 ⟨⟨A6, c6, B6, d6, rfl, h, k⟩, q⟩
  replace M := ((((M.below q).addR k).addR h).new 31 #[.bool (sN a), .slice A5 (sD a).length c5, .bool false, .slice B5 1 d5]).newAt (g := w5.heap.size + 1) (by simp) 31 #[.bool (sN b), .slice A6 (sD b).length c6, .bool false, .slice B6 1 d6]
  clear q h k
  obtain ⟨v1, v2, v3, v4⟩ := (M.k (i := 1) rfl).four
  obtain ⟨v5, v6, v7, v8⟩ := (M.k (i := 0) rfl).four
  go_wp2_with fail
  refine (qadd_eq H1.out (M.r (i := 2) rfl) (M.r (i := 3) rfl) (M.r (i := 0) rfl) (M.r (i := 1) rfl)).mono ?_
  rintro e w7 ⟨⟨A7, c7, B7, d7, rfl, h, k⟩, q⟩
  replace M := (((M.below q).addR k).addR h).new 31 #[.bool (sN (a + b)), .slice A7 (sD (a + b)).length c7, .bool false, .slice B7 1 d7]
  clear h k
  clear q v1 v2 v3 v4 v5 v6 v7 v8
  obtain ⟨v1, v2, v3, v4⟩ := (M.k (i := 2) rfl).four
  obtain ⟨v5, v6, v7, v8⟩ := (M.k (i := 1) rfl).four
  go_wp2_with fail
  refine (qmul_eq H2.out (M.r (i := 4) rfl) (M.r (i := 5) rfl) (M.r (i := 2) rfl) (M.r (i := 3) rfl)).mono ?_
  rintro e w9 ⟨⟨A9, c9, B9, d9, rfl, h, k⟩, q⟩
  replace M := (((M.below q).addR k).addR h).new 31 #[.bool (sN (a * b)), .slice A9 (sD (a * b)).length c9, .bool false, .slice B9 1 d9]
  clear h k
  clear q v1 v2 v3 v4 v5 v6 v7 v8
  obtain ⟨v1, v2, v3, v4⟩ := (M.k (i := 3) rfl).four
  obtain ⟨v5, v6, v7, v8⟩ := (M.k (i := 2) rfl).four
  go_wp2_with fail
  refine (qcmp_eq H3.out (M.r (i := 6) rfl) (M.r (i := 7) rfl) (M.r (i := 4) rfl) (M.r (i := 5) rfl)).mono ?_
  rintro e y3 ⟨rfl, q⟩
  replace M := M.below q
  clear q v1 v2 v3 v4 v5 v6 v7 v8
  obtain ⟨v1, v2, v3, v4⟩ := (M.k (i := 3) rfl).four
  go_wp2_with fail
  refine (qfloor_any (M.r (i := 6) rfl) (M.r (i := 7) rfl)).mono ?_
  rw [H4.out]
  rintro e w13 ⟨⟨A13, c13, rfl, h⟩, q⟩
  replace M := ((M.below q).addR h).new 29 #[.bool (sN a), .slice A13 (sD a).length c13]
  clear q h v1 v2 v3 v4
  obtain ⟨v1, v2, v3, v4⟩ := (M.k (i := 4) rfl).four
  go_wp2_with fail
  refine (qceil_any (M.r (i := 7) rfl) (M.r (i := 8) rfl)).mono ?_
  rw [H5.out]
  rintro e w15 ⟨⟨A15, c15, rfl, h⟩, q⟩
  replace M := ((M.below q).addR h).new 29 #[.bool (sN a), .slice A15 (sD a).length c15]
  clear q h v1 v2 v3 v4
  obtain ⟨v1, v2, _, _⟩ := (M.k (i := 1) rfl).both
  go_wp2_with fail
  refine (ssmall_any _ A13 c13 _ _ (M.r (i := 1) rfl)).mono ?_
  rw [H6.out]
  rintro e y4 ⟨rfl, q⟩
  replace M := M.below q
  clear q v1 v2
  obtain ⟨v1, v2, _, _⟩ := (M.k (i := 0) rfl).both
  go_wp2_with fail
  refine (ssmall_any _ A15 c15 _ _ (M.r (i := 0) rfl)).mono ?_
  rw [H6.out]
  rintro e y5 ⟨rfl, q⟩
  replace M := M.below q
  clear q v1 v2
  obtain ⟨v1, v2, v3, v4⟩ := (M.k (i := 3) rfl).four
  go_wp2_with fail
  refine (ours4_any _ _ _ _ _ _ _ _ _).mono ?_
  rintro e y6 ⟨rfl, q⟩
  replace M := M.below q
  clear q v1 v2 v3 v4
  go_wp2_with fail
  refine (rqof_any (a + b) _ (by omega) (by omega)).mono ?_
  rintro e y7 ⟨⟨A20, c20, B20, d20, rfl, h, k⟩, q⟩
  replace M := ((M.below q).addR k).addR h
  clear q h k
  go_wp2_with fail
  refine (rqsame_self (M.r (i := 6) rfl) (M.r (i := 7) rfl) (M.r (i := 0) rfl) (M.r (i := 1) rfl) L1.out (by decide)).mono ?_
  rintro e y8 ⟨rfl, q⟩
  replace M := M.below q
  clear q
  obtain ⟨v1, v2, v3, v4⟩ := (M.k (i := 2) rfl).four
  go_wp2_with fail
  refine (ours4_any _ _ _ _ _ _ _ _ _).mono ?_
  rintro e y9 ⟨rfl, q⟩
  replace M := M.below q
  clear q v1 v2 v3 v4
  go_wp2_with fail
  refine (rqof_any (a * b) _ (by omega) (by omega)).mono ?_
  rintro e y10 ⟨⟨A21, c21, B21, d21, rfl, h, k⟩, q⟩
  replace M := ((M.below q).addR k).addR h
  clear q h k
  go_wp2_with fail
  refine (rqsame_self (M.r (i := 6) rfl) (M.r (i := 7) rfl) (M.r (i := 0) rfl) (M.r (i := 1) rfl) L2.out (by decide)).mono ?_
  rintro e y11 ⟨rfl, q⟩
  replace M := M.below q
  clear q
  have hbel := M.bel
  clear M
  rcases X.out with ⟨rfl, e1, e2⟩ | ⟨rfl, e1, e2⟩ | ⟨rfl, e1, e2⟩
  all_goals
    go_wp2
    go_ret
    exact ⟨rfl, hbel⟩
end Go.Proofs.Ytdhikpfppbcjkaa
