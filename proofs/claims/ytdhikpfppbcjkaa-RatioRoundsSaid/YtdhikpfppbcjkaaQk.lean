/-
  The walk of the law RatioRounds.
-/
import Derived.Test.YtdhikpfppbcjkaaQi
set_option linter.unusedSimpArgs false
set_option linter.unusedVariables false
namespace Go.Proofs.Ytdhikpfppbcjkaa
open Go.RowKit Num

theorem qfloorR_len {n m : Bool} {xs ys : List Nat} (ox : Ok xs) (oy : Ok ys) : (qfloorR n xs m ys).2.1.length ≤ 256 := by
  rcases Bool.eq_false_or_eq_true (qright n xs m ys) with h | h
  · obtain ⟨rn, rd, h1, _⟩ := floor_facts ox oy h
    have := sdivR_lenQ n m xs ys
    rw [h1] at this
    exact this
  · unfold qfloorR
    rw [h]
    exact Nat.zero_le _
theorem saddR_lenQ (n m : Bool) (xs ys : List Nat) : (saddR n xs m ys).2.1.length ≤ 256 := by
  unfold saddR
  split
  · unfold sfit
    split
    · assumption
    · exact Nat.zero_le _
  · exact Nat.zero_le _
theorem qceilR_len {n m : Bool} {xs ys : List Nat} (ox : Ok xs) (oy : Ok ys) : (qceilR n xs m ys).2.1.length ≤ 256 := by
  rcases Bool.eq_false_or_eq_true (qright n xs m ys) with h | h
  · obtain ⟨fn, fd, rn, rd, h1, h2, h3, h4⟩ := rceil_facts ox oy h
    by_cases hr : rd = []
    · rw [h3 hr]
      exact sright_len h2
    · obtain ⟨cn, cd, h5, h6⟩ := h4 hr
      rw [h6]
      have := saddR_lenQ fn false fd [1]
      rw [h5] at this
      exact this
  · unfold qceilR
    rw [h]
    exact Nat.zero_le _
set_option maxRecDepth 100000 in
set_option maxHeartbeats 4000000 in
theorem ratioRounds_use (w : World) (n : Bool) (A : Option Addr) (c : Nat) (xs : List Nat) (ha : Rd w A c xs) (m : Bool) (B : Option Addr) (d : Nat) (ys : List Nat) (hb : Rd w B d ys) :
    Calls Try.prog 4 #[rv n A xs.length c m B ys.length d] w fun e w' => e = .returned (.bool true) ∧ Below w.heap.size w w' := by
  have M : Mem w (w.alloc (.cells #[.bool n, .slice A xs.length c, .bool m, .slice B ys.length d] 26)) [(w.heap.size, 26, #[.bool n, .slice A xs.length c, .bool m, .slice B ys.length d])] [(B, d, ys), (A, c, xs)] :=
    ((((Mem.start w).addR ha).addR hb).new 26 #[.bool n, .slice A xs.length c, .bool m, .slice B ys.length d])
  have ox := ha.ok
  have oy := hb.ok
  clear ha hb
  by_cases hf : xs.length ≤ 8 ∧ ys.length ≤ 8
  case neg =>
    have HF : Hid (decide (xs.length ≤ 8 ∧ ys.length ≤ 8) = false) := decide_eq_false hf
    clear hf
    go_enter Try.func4, Try.ntmps4
    go_wp2_with fail
    refine (qalive_any _).mono ?_
    rintro e y1 ⟨rfl, q⟩
    replace M := M.below q
    clear q
    obtain ⟨v1, v2, v3, v4⟩ := (M.k (i := 0) rfl).four
    go_wp2_with fail
    refine (few4_1 rfl).mono ?_
    rw [HF.out]
    rintro e y2 ⟨rfl, q⟩
    replace M := M.below q
    clear q v1 v2 v3 v4
    go_wp2
    go_ret
    exact ⟨rfl, M.bel⟩
  have HF : Hid (decide (xs.length ≤ 8 ∧ ys.length ≤ 8) = true) := decide_eq_true hf
  obtain ⟨hf1, hf2⟩ := hf
  have l1 := qfloorR_len (n := n) (m := m) ox oy
  have l2 := qceilR_len (n := n) (m := m) ox oy
  generalize hf : qfloorR n xs m ys = r at l1
  obtain ⟨f1, f2, f3⟩ := r
  generalize hg : qceilR n xs m ys = r at l2
  obtain ⟨g1, g2, g3⟩ := r
  generalize ht : qtextR n xs m ys = r
  obtain ⟨t1, t2⟩ := r
  have HX := Lib.hid hf
  have HY := Lib.hid hg
  have HT := Lib.hid ht
  have L1 : Hid (f2.length ≤ 1000000) := Nat.le_trans l1 (by decide)
  have L2 : Hid (g2.length ≤ 1000000) := Nat.le_trans l2 (by decide)
  clear hf hg ht l1 l2 ox oy
  go_enter Try.func4, Try.ntmps4
  go_wp2_with fail
  refine (qalive_any _).mono ?_
  rintro e y1 ⟨rfl, q⟩
  replace M := M.below q
  clear q
  obtain ⟨v1, v2, v3, v4⟩ := (M.k (i := 0) rfl).four
  go_wp2_with fail
  refine (few4_1 rfl).mono ?_
  rw [HF.out]
  rintro e y2 ⟨rfl, q⟩
  replace M := M.below q
  clear q v1 v2 v3 v4
  obtain ⟨v1, v2, v3, v4⟩ := (M.k (i := 0) rfl).four
  go_wp2_with fail
  refine (theirs4_any _ _ _ _ _ _ _ _ _).mono ?_
  rintro e y3 ⟨rfl, q⟩
  replace M := M.below q
  clear q v1 v2 v3 v4
  go_wp2_with fail
  refine (qfloor_any (M.r (i := 1) rfl) (M.r (i := 0) rfl)).mono ?_
  rw [HX.out]
  rintro e y4 ⟨⟨A3, c3, rfl, h⟩, q⟩
  replace M := ((M.below q).addR h).new 29 #[.bool f1, .slice A3 f2.length c3]
  clear q h
  obtain ⟨v1, v2, v3, v4⟩ := (M.k (i := 1) rfl).four
  go_wp2_with fail
  refine (rqfloor_any (M.r (i := 2) rfl) (M.r (i := 1) rfl)).mono ?_
  rw [HX.out]
  rintro e y5 ⟨⟨A5, c5, rfl, h⟩, q⟩
  replace M := ((M.below q).addR h).new 24 #[.bool f1, .slice A5 f2.length c5]
  clear h
  clear q v1 v2 v3 v4
  obtain ⟨v1, v2, v3, v4⟩ := (M.k (i := 2) rfl).four
  go_wp2_with fail
  refine (theirs4_any _ _ _ _ _ _ _ _ _).mono ?_
  rintro e y3 ⟨rfl, q⟩
  replace M := M.below q
  clear q v1 v2 v3 v4
  go_wp2_with fail
  refine (qceil_any (M.r (i := 3) rfl) (M.r (i := 2) rfl)).mono ?_
  rw [HY.out]
  rintro e y7 ⟨⟨A7, c7, rfl, h⟩, q⟩
  replace M := ((M.below q).addR h).new 29 #[.bool g1, .slice A7 g2.length c7]
  clear q h
  obtain ⟨v1, v2, v3, v4⟩ := (M.k (i := 3) rfl).four
  go_wp2_with fail
  refine (rqceil_any (M.r (i := 4) rfl) (M.r (i := 3) rfl)).mono ?_
  rw [HY.out]
  rintro e y8 ⟨⟨A9, c9, rfl, h⟩, q⟩
  replace M := ((M.below q).addR h).new 24 #[.bool g1, .slice A9 g2.length c9]
  clear h
  clear q v1 v2 v3 v4
  obtain ⟨v1, v2, v3, v4⟩ := (M.k (i := 4) rfl).four
  go_wp2_with fail
  refine (theirs4_any _ _ _ _ _ _ _ _ _).mono ?_
  rintro e y3 ⟨rfl, q⟩
  replace M := M.below q
  clear q v1 v2 v3 v4
  go_wp2_with fail
  refine (qtext_any (M.r (i := 5) rfl) (M.r (i := 4) rfl)).mono ?_
  rw [HT.out]
  rintro e y9 ⟨rfl, q⟩
  replace M := M.below q
  clear q
  obtain ⟨v1, v2, v3, v4⟩ := (M.k (i := 4) rfl).four
  go_wp2_with fail
  refine (rqtext_any (M.r (i := 5) rfl) (M.r (i := 4) rfl)).mono ?_
  rw [HT.out]
  rintro e y10 ⟨rfl, q⟩
  replace M := M.below q
  clear q v1 v2 v3 v4
  obtain ⟨v1, v2, _, _⟩ := (M.k (i := 3) rfl).both
  obtain ⟨v3, v4, _, _⟩ := (M.k (i := 2) rfl).both
  go_wp2_with fail
  refine (rsame_self (M.r (i := 3) rfl) (M.r (i := 2) rfl) L1.out).mono ?_
  rintro e y11 ⟨rfl, q⟩
  replace M := M.below q
  clear q v1 v2 v3 v4
  obtain ⟨v1, v2, _, _⟩ := (M.k (i := 1) rfl).both
  obtain ⟨v3, v4, _, _⟩ := (M.k (i := 0) rfl).both
  go_wp2_with fail
  refine (rsame_self (M.r (i := 1) rfl) (M.r (i := 0) rfl) L2.out).mono ?_
  rintro e y12 ⟨rfl, q⟩
  replace M := M.below q
  go_wp2
  go_ret
  exact ⟨rfl, M.bel⟩
end Go.Proofs.Ytdhikpfppbcjkaa
