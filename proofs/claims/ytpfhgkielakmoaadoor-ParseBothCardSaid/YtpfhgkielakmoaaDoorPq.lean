/-
  The laws of the parser: alive; ParsePlaces.
-/
import Derived.Test.YtpfhgkielakmoaaDoorPo
import Derived.Test.YtpfhgkielakmoaaDoorPn
import Derived.Test.YtpfhgkielakmoaaDoorPd
set_option linter.unusedSimpArgs false
set_option linter.unusedVariables false
namespace Go.Proofs.YtpfhgkielakmoaaDoor
open Go.RowKit Num

def pA : ByteArray := ⟨#[118, 97, 114, 32, 49, 46, 46, 51, 58, 32, 120, 32, 58, 58, 32, 111, 117, 116, 112, 117, 116, 95, 118, 97, 114, 59]⟩
def pB : ByteArray := ⟨#[115, 111, 108, 118, 101, 32, 115, 97, 116, 105, 115, 102, 121]⟩
def pC : ByteArray := ⟨#[105, 110, 116, 58, 32, 118, 97, 114, 32, 61, 32, 49, 59]⟩
theorem text_pA : textP pA.data.toList = ([⟨2, [120], false, [(1, 3)], 0, true, [], 0⟩], 0, 0) := by kernel_rfl
theorem text_pB : textP pB.data.toList = ([], 13, 6) := by kernel_rfl
theorem text_pC : textP pC.data.toList = ([], 5, 5) := by kernel_rfl
theorem textA (w : World) (hE : ErrVars w) : Calls Tryd.prog 8 #[.string pA] w fun e w' => (∃ A c, e = .returned (.tuple #[.slice A 1 c, .int .i64 0, .int .i64 0]) ∧ LI.row.P (since w.heap.size w') w' (.slice A 1 c) [⟨2, [120], false, [(1, 3)], 0, true, [], 0⟩]) ∧ Below w.heap.size w w' :=
  (ptext_any pA w hE (by decide)).mono fun e w' h => by
    rw [text_pA] at h
    obtain ⟨A, c, h1, h2, h3⟩ := h
    exact ⟨⟨A, c, h1, h2⟩, h3⟩
theorem textB (w : World) (hE : ErrVars w) : Calls Tryd.prog 8 #[.string pB] w fun e w' => (∃ A c, e = .returned (.tuple #[.slice A 0 c, .int .i64 13, .int .i64 6])) ∧ Below w.heap.size w w' :=
  (ptext_any pB w hE (by decide)).mono fun e w' h => by
    rw [text_pB] at h
    obtain ⟨A, c, h1, h2, h3⟩ := h
    exact ⟨⟨A, c, h1⟩, h3⟩
theorem textC (w : World) (hE : ErrVars w) : Calls Tryd.prog 8 #[.string pC] w fun e w' => (∃ A c, e = .returned (.tuple #[.slice A 0 c, .int .i64 5, .int .i64 5])) ∧ Below w.heap.size w w' :=
  (ptext_any pC w hE (by decide)).mono fun e w' h => by
    rw [text_pC] at h
    obtain ⟨A, c, h1, h2, h3⟩ := h
    exact ⟨⟨A, c, h1⟩, h3⟩
set_option maxRecDepth 100000 in
set_option maxHeartbeats 4000000 in
theorem alive6_any (w : World) (hE : ErrVars w) : Calls Tryd.prog 7 #[] w fun e w' => e = .returned (.bool true) ∧ Below w.heap.size w w' := by
  go_enter Tryd.func7, Tryd.ntmps7
  go_wp2_with fail
  refine (textA w hE).mono ?_
  rintro e w1 ⟨⟨A, c, rfl, hA⟩, q1⟩
  have hE1 := hE.below q1
  go_wp2_with fail
  refine (textB w1 hE1).mono ?_
  rintro e w2 ⟨⟨B, d, rfl⟩, q2⟩
  have hE2 := hE1.below q2
  go_wp2_with fail
  refine (textC w2 hE2).mono ?_
  rintro e w3 ⟨⟨C, f, rfl⟩, q3⟩
  have q := below_trans (below_trans q1 q2) q3
  obtain ⟨b, o, hAe, hlt, hc⟩ := row_it (Dt.below _ (Dt.below _ hA q2 (Nat.le_refl _)) q3 (Nat.le_refl _)) (by simp)
  obtain ⟨c0, c1, c2, c4, c5, c7, ⟨A3, n3, c3, h3⟩, -⟩ := hc 0 (by simp)
  rw [Nat.zero_mul, Nat.add_zero] at c0 c1 c2 c3 c4 c5 c7
  replace c3 : w3.cell? ⟨b, o + 3, none⟩ = some (.slice A3 1 n3) := c3
  replace c0 : w3.cell? ⟨b, o, none⟩ = some (.int .i64 2) := c0
  replace c1 : w3.cell? ⟨b, o + 1, none⟩ = some (.string ⟨#[120]⟩) := c1
  replace c5 : w3.cell? ⟨b, o + 5, none⟩ = some (.bool true) := c5
  subst hAe
  clear hc hA c2 c4 c7 h3 q1 q2 q3 hE hE1 hE2
  go_wp2_with fail
  go_ret
  exact ⟨rfl, q⟩

set_option maxRecDepth 100000 in
set_option maxHeartbeats 4000000 in
theorem parsePlaces_use (w : World) (hE : ErrVars w) (s : ByteArray) (hs : s.size ≤ maxLen) : Calls Tryd.prog 3 #[.string s] w fun e w' => e = .returned (.bool true) ∧ Below w.heap.size w w' := by
  unfold maxLen at hs
  by_cases h9 : s.size ≤ 9000
  · have d1 : decide ((9000 : Int) < (s.size : Int)) = false := decide_eq_false (by omega)
    have hp := text_places s.data.toList
    have hn := splitR_len s.data.toList
    go_enter Tryd.func3, Tryd.ntmps3
    go_wp2_with fail
    refine (alive6_any w hE).mono ?_
    rintro e w1 ⟨rfl, q1⟩
    have hE1 := hE.below q1
    have HP := Lib.hid hp
    clear hE hp
    go_wp2_with fail
    refine (ptext_any s w1 hE1 (by omega)).mono ?_
    rintro e w2 ⟨A, c, rfl, hA, q2⟩
    have hE2 := hE1.below q2
    clear hE1
    go_wp2_with fail
    refine (split_any s w2 hE2).mono ?_
    rintro e w3 h3
    obtain ⟨B, d, rfl, hB, q3⟩ := h3.rd
    clear h3 hB hA hE2
    have q := below_trans (below_trans q1 q2) q3
    have hsz : s.data.toList.length = s.size := by simp
    have hp := HP.out
    rw [hsz] at hp
    clear HP q1 q2 q3
    generalize textP s.data.toList = R at *
    generalize splitR s.data.toList = S at *
    obtain ⟨xs, at_, er⟩ := R
    obtain ⟨l, p, ef⟩ := S
    dsimp only at *
    by_cases he : er = 0
    · subst he
      obtain ⟨rfl, rfl, k1, k2⟩ := hp.2 rfl
      have d2 : decide ((xs.length : Int) ≤ 512) = true := decide_eq_true (by omega)
      have d3 : (0 < xs.length ↔ 0 < l.length) = True := eq_true k1
      have d4 : (decide (0 < xs.length) == decide (0 < l.length)) = true := beq_iff_eq.2 (decide_eq_decide.2 k1)
      clear hp k1 k2 hsz
      go_wp2_with fail
      go_ret
      refine ⟨?_, q⟩
      first | rfl | exact congrArg (fun b => Ending.returned (.bool b)) d4
    · obtain ⟨k1, k2, rfl, k3⟩ := hp.1 he
      have d2 : (er != 0) = true := ne_bool he
      have d3 : decide ((0 : Int) ≤ at_) = true := decide_eq_true k1
      clear hp hsz he
      by_cases h5 : at_ ≤ s.size
      · have d4 : decide (at_ ≤ (s.size : Int)) = true := decide_eq_true h5
        by_cases h6 : ef = 0
        · subst h6
          go_wp2_with fail
          go_ret
          exact ⟨rfl, q⟩
        · have d5 : (ef == 0) = false := by simpa using h6
          obtain rfl : ef = er := by omega
          go_wp2_with fail
          go_ret
          exact ⟨rfl, q⟩
      · obtain rfl : at_ = 0 := by omega
        exact absurd (Int.natCast_nonneg _) h5
  · have d1 : decide ((9000 : Int) < (s.size : Int)) = true := decide_eq_true (by omega)
    go_enter Tryd.func3, Tryd.ntmps3
    go_wp2_with fail
    refine (alive6_any w hE).mono ?_
    rintro e w1 ⟨rfl, q1⟩
    go_wp2_with fail
    go_ret
    exact ⟨rfl, q1⟩
end Go.Proofs.YtpfhgkielakmoaaDoor
