/-
  The walks of the laws NatOrder and NatLaws.
-/
import Derived.Test.YtlmgdhdakeekkaaLawA
namespace Go.Proofs.Ytlmgdhdakeekkaa
open Go.RowKit Num

theorem fitR_le {n : Nat} (h : (dig n).length ≤ 256) : fitR n = (dig n, 0) := by simp [fitR, h]
theorem small_len {xs : List Nat} (h : Ok xs) (hl : xs.length ≤ 40) : val xs < 4294967296 ^ 40 := Nat.lt_of_lt_of_le (val_lt h) (Nat.pow_le_pow_right (by decide) hl)
theorem add_small {xs ys : List Nat} (ho : Ok xs) (ho' : Ok ys) (h1 : rightB xs = true) (h2 : rightB ys = true) (hx : xs.length ≤ 40) (hy : ys.length ≤ 40) :
    addR xs ys = (dig (val xs + val ys), 0) ∧ (dig (val xs + val ys)).length ≤ 41 := by
  have := sum_len (small_len ho hx) (small_len ho' hy)
  exact ⟨by rw [addR_eq h1 h2, fitR_le (by omega)], this⟩
theorem right_dig' {n : Nat} (h : (dig n).length ≤ 256) : rightB (dig n) = true := by
  unfold rightB
  exact decide_eq_true ⟨h, fine_dig n⟩
theorem ok_same {xs ys : List Nat} (hx : dig (val xs) = xs) (hy : dig (val ys) = ys) : decide (xs = ys) = decide (val xs = val ys) := by
  by_cases h : val xs = val ys
  · rw [decide_eq_true h]
    exact decide_eq_true (by rw [← hx, ← hy, h])
  · rw [decide_eq_false h]
    exact decide_eq_false (fun e => h (by rw [e]))




end Go.Proofs.Ytlmgdhdakeekkaa
