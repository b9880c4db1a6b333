/-
  The contract of the document's Split.
-/
import Derived.Test.YtpfhgkielakmoaaDoorTi
set_option linter.unusedSimpArgs false
set_option linter.unusedVariables false
namespace Go.Proofs.YtpfhgkielakmoaaDoor
open Go.RowKit Num

theorem takeWhile_all {α : Type} (p : α → Bool) (l : List α) : ∀ c ∈ l.takeWhile p, p c = true := by
  induction l with
  | nil => simp
  | cons x r ih =>
    rw [List.takeWhile_cons]
    split
    · intro c hc
      rcases List.mem_cons.1 hc with rfl | hc
      · assumption
      · exact ih c hc
    · simp
theorem take_takeWhile {α : Type} (p : α → Bool) (l : List α) : l.take (l.takeWhile p).length = l.takeWhile p := by
  induction l with
  | nil => rfl
  | cons x r ih =>
    rw [List.takeWhile_cons]
    split
    · simpa using ih
    · rfl
/-- A number's text: digits, behind a '-' or not. -/
theorem num_text {l : List UInt8} {m : Nat} (h : wordL l = (2, m)) : ∃ (neg : Bool) (ds : List UInt8), l.take m = (if neg then 45 :: ds else ds) ∧ ds ≠ [] ∧ ∀ c ∈ ds, isDigit c = true := by
  cases l with
  | nil => cases h
  | cons c r =>
    unfold wordL at h
    simp only at h
    split at h
    · cases h
    · split at h
      · rename_i e1 e2
        injection h with h1 h2
        subst h2
        refine ⟨false, c :: r.takeWhile isDigit, ?_, by simp, ?_⟩
        · rw [Nat.add_comm, List.take_succ_cons, take_takeWhile]
          rfl
        · intro d hd
          rcases List.mem_cons.1 hd with rfl | hd
          · exact e2
          · exact takeWhile_all _ _ _ hd
      · split at h
        · rename_i e1 e2 e3
          injection h with h1 h2
          subst h2
          refine ⟨true, r.takeWhile isDigit, ?_, ?_, takeWhile_all _ _⟩
          · rw [Nat.add_comm, List.take_succ_cons, take_takeWhile, e3.1]
            rfl
          · cases r with
            | nil => simp at e3
            | cons d r =>
              have : isDigit d = true := by simpa using e3.2
              rw [List.takeWhile_cons, if_pos this]
              simp
        · split at h
          · cases h
          · split at h <;> cases h
theorem vR_ok {l : List UInt8} {v : Int} (h : Lib.parseIntB 64 l = .ok v) : vR l = (v, true) := by unfold vR; rw [h]
theorem vR_no {l : List UInt8} (h : ∀ v, Lib.parseIntB 64 l ≠ .ok v) : vR l = (0, false) := by
  unfold vR
  split
  · rename_i v e
    exact absurd e (h v)
  · rfl
end Go.Proofs.YtpfhgkielakmoaaDoor
