/-
  Contracts of the document's reader of tokens: letter, digit, digits, blank, word.
-/
import Derived.Test.YtpfhgkielakmoaaDoorTf
set_option linter.unusedSimpArgs false
set_option linter.unusedVariables false
namespace Go.Proofs.YtpfhgkielakmoaaDoor
open Go.RowKit

theorem blankL_ws {c : UInt8} {r : List UInt8} (h : isWs c = true) : blankL (c :: r) = blankL r := by
  have e : (c :: r).dropWhile isWs = r.dropWhile isWs := by rw [List.dropWhile_cons, if_pos h]
  by_cases h2 : ∃ q, r.dropWhile isWs = 37 :: q
  · obtain ⟨q, h2⟩ := h2
    rw [blankL_on (e.trans h2), blankL_on h2]
  · have h3 : ∀ q, r.dropWhile isWs ≠ 37 :: q := fun q hq => h2 ⟨q, hq⟩
    rw [blankL_stop (fun q hq => h3 q (e.symm.trans hq)), blankL_stop h3, e]
theorem blankL_no {c : UInt8} {r : List UInt8} (h : isWs c = false) (h2 : c ≠ 37) : blankL (c :: r) = c :: r := by
  have e : (c :: r).dropWhile isWs = c :: r := by rw [List.dropWhile_cons, if_neg (by simp [h])]
  rw [blankL_stop (fun q hq => by rw [e] at hq; injection hq with h3; exact h2 h3), e]
theorem blankL_nil : blankL [] = [] := by rw [blankL_stop (by intro r h; cases h)]; rfl
theorem ws_eq {c : UInt8} {n : Nat} (hn : c.toNat = n) : isWs c = true ↔ n = 32 ∨ n = 9 ∨ n = 13 ∨ n = 10 := by
  subst hn
  have h : ∀ k : UInt8, c = k ↔ c.toNat = k.toNat := fun k => ⟨fun h => by rw [h], fun h => UInt8.toNat_inj.1 h⟩
  unfold isWs
  simp only [Bool.or_eq_true, beq_iff_eq, h, or_assoc]
  rfl
theorem nolf_eq {c : UInt8} {n : Nat} (hn : c.toNat = n) : noLf c = ((n : Int) != 10) := by
  subst hn
  have : ∀ c : UInt8, noLf c = ((c.toNat : Int) != 10) := fun c => by
    have := forall_u8 (p := fun c => noLf c == ((c.toNat : Int) != 10)) (by decide +kernel) c
    simpa using this
  exact this c
end Go.Proofs.YtpfhgkielakmoaaDoor
