/-
  Contracts of touchstoneref02.tenth and Text.
-/
import Derived.Test.YtlmgdhdakeekkaaSgF
set_option linter.unusedSimpArgs false
set_option linter.unusedVariables false
namespace Go.Proofs.Ytlmgdhdakeekkaa
open Go.RowKit Num

/-- Digits, and a number. -/
def RetSK (w w' : World) (e : Ending) (ys : List Nat) (r : Nat) : Prop := (∃ A c, e = .returned (.tuple #[.slice A ys.length c, .int .u64 r]) ∧ Rd w' A c ys) ∧ Below w.heap.size w w'
theorem enc_digit {d : Nat} (h : d < 10) : Utf8.encode (48 + (d : Int)) = ⟨#[UInt8.ofNat (48 + d)]⟩ := by
  match d, h with
  | 0, _ => rfl
  | 1, _ => rfl
  | 2, _ => rfl
  | 3, _ => rfl
  | 4, _ => rfl
  | 5, _ => rfl
  | 6, _ => rfl
  | 7, _ => rfl
  | 8, _ => rfl
  | 9, _ => rfl
theorem cat_one (u : UInt8) (l : List UInt8) : ((⟨#[u]⟩ : ByteArray) ++ (⟨l.toArray⟩ : ByteArray)) = ⟨(u :: l).toArray⟩ := by
  apply ByteArray.ext
  simp
end Go.Proofs.Ytlmgdhdakeekkaa
