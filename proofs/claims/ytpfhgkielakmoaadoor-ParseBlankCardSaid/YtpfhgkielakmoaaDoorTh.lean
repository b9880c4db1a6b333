/-
  Contract of the document's word.
-/
import Derived.Test.YtpfhgkielakmoaaDoorTg
set_option linter.unusedSimpArgs false
set_option linter.unusedVariables false
namespace Go.Proofs.YtpfhgkielakmoaaDoor
open Go.RowKit

theorem sign_eq {c : UInt8} {n : Nat} (hn : c.toNat = n) : isSign c = true ↔ n = 58 ∨ n = 123 ∨ n = 125 ∨ n = 91 ∨ n = 93 ∨ n = 40 ∨ n = 41 ∨ n = 44 ∨ n = 59 ∨ n = 61 := by
  subst hn
  have h : ∀ k : UInt8, c = k ↔ c.toNat = k.toNat := fun k => ⟨fun h => by rw [h], fun h => UInt8.toNat_inj.1 h⟩
  unfold isSign
  simp only [Bool.or_eq_true, beq_iff_eq, h, or_assoc]
  rfl
theorem ext2_list {s : ByteArray} {i : Nat} (h : i + 1 < s.size) : (s.extract i (i + 2)).data.toList = [s[i], s[i + 1]] := by
  rw [take_ext, drop_at (by omega : i < s.size), drop_at h]
  rfl
theorem ext2_eq {s : ByteArray} {i : Nat} (a : UInt8) (h : i + 1 < s.size) : (s.extract i (i + 2)).toList = [a, a] ↔ s[i] = a ∧ (s.data.toList.drop (i + 1)).head? = some a := by
  rw [drop_at h, ByteArray.toList_eq, ext2_list h]
  simp
theorem head_digit {s : ByteArray} {i : Nat} : ((s.data.toList.drop i).head?.map isDigit) = some true ↔ 0 < tw isDigit s i := by
  unfold tw
  cases s.data.toList.drop i with
  | nil => simp
  | cons c r =>
    rw [List.takeWhile_cons]
    simp
    split <;> simp_all
end Go.Proofs.YtpfhgkielakmoaaDoor
