/-
  The walks of the laws NatDivs, NatSums, NatMuls, NatMakes (as far as they need no more), NatOrder, NatLaws.
-/
import Derived.Test.YtlmgdhdakeekkaaNatQ
namespace Go.Proofs.Ytlmgdhdakeekkaa
open Go.RowKit Num

theorem Rd.len {w : World} {A : Option Addr} {c : Nat} {xs : List Nat} (h : Rd w A c xs) : xs.length ≤ 9223372036854775807 := by
  have h1 := h.room
  have h2 := h.cap
  unfold maxLen at h2
  omega
theorem divR_len {xs ys : List Nat} (h1 : xs.length ≤ 40) (_ : ys.length ≤ 40) (ho : Ok xs) (_ : Ok ys) : (divR xs ys).1.length ≤ 40 ∧ (divR xs ys).2.1.length ≤ 40 := by
  unfold divR
  split
  · refine ⟨?_, ?_⟩
    · exact Nat.le_trans (dig_len_mono (Nat.div_le_self _ _)) (Nat.le_trans (dig_len_le xs ho) h1)
    · exact Nat.le_trans (dig_len_mono (Nat.mod_le _ _)) (Nat.le_trans (dig_len_le xs ho) h1)
  · exact ⟨Nat.zero_le _, Nat.zero_le _⟩




end Go.Proofs.Ytlmgdhdakeekkaa
