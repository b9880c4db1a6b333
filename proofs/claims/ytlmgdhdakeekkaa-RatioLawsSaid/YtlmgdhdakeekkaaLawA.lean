/-
  The walks of the laws NatSums and NatMuls.
-/
import Derived.Test.YtlmgdhdakeekkaaNatR
namespace Go.Proofs.Ytlmgdhdakeekkaa
open Go.RowKit Num

theorem fitR_len (n : Nat) : (fitR n).1.length ≤ 256 := by
  unfold fitR
  split
  · assumption
  · exact Nat.zero_le _
theorem addR_len (xs ys : List Nat) : (addR xs ys).1.length ≤ 256 := by
  unfold addR
  split
  · exact fitR_len _
  · exact Nat.zero_le _
theorem mulR_len (xs ys : List Nat) : (mulR xs ys).1.length ≤ 256 := by
  unfold mulR
  split
  · exact fitR_len _
  · exact Nat.zero_le _
theorem subR_len {xs ys : List Nat} (ho : Ok xs) (h : xs.length ≤ 256) : (subR xs ys).1.length ≤ 256 := by
  unfold subR
  split
  · exact Nat.le_trans (dig_len_mono (Nat.sub_le _ _)) (Nat.le_trans (dig_len_le xs ho) h)
  · exact Nat.zero_le _




end Go.Proofs.Ytlmgdhdakeekkaa
