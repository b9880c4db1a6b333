/-
  Contracts of scaled, Product, Mul of both, Of of both.
-/
import Derived.Test.YtlmgdhdakeekkaaNatF
namespace Go.Proofs.Ytlmgdhdakeekkaa
open Go.RowKit Num

def mulR (xs ys : List Nat) : List Nat × Int := if rightB xs && rightB ys then fitR (val xs * val ys) else ([], 2)
theorem mulR_eq {xs ys : List Nat} (h1 : rightB xs = true) (h2 : rightB ys = true) : mulR xs ys = fitR (val xs * val ys) := by simp [mulR, h1, h2]
theorem mulR_no {xs ys : List Nat} (h : (rightB xs && rightB ys) = false) : mulR xs ys = ([], 2) := by simp [mulR, h]


theorem rep_snoc (k : Nat) : List.replicate k 0 ++ [0] = List.replicate (k + 1) (0 : Nat) := by rw [List.replicate_succ']

theorem mul_zero_dig (m : Nat) : dig (m * val ([] : List Nat)) = [] := by simp [val, dig_zero]

end Go.Proofs.Ytlmgdhdakeekkaa
