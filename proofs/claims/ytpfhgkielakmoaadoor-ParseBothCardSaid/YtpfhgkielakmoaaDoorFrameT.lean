/-
  What the rows' proofs share: a row of tokens that came in.
-/
import Derived.Test.YtpfhgkielakmoaaDoorFrame
import Derived.Test.YtpfhgkielakmoaaDoorTk
import Derived.Lib.SmallJoins
import Derived.Deep.Slices
import Derived.LaidMore
import Derived.MakeChecks
namespace Go.Proofs.YtpfhgkielakmoaaDoor
open Go.ChangeShapes Go.WideShapes Go.ChangeAt Go.RowKit Go.Joins Go.Deep Num

theorem one_cell {W : World} {b o k : Nat} {cs : List Value} {n : Nat} (h : W.cells? 0 ⟨b, o, none⟩ n = some cs) (hk : k < n) : ∃ x, cs[k]? = some x ∧ W.cell? ⟨b, o + k, none⟩ = some x := by
  obtain ⟨_, hl, hc⟩ := World.cells?_some h
  refine ⟨_, List.getElem?_eq_getElem (by omega : k < cs.length), ?_⟩
  have e : (⟨b, o, none⟩ : Addr).add k = ⟨b, o + k, none⟩ := by simp [Addr.add]
  rw [← e, hc k hk, List.getElem?_eq_getElem (by omega : k < cs.length)]
-- a token's four cells
end Go.Proofs.YtpfhgkielakmoaaDoor
