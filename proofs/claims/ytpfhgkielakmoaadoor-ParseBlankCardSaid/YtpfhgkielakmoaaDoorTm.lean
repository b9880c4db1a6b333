/-
  The document's Same.
-/
import Derived.Test.YtpfhgkielakmoaaDoorTl
set_option linter.unusedSimpArgs false
set_option linter.unusedVariables false
namespace Go.Proofs.YtpfhgkielakmoaaDoor
open Go.RowKit Num

/-- Two tokens are one, but for where they stand if that is not asked. -/
def eqT (p : Bool) (a b : Tok) : Prop := a.k = b.k ∧ a.t = b.t ∧ a.v = b.v ∧ (p = true → a.at_ = b.at_)
end Go.Proofs.YtpfhgkielakmoaaDoor
