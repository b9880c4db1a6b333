/-
  Contracts of the document's fractions: sums, products, quotients, order, rounding, texts.
-/
import Derived.Test.YtlmgdhdakeekkaaQf
set_option linter.unusedSimpArgs false
set_option linter.unusedVariables false
namespace Go.Proofs.Ytlmgdhdakeekkaa
open Go.RowKit Num

end Go.Proofs.Ytlmgdhdakeekkaa
