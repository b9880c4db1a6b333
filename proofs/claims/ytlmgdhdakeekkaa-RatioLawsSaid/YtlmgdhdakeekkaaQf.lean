/-
  Contracts of the document's fractions.
-/
import Derived.Test.YtlmgdhdakeekkaaQe
import Derived.Test.YtlmgdhdakeekkaaRefT
set_option linter.unusedSimpArgs false
set_option linter.unusedVariables false
namespace Go.Proofs.Ytlmgdhdakeekkaa
open Go.RowKit Num

end Go.Proofs.Ytlmgdhdakeekkaa
