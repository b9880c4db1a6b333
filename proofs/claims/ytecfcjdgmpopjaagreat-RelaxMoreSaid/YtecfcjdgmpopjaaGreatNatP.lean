/-
  Contract of nat.Text.
-/
import Derived.Test.YtecfcjdgmpopjaaGreatBytes
namespace Go.Proofs.YtecfcjdgmpopjaaGreat
open Go.RowKit Num
end Go.Proofs.YtecfcjdgmpopjaaGreat
