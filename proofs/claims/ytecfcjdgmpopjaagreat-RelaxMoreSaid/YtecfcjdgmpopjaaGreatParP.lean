/-
  Plain laws of the text of a number, read back.
-/
import Derived.Test.YtecfcjdgmpopjaaGreatBytes
import Derived.Test.YtecfcjdgmpopjaaGreatMulP
namespace Go.Proofs.YtecfcjdgmpopjaaGreat.Num
end Go.Proofs.YtecfcjdgmpopjaaGreat.Num
namespace Go.Proofs.YtecfcjdgmpopjaaGreat.Num
end Go.Proofs.YtecfcjdgmpopjaaGreat.Num
