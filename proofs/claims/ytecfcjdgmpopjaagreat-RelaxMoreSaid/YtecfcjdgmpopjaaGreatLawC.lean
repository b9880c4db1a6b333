import Derived.Test.YtecfcjdgmpopjaaGreatLawB
namespace Go.Proofs.YtecfcjdgmpopjaaGreat
open Go.RowKit Num
end Go.Proofs.YtecfcjdgmpopjaaGreat
