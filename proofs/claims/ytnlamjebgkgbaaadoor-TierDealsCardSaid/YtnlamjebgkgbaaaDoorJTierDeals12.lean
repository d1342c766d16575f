/- Contract of the reference's of: the spans of the bytes for which an operation of two sets says so. -/
import Derived.Test.YtnlamjebgkgbaaaDoorJTierDeals10
import Derived.IntWalk
namespace Go.Proofs.YtnlamjebgkgbaaaDoor
open Go.RowKit

end Go.Proofs.YtnlamjebgkgbaaaDoor
