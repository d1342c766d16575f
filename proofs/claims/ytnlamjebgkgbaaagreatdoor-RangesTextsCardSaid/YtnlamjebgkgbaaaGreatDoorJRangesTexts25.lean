/- The document's example of ranges holds. -/
import Derived.Test.YtnlamjebgkgbaaaGreatDoorJRangesTexts24
import Derived.Test.YtnlamjebgkgbaaaGreatDoorJRangesTexts22
import Derived.Test.YtnlamjebgkgbaaaGreatDoorJRangesTexts1
import Derived.Test.YtnlamjebgkgbaaaGreatDoorJRangesTexts15
namespace Go.Proofs.YtnlamjebgkgbaaaGreatDoor
open Go.RowKit

theorem ex_bound : ∀ x ∈ ([(0, 5), (7, 10), (7, 10)] : List (Int × Int)), 0 ≤ x.1 ∧ x.1 < x.2 ∧ x.2 ≤ 4611686018427387904 := by simp
end Go.Proofs.YtnlamjebgkgbaaaGreatDoor
/- The walk of SpecResolves. -/
namespace Go.Proofs.YtnlamjebgkgbaaaGreatDoor
open Go.RowKit

end Go.Proofs.YtnlamjebgkgbaaaGreatDoor
