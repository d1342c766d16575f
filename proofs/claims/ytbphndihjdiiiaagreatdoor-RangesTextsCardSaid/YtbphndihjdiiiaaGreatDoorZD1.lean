/- Contract of a set's Or. -/
import Derived.Test.YtbphndihjdiiiaaGreatDoorZB4
import Derived.Test.YtbphndihjdiiiaaGreatDoorZM1
import Derived.Laws.MakeOwn
import Derived.Maps.AppendAt
namespace Go.Proofs.YtbphndihjdiiiaaGreatDoor
open Go.RowKit

/-- The row's block isn't this one. -/
def OffB (A : Option Addr) (X : Nat) : Prop := ∀ a, A = some a → a.block ≠ X
section
variable {L M T done : List (Int × Int)} {i j : Nat} {x y : Int × Int}
end

end Go.Proofs.YtbphndihjdiiiaaGreatDoor
