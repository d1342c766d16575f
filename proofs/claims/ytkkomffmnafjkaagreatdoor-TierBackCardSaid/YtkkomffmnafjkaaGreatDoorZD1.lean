/- Contract of a set's Or. -/
import Derived.Test.YtkkomffmnafjkaaGreatDoorZB4
import Derived.Test.YtkkomffmnafjkaaGreatDoorZM1
import Derived.Laws.MakeOwn
import Derived.Maps.AppendAt
set_option maxHeartbeats 16000000
set_option maxRecDepth 100000
set_option linter.all false
namespace Go.Proofs.YtkkomffmnafjkaaGreatDoor
open Go.RowKit
def OffB(A:Option Addr)(X:Nat):Prop:=∀a,A=some a→a.block≠X
section
variable{L M T done:List (Int×Int)}{i j:Nat}{x y:Int×Int}
end
end Go.Proofs.YtkkomffmnafjkaaGreatDoor
