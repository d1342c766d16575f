/- Contracts of the texts of ranges: the program's and the document's. -/
import Derived.Test.YtkkomffmnafjkaaGreatDoorZB10
import Derived.Test.YtkkomffmnafjkaaGreatDoorZT1
import Derived.Test.YtkkomffmnafjkaaGreatDoorZW3
import Derived.Test.YtkkomffmnafjkaaGreatDoorZM1
import Derived.Test.YtkkomffmnafjkaaGreatDoorZV1
import Derived.Test.YtkkomffmnafjkaaGreatDoorZF0
import Derived.MapKept
set_option maxHeartbeats 16000000
set_option maxRecDepth 100000
set_option linter.all false
namespace Go.Proofs.YtkkomffmnafjkaaGreatDoor
open Go.RowKit
theorem q66{n:Int}(h0:0≤n):Lib.itoa n=digN n:=by unfold Lib.itoa digN;rw[if_neg (by omega)]
end Go.Proofs.YtkkomffmnafjkaaGreatDoor
