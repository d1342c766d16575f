/- Contracts of the texts of ranges: the program's and the document's. -/
import Derived.Test.YtkkomffmnafjkaaGreatDoorZT1
import Derived.Test.YtkkomffmnafjkaaGreatDoorZW3
import Derived.Test.YtkkomffmnafjkaaGreatDoorZV1
import Derived.Test.YtkkomffmnafjkaaGreatDoorZF0
set_option maxHeartbeats 16000000
set_option maxRecDepth 100000
set_option linter.all false
namespace Go.Proofs.YtkkomffmnafjkaaGreatDoor
open Go.RowKit
theorem x181{n:Int}(h0:0≤n)(h:n<10):digN n=[UInt8.ofNat (48+n.toNat)]:=by unfold digN;rw[Lib.decDigits,dif_pos (by omega)]
theorem q61{n:Int}(h:¬n<10):digN n=digN (n/10)++[UInt8.ofNat (48+(n%10).toNat)]:=by
 unfold digN;rw[Lib.decDigits,dif_neg (by omega)];have e1:(n/10).toNat=n.toNat/10:=by omega
 have e2:(n%10).toNat=n.toNat%10:=by omega
 rw[e1,e2]
theorem q66{n:Int}(h0:0≤n):Lib.itoa n=digN n:=by unfold Lib.itoa digN;rw[q_ (by omega)]
