/- Contract of a set's Or. Contract of a set's Less. -/
import Derived.Test.YtbphndihjdiiiaaGreatDoorXB4
import Derived.Test.YtbphndihjdiiiaaGreatDoorXM1
import Derived.Laws.MakeOwn
import Derived.Maps.AppendAt
set_option maxHeartbeats 16000000
set_option maxRecDepth 100000
set_option linter.all false
namespace Go.Proofs.YtbphndihjdiiiaaGreatDoor
open Go.RowKit
def OffB(A:Option Addr)(X:Nat):Prop:=∀a,A=some a→a.block≠X
section
variable{L M T done:List (Int×Int)}{i j:Nat}{x y:Int×Int}
end
section
variable{L M T R done:List (Int×Int)}{i j k:Nat}{x y:Int×Int}{t f:Int}
end
theorem Own.offNew{w:World}{base:Nat}{A:Option Addr}{c:Nat}{L:List (Int×Int)}(h:Own w base A c L):OffB A w.heap.size:=by intro a ha;subst ha;have:=(ae_ h a.block rfl).2;omega
end Go.Proofs.YtbphndihjdiiiaaGreatDoor
