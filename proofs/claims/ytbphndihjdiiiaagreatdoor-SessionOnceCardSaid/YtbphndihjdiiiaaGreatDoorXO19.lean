/- Contracts of Anew of both sessions. Printed by gen_o19.py. -/
import Derived.Test.YtbphndihjdiiiaaGreatDoorXO11
import Derived.BigRegion
set_option maxHeartbeats 16000000
set_option maxRecDepth 100000
set_option linter.all false
namespace Go.Proofs.YtbphndihjdiiiaaGreatDoor
open Go.RowKit
def SesL.anewS(s:SesL)(a1 a2 a3:Int):SesL:=⟨1,a1,a2,a3,0,[],s.ag-1,s.told,s.cut⟩
def SesL.mayAnew(s:SesL):Prop:=s.st=2∧s.told=false∧1≤s.ag
end Go.Proofs.YtbphndihjdiiiaaGreatDoor
