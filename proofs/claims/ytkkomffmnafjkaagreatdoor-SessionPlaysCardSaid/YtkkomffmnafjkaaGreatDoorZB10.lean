/- Contracts of the builder's writing methods at this program. -/
import Derived.Test.YtkkomffmnafjkaaGreatDoorZB8
set_option maxHeartbeats 16000000
set_option maxRecDepth 100000
set_option linter.all false
namespace Go.Proofs.YtkkomffmnafjkaaGreatDoor
open Go.RowKit
theorem Tryz.sizeBuilder:(Tryz.prog.info? 248).map (·.size)=some 2:=by kernel_rfl
theorem Tryz.liesBuilder:liesAt Tryz.prog Tryz.prog.depth 248 (2/Tryz.prog.cellsOf 248) 0 248 1=true:=by kernel_rfl
theorem Tryz.infoByte:(Tryz.prog.info? 5).map (fun i=>(i.zero,i.size,i.bytes))=some (some (.int .u8 0),1,1):=by kernel_rfl
