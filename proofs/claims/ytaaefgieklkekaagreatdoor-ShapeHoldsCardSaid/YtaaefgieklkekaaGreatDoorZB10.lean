/- Contracts of the builder's writing methods at this program. -/
import Derived.Test.YtaaefgieklkekaaGreatDoorZB8
import Derived.Lib.Builder
import Derived.Lib.AppendStr
import Derived.Lib.OthersKept
import Derived.Laws.Externs
namespace Go.Proofs.YtaaefgieklkekaaGreatDoor
open Go.RowKit

theorem Tryz.sizeBuilder : (Tryz.prog.info? 156).map (·.size) = some 2 := by kernel_rfl
theorem Tryz.liesBuilder : liesAt Tryz.prog Tryz.prog.depth 156 (2 / Tryz.prog.cellsOf 156) 0 156 1 = true := by kernel_rfl
theorem Tryz.infoByte : (Tryz.prog.info? 5).map (fun i => (i.zero, i.size, i.bytes)) = some (some (.int .u8 0), 1, 1) := by kernel_rfl

end Go.Proofs.YtaaefgieklkekaaGreatDoor
