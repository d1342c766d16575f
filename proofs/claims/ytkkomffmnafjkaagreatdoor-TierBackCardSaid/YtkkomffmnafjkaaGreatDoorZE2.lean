/- Contracts of the document's texts of spans: Num, Number, Text, Parse. -/
import Derived.Test.YtkkomffmnafjkaaGreatDoorZE1
import Derived.Test.YtkkomffmnafjkaaGreatDoorZT12D
set_option maxHeartbeats 16000000
set_option maxRecDepth 100000
set_option linter.all false
namespace Go.Proofs.YtkkomffmnafjkaaGreatDoor
open Go.RowKit
theorem catE{a b:List UInt8}(h:a.length+b.length≤1000000):∀W,(Op.stringOp .add ⟨a.toArray⟩ ⟨b.toArray⟩).run Tryz.prog W=.ok (.string ⟨(a++b).toArray⟩) W:=fun W=>by have:=run_string_add_sum (P:=Tryz.prog) W ⟨a.toArray⟩ ⟨b.toArray⟩ (by simp[ByteArray.size];omega);rw[str_app]at this;exact this
end Go.Proofs.YtkkomffmnafjkaaGreatDoor
