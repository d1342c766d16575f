/- Contracts of the functions that read a range's text: number, Cut at '-', .. -/
import Derived.Test.YtkkomffmnafjkaaGreatDoorZB10
import Derived.Test.YtkkomffmnafjkaaGreatDoorZM1
import Derived.Test.YtkkomffmnafjkaaGreatDoorZLaid2
set_option maxHeartbeats 16000000
set_option maxRecDepth 100000
set_option linter.all false
namespace Go.Proofs.YtkkomffmnafjkaaGreatDoor
open Go.RowKit
theorem q19(l:List UInt8):(⟨l.toArray⟩:ByteArray).size=l.length:=List.size_toArray ..
theorem x192{c:UInt8}(h:digB c=true):48≤c.toNat∧c.toNat≤57:=by simpa[digB]using h
theorem q73{a b:ByteArray}(h:a.data.toList=b.data.toList):a=b:=by obtain⟨⟨a⟩⟩:=a;obtain⟨⟨b⟩⟩:=b;simp at h;subst h;rfl
theorem z129(s:ByteArray)(k:Nat):s.extract 0 k=⟨(s.data.toList.take k).toArray⟩:=q73 (by simp[ByteArray.data_extract])
end Go.Proofs.YtkkomffmnafjkaaGreatDoor
