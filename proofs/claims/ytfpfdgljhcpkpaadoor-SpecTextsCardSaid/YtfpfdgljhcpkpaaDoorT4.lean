/- The walk of SpecResolves. -/
import Derived.Test.YtfpfdgljhcpkpaaDoorT3
namespace Go.Proofs.YtfpfdgljhcpkpaaDoor
open Go.RowKit

theorem aw04_end (w W : World) (HB : Below w.heap.size w W) : Calls Tryd.prog 21 #[] W fun e w' => e = .returned (.bool true) ∧ Below w.heap.size w w' :=
  Calls.mono (awake04_any W) fun _ _ ⟨h, hb⟩ => ⟨h, bel_chain hb HB⟩
end Go.Proofs.YtfpfdgljhcpkpaaDoor
