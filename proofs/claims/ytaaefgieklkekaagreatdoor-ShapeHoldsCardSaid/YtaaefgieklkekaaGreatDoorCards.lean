/-
  DERIVED. GIVEN WITH THE SEED: THE CARDS: each row of YtaaefgieklkekaaGreatDoorRows.lean that lists a variable, with what it lists TIED to the program's text (the seventh form; the later family's looks); each row that meets fmt, with fmt's text TOLD by the authors' own Lean function (tested against real Go, not proved from fmt's source: count such statements apart). THE CARD IS WHAT COUNTS. Prove the row's statement (the work); the ties are given (YtaaefgieklkekaaGreatDoorTie.lean); close each card by the builder's one call (the guide's Derived/Test/ToyasCard.lean, 'card_holds'). Laid BY PROGRAM, IN A SANDBOX (cutbox-door.mjs). By AI agents, Wed Nov 11 2026. No macro, syntax, notation, axiom, sorry.
-/
import Derived.Test.YtaaefgieklkekaaGreatDoorRows
import GoSem.ClaimSeven
namespace Go.Proofs.YtaaefgieklkekaaGreatDoor
namespace Rows

/-- THE TIED CARD OF 'mandolinelaw15.ShapeTells'. -/
def shapeTellsCard : Claim7 := { stood := { row := shapeTellsRow, standIns := [], harness := (true, "c68ce134f339960a4803d43cb9eaa4946cf06f6df65bfe58c858827375c854f4"), looks := true }, kinds := [], alts := [], laidByText := true, laidKinds := [.data, .data, .data, .data, .pinned], laidTests := true, laidLooks := .later }
def ShapeTellsCardSaid : Prop := Claim7.holds Tryz.pinned (.plain (OpenSpec.ofChange shapeTellsSpec)) shapeTellsCard

/-- THE TIED CARD OF 'mandolinelaw15.ShapeBare'. -/
def shapeBareCard : Claim7 := { stood := { row := shapeBareRow, standIns := [], harness := (true, "c68ce134f339960a4803d43cb9eaa4946cf06f6df65bfe58c858827375c854f4"), looks := true }, kinds := [], alts := [], laidByText := true, laidKinds := [.data, .data, .data, .data, .pinned], laidTests := true, laidLooks := .later }
def ShapeBareCardSaid : Prop := Claim7.holds Tryz.pinned (.plain (OpenSpec.ofChange shapeBareSpec)) shapeBareCard

/-- THE TIED CARD OF 'mandolinelaw15.ShapeSeeds'. -/
def shapeSeedsCard : Claim7 := { stood := { row := shapeSeedsRow, standIns := [], harness := (true, "c68ce134f339960a4803d43cb9eaa4946cf06f6df65bfe58c858827375c854f4"), looks := true }, kinds := [], alts := [], laidByText := true, laidKinds := [.data, .data, .data, .data, .pinned], laidTests := true, laidLooks := .later }
def ShapeSeedsCardSaid : Prop := Claim7.holds Tryz.pinned (.plain (OpenSpec.ofChange shapeSeedsSpec)) shapeSeedsCard

/-- THE TIED CARD OF 'mandolinelaw15.ShapeHolds'. -/
def shapeHoldsCard : Claim7 := { stood := { row := shapeHoldsRow, standIns := [], harness := (true, "c68ce134f339960a4803d43cb9eaa4946cf06f6df65bfe58c858827375c854f4"), looks := true }, kinds := [], alts := [], laidByText := true, laidKinds := [.data, .data, .data, .data, .sentinel, .sentinel, .pinned], laidTests := true, laidLooks := .later }
def ShapeHoldsCardSaid : Prop := Claim7.holds Tryz.pinned (.plain (OpenSpec.ofChange shapeHoldsSpec)) shapeHoldsCard

/-- THE TIED CARD OF 'mandolinelaw15.ShapeRight'. -/
def shapeRightCard : Claim7 := { stood := { row := shapeRightRow, standIns := [], harness := (true, "c68ce134f339960a4803d43cb9eaa4946cf06f6df65bfe58c858827375c854f4"), looks := true }, kinds := [], alts := [], laidByText := true, laidKinds := [.data, .data, .data, .data, .sentinel, .sentinel, .pinned], laidTests := true, laidLooks := .later }
def ShapeRightCardSaid : Prop := Claim7.holds Tryz.pinned (.plain (OpenSpec.ofChange shapeRightSpec)) shapeRightCard

/-- THE TIED CARD OF 'mandolinelaw15.ShapeFails'. -/
def shapeFailsCard : Claim7 := { stood := { row := shapeFailsRow, standIns := [], harness := (true, "c68ce134f339960a4803d43cb9eaa4946cf06f6df65bfe58c858827375c854f4"), looks := true }, kinds := [], alts := [], laidByText := true, laidKinds := [.data, .data, .data, .data, .sentinel, .sentinel, .pinned], laidTests := true, laidLooks := .later }
def ShapeFailsCardSaid : Prop := Claim7.holds Tryz.pinned (.plain (OpenSpec.ofChange shapeFailsSpec)) shapeFailsCard

/-- THE SECOND FORM's CARD OF 'mandolinelaw15.ShapeTells'. -/
def shapeTellsUptoCard : Claim7 := { stood := { row := shapeTellsUptoRow, standIns := [], harness := (true, "c68ce134f339960a4803d43cb9eaa4946cf06f6df65bfe58c858827375c854f4"), looks := true }, kinds := [], alts := [], laidByText := true, laidKinds := [.data, .data, .data, .data, .pinned], laidTests := true, laidLooks := .later }
def ShapeTellsUptoCardSaid : Prop := Claim7.holds Tryz.pinned (.plain (OpenSpec.upto shapeTellsSpec)) shapeTellsUptoCard

/-- THE SECOND FORM's CARD OF 'mandolinelaw15.ShapeBare'. -/
def shapeBareUptoCard : Claim7 := { stood := { row := shapeBareUptoRow, standIns := [], harness := (true, "c68ce134f339960a4803d43cb9eaa4946cf06f6df65bfe58c858827375c854f4"), looks := true }, kinds := [], alts := [], laidByText := true, laidKinds := [.data, .data, .data, .data, .pinned], laidTests := true, laidLooks := .later }
def ShapeBareUptoCardSaid : Prop := Claim7.holds Tryz.pinned (.plain (OpenSpec.upto shapeBareSpec)) shapeBareUptoCard

/-- THE SECOND FORM's CARD OF 'mandolinelaw15.ShapeSeeds'. -/
def shapeSeedsUptoCard : Claim7 := { stood := { row := shapeSeedsUptoRow, standIns := [], harness := (true, "c68ce134f339960a4803d43cb9eaa4946cf06f6df65bfe58c858827375c854f4"), looks := true }, kinds := [], alts := [], laidByText := true, laidKinds := [.data, .data, .data, .data, .pinned], laidTests := true, laidLooks := .later }
def ShapeSeedsUptoCardSaid : Prop := Claim7.holds Tryz.pinned (.plain (OpenSpec.upto shapeSeedsSpec)) shapeSeedsUptoCard

/-- THE SECOND FORM's CARD OF 'mandolinelaw15.ShapeHolds'. -/
def shapeHoldsUptoCard : Claim7 := { stood := { row := shapeHoldsUptoRow, standIns := [], harness := (true, "c68ce134f339960a4803d43cb9eaa4946cf06f6df65bfe58c858827375c854f4"), looks := true }, kinds := [], alts := [], laidByText := true, laidKinds := [.data, .data, .data, .data, .sentinel, .sentinel, .pinned], laidTests := true, laidLooks := .later }
def ShapeHoldsUptoCardSaid : Prop := Claim7.holds Tryz.pinned (.plain (OpenSpec.upto shapeHoldsSpec)) shapeHoldsUptoCard

/-- THE SECOND FORM's CARD OF 'mandolinelaw15.ShapeRight'. -/
def shapeRightUptoCard : Claim7 := { stood := { row := shapeRightUptoRow, standIns := [], harness := (true, "c68ce134f339960a4803d43cb9eaa4946cf06f6df65bfe58c858827375c854f4"), looks := true }, kinds := [], alts := [], laidByText := true, laidKinds := [.data, .data, .data, .data, .sentinel, .sentinel, .pinned], laidTests := true, laidLooks := .later }
def ShapeRightUptoCardSaid : Prop := Claim7.holds Tryz.pinned (.plain (OpenSpec.upto shapeRightSpec)) shapeRightUptoCard

/-- THE SECOND FORM's CARD OF 'mandolinelaw15.ShapeFails'. -/
def shapeFailsUptoCard : Claim7 := { stood := { row := shapeFailsUptoRow, standIns := [], harness := (true, "c68ce134f339960a4803d43cb9eaa4946cf06f6df65bfe58c858827375c854f4"), looks := true }, kinds := [], alts := [], laidByText := true, laidKinds := [.data, .data, .data, .data, .sentinel, .sentinel, .pinned], laidTests := true, laidLooks := .later }
def ShapeFailsUptoCardSaid : Prop := Claim7.holds Tryz.pinned (.plain (OpenSpec.upto shapeFailsSpec)) shapeFailsUptoCard
end Rows
end Go.Proofs.YtaaefgieklkekaaGreatDoor
