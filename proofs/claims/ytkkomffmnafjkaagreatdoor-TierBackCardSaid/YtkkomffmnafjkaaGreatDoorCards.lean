/-
  DERIVED. GIVEN WITH THE SEED: THE CARDS: each row of YtkkomffmnafjkaaGreatDoorRows.lean that lists a variable, with what it lists TIED to the program's text (the seventh form; the later family's looks); each row that meets fmt, with fmt's text TOLD by the authors' own Lean function (tested against real Go, not proved from fmt's source: count such statements apart). THE CARD IS WHAT COUNTS. Prove the row's statement (the work); the ties are given (YtkkomffmnafjkaaGreatDoorTie.lean); close each card by the builder's one call (the guide's Derived/Test/ToyasCard.lean, 'card_holds'). Laid BY PROGRAM, IN A SANDBOX (cutbox-door.mjs). By AI agents, Wed Nov 11 2026. No macro, syntax, notation, axiom, sorry.
-/
import Derived.Test.YtkkomffmnafjkaaGreatDoorRows
import GoSem.ClaimSeven
namespace Go.Proofs.YtkkomffmnafjkaaGreatDoor
namespace Rows

/-- THE TIED CARD OF 'mandolinelaw44.SessionPlays'. -/
def sessionPlaysCard : Claim7 := { stood := { row := sessionPlaysRow, standIns := [], harness := (true, "9f3a7485b8dadcb4554c93dd0f0ba253f668385a20b0831b4464747cbab38569"), looks := true }, kinds := [], alts := [], laidByText := true, laidKinds := [.data, .data, .data, .data, .pinned], laidTests := true, laidLooks := .later }
def SessionPlaysCardSaid : Prop := Claim7.holds Tryz.pinned (.plain (OpenSpec.ofChange sessionPlaysSpec)) sessionPlaysCard

/-- THE TIED CARD OF 'mandolinelaw48.TierBack'. -/
def tierBackCard : Claim7 := { stood := { row := tierBackRow, standIns := [], harness := (true, "9f3a7485b8dadcb4554c93dd0f0ba253f668385a20b0831b4464747cbab38569"), looks := true }, kinds := [], alts := [], laidByText := true, laidKinds := [.data, .data, .data, .data, .sentinel, .sentinel, .pinned], laidTests := true, laidLooks := .later }
def TierBackCardSaid : Prop := Claim7.holds Tryz.pinned (.plain (OpenSpec.ofChange tierBackSpec)) tierBackCard

/-- THE SECOND FORM's CARD OF 'mandolinelaw44.SessionPlays'. -/
def sessionPlaysUptoCard : Claim7 := { stood := { row := sessionPlaysUptoRow, standIns := [], harness := (true, "9f3a7485b8dadcb4554c93dd0f0ba253f668385a20b0831b4464747cbab38569"), looks := true }, kinds := [], alts := [], laidByText := true, laidKinds := [.data, .data, .data, .data, .pinned], laidTests := true, laidLooks := .later }
def SessionPlaysUptoCardSaid : Prop := Claim7.holds Tryz.pinned (.plain (OpenSpec.upto sessionPlaysSpec)) sessionPlaysUptoCard

/-- THE SECOND FORM's CARD OF 'mandolinelaw48.TierBack'. -/
def tierBackUptoCard : Claim7 := { stood := { row := tierBackUptoRow, standIns := [], harness := (true, "9f3a7485b8dadcb4554c93dd0f0ba253f668385a20b0831b4464747cbab38569"), looks := true }, kinds := [], alts := [], laidByText := true, laidKinds := [.data, .data, .data, .data, .sentinel, .sentinel, .pinned], laidTests := true, laidLooks := .later }
def TierBackUptoCardSaid : Prop := Claim7.holds Tryz.pinned (.plain (OpenSpec.upto tierBackSpec)) tierBackUptoCard
end Rows
end Go.Proofs.YtkkomffmnafjkaaGreatDoor
