/-
  DERIVED. GIVEN WITH THE SEED: THE CARDS: each row of YtnlamjebgkgbaaaGreatDoorRows.lean that lists a variable, with what it lists TIED to the program's text (the seventh form; the later family's looks); each row that meets fmt, with fmt's text TOLD by the authors' own Lean function (tested against real Go, not proved from fmt's source: count such statements apart). THE CARD IS WHAT COUNTS. Prove the row's statement (the work); the ties are given (YtnlamjebgkgbaaaGreatDoorTie.lean); close each card by the builder's one call (the guide's Derived/Test/ToyasCard.lean, 'card_holds'). Laid BY PROGRAM, IN A SANDBOX (cutbox-door.mjs). By AI agents, Wed Nov 11 2026. No macro, syntax, notation, axiom, sorry.
-/
import Derived.Test.YtnlamjebgkgbaaaGreatDoorRows
import GoSem.ClaimSeven
namespace Go.Proofs.YtnlamjebgkgbaaaGreatDoor
namespace Rows

/-- THE TIED CARD OF 'mandolinelaw48.TierSame'. -/
def tierSameCard : Claim7 := { stood := { row := tierSameRow, standIns := [], harness := (true, "64709b3c6d5a46903c5d1a61976ddd07f67c5af32dcfff58678874d51cee7111"), looks := true }, kinds := [], alts := [], laidByText := true, laidKinds := [.data, .data, .data, .sentinel, .sentinel], laidTests := true, laidLooks := .later }
def TierSameCardSaid : Prop := Claim7.holds Tryz.pinned (.plain (OpenSpec.ofChange tierSameSpec)) tierSameCard

/-- THE TIED CARD OF 'mandolinelaw02.RangesTexts'. -/
def rangesTextsCard : Claim7 := { stood := { row := rangesTextsRow, standIns := [], harness := (true, "64709b3c6d5a46903c5d1a61976ddd07f67c5af32dcfff58678874d51cee7111"), looks := true }, kinds := [], alts := [], laidByText := true, laidKinds := [.data, .data, .data, .data, .sentinel, .sentinel, .pinned], laidTests := true, laidLooks := .later }
def RangesTextsCardSaid : Prop := Claim7.holds Tryz.pinned (.plain (OpenSpec.ofChange rangesTextsSpec)) rangesTextsCard

/-- THE SECOND FORM's CARD OF 'mandolinelaw48.TierSame'. -/
def tierSameUptoCard : Claim7 := { stood := { row := tierSameUptoRow, standIns := [], harness := (true, "64709b3c6d5a46903c5d1a61976ddd07f67c5af32dcfff58678874d51cee7111"), looks := true }, kinds := [], alts := [], laidByText := true, laidKinds := [.data, .data, .data, .sentinel, .sentinel], laidTests := true, laidLooks := .later }
def TierSameUptoCardSaid : Prop := Claim7.holds Tryz.pinned (.plain (OpenSpec.upto tierSameSpec)) tierSameUptoCard

/-- THE SECOND FORM's CARD OF 'mandolinelaw02.RangesTexts'. -/
def rangesTextsUptoCard : Claim7 := { stood := { row := rangesTextsUptoRow, standIns := [], harness := (true, "64709b3c6d5a46903c5d1a61976ddd07f67c5af32dcfff58678874d51cee7111"), looks := true }, kinds := [], alts := [], laidByText := true, laidKinds := [.data, .data, .data, .data, .sentinel, .sentinel, .pinned], laidTests := true, laidLooks := .later }
def RangesTextsUptoCardSaid : Prop := Claim7.holds Tryz.pinned (.plain (OpenSpec.upto rangesTextsSpec)) rangesTextsUptoCard
end Rows
end Go.Proofs.YtnlamjebgkgbaaaGreatDoor
