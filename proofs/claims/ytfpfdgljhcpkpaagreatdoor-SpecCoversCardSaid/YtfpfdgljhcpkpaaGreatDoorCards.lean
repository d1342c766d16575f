/-
  DERIVED. GIVEN WITH THE SEED: THE CARDS: each row of YtfpfdgljhcpkpaaGreatDoorRows.lean that lists a variable, with what it lists TIED to the program's text (the seventh form; the later family's looks); each row that meets fmt, with fmt's text TOLD by the authors' own Lean function (tested against real Go, not proved from fmt's source: count such statements apart). THE CARD IS WHAT COUNTS. Prove the row's statement (the work); the ties are given (YtfpfdgljhcpkpaaGreatDoorTie.lean); close each card by the builder's one call (the guide's Derived/Test/ToyasCard.lean, 'card_holds'). Laid BY PROGRAM, IN A SANDBOX (cutbox-door.mjs). By AI agents, Wed Nov 11 2026. No macro, syntax, notation, axiom, sorry.
-/
import Derived.Test.YtfpfdgljhcpkpaaGreatDoorRows
import GoSem.ClaimSeven
namespace Go.Proofs.YtfpfdgljhcpkpaaGreatDoor
namespace Rows

/-- THE TIED CARD OF 'mandolinelaw48.TierSame'. -/
def tierSameCard : Claim7 := { stood := { row := tierSameRow, standIns := [], harness := (true, "bbd1ad6a751b871fd863885999731c49abaf018ab32091ec154a1b6e9630c9cb"), looks := true }, kinds := [], alts := [], laidByText := true, laidKinds := [.data, .data, .data, .sentinel, .sentinel], laidTests := true, laidLooks := .later }
def TierSameCardSaid : Prop := Claim7.holds Tryz.pinned (.plain (OpenSpec.ofChange tierSameSpec)) tierSameCard

/-- THE TIED CARD OF 'mandolinelaw04.SpecCovers'. -/
def specCoversCard : Claim7 := { stood := { row := specCoversRow, standIns := [], harness := (true, "bbd1ad6a751b871fd863885999731c49abaf018ab32091ec154a1b6e9630c9cb"), looks := true }, kinds := [], alts := [], laidByText := true, laidKinds := [.data, .pinned], laidTests := true, laidLooks := .later }
def SpecCoversCardSaid : Prop := Claim7.holds Tryz.pinned (.plain (OpenSpec.ofChange specCoversSpec)) specCoversCard

/-- THE TIED CARD OF 'mandolinelaw04.SpecWithin'. -/
def specWithinCard : Claim7 := { stood := { row := specWithinRow, standIns := [], harness := (true, "bbd1ad6a751b871fd863885999731c49abaf018ab32091ec154a1b6e9630c9cb"), looks := true }, kinds := [], alts := [], laidByText := true, laidKinds := [.data, .pinned], laidTests := true, laidLooks := .later }
def SpecWithinCardSaid : Prop := Claim7.holds Tryz.pinned (.plain (OpenSpec.ofChange specWithinSpec)) specWithinCard

/-- THE TIED CARD OF 'mandolinelaw02.RangesTexts'. -/
def rangesTextsCard : Claim7 := { stood := { row := rangesTextsRow, standIns := [], harness := (true, "bbd1ad6a751b871fd863885999731c49abaf018ab32091ec154a1b6e9630c9cb"), looks := true }, kinds := [], alts := [], laidByText := true, laidKinds := [.data, .data, .data, .data, .sentinel, .sentinel, .pinned], laidTests := true, laidLooks := .later }
def RangesTextsCardSaid : Prop := Claim7.holds Tryz.pinned (.plain (OpenSpec.ofChange rangesTextsSpec)) rangesTextsCard

/-- THE SECOND FORM's CARD OF 'mandolinelaw48.TierSame'. -/
def tierSameUptoCard : Claim7 := { stood := { row := tierSameUptoRow, standIns := [], harness := (true, "bbd1ad6a751b871fd863885999731c49abaf018ab32091ec154a1b6e9630c9cb"), looks := true }, kinds := [], alts := [], laidByText := true, laidKinds := [.data, .data, .data, .sentinel, .sentinel], laidTests := true, laidLooks := .later }
def TierSameUptoCardSaid : Prop := Claim7.holds Tryz.pinned (.plain (OpenSpec.upto tierSameSpec)) tierSameUptoCard

/-- THE SECOND FORM's CARD OF 'mandolinelaw04.SpecCovers'. -/
def specCoversUptoCard : Claim7 := { stood := { row := specCoversUptoRow, standIns := [], harness := (true, "bbd1ad6a751b871fd863885999731c49abaf018ab32091ec154a1b6e9630c9cb"), looks := true }, kinds := [], alts := [], laidByText := true, laidKinds := [.data, .pinned], laidTests := true, laidLooks := .later }
def SpecCoversUptoCardSaid : Prop := Claim7.holds Tryz.pinned (.plain (OpenSpec.upto specCoversSpec)) specCoversUptoCard

/-- THE SECOND FORM's CARD OF 'mandolinelaw04.SpecWithin'. -/
def specWithinUptoCard : Claim7 := { stood := { row := specWithinUptoRow, standIns := [], harness := (true, "bbd1ad6a751b871fd863885999731c49abaf018ab32091ec154a1b6e9630c9cb"), looks := true }, kinds := [], alts := [], laidByText := true, laidKinds := [.data, .pinned], laidTests := true, laidLooks := .later }
def SpecWithinUptoCardSaid : Prop := Claim7.holds Tryz.pinned (.plain (OpenSpec.upto specWithinSpec)) specWithinUptoCard

/-- THE SECOND FORM's CARD OF 'mandolinelaw02.RangesTexts'. -/
def rangesTextsUptoCard : Claim7 := { stood := { row := rangesTextsUptoRow, standIns := [], harness := (true, "bbd1ad6a751b871fd863885999731c49abaf018ab32091ec154a1b6e9630c9cb"), looks := true }, kinds := [], alts := [], laidByText := true, laidKinds := [.data, .data, .data, .data, .sentinel, .sentinel, .pinned], laidTests := true, laidLooks := .later }
def RangesTextsUptoCardSaid : Prop := Claim7.holds Tryz.pinned (.plain (OpenSpec.upto rangesTextsSpec)) rangesTextsUptoCard
end Rows
end Go.Proofs.YtfpfdgljhcpkpaaGreatDoor
