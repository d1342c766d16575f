/-
  DERIVED. GIVEN WITH THE SEED: THE CARDS: each row of YtnlamjebgkgbaaaDoorRows.lean that lists a variable, with what it lists TIED to the program's text (the seventh form; the later family's looks); each row that meets fmt, with fmt's text TOLD by the authors' own Lean function (tested against real Go, not proved from fmt's source: count such statements apart). THE CARD IS WHAT COUNTS. Prove the row's statement (the work); the ties are given (YtnlamjebgkgbaaaDoorTie.lean); close each card by the builder's one call (the guide's Derived/Test/ToyasCard.lean, 'card_holds'). Laid BY PROGRAM, IN A SANDBOX (cutbox-door.mjs). By AI agents, Wed Nov 11 2026. No macro, syntax, notation, axiom, sorry.
-/
import Derived.Test.YtnlamjebgkgbaaaDoorRows
import GoSem.ClaimSeven
namespace Go.Proofs.YtnlamjebgkgbaaaDoor
namespace Rows

/-- THE TIED CARD OF 'mandolinelaw48.TierDowns'. -/
def tierDownsCard : Claim7 := { stood := { row := tierDownsRow, standIns := [], harness := (true, "a7984f2a2d87e558a478c8ff245db97df4702c8b019f469b0d10e3b6d4d10c09"), looks := true }, kinds := [], alts := [], laidByText := true, laidKinds := [.data, .data, .data, .sentinel, .sentinel], laidTests := true, laidLooks := .later }
def TierDownsCardSaid : Prop := Claim7.holds Tryd.pinned (.plain (OpenSpec.ofChange tierDownsSpec)) tierDownsCard

/-- THE TIED CARD OF 'mandolinelaw48.TierDeals'. -/
def tierDealsCard : Claim7 := { stood := { row := tierDealsRow, standIns := [], harness := (true, "a7984f2a2d87e558a478c8ff245db97df4702c8b019f469b0d10e3b6d4d10c09"), looks := true }, kinds := [], alts := [], laidByText := true, laidKinds := [.data, .data, .data, .sentinel, .sentinel], laidTests := true, laidLooks := .later }
def TierDealsCardSaid : Prop := Claim7.holds Tryd.pinned (.plain (OpenSpec.ofChange tierDealsSpec)) tierDealsCard

/-- THE SECOND FORM's CARD OF 'mandolinelaw48.TierDowns'. -/
def tierDownsUptoCard : Claim7 := { stood := { row := tierDownsUptoRow, standIns := [], harness := (true, "a7984f2a2d87e558a478c8ff245db97df4702c8b019f469b0d10e3b6d4d10c09"), looks := true }, kinds := [], alts := [], laidByText := true, laidKinds := [.data, .data, .data, .sentinel, .sentinel], laidTests := true, laidLooks := .later }
def TierDownsUptoCardSaid : Prop := Claim7.holds Tryd.pinned (.plain (OpenSpec.upto tierDownsSpec)) tierDownsUptoCard

/-- THE SECOND FORM's CARD OF 'mandolinelaw48.TierDeals'. -/
def tierDealsUptoCard : Claim7 := { stood := { row := tierDealsUptoRow, standIns := [], harness := (true, "a7984f2a2d87e558a478c8ff245db97df4702c8b019f469b0d10e3b6d4d10c09"), looks := true }, kinds := [], alts := [], laidByText := true, laidKinds := [.data, .data, .data, .sentinel, .sentinel], laidTests := true, laidLooks := .later }
def TierDealsUptoCardSaid : Prop := Claim7.holds Tryd.pinned (.plain (OpenSpec.upto tierDealsSpec)) tierDealsUptoCard
end Rows
end Go.Proofs.YtnlamjebgkgbaaaDoor
