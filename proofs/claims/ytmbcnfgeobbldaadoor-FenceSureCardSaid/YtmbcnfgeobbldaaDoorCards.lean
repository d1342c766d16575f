/-
  DERIVED. GIVEN WITH THE SEED: THE CARDS: each row of YtmbcnfgeobbldaaDoorRows.lean that lists a variable, with what it lists TIED to the program's text (the seventh form; the later family's looks); each row that meets fmt, with fmt's text TOLD by the authors' own Lean function (tested against real Go, not proved from fmt's source: count such statements apart). THE CARD IS WHAT COUNTS. Prove the row's statement (the work); the ties are given (YtmbcnfgeobbldaaDoorTie.lean); close each card by the builder's one call (the guide's Derived/Test/ToyasCard.lean, 'card_holds'). Laid BY PROGRAM, IN A SANDBOX (cutbox-door.mjs). By AI agents, Wed Nov 11 2026. No macro, syntax, notation, axiom, sorry.
-/
import Derived.Test.YtmbcnfgeobbldaaDoorRows
import GoSem.ClaimSeven
namespace Go.Proofs.YtmbcnfgeobbldaaDoor
namespace Rows

/-- THE TIED CARD OF 'mandolinelaw02.RangesAt'. -/
def rangesAtCard : Claim7 := { stood := { row := rangesAtRow, standIns := [], harness := (true, "6f3a7f4eb2f0bf85c90c9693f0e1994232a6fe5ef860fb1bb5f96ea0956126e5"), looks := false }, kinds := [], alts := [], laidByText := true, laidKinds := [.data, .data, .data], laidTests := true, laidLooks := .later }
def RangesAtCardSaid : Prop := Claim7.holds Tryd.pinned (.plain (OpenSpec.ofChange rangesAtSpec)) rangesAtCard

/-- THE TIED CARD OF 'mandolinelaw02.RangesStops'. -/
def rangesStopsCard : Claim7 := { stood := { row := rangesStopsRow, standIns := [], harness := (true, "6f3a7f4eb2f0bf85c90c9693f0e1994232a6fe5ef860fb1bb5f96ea0956126e5"), looks := false }, kinds := [], alts := [], laidByText := true, laidKinds := [.data, .data, .data], laidTests := true, laidLooks := .later }
def RangesStopsCardSaid : Prop := Claim7.holds Tryd.pinned (.plain (OpenSpec.ofChange rangesStopsSpec)) rangesStopsCard

/-- THE TIED CARD OF 'mandolinelaw02.RangesHolds'. -/
def rangesHoldsCard : Claim7 := { stood := { row := rangesHoldsRow, standIns := [], harness := (true, "6f3a7f4eb2f0bf85c90c9693f0e1994232a6fe5ef860fb1bb5f96ea0956126e5"), looks := false }, kinds := [], alts := [], laidByText := true, laidKinds := [.data, .data, .data], laidTests := true, laidLooks := .later }
def RangesHoldsCardSaid : Prop := Claim7.holds Tryd.pinned (.plain (OpenSpec.ofChange rangesHoldsSpec)) rangesHoldsCard

/-- THE TIED CARD OF 'mandolinelaw02.RangesKept'. -/
def rangesKeptCard : Claim7 := { stood := { row := rangesKeptRow, standIns := [], harness := (true, "6f3a7f4eb2f0bf85c90c9693f0e1994232a6fe5ef860fb1bb5f96ea0956126e5"), looks := false }, kinds := [], alts := [], laidByText := true, laidKinds := [.data, .data, .data], laidTests := true, laidLooks := .later }
def RangesKeptCardSaid : Prop := Claim7.holds Tryd.pinned (.plain (OpenSpec.ofChange rangesKeptSpec)) rangesKeptCard

/-- THE TIED CARD OF 'mandolinelaw02.RangesOf'. -/
def rangesOfCard : Claim7 := { stood := { row := rangesOfRow, standIns := [], harness := (true, "6f3a7f4eb2f0bf85c90c9693f0e1994232a6fe5ef860fb1bb5f96ea0956126e5"), looks := false }, kinds := [], alts := [], laidByText := true, laidKinds := [.data, .data, .data], laidTests := true, laidLooks := .later }
def RangesOfCardSaid : Prop := Claim7.holds Tryd.pinned (.plain (OpenSpec.ofChange rangesOfSpec)) rangesOfCard

/-- THE TIED CARD OF 'mandolinelaw02.RangesNear'. -/
def rangesNearCard : Claim7 := { stood := { row := rangesNearRow, standIns := [], harness := (true, "6f3a7f4eb2f0bf85c90c9693f0e1994232a6fe5ef860fb1bb5f96ea0956126e5"), looks := false }, kinds := [], alts := [], laidByText := true, laidKinds := [.data, .data, .data], laidTests := true, laidLooks := .later }
def RangesNearCardSaid : Prop := Claim7.holds Tryd.pinned (.plain (OpenSpec.ofChange rangesNearSpec)) rangesNearCard

/-- THE TIED CARD OF 'mandolinelaw37.FenceDecides'. -/
def fenceDecidesCard : Claim7 := { stood := { row := fenceDecidesRow, standIns := [], harness := (true, "6f3a7f4eb2f0bf85c90c9693f0e1994232a6fe5ef860fb1bb5f96ea0956126e5"), looks := false }, kinds := [], alts := [], laidByText := true, laidKinds := [.data, .data, .data, .data], laidTests := true, laidLooks := .later }
def FenceDecidesCardSaid : Prop := Claim7.holds Tryd.pinned (.plain (OpenSpec.ofChange fenceDecidesSpec)) fenceDecidesCard

/-- THE TIED CARD OF 'mandolinelaw37.FenceTexts'. -/
def fenceTextsCard : Claim7 := { stood := { row := fenceTextsRow, standIns := [], harness := (true, "6f3a7f4eb2f0bf85c90c9693f0e1994232a6fe5ef860fb1bb5f96ea0956126e5"), looks := false }, kinds := [], alts := [], laidByText := true, laidKinds := [.data, .data, .data, .data], laidTests := true, laidLooks := .later }
def FenceTextsCardSaid : Prop := Claim7.holds Tryd.pinned (.plain (OpenSpec.ofChange fenceTextsSpec)) fenceTextsCard

/-- THE TIED CARD OF 'mandolinelaw37.FenceTurns'. -/
def fenceTurnsCard : Claim7 := { stood := { row := fenceTurnsRow, standIns := [], harness := (true, "6f3a7f4eb2f0bf85c90c9693f0e1994232a6fe5ef860fb1bb5f96ea0956126e5"), looks := false }, kinds := [], alts := [], laidByText := true, laidKinds := [.data, .data, .data, .data], laidTests := true, laidLooks := .later }
def FenceTurnsCardSaid : Prop := Claim7.holds Tryd.pinned (.plain (OpenSpec.ofChange fenceTurnsSpec)) fenceTurnsCard

/-- THE TIED CARD OF 'mandolinelaw37.FenceLost'. -/
def fenceLostCard : Claim7 := { stood := { row := fenceLostRow, standIns := [], harness := (true, "6f3a7f4eb2f0bf85c90c9693f0e1994232a6fe5ef860fb1bb5f96ea0956126e5"), looks := false }, kinds := [], alts := [], laidByText := true, laidKinds := [.data, .data, .data, .data], laidTests := true, laidLooks := .later }
def FenceLostCardSaid : Prop := Claim7.holds Tryd.pinned (.plain (OpenSpec.ofChange fenceLostSpec)) fenceLostCard

/-- THE TIED CARD OF 'mandolinelaw37.FenceSure'. -/
def fenceSureCard : Claim7 := { stood := { row := fenceSureRow, standIns := [], harness := (true, "6f3a7f4eb2f0bf85c90c9693f0e1994232a6fe5ef860fb1bb5f96ea0956126e5"), looks := false }, kinds := [], alts := [], laidByText := true, laidKinds := [.data, .data, .data, .data], laidTests := true, laidLooks := .later }
def FenceSureCardSaid : Prop := Claim7.holds Tryd.pinned (.plain (OpenSpec.ofChange fenceSureSpec)) fenceSureCard

/-- THE TIED CARD OF 'mandolinelaw37.FenceApart'. -/
def fenceApartCard : Claim7 := { stood := { row := fenceApartRow, standIns := [], harness := (true, "6f3a7f4eb2f0bf85c90c9693f0e1994232a6fe5ef860fb1bb5f96ea0956126e5"), looks := false }, kinds := [], alts := [], laidByText := true, laidKinds := [.data, .data, .data, .data], laidTests := true, laidLooks := .later }
def FenceApartCardSaid : Prop := Claim7.holds Tryd.pinned (.plain (OpenSpec.ofChange fenceApartSpec)) fenceApartCard

/-- THE TIED CARD OF 'mandolinelaw02.RangesTwo'. -/
def rangesTwoCard : Claim7 := { stood := { row := rangesTwoRow, standIns := [], harness := (true, "6f3a7f4eb2f0bf85c90c9693f0e1994232a6fe5ef860fb1bb5f96ea0956126e5"), looks := false }, kinds := [], alts := [], laidByText := true, laidKinds := [.data, .data, .data], laidTests := true, laidLooks := .later }
def RangesTwoCardSaid : Prop := Claim7.holds Tryd.pinned (.plain (OpenSpec.ofChange rangesTwoSpec)) rangesTwoCard

/-- THE TIED CARD OF 'mandolinelaw02.RangesLaws'. -/
def rangesLawsCard : Claim7 := { stood := { row := rangesLawsRow, standIns := [], harness := (true, "6f3a7f4eb2f0bf85c90c9693f0e1994232a6fe5ef860fb1bb5f96ea0956126e5"), looks := false }, kinds := [], alts := [], laidByText := true, laidKinds := [.data, .data, .data], laidTests := true, laidLooks := .later }
def RangesLawsCardSaid : Prop := Claim7.holds Tryd.pinned (.plain (OpenSpec.ofChange rangesLawsSpec)) rangesLawsCard

/-- THE TIED CARD OF 'mandolinelaw37.FenceGoes'. -/
def fenceGoesCard : Claim7 := { stood := { row := fenceGoesRow, standIns := [], harness := (true, "6f3a7f4eb2f0bf85c90c9693f0e1994232a6fe5ef860fb1bb5f96ea0956126e5"), looks := false }, kinds := [], alts := [], laidByText := true, laidKinds := [.data, .data, .data, .data], laidTests := true, laidLooks := .later }
def FenceGoesCardSaid : Prop := Claim7.holds Tryd.pinned (.plain (OpenSpec.ofChange fenceGoesSpec)) fenceGoesCard

/-- THE TIED CARD OF 'mandolinelaw37.FenceEnds'. -/
def fenceEndsCard : Claim7 := { stood := { row := fenceEndsRow, standIns := [], harness := (true, "6f3a7f4eb2f0bf85c90c9693f0e1994232a6fe5ef860fb1bb5f96ea0956126e5"), looks := false }, kinds := [], alts := [], laidByText := true, laidKinds := [.data, .data, .data, .data], laidTests := true, laidLooks := .later }
def FenceEndsCardSaid : Prop := Claim7.holds Tryd.pinned (.plain (OpenSpec.ofChange fenceEndsSpec)) fenceEndsCard

/-- THE SECOND FORM's CARD OF 'mandolinelaw02.RangesAt'. -/
def rangesAtUptoCard : Claim7 := { stood := { row := rangesAtUptoRow, standIns := [], harness := (true, "6f3a7f4eb2f0bf85c90c9693f0e1994232a6fe5ef860fb1bb5f96ea0956126e5"), looks := false }, kinds := [], alts := [], laidByText := true, laidKinds := [.data, .data, .data], laidTests := true, laidLooks := .later }
def RangesAtUptoCardSaid : Prop := Claim7.holds Tryd.pinned (.plain (OpenSpec.upto rangesAtSpec)) rangesAtUptoCard

/-- THE SECOND FORM's CARD OF 'mandolinelaw02.RangesStops'. -/
def rangesStopsUptoCard : Claim7 := { stood := { row := rangesStopsUptoRow, standIns := [], harness := (true, "6f3a7f4eb2f0bf85c90c9693f0e1994232a6fe5ef860fb1bb5f96ea0956126e5"), looks := false }, kinds := [], alts := [], laidByText := true, laidKinds := [.data, .data, .data], laidTests := true, laidLooks := .later }
def RangesStopsUptoCardSaid : Prop := Claim7.holds Tryd.pinned (.plain (OpenSpec.upto rangesStopsSpec)) rangesStopsUptoCard

/-- THE SECOND FORM's CARD OF 'mandolinelaw02.RangesHolds'. -/
def rangesHoldsUptoCard : Claim7 := { stood := { row := rangesHoldsUptoRow, standIns := [], harness := (true, "6f3a7f4eb2f0bf85c90c9693f0e1994232a6fe5ef860fb1bb5f96ea0956126e5"), looks := false }, kinds := [], alts := [], laidByText := true, laidKinds := [.data, .data, .data], laidTests := true, laidLooks := .later }
def RangesHoldsUptoCardSaid : Prop := Claim7.holds Tryd.pinned (.plain (OpenSpec.upto rangesHoldsSpec)) rangesHoldsUptoCard

/-- THE SECOND FORM's CARD OF 'mandolinelaw02.RangesKept'. -/
def rangesKeptUptoCard : Claim7 := { stood := { row := rangesKeptUptoRow, standIns := [], harness := (true, "6f3a7f4eb2f0bf85c90c9693f0e1994232a6fe5ef860fb1bb5f96ea0956126e5"), looks := false }, kinds := [], alts := [], laidByText := true, laidKinds := [.data, .data, .data], laidTests := true, laidLooks := .later }
def RangesKeptUptoCardSaid : Prop := Claim7.holds Tryd.pinned (.plain (OpenSpec.upto rangesKeptSpec)) rangesKeptUptoCard

/-- THE SECOND FORM's CARD OF 'mandolinelaw02.RangesOf'. -/
def rangesOfUptoCard : Claim7 := { stood := { row := rangesOfUptoRow, standIns := [], harness := (true, "6f3a7f4eb2f0bf85c90c9693f0e1994232a6fe5ef860fb1bb5f96ea0956126e5"), looks := false }, kinds := [], alts := [], laidByText := true, laidKinds := [.data, .data, .data], laidTests := true, laidLooks := .later }
def RangesOfUptoCardSaid : Prop := Claim7.holds Tryd.pinned (.plain (OpenSpec.upto rangesOfSpec)) rangesOfUptoCard

/-- THE SECOND FORM's CARD OF 'mandolinelaw02.RangesNear'. -/
def rangesNearUptoCard : Claim7 := { stood := { row := rangesNearUptoRow, standIns := [], harness := (true, "6f3a7f4eb2f0bf85c90c9693f0e1994232a6fe5ef860fb1bb5f96ea0956126e5"), looks := false }, kinds := [], alts := [], laidByText := true, laidKinds := [.data, .data, .data], laidTests := true, laidLooks := .later }
def RangesNearUptoCardSaid : Prop := Claim7.holds Tryd.pinned (.plain (OpenSpec.upto rangesNearSpec)) rangesNearUptoCard

/-- THE SECOND FORM's CARD OF 'mandolinelaw37.FenceDecides'. -/
def fenceDecidesUptoCard : Claim7 := { stood := { row := fenceDecidesUptoRow, standIns := [], harness := (true, "6f3a7f4eb2f0bf85c90c9693f0e1994232a6fe5ef860fb1bb5f96ea0956126e5"), looks := false }, kinds := [], alts := [], laidByText := true, laidKinds := [.data, .data, .data, .data], laidTests := true, laidLooks := .later }
def FenceDecidesUptoCardSaid : Prop := Claim7.holds Tryd.pinned (.plain (OpenSpec.upto fenceDecidesSpec)) fenceDecidesUptoCard

/-- THE SECOND FORM's CARD OF 'mandolinelaw37.FenceTexts'. -/
def fenceTextsUptoCard : Claim7 := { stood := { row := fenceTextsUptoRow, standIns := [], harness := (true, "6f3a7f4eb2f0bf85c90c9693f0e1994232a6fe5ef860fb1bb5f96ea0956126e5"), looks := false }, kinds := [], alts := [], laidByText := true, laidKinds := [.data, .data, .data, .data], laidTests := true, laidLooks := .later }
def FenceTextsUptoCardSaid : Prop := Claim7.holds Tryd.pinned (.plain (OpenSpec.upto fenceTextsSpec)) fenceTextsUptoCard

/-- THE SECOND FORM's CARD OF 'mandolinelaw37.FenceTurns'. -/
def fenceTurnsUptoCard : Claim7 := { stood := { row := fenceTurnsUptoRow, standIns := [], harness := (true, "6f3a7f4eb2f0bf85c90c9693f0e1994232a6fe5ef860fb1bb5f96ea0956126e5"), looks := false }, kinds := [], alts := [], laidByText := true, laidKinds := [.data, .data, .data, .data], laidTests := true, laidLooks := .later }
def FenceTurnsUptoCardSaid : Prop := Claim7.holds Tryd.pinned (.plain (OpenSpec.upto fenceTurnsSpec)) fenceTurnsUptoCard

/-- THE SECOND FORM's CARD OF 'mandolinelaw37.FenceLost'. -/
def fenceLostUptoCard : Claim7 := { stood := { row := fenceLostUptoRow, standIns := [], harness := (true, "6f3a7f4eb2f0bf85c90c9693f0e1994232a6fe5ef860fb1bb5f96ea0956126e5"), looks := false }, kinds := [], alts := [], laidByText := true, laidKinds := [.data, .data, .data, .data], laidTests := true, laidLooks := .later }
def FenceLostUptoCardSaid : Prop := Claim7.holds Tryd.pinned (.plain (OpenSpec.upto fenceLostSpec)) fenceLostUptoCard

/-- THE SECOND FORM's CARD OF 'mandolinelaw37.FenceSure'. -/
def fenceSureUptoCard : Claim7 := { stood := { row := fenceSureUptoRow, standIns := [], harness := (true, "6f3a7f4eb2f0bf85c90c9693f0e1994232a6fe5ef860fb1bb5f96ea0956126e5"), looks := false }, kinds := [], alts := [], laidByText := true, laidKinds := [.data, .data, .data, .data], laidTests := true, laidLooks := .later }
def FenceSureUptoCardSaid : Prop := Claim7.holds Tryd.pinned (.plain (OpenSpec.upto fenceSureSpec)) fenceSureUptoCard

/-- THE SECOND FORM's CARD OF 'mandolinelaw37.FenceApart'. -/
def fenceApartUptoCard : Claim7 := { stood := { row := fenceApartUptoRow, standIns := [], harness := (true, "6f3a7f4eb2f0bf85c90c9693f0e1994232a6fe5ef860fb1bb5f96ea0956126e5"), looks := false }, kinds := [], alts := [], laidByText := true, laidKinds := [.data, .data, .data, .data], laidTests := true, laidLooks := .later }
def FenceApartUptoCardSaid : Prop := Claim7.holds Tryd.pinned (.plain (OpenSpec.upto fenceApartSpec)) fenceApartUptoCard

/-- THE SECOND FORM's CARD OF 'mandolinelaw02.RangesTwo'. -/
def rangesTwoUptoCard : Claim7 := { stood := { row := rangesTwoUptoRow, standIns := [], harness := (true, "6f3a7f4eb2f0bf85c90c9693f0e1994232a6fe5ef860fb1bb5f96ea0956126e5"), looks := false }, kinds := [], alts := [], laidByText := true, laidKinds := [.data, .data, .data], laidTests := true, laidLooks := .later }
def RangesTwoUptoCardSaid : Prop := Claim7.holds Tryd.pinned (.plain (OpenSpec.upto rangesTwoSpec)) rangesTwoUptoCard

/-- THE SECOND FORM's CARD OF 'mandolinelaw02.RangesLaws'. -/
def rangesLawsUptoCard : Claim7 := { stood := { row := rangesLawsUptoRow, standIns := [], harness := (true, "6f3a7f4eb2f0bf85c90c9693f0e1994232a6fe5ef860fb1bb5f96ea0956126e5"), looks := false }, kinds := [], alts := [], laidByText := true, laidKinds := [.data, .data, .data], laidTests := true, laidLooks := .later }
def RangesLawsUptoCardSaid : Prop := Claim7.holds Tryd.pinned (.plain (OpenSpec.upto rangesLawsSpec)) rangesLawsUptoCard

/-- THE SECOND FORM's CARD OF 'mandolinelaw37.FenceGoes'. -/
def fenceGoesUptoCard : Claim7 := { stood := { row := fenceGoesUptoRow, standIns := [], harness := (true, "6f3a7f4eb2f0bf85c90c9693f0e1994232a6fe5ef860fb1bb5f96ea0956126e5"), looks := false }, kinds := [], alts := [], laidByText := true, laidKinds := [.data, .data, .data, .data], laidTests := true, laidLooks := .later }
def FenceGoesUptoCardSaid : Prop := Claim7.holds Tryd.pinned (.plain (OpenSpec.upto fenceGoesSpec)) fenceGoesUptoCard

/-- THE SECOND FORM's CARD OF 'mandolinelaw37.FenceEnds'. -/
def fenceEndsUptoCard : Claim7 := { stood := { row := fenceEndsUptoRow, standIns := [], harness := (true, "6f3a7f4eb2f0bf85c90c9693f0e1994232a6fe5ef860fb1bb5f96ea0956126e5"), looks := false }, kinds := [], alts := [], laidByText := true, laidKinds := [.data, .data, .data, .data], laidTests := true, laidLooks := .later }
def FenceEndsUptoCardSaid : Prop := Claim7.holds Tryd.pinned (.plain (OpenSpec.upto fenceEndsSpec)) fenceEndsUptoCard
end Rows
end Go.Proofs.YtmbcnfgeobbldaaDoor
