/-
  DERIVED. GIVEN WITH THE SEED: THE CARDS: each row of YtdomakklbcpnjaaDoorRows.lean that lists a variable, with what it lists TIED to the program's text (the seventh form; the later family's looks); each row that meets fmt, with fmt's text TOLD by the authors' own Lean function (tested against real Go, not proved from fmt's source: count such statements apart). THE CARD IS WHAT COUNTS. Prove the row's statement (the work); the ties are given (YtdomakklbcpnjaaDoorTie.lean); close each card by the builder's one call (the guide's Derived/Test/ToyasCard.lean, 'card_holds'). Laid BY PROGRAM, IN A SANDBOX (cutbox-door.mjs). By AI agents, Wed Nov 11 2026. No macro, syntax, notation, axiom, sorry.
-/
import Derived.Test.YtdomakklbcpnjaaDoorRows
import GoSem.ClaimSeven
namespace Go.Proofs.YtdomakklbcpnjaaDoor
namespace Rows

/-- THE TIED CARD OF 'mandolinelaw02.RangesKept'. -/
def rangesKeptCard : Claim7 := { stood := { row := rangesKeptRow, standIns := [], harness := (true, "74e064410e5b9ac4a0fce7f609e8e3dc5ad611b815fe8d314b09d46884076435"), looks := true }, kinds := [], alts := [], laidByText := true, laidKinds := [.data, .data, .data], laidTests := true, laidLooks := .later }
def RangesKeptCardSaid : Prop := Claim7.holds Tryd.pinned (.plain (OpenSpec.ofChange rangesKeptSpec)) rangesKeptCard

/-- THE TIED CARD OF 'mandolinelaw37.FenceGoes'. -/
def fenceGoesCard : Claim7 := { stood := { row := fenceGoesRow, standIns := [], harness := (true, "74e064410e5b9ac4a0fce7f609e8e3dc5ad611b815fe8d314b09d46884076435"), looks := true }, kinds := [], alts := [], laidByText := true, laidKinds := [.data, .data, .data, .data], laidTests := true, laidLooks := .later }
def FenceGoesCardSaid : Prop := Claim7.holds Tryd.pinned (.plain (OpenSpec.ofChange fenceGoesSpec)) fenceGoesCard

/-- THE TIED CARD OF 'mandolinelaw37.FenceEnds'. -/
def fenceEndsCard : Claim7 := { stood := { row := fenceEndsRow, standIns := [], harness := (true, "74e064410e5b9ac4a0fce7f609e8e3dc5ad611b815fe8d314b09d46884076435"), looks := true }, kinds := [], alts := [], laidByText := true, laidKinds := [.data, .data, .data, .data], laidTests := true, laidLooks := .later }
def FenceEndsCardSaid : Prop := Claim7.holds Tryd.pinned (.plain (OpenSpec.ofChange fenceEndsSpec)) fenceEndsCard

/-- THE TIED CARD OF 'mandolinelaw04.SpecParses'. -/
def specParsesCard : Claim7 := { stood := { row := specParsesRow, standIns := [], harness := (true, "74e064410e5b9ac4a0fce7f609e8e3dc5ad611b815fe8d314b09d46884076435"), looks := true }, kinds := [], alts := [], laidByText := true, laidKinds := [.data, .pinned], laidTests := true, laidLooks := .later }
def SpecParsesCardSaid : Prop := Claim7.holds Tryd.pinned (.plain (OpenSpec.ofChange specParsesSpec)) specParsesCard

/-- THE TIED CARD OF 'mandolinelaw04.SpecResolves'. -/
def specResolvesCard : Claim7 := { stood := { row := specResolvesRow, standIns := [], harness := (true, "74e064410e5b9ac4a0fce7f609e8e3dc5ad611b815fe8d314b09d46884076435"), looks := true }, kinds := [], alts := [], laidByText := true, laidKinds := [.data, .pinned], laidTests := true, laidLooks := .later }
def SpecResolvesCardSaid : Prop := Claim7.holds Tryd.pinned (.plain (OpenSpec.ofChange specResolvesSpec)) specResolvesCard

/-- THE TIED CARD OF 'mandolinelaw04.SpecFolds'. -/
def specFoldsCard : Claim7 := { stood := { row := specFoldsRow, standIns := [], harness := (true, "74e064410e5b9ac4a0fce7f609e8e3dc5ad611b815fe8d314b09d46884076435"), looks := true }, kinds := [], alts := [], laidByText := true, laidKinds := [.data, .pinned], laidTests := true, laidLooks := .later }
def SpecFoldsCardSaid : Prop := Claim7.holds Tryd.pinned (.plain (OpenSpec.ofChange specFoldsSpec)) specFoldsCard

/-- THE TIED CARD OF 'mandolinelaw04.SpecFolded'. -/
def specFoldedCard : Claim7 := { stood := { row := specFoldedRow, standIns := [], harness := (true, "74e064410e5b9ac4a0fce7f609e8e3dc5ad611b815fe8d314b09d46884076435"), looks := true }, kinds := [], alts := [], laidByText := true, laidKinds := [.data, .pinned], laidTests := true, laidLooks := .later }
def SpecFoldedCardSaid : Prop := Claim7.holds Tryd.pinned (.plain (OpenSpec.ofChange specFoldedSpec)) specFoldedCard

/-- THE TIED CARD OF 'mandolinelaw04.SpecCosts'. -/
def specCostsCard : Claim7 := { stood := { row := specCostsRow, standIns := [], harness := (true, "74e064410e5b9ac4a0fce7f609e8e3dc5ad611b815fe8d314b09d46884076435"), looks := true }, kinds := [], alts := [], laidByText := true, laidKinds := [.data, .pinned], laidTests := true, laidLooks := .later }
def SpecCostsCardSaid : Prop := Claim7.holds Tryd.pinned (.plain (OpenSpec.ofChange specCostsSpec)) specCostsCard

/-- THE TIED CARD OF 'mandolinelaw04.SpecTexts'. -/
def specTextsCard : Claim7 := { stood := { row := specTextsRow, standIns := [], harness := (true, "74e064410e5b9ac4a0fce7f609e8e3dc5ad611b815fe8d314b09d46884076435"), looks := true }, kinds := [], alts := [], laidByText := true, laidKinds := [.data, .data, .data, .data, .pinned], laidTests := true, laidLooks := .later }
def SpecTextsCardSaid : Prop := Claim7.holds Tryd.pinned (.plain (OpenSpec.ofChange specTextsSpec)) specTextsCard

/-- THE TIED CARD OF 'mandolinelaw48.TierDowns'. -/
def tierDownsCard : Claim7 := { stood := { row := tierDownsRow, standIns := [], harness := (true, "74e064410e5b9ac4a0fce7f609e8e3dc5ad611b815fe8d314b09d46884076435"), looks := true }, kinds := [], alts := [], laidByText := true, laidKinds := [.data, .data, .data, .sentinel, .sentinel], laidTests := true, laidLooks := .later }
def TierDownsCardSaid : Prop := Claim7.holds Tryd.pinned (.plain (OpenSpec.ofChange tierDownsSpec)) tierDownsCard

/-- THE TIED CARD OF 'mandolinelaw48.TierDeals'. -/
def tierDealsCard : Claim7 := { stood := { row := tierDealsRow, standIns := [], harness := (true, "74e064410e5b9ac4a0fce7f609e8e3dc5ad611b815fe8d314b09d46884076435"), looks := true }, kinds := [], alts := [], laidByText := true, laidKinds := [.data, .data, .data, .sentinel, .sentinel], laidTests := true, laidLooks := .later }
def TierDealsCardSaid : Prop := Claim7.holds Tryd.pinned (.plain (OpenSpec.ofChange tierDealsSpec)) tierDealsCard

/-- THE SECOND FORM's CARD OF 'mandolinelaw02.RangesKept'. -/
def rangesKeptUptoCard : Claim7 := { stood := { row := rangesKeptUptoRow, standIns := [], harness := (true, "74e064410e5b9ac4a0fce7f609e8e3dc5ad611b815fe8d314b09d46884076435"), looks := true }, kinds := [], alts := [], laidByText := true, laidKinds := [.data, .data, .data], laidTests := true, laidLooks := .later }
def RangesKeptUptoCardSaid : Prop := Claim7.holds Tryd.pinned (.plain (OpenSpec.upto rangesKeptSpec)) rangesKeptUptoCard

/-- THE SECOND FORM's CARD OF 'mandolinelaw37.FenceGoes'. -/
def fenceGoesUptoCard : Claim7 := { stood := { row := fenceGoesUptoRow, standIns := [], harness := (true, "74e064410e5b9ac4a0fce7f609e8e3dc5ad611b815fe8d314b09d46884076435"), looks := true }, kinds := [], alts := [], laidByText := true, laidKinds := [.data, .data, .data, .data], laidTests := true, laidLooks := .later }
def FenceGoesUptoCardSaid : Prop := Claim7.holds Tryd.pinned (.plain (OpenSpec.upto fenceGoesSpec)) fenceGoesUptoCard

/-- THE SECOND FORM's CARD OF 'mandolinelaw37.FenceEnds'. -/
def fenceEndsUptoCard : Claim7 := { stood := { row := fenceEndsUptoRow, standIns := [], harness := (true, "74e064410e5b9ac4a0fce7f609e8e3dc5ad611b815fe8d314b09d46884076435"), looks := true }, kinds := [], alts := [], laidByText := true, laidKinds := [.data, .data, .data, .data], laidTests := true, laidLooks := .later }
def FenceEndsUptoCardSaid : Prop := Claim7.holds Tryd.pinned (.plain (OpenSpec.upto fenceEndsSpec)) fenceEndsUptoCard

/-- THE SECOND FORM's CARD OF 'mandolinelaw04.SpecParses'. -/
def specParsesUptoCard : Claim7 := { stood := { row := specParsesUptoRow, standIns := [], harness := (true, "74e064410e5b9ac4a0fce7f609e8e3dc5ad611b815fe8d314b09d46884076435"), looks := true }, kinds := [], alts := [], laidByText := true, laidKinds := [.data, .pinned], laidTests := true, laidLooks := .later }
def SpecParsesUptoCardSaid : Prop := Claim7.holds Tryd.pinned (.plain (OpenSpec.upto specParsesSpec)) specParsesUptoCard

/-- THE SECOND FORM's CARD OF 'mandolinelaw04.SpecResolves'. -/
def specResolvesUptoCard : Claim7 := { stood := { row := specResolvesUptoRow, standIns := [], harness := (true, "74e064410e5b9ac4a0fce7f609e8e3dc5ad611b815fe8d314b09d46884076435"), looks := true }, kinds := [], alts := [], laidByText := true, laidKinds := [.data, .pinned], laidTests := true, laidLooks := .later }
def SpecResolvesUptoCardSaid : Prop := Claim7.holds Tryd.pinned (.plain (OpenSpec.upto specResolvesSpec)) specResolvesUptoCard

/-- THE SECOND FORM's CARD OF 'mandolinelaw04.SpecFolds'. -/
def specFoldsUptoCard : Claim7 := { stood := { row := specFoldsUptoRow, standIns := [], harness := (true, "74e064410e5b9ac4a0fce7f609e8e3dc5ad611b815fe8d314b09d46884076435"), looks := true }, kinds := [], alts := [], laidByText := true, laidKinds := [.data, .pinned], laidTests := true, laidLooks := .later }
def SpecFoldsUptoCardSaid : Prop := Claim7.holds Tryd.pinned (.plain (OpenSpec.upto specFoldsSpec)) specFoldsUptoCard

/-- THE SECOND FORM's CARD OF 'mandolinelaw04.SpecFolded'. -/
def specFoldedUptoCard : Claim7 := { stood := { row := specFoldedUptoRow, standIns := [], harness := (true, "74e064410e5b9ac4a0fce7f609e8e3dc5ad611b815fe8d314b09d46884076435"), looks := true }, kinds := [], alts := [], laidByText := true, laidKinds := [.data, .pinned], laidTests := true, laidLooks := .later }
def SpecFoldedUptoCardSaid : Prop := Claim7.holds Tryd.pinned (.plain (OpenSpec.upto specFoldedSpec)) specFoldedUptoCard

/-- THE SECOND FORM's CARD OF 'mandolinelaw04.SpecCosts'. -/
def specCostsUptoCard : Claim7 := { stood := { row := specCostsUptoRow, standIns := [], harness := (true, "74e064410e5b9ac4a0fce7f609e8e3dc5ad611b815fe8d314b09d46884076435"), looks := true }, kinds := [], alts := [], laidByText := true, laidKinds := [.data, .pinned], laidTests := true, laidLooks := .later }
def SpecCostsUptoCardSaid : Prop := Claim7.holds Tryd.pinned (.plain (OpenSpec.upto specCostsSpec)) specCostsUptoCard

/-- THE SECOND FORM's CARD OF 'mandolinelaw04.SpecTexts'. -/
def specTextsUptoCard : Claim7 := { stood := { row := specTextsUptoRow, standIns := [], harness := (true, "74e064410e5b9ac4a0fce7f609e8e3dc5ad611b815fe8d314b09d46884076435"), looks := true }, kinds := [], alts := [], laidByText := true, laidKinds := [.data, .data, .data, .data, .pinned], laidTests := true, laidLooks := .later }
def SpecTextsUptoCardSaid : Prop := Claim7.holds Tryd.pinned (.plain (OpenSpec.upto specTextsSpec)) specTextsUptoCard

/-- THE SECOND FORM's CARD OF 'mandolinelaw48.TierDowns'. -/
def tierDownsUptoCard : Claim7 := { stood := { row := tierDownsUptoRow, standIns := [], harness := (true, "74e064410e5b9ac4a0fce7f609e8e3dc5ad611b815fe8d314b09d46884076435"), looks := true }, kinds := [], alts := [], laidByText := true, laidKinds := [.data, .data, .data, .sentinel, .sentinel], laidTests := true, laidLooks := .later }
def TierDownsUptoCardSaid : Prop := Claim7.holds Tryd.pinned (.plain (OpenSpec.upto tierDownsSpec)) tierDownsUptoCard

/-- THE SECOND FORM's CARD OF 'mandolinelaw48.TierDeals'. -/
def tierDealsUptoCard : Claim7 := { stood := { row := tierDealsUptoRow, standIns := [], harness := (true, "74e064410e5b9ac4a0fce7f609e8e3dc5ad611b815fe8d314b09d46884076435"), looks := true }, kinds := [], alts := [], laidByText := true, laidKinds := [.data, .data, .data, .sentinel, .sentinel], laidTests := true, laidLooks := .later }
def TierDealsUptoCardSaid : Prop := Claim7.holds Tryd.pinned (.plain (OpenSpec.upto tierDealsSpec)) tierDealsUptoCard
end Rows
end Go.Proofs.YtdomakklbcpnjaaDoor
