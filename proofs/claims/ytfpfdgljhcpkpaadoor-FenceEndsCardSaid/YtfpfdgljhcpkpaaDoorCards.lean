/-
  DERIVED. GIVEN WITH THE SEED: THE CARDS: each row of YtfpfdgljhcpkpaaDoorRows.lean that lists a variable, with what it lists TIED to the program's text (the seventh form; the later family's looks); each row that meets fmt, with fmt's text TOLD by the authors' own Lean function (tested against real Go, not proved from fmt's source: count such statements apart). THE CARD IS WHAT COUNTS. Prove the row's statement (the work); the ties are given (YtfpfdgljhcpkpaaDoorTie.lean); close each card by the builder's one call (the guide's Derived/Test/ToyasCard.lean, 'card_holds'). Laid BY PROGRAM, IN A SANDBOX (cutbox-door.mjs). By AI agents, Wed Nov 11 2026. No macro, syntax, notation, axiom, sorry.
-/
import Derived.Test.YtfpfdgljhcpkpaaDoorRows
import GoSem.ClaimSeven
namespace Go.Proofs.YtfpfdgljhcpkpaaDoor
namespace Rows

/-- THE TIED CARD OF 'mandolinelaw37.FenceEnds'. -/
def fenceEndsCard : Claim7 := { stood := { row := fenceEndsRow, standIns := [], harness := (true, "3e1d07108b3abb51d3b723bad81e28b4939c9dc76ad0a595fe6562d7781d7a89"), looks := true }, kinds := [], alts := [], laidByText := true, laidKinds := [.data, .data, .data, .data], laidTests := true, laidLooks := .later }
def FenceEndsCardSaid : Prop := Claim7.holds Tryd.pinned (.plain (OpenSpec.ofChange fenceEndsSpec)) fenceEndsCard

/-- THE TIED CARD OF 'mandolinelaw04.SpecFolds'. -/
def specFoldsCard : Claim7 := { stood := { row := specFoldsRow, standIns := [], harness := (true, "3e1d07108b3abb51d3b723bad81e28b4939c9dc76ad0a595fe6562d7781d7a89"), looks := true }, kinds := [], alts := [], laidByText := true, laidKinds := [.data, .pinned], laidTests := true, laidLooks := .later }
def SpecFoldsCardSaid : Prop := Claim7.holds Tryd.pinned (.plain (OpenSpec.ofChange specFoldsSpec)) specFoldsCard

/-- THE TIED CARD OF 'mandolinelaw04.SpecFolded'. -/
def specFoldedCard : Claim7 := { stood := { row := specFoldedRow, standIns := [], harness := (true, "3e1d07108b3abb51d3b723bad81e28b4939c9dc76ad0a595fe6562d7781d7a89"), looks := true }, kinds := [], alts := [], laidByText := true, laidKinds := [.data, .pinned], laidTests := true, laidLooks := .later }
def SpecFoldedCardSaid : Prop := Claim7.holds Tryd.pinned (.plain (OpenSpec.ofChange specFoldedSpec)) specFoldedCard

/-- THE TIED CARD OF 'mandolinelaw48.TierDowns'. -/
def tierDownsCard : Claim7 := { stood := { row := tierDownsRow, standIns := [], harness := (true, "3e1d07108b3abb51d3b723bad81e28b4939c9dc76ad0a595fe6562d7781d7a89"), looks := true }, kinds := [], alts := [], laidByText := true, laidKinds := [.data, .data, .data, .sentinel, .sentinel], laidTests := true, laidLooks := .later }
def TierDownsCardSaid : Prop := Claim7.holds Tryd.pinned (.plain (OpenSpec.ofChange tierDownsSpec)) tierDownsCard

/-- THE TIED CARD OF 'mandolinelaw48.TierDeals'. -/
def tierDealsCard : Claim7 := { stood := { row := tierDealsRow, standIns := [], harness := (true, "3e1d07108b3abb51d3b723bad81e28b4939c9dc76ad0a595fe6562d7781d7a89"), looks := true }, kinds := [], alts := [], laidByText := true, laidKinds := [.data, .data, .data, .sentinel, .sentinel], laidTests := true, laidLooks := .later }
def TierDealsCardSaid : Prop := Claim7.holds Tryd.pinned (.plain (OpenSpec.ofChange tierDealsSpec)) tierDealsCard

/-- THE TIED CARD OF 'mandolinelaw04.SpecTexts'. -/
def specTextsCard : Claim7 := { stood := { row := specTextsRow, standIns := [], harness := (true, "3e1d07108b3abb51d3b723bad81e28b4939c9dc76ad0a595fe6562d7781d7a89"), looks := true }, kinds := [], alts := [], laidByText := true, laidKinds := [.data, .data, .data, .data, .pinned], laidTests := true, laidLooks := .later }
def SpecTextsCardSaid : Prop := Claim7.holds Tryd.pinned (.plain (OpenSpec.ofChange specTextsSpec)) specTextsCard

/-- THE SECOND FORM's CARD OF 'mandolinelaw37.FenceEnds'. -/
def fenceEndsUptoCard : Claim7 := { stood := { row := fenceEndsUptoRow, standIns := [], harness := (true, "3e1d07108b3abb51d3b723bad81e28b4939c9dc76ad0a595fe6562d7781d7a89"), looks := true }, kinds := [], alts := [], laidByText := true, laidKinds := [.data, .data, .data, .data], laidTests := true, laidLooks := .later }
def FenceEndsUptoCardSaid : Prop := Claim7.holds Tryd.pinned (.plain (OpenSpec.upto fenceEndsSpec)) fenceEndsUptoCard

/-- THE SECOND FORM's CARD OF 'mandolinelaw04.SpecFolds'. -/
def specFoldsUptoCard : Claim7 := { stood := { row := specFoldsUptoRow, standIns := [], harness := (true, "3e1d07108b3abb51d3b723bad81e28b4939c9dc76ad0a595fe6562d7781d7a89"), looks := true }, kinds := [], alts := [], laidByText := true, laidKinds := [.data, .pinned], laidTests := true, laidLooks := .later }
def SpecFoldsUptoCardSaid : Prop := Claim7.holds Tryd.pinned (.plain (OpenSpec.upto specFoldsSpec)) specFoldsUptoCard

/-- THE SECOND FORM's CARD OF 'mandolinelaw04.SpecFolded'. -/
def specFoldedUptoCard : Claim7 := { stood := { row := specFoldedUptoRow, standIns := [], harness := (true, "3e1d07108b3abb51d3b723bad81e28b4939c9dc76ad0a595fe6562d7781d7a89"), looks := true }, kinds := [], alts := [], laidByText := true, laidKinds := [.data, .pinned], laidTests := true, laidLooks := .later }
def SpecFoldedUptoCardSaid : Prop := Claim7.holds Tryd.pinned (.plain (OpenSpec.upto specFoldedSpec)) specFoldedUptoCard

/-- THE SECOND FORM's CARD OF 'mandolinelaw48.TierDowns'. -/
def tierDownsUptoCard : Claim7 := { stood := { row := tierDownsUptoRow, standIns := [], harness := (true, "3e1d07108b3abb51d3b723bad81e28b4939c9dc76ad0a595fe6562d7781d7a89"), looks := true }, kinds := [], alts := [], laidByText := true, laidKinds := [.data, .data, .data, .sentinel, .sentinel], laidTests := true, laidLooks := .later }
def TierDownsUptoCardSaid : Prop := Claim7.holds Tryd.pinned (.plain (OpenSpec.upto tierDownsSpec)) tierDownsUptoCard

/-- THE SECOND FORM's CARD OF 'mandolinelaw48.TierDeals'. -/
def tierDealsUptoCard : Claim7 := { stood := { row := tierDealsUptoRow, standIns := [], harness := (true, "3e1d07108b3abb51d3b723bad81e28b4939c9dc76ad0a595fe6562d7781d7a89"), looks := true }, kinds := [], alts := [], laidByText := true, laidKinds := [.data, .data, .data, .sentinel, .sentinel], laidTests := true, laidLooks := .later }
def TierDealsUptoCardSaid : Prop := Claim7.holds Tryd.pinned (.plain (OpenSpec.upto tierDealsSpec)) tierDealsUptoCard

/-- THE SECOND FORM's CARD OF 'mandolinelaw04.SpecTexts'. -/
def specTextsUptoCard : Claim7 := { stood := { row := specTextsUptoRow, standIns := [], harness := (true, "3e1d07108b3abb51d3b723bad81e28b4939c9dc76ad0a595fe6562d7781d7a89"), looks := true }, kinds := [], alts := [], laidByText := true, laidKinds := [.data, .data, .data, .data, .pinned], laidTests := true, laidLooks := .later }
def SpecTextsUptoCardSaid : Prop := Claim7.holds Tryd.pinned (.plain (OpenSpec.upto specTextsSpec)) specTextsUptoCard
end Rows
end Go.Proofs.YtfpfdgljhcpkpaaDoor
