/-
  DERIVED. GIVEN WITH THE SEED: THE CARDS: each row of YtbphndihjdiiiaaGreatDoorRows.lean that lists a variable, with what it lists TIED to the program's text (the seventh form; the later family's looks); each row that meets fmt, with fmt's text TOLD by the authors' own Lean function (tested against real Go, not proved from fmt's source: count such statements apart). THE CARD IS WHAT COUNTS. Prove the row's statement (the work); the ties are given (YtbphndihjdiiiaaGreatDoorTie.lean); close each card by the builder's one call (the guide's Derived/Test/ToyasCard.lean, 'card_holds'). Laid BY PROGRAM, IN A SANDBOX (cutbox-door.mjs). By AI agents, Wed Nov 11 2026. No macro, syntax, notation, axiom, sorry.
-/
import Derived.Test.YtbphndihjdiiiaaGreatDoorRows
import GoSem.ClaimSeven
namespace Go.Proofs.YtbphndihjdiiiaaGreatDoor
namespace Rows

/-- THE TIED CARD OF 'mandolinelaw02.RangesTexts'. -/
def rangesTextsCard : Claim7 := { stood := { row := rangesTextsRow, standIns := [], harness := (true, "5ffbc534a9d9d9cfd5fd0a42e988b78778626eaa053ad441795957f53c29a66f"), looks := true }, kinds := [], alts := [], laidByText := true, laidKinds := [.data, .data, .data, .data, .sentinel, .sentinel, .pinned], laidTests := true, laidLooks := .later }
def RangesTextsCardSaid : Prop := Claim7.holds Tryz.pinned (.plain (OpenSpec.ofChange rangesTextsSpec)) rangesTextsCard

/-- THE TIED CARD OF 'mandolinelaw44.SessionHead'. -/
def sessionHeadCard : Claim7 := { stood := { row := sessionHeadRow, standIns := [], harness := (true, "5ffbc534a9d9d9cfd5fd0a42e988b78778626eaa053ad441795957f53c29a66f"), looks := true }, kinds := [], alts := [], laidByText := true, laidKinds := [.data, .data, .data, .data, .pinned], laidTests := true, laidLooks := .later }
def SessionHeadCardSaid : Prop := Claim7.holds Tryz.pinned (.plain (OpenSpec.ofChange sessionHeadSpec)) sessionHeadCard

/-- THE TIED CARD OF 'mandolinelaw44.SessionOnce'. -/
def sessionOnceCard : Claim7 := { stood := { row := sessionOnceRow, standIns := [], harness := (true, "5ffbc534a9d9d9cfd5fd0a42e988b78778626eaa053ad441795957f53c29a66f"), looks := true }, kinds := [], alts := [], laidByText := true, laidKinds := [.data, .data, .data, .data, .pinned], laidTests := true, laidLooks := .later }
def SessionOnceCardSaid : Prop := Claim7.holds Tryz.pinned (.plain (OpenSpec.ofChange sessionOnceSpec)) sessionOnceCard

/-- THE TIED CARD OF 'mandolinelaw44.SessionForth'. -/
def sessionForthCard : Claim7 := { stood := { row := sessionForthRow, standIns := [], harness := (true, "5ffbc534a9d9d9cfd5fd0a42e988b78778626eaa053ad441795957f53c29a66f"), looks := true }, kinds := [], alts := [], laidByText := true, laidKinds := [.data, .data, .data, .data, .pinned], laidTests := true, laidLooks := .later }
def SessionForthCardSaid : Prop := Claim7.holds Tryz.pinned (.plain (OpenSpec.ofChange sessionForthSpec)) sessionForthCard

/-- THE TIED CARD OF 'mandolinelaw44.SessionThere'. -/
def sessionThereCard : Claim7 := { stood := { row := sessionThereRow, standIns := [], harness := (true, "5ffbc534a9d9d9cfd5fd0a42e988b78778626eaa053ad441795957f53c29a66f"), looks := true }, kinds := [], alts := [], laidByText := true, laidKinds := [.data, .data, .data, .data, .pinned], laidTests := true, laidLooks := .later }
def SessionThereCardSaid : Prop := Claim7.holds Tryz.pinned (.plain (OpenSpec.ofChange sessionThereSpec)) sessionThereCard

/-- THE TIED CARD OF 'mandolinelaw44.SessionPlays'. -/
def sessionPlaysCard : Claim7 := { stood := { row := sessionPlaysRow, standIns := [], harness := (true, "5ffbc534a9d9d9cfd5fd0a42e988b78778626eaa053ad441795957f53c29a66f"), looks := true }, kinds := [], alts := [], laidByText := true, laidKinds := [.data, .data, .data, .data, .pinned], laidTests := true, laidLooks := .later }
def SessionPlaysCardSaid : Prop := Claim7.holds Tryz.pinned (.plain (OpenSpec.ofChange sessionPlaysSpec)) sessionPlaysCard

/-- THE TIED CARD OF 'mandolinelaw44.SessionFence'. -/
def sessionFenceCard : Claim7 := { stood := { row := sessionFenceRow, standIns := [], harness := (true, "5ffbc534a9d9d9cfd5fd0a42e988b78778626eaa053ad441795957f53c29a66f"), looks := true }, kinds := [], alts := [], laidByText := true, laidKinds := [.data, .data, .data, .data, .pinned], laidTests := true, laidLooks := .later }
def SessionFenceCardSaid : Prop := Claim7.holds Tryz.pinned (.plain (OpenSpec.ofChange sessionFenceSpec)) sessionFenceCard

/-- THE SECOND FORM's CARD OF 'mandolinelaw02.RangesTexts'. -/
def rangesTextsUptoCard : Claim7 := { stood := { row := rangesTextsUptoRow, standIns := [], harness := (true, "5ffbc534a9d9d9cfd5fd0a42e988b78778626eaa053ad441795957f53c29a66f"), looks := true }, kinds := [], alts := [], laidByText := true, laidKinds := [.data, .data, .data, .data, .sentinel, .sentinel, .pinned], laidTests := true, laidLooks := .later }
def RangesTextsUptoCardSaid : Prop := Claim7.holds Tryz.pinned (.plain (OpenSpec.upto rangesTextsSpec)) rangesTextsUptoCard

/-- THE SECOND FORM's CARD OF 'mandolinelaw44.SessionHead'. -/
def sessionHeadUptoCard : Claim7 := { stood := { row := sessionHeadUptoRow, standIns := [], harness := (true, "5ffbc534a9d9d9cfd5fd0a42e988b78778626eaa053ad441795957f53c29a66f"), looks := true }, kinds := [], alts := [], laidByText := true, laidKinds := [.data, .data, .data, .data, .pinned], laidTests := true, laidLooks := .later }
def SessionHeadUptoCardSaid : Prop := Claim7.holds Tryz.pinned (.plain (OpenSpec.upto sessionHeadSpec)) sessionHeadUptoCard

/-- THE SECOND FORM's CARD OF 'mandolinelaw44.SessionOnce'. -/
def sessionOnceUptoCard : Claim7 := { stood := { row := sessionOnceUptoRow, standIns := [], harness := (true, "5ffbc534a9d9d9cfd5fd0a42e988b78778626eaa053ad441795957f53c29a66f"), looks := true }, kinds := [], alts := [], laidByText := true, laidKinds := [.data, .data, .data, .data, .pinned], laidTests := true, laidLooks := .later }
def SessionOnceUptoCardSaid : Prop := Claim7.holds Tryz.pinned (.plain (OpenSpec.upto sessionOnceSpec)) sessionOnceUptoCard

/-- THE SECOND FORM's CARD OF 'mandolinelaw44.SessionForth'. -/
def sessionForthUptoCard : Claim7 := { stood := { row := sessionForthUptoRow, standIns := [], harness := (true, "5ffbc534a9d9d9cfd5fd0a42e988b78778626eaa053ad441795957f53c29a66f"), looks := true }, kinds := [], alts := [], laidByText := true, laidKinds := [.data, .data, .data, .data, .pinned], laidTests := true, laidLooks := .later }
def SessionForthUptoCardSaid : Prop := Claim7.holds Tryz.pinned (.plain (OpenSpec.upto sessionForthSpec)) sessionForthUptoCard

/-- THE SECOND FORM's CARD OF 'mandolinelaw44.SessionThere'. -/
def sessionThereUptoCard : Claim7 := { stood := { row := sessionThereUptoRow, standIns := [], harness := (true, "5ffbc534a9d9d9cfd5fd0a42e988b78778626eaa053ad441795957f53c29a66f"), looks := true }, kinds := [], alts := [], laidByText := true, laidKinds := [.data, .data, .data, .data, .pinned], laidTests := true, laidLooks := .later }
def SessionThereUptoCardSaid : Prop := Claim7.holds Tryz.pinned (.plain (OpenSpec.upto sessionThereSpec)) sessionThereUptoCard

/-- THE SECOND FORM's CARD OF 'mandolinelaw44.SessionPlays'. -/
def sessionPlaysUptoCard : Claim7 := { stood := { row := sessionPlaysUptoRow, standIns := [], harness := (true, "5ffbc534a9d9d9cfd5fd0a42e988b78778626eaa053ad441795957f53c29a66f"), looks := true }, kinds := [], alts := [], laidByText := true, laidKinds := [.data, .data, .data, .data, .pinned], laidTests := true, laidLooks := .later }
def SessionPlaysUptoCardSaid : Prop := Claim7.holds Tryz.pinned (.plain (OpenSpec.upto sessionPlaysSpec)) sessionPlaysUptoCard

/-- THE SECOND FORM's CARD OF 'mandolinelaw44.SessionFence'. -/
def sessionFenceUptoCard : Claim7 := { stood := { row := sessionFenceUptoRow, standIns := [], harness := (true, "5ffbc534a9d9d9cfd5fd0a42e988b78778626eaa053ad441795957f53c29a66f"), looks := true }, kinds := [], alts := [], laidByText := true, laidKinds := [.data, .data, .data, .data, .pinned], laidTests := true, laidLooks := .later }
def SessionFenceUptoCardSaid : Prop := Claim7.holds Tryz.pinned (.plain (OpenSpec.upto sessionFenceSpec)) sessionFenceUptoCard
end Rows
end Go.Proofs.YtbphndihjdiiiaaGreatDoor
