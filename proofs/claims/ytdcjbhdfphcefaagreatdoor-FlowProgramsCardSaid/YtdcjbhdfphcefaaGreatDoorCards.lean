/-
  DERIVED. GIVEN WITH THE SEED: THE CARDS: each row of YtdcjbhdfphcefaaGreatDoorRows.lean that lists a variable, with what it lists TIED to the program's text (the seventh form; the later family's looks); each row that meets fmt, with fmt's text TOLD by the authors' own Lean function (tested against real Go, not proved from fmt's source: count such statements apart). THE CARD IS WHAT COUNTS. Prove the row's statement (the work); the ties are given (YtdcjbhdfphcefaaGreatDoorTie.lean); close each card by the builder's one call (the guide's Derived/Test/ToyasCard.lean, 'card_holds'). Laid BY PROGRAM, IN A SANDBOX (cutbox-door.mjs). By AI agents, Wed Nov 11 2026. No macro, syntax, notation, axiom, sorry.
-/
import Derived.Test.YtdcjbhdfphcefaaGreatDoorRows
import GoSem.ClaimSeven
namespace Go.Proofs.YtdcjbhdfphcefaaGreatDoor
namespace Rows

/-- THE TIED CARD OF 'cnclaw10.FlowSteps'. -/
def flowStepsCard : Claim7 := { stood := { row := flowStepsRow, standIns := [], harness := (true, "76aefeacb05df7c3f8dfb4ab3c64183679e5aa998ed940e773a85d47453a3a4d"), looks := false }, kinds := [], alts := [], laidByText := true, laidKinds := [.data, .data], laidTests := true, laidLooks := .later }
def FlowStepsCardSaid : Prop := Claim7.holds Tryz.pinned (.plain (OpenSpec.ofChange flowStepsSpec)) flowStepsCard

/-- THE TIED CARD OF 'cnclaw10.FlowLoops'. -/
def flowLoopsCard : Claim7 := { stood := { row := flowLoopsRow, standIns := [], harness := (true, "76aefeacb05df7c3f8dfb4ab3c64183679e5aa998ed940e773a85d47453a3a4d"), looks := false }, kinds := [], alts := [], laidByText := true, laidKinds := [.data, .data], laidTests := true, laidLooks := .later }
def FlowLoopsCardSaid : Prop := Claim7.holds Tryz.pinned (.plain (OpenSpec.ofChange flowLoopsSpec)) flowLoopsCard

/-- THE TIED CARD OF 'cnclaw10.FlowRepeats'. -/
def flowRepeatsCard : Claim7 := { stood := { row := flowRepeatsRow, standIns := [], harness := (true, "76aefeacb05df7c3f8dfb4ab3c64183679e5aa998ed940e773a85d47453a3a4d"), looks := false }, kinds := [], alts := [], laidByText := true, laidKinds := [.data, .data], laidTests := true, laidLooks := .later }
def FlowRepeatsCardSaid : Prop := Claim7.holds Tryz.pinned (.plain (OpenSpec.ofChange flowRepeatsSpec)) flowRepeatsCard

/-- THE TIED CARD OF 'cnclaw10.FlowSkips'. -/
def flowSkipsCard : Claim7 := { stood := { row := flowSkipsRow, standIns := [], harness := (true, "76aefeacb05df7c3f8dfb4ab3c64183679e5aa998ed940e773a85d47453a3a4d"), looks := false }, kinds := [], alts := [], laidByText := true, laidKinds := [.data, .data], laidTests := true, laidLooks := .later }
def FlowSkipsCardSaid : Prop := Claim7.holds Tryz.pinned (.plain (OpenSpec.ofChange flowSkipsSpec)) flowSkipsCard

/-- THE TIED CARD OF 'cnclaw10.FlowJumps'. -/
def flowJumpsCard : Claim7 := { stood := { row := flowJumpsRow, standIns := [], harness := (true, "76aefeacb05df7c3f8dfb4ab3c64183679e5aa998ed940e773a85d47453a3a4d"), looks := false }, kinds := [], alts := [], laidByText := true, laidKinds := [.data, .data], laidTests := true, laidLooks := .later }
def FlowJumpsCardSaid : Prop := Claim7.holds Tryz.pinned (.plain (OpenSpec.ofChange flowJumpsSpec)) flowJumpsCard

/-- THE TIED CARD OF 'cnclaw10.FlowRuns'. -/
def flowRunsCard : Claim7 := { stood := { row := flowRunsRow, standIns := [], harness := (true, "76aefeacb05df7c3f8dfb4ab3c64183679e5aa998ed940e773a85d47453a3a4d"), looks := false }, kinds := [], alts := [], laidByText := true, laidKinds := [.data, .data], laidTests := true, laidLooks := .later }
def FlowRunsCardSaid : Prop := Claim7.holds Tryz.pinned (.plain (OpenSpec.ofChange flowRunsSpec)) flowRunsCard

/-- THE TIED CARD OF 'cnclaw10.FlowPrograms'. -/
def flowProgramsCard : Claim7 := { stood := { row := flowProgramsRow, standIns := [], harness := (true, "76aefeacb05df7c3f8dfb4ab3c64183679e5aa998ed940e773a85d47453a3a4d"), looks := false }, kinds := [], alts := [], laidByText := true, laidKinds := [.data, .data], laidTests := true, laidLooks := .later }
def FlowProgramsCardSaid : Prop := Claim7.holds Tryz.pinned (.plain (OpenSpec.ofChange flowProgramsSpec)) flowProgramsCard

/-- THE TIED CARD OF 'cnclaw10.FlowCalls'. -/
def flowCallsCard : Claim7 := { stood := { row := flowCallsRow, standIns := [], harness := (true, "76aefeacb05df7c3f8dfb4ab3c64183679e5aa998ed940e773a85d47453a3a4d"), looks := false }, kinds := [], alts := [], laidByText := true, laidKinds := [.data, .data], laidTests := true, laidLooks := .later }
def FlowCallsCardSaid : Prop := Claim7.holds Tryz.pinned (.plain (OpenSpec.ofChange flowCallsSpec)) flowCallsCard

/-- THE TIED CARD OF 'cnclaw10.FlowCopies'. -/
def flowCopiesCard : Claim7 := { stood := { row := flowCopiesRow, standIns := [], harness := (true, "76aefeacb05df7c3f8dfb4ab3c64183679e5aa998ed940e773a85d47453a3a4d"), looks := false }, kinds := [], alts := [], laidByText := true, laidKinds := [.data, .data], laidTests := true, laidLooks := .later }
def FlowCopiesCardSaid : Prop := Claim7.holds Tryz.pinned (.plain (OpenSpec.ofChange flowCopiesSpec)) flowCopiesCard

/-- THE SECOND FORM's CARD OF 'cnclaw10.FlowSteps'. -/
def flowStepsUptoCard : Claim7 := { stood := { row := flowStepsUptoRow, standIns := [], harness := (true, "76aefeacb05df7c3f8dfb4ab3c64183679e5aa998ed940e773a85d47453a3a4d"), looks := false }, kinds := [], alts := [], laidByText := true, laidKinds := [.data, .data], laidTests := true, laidLooks := .later }
def FlowStepsUptoCardSaid : Prop := Claim7.holds Tryz.pinned (.plain (OpenSpec.upto flowStepsSpec)) flowStepsUptoCard

/-- THE SECOND FORM's CARD OF 'cnclaw10.FlowLoops'. -/
def flowLoopsUptoCard : Claim7 := { stood := { row := flowLoopsUptoRow, standIns := [], harness := (true, "76aefeacb05df7c3f8dfb4ab3c64183679e5aa998ed940e773a85d47453a3a4d"), looks := false }, kinds := [], alts := [], laidByText := true, laidKinds := [.data, .data], laidTests := true, laidLooks := .later }
def FlowLoopsUptoCardSaid : Prop := Claim7.holds Tryz.pinned (.plain (OpenSpec.upto flowLoopsSpec)) flowLoopsUptoCard

/-- THE SECOND FORM's CARD OF 'cnclaw10.FlowRepeats'. -/
def flowRepeatsUptoCard : Claim7 := { stood := { row := flowRepeatsUptoRow, standIns := [], harness := (true, "76aefeacb05df7c3f8dfb4ab3c64183679e5aa998ed940e773a85d47453a3a4d"), looks := false }, kinds := [], alts := [], laidByText := true, laidKinds := [.data, .data], laidTests := true, laidLooks := .later }
def FlowRepeatsUptoCardSaid : Prop := Claim7.holds Tryz.pinned (.plain (OpenSpec.upto flowRepeatsSpec)) flowRepeatsUptoCard

/-- THE SECOND FORM's CARD OF 'cnclaw10.FlowSkips'. -/
def flowSkipsUptoCard : Claim7 := { stood := { row := flowSkipsUptoRow, standIns := [], harness := (true, "76aefeacb05df7c3f8dfb4ab3c64183679e5aa998ed940e773a85d47453a3a4d"), looks := false }, kinds := [], alts := [], laidByText := true, laidKinds := [.data, .data], laidTests := true, laidLooks := .later }
def FlowSkipsUptoCardSaid : Prop := Claim7.holds Tryz.pinned (.plain (OpenSpec.upto flowSkipsSpec)) flowSkipsUptoCard

/-- THE SECOND FORM's CARD OF 'cnclaw10.FlowJumps'. -/
def flowJumpsUptoCard : Claim7 := { stood := { row := flowJumpsUptoRow, standIns := [], harness := (true, "76aefeacb05df7c3f8dfb4ab3c64183679e5aa998ed940e773a85d47453a3a4d"), looks := false }, kinds := [], alts := [], laidByText := true, laidKinds := [.data, .data], laidTests := true, laidLooks := .later }
def FlowJumpsUptoCardSaid : Prop := Claim7.holds Tryz.pinned (.plain (OpenSpec.upto flowJumpsSpec)) flowJumpsUptoCard

/-- THE SECOND FORM's CARD OF 'cnclaw10.FlowRuns'. -/
def flowRunsUptoCard : Claim7 := { stood := { row := flowRunsUptoRow, standIns := [], harness := (true, "76aefeacb05df7c3f8dfb4ab3c64183679e5aa998ed940e773a85d47453a3a4d"), looks := false }, kinds := [], alts := [], laidByText := true, laidKinds := [.data, .data], laidTests := true, laidLooks := .later }
def FlowRunsUptoCardSaid : Prop := Claim7.holds Tryz.pinned (.plain (OpenSpec.upto flowRunsSpec)) flowRunsUptoCard

/-- THE SECOND FORM's CARD OF 'cnclaw10.FlowPrograms'. -/
def flowProgramsUptoCard : Claim7 := { stood := { row := flowProgramsUptoRow, standIns := [], harness := (true, "76aefeacb05df7c3f8dfb4ab3c64183679e5aa998ed940e773a85d47453a3a4d"), looks := false }, kinds := [], alts := [], laidByText := true, laidKinds := [.data, .data], laidTests := true, laidLooks := .later }
def FlowProgramsUptoCardSaid : Prop := Claim7.holds Tryz.pinned (.plain (OpenSpec.upto flowProgramsSpec)) flowProgramsUptoCard

/-- THE SECOND FORM's CARD OF 'cnclaw10.FlowCalls'. -/
def flowCallsUptoCard : Claim7 := { stood := { row := flowCallsUptoRow, standIns := [], harness := (true, "76aefeacb05df7c3f8dfb4ab3c64183679e5aa998ed940e773a85d47453a3a4d"), looks := false }, kinds := [], alts := [], laidByText := true, laidKinds := [.data, .data], laidTests := true, laidLooks := .later }
def FlowCallsUptoCardSaid : Prop := Claim7.holds Tryz.pinned (.plain (OpenSpec.upto flowCallsSpec)) flowCallsUptoCard

/-- THE SECOND FORM's CARD OF 'cnclaw10.FlowCopies'. -/
def flowCopiesUptoCard : Claim7 := { stood := { row := flowCopiesUptoRow, standIns := [], harness := (true, "76aefeacb05df7c3f8dfb4ab3c64183679e5aa998ed940e773a85d47453a3a4d"), looks := false }, kinds := [], alts := [], laidByText := true, laidKinds := [.data, .data], laidTests := true, laidLooks := .later }
def FlowCopiesUptoCardSaid : Prop := Claim7.holds Tryz.pinned (.plain (OpenSpec.upto flowCopiesSpec)) flowCopiesUptoCard
end Rows
end Go.Proofs.YtdcjbhdfphcefaaGreatDoor
