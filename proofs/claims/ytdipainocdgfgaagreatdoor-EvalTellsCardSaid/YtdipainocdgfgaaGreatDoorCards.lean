/-
  DERIVED. GIVEN WITH THE SEED: THE CARDS: each row of YtdipainocdgfgaaGreatDoorRows.lean that lists a variable, with what it lists TIED to the program's text (the seventh form; the later family's looks); each row that meets fmt, with fmt's text TOLD by the authors' own Lean function (tested against real Go, not proved from fmt's source: count such statements apart). THE CARD IS WHAT COUNTS. Prove the row's statement (the work); the ties are given (YtdipainocdgfgaaGreatDoorTie.lean); close each card by the builder's one call (the guide's Derived/Test/ToyasCard.lean, 'card_holds'). Laid BY PROGRAM, IN A SANDBOX (cutbox-door.mjs). By AI agents, Wed Nov 11 2026. No macro, syntax, notation, axiom, sorry.
-/
import Derived.Test.YtdipainocdgfgaaGreatDoorRows
import GoSem.ClaimSeven
namespace Go.Proofs.YtdipainocdgfgaaGreatDoor
namespace Rows

/-- THE TIED CARD OF 'cnclaw08.EvalOperators'. -/
def evalOperatorsCard : Claim7 := { stood := { row := evalOperatorsRow, standIns := [], harness := (true, "6b9f91ceb14d96c2a9ee29f312e3d7f8ff4dadad54aa242bdbf8622cd3217d88"), looks := false }, kinds := [], alts := [], laidByText := true, laidKinds := [.data], laidTests := true, laidLooks := .later }
def EvalOperatorsCardSaid : Prop := Claim7.holds Tryz.pinned (.plain (OpenSpec.ofChange evalOperatorsSpec)) evalOperatorsCard

/-- THE TIED CARD OF 'cnclaw08.EvalTells'. -/
def evalTellsCard : Claim7 := { stood := { row := evalTellsRow, standIns := [], harness := (true, "6b9f91ceb14d96c2a9ee29f312e3d7f8ff4dadad54aa242bdbf8622cd3217d88"), looks := false }, kinds := [], alts := [], laidByText := true, laidKinds := [.data], laidTests := true, laidLooks := .later }
def EvalTellsCardSaid : Prop := Claim7.holds Tryz.pinned (.plain (OpenSpec.ofChange evalTellsSpec)) evalTellsCard

/-- THE SECOND FORM's CARD OF 'cnclaw08.EvalOperators'. -/
def evalOperatorsUptoCard : Claim7 := { stood := { row := evalOperatorsUptoRow, standIns := [], harness := (true, "6b9f91ceb14d96c2a9ee29f312e3d7f8ff4dadad54aa242bdbf8622cd3217d88"), looks := false }, kinds := [], alts := [], laidByText := true, laidKinds := [.data], laidTests := true, laidLooks := .later }
def EvalOperatorsUptoCardSaid : Prop := Claim7.holds Tryz.pinned (.plain (OpenSpec.upto evalOperatorsSpec)) evalOperatorsUptoCard

/-- THE SECOND FORM's CARD OF 'cnclaw08.EvalTells'. -/
def evalTellsUptoCard : Claim7 := { stood := { row := evalTellsUptoRow, standIns := [], harness := (true, "6b9f91ceb14d96c2a9ee29f312e3d7f8ff4dadad54aa242bdbf8622cd3217d88"), looks := false }, kinds := [], alts := [], laidByText := true, laidKinds := [.data], laidTests := true, laidLooks := .later }
def EvalTellsUptoCardSaid : Prop := Claim7.holds Tryz.pinned (.plain (OpenSpec.upto evalTellsSpec)) evalTellsUptoCard
end Rows
end Go.Proofs.YtdipainocdgfgaaGreatDoor
