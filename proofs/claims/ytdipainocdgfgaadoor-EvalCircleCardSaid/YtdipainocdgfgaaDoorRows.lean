/-
  NARROWER THAN 'FOR EVERY INPUT', by the rows' own cells (each row's printed sentence says how): EvalAlgebra: laid · EvalLogic: laid · EvalErrors: laid · EvalCircle: laid · EvalVariables: laid · EvalKeeps: laid.
  DERIVED. THE GIVEN ROWS OF THIS SEAT. 6 by the template 'for every input the law returns true; each argument reads behind the call as it read before'; 0 by the template 'total and deterministic' (their statements: YtdipainocdgfgaaDoorTotals.lean).
  GIVEN WITH THE SEED: the statements are not yours to turn. If you find one false, say at which input.
  Laid BY PROGRAM, IN A SANDBOX (cutbox-rows.mjs): the forced cells as the released guide's own fill.sh prints them over the translation 51bde259659eac4e… (all of the seat's roots in one cut). By AI agents, Wed Nov 11 2026. No macro, syntax, notation, axiom, sorry.
-/
import Derived.Test.YtdipainocdgfgaaDoorChecked
import GoSem.Claim
import GoSem.ClaimJoined
import GoSem.ClaimMapViews
import Derived.JoinedTies
import Derived.KernelRfl
namespace Go.Proofs.YtdipainocdgfgaaDoor
/- THE CELL 'sum', in the pinned program and in every row, IS THE sha256 OF THE DUMP (.gsa) THAT YtdipainocdgfgaaDoorProg.lean LOADS. Nothing in Lean hashes anything: it is a label: what it is worth is what the hold of that sum in a sandbox is worth. -/
noncomputable def Tryd.pinned : Pinned := { name := "ytdipainocdgfgaadoor", sum := "51bde259659eac4e625bc5198f43527047ce90f22f3f46986cd989cbb9491f90", checked := Tryd.checked }
namespace Rows
def none {H : Type} : Left H := { results := [], args := [] }

/- WHAT THE LISTED PACKAGE-LEVEL VARIABLES READ AS WHEN THE CALL BEGINS. Each datum BY PROGRAM (the guide's laid-datum.mjs) off the statement by which the dump's own 'gosem.cut.vars' lays the variable. In a bare row this is a premise. The card (YtdipainocdgfgaaDoorCards.lean) ties it to the program's text. -/
def laid_cnc_cordic_table {H : Type} : DataW H := .agg [.lit (.int .i64 45000000000), .lit (.int .i64 26565051177), .lit (.int .i64 14036243468), .lit (.int .i64 7125016349), .lit (.int .i64 3576334375), .lit (.int .i64 1789910608), .lit (.int .i64 895173710), .lit (.int .i64 447614171), .lit (.int .i64 223810500), .lit (.int .i64 111905677), .lit (.int .i64 55952892), .lit (.int .i64 27976453), .lit (.int .i64 13988227), .lit (.int .i64 6994114), .lit (.int .i64 3497057), .lit (.int .i64 1748528), .lit (.int .i64 874264), .lit (.int .i64 437132), .lit (.int .i64 218566), .lit (.int .i64 109283), .lit (.int .i64 54642), .lit (.int .i64 27321), .lit (.int .i64 13660), .lit (.int .i64 6830), .lit (.int .i64 3415), .lit (.int .i64 1708)]

/-- 'cnclaw08.EvalAlgebra': WHATEVER THE INPUT: true; the input reads as it did. -/
def evalAlgebraSpec : ChangeSpec := { name := "evalAlgebra", fn := fun _ => fun
  | [d1, d2] => { results := [.lit (.bool true)], args := [d1, d2] }
  | _ => none }
def evalAlgebraRow : OpenClaim := { program := "ytdipainocdgfgaadoor", sum := "51bde259659eac4e625bc5198f43527047ce90f22f3f46986cd989cbb9491f90", func := "cnc/cnclaw08.EvalAlgebra", spec := "evalAlgebra", inPlace := ["math/bits.Sub64"], unfollowed := true, recurses := true, named := ["cnc/cordic.table", "math/bits.divideError", "math/bits.overflowError"], apart := false, laid := [("cnc/cordic.table", laid_cnc_cordic_table)] }
def EvalAlgebraSaid : Prop := evalAlgebraRow.holds Tryd.pinned (OpenSpec.ofChange evalAlgebraSpec)

/-- ITS FALSE NEIGHBOUR: 'it returns false'. Refute it at one input. -/
def evalAlgebraWrong : ChangeSpec := { name := "evalAlgebra", fn := fun _ => fun
  | [d1, d2] => { results := [.lit (.bool false)], args := [d1, d2] }
  | _ => none }
def EvalAlgebraWrongFalsely : Prop := evalAlgebraRow.holds Tryd.pinned (OpenSpec.ofChange evalAlgebraWrong)

/-- 'cnclaw08.EvalLogic': WHATEVER THE INPUT: true; the input reads as it did. -/
def evalLogicSpec : ChangeSpec := { name := "evalLogic", fn := fun _ => fun
  | [d1, d2] => { results := [.lit (.bool true)], args := [d1, d2] }
  | _ => none }
def evalLogicRow : OpenClaim := { program := "ytdipainocdgfgaadoor", sum := "51bde259659eac4e625bc5198f43527047ce90f22f3f46986cd989cbb9491f90", func := "cnc/cnclaw08.EvalLogic", spec := "evalLogic", inPlace := ["math/bits.Sub64"], unfollowed := true, recurses := true, named := ["cnc/cordic.table", "math/bits.divideError", "math/bits.overflowError"], apart := false, laid := [("cnc/cordic.table", laid_cnc_cordic_table)] }
def EvalLogicSaid : Prop := evalLogicRow.holds Tryd.pinned (OpenSpec.ofChange evalLogicSpec)

/-- ITS FALSE NEIGHBOUR: 'it returns false'. Refute it at one input. -/
def evalLogicWrong : ChangeSpec := { name := "evalLogic", fn := fun _ => fun
  | [d1, d2] => { results := [.lit (.bool false)], args := [d1, d2] }
  | _ => none }
def EvalLogicWrongFalsely : Prop := evalLogicRow.holds Tryd.pinned (OpenSpec.ofChange evalLogicWrong)

/-- 'cnclaw08.EvalErrors': WHATEVER THE INPUT: true; the input reads as it did. -/
def evalErrorsSpec : ChangeSpec := { name := "evalErrors", fn := fun _ => fun
  | [d1, d2, d3] => { results := [.lit (.bool true)], args := [d1, d2, d3] }
  | _ => none }
def evalErrorsRow : OpenClaim := { program := "ytdipainocdgfgaadoor", sum := "51bde259659eac4e625bc5198f43527047ce90f22f3f46986cd989cbb9491f90", func := "cnc/cnclaw08.EvalErrors", spec := "evalErrors", inPlace := ["math/bits.Sub64"], unfollowed := true, recurses := true, named := ["cnc/cordic.table", "math/bits.divideError", "math/bits.overflowError"], apart := false, laid := [("cnc/cordic.table", laid_cnc_cordic_table)] }
def EvalErrorsSaid : Prop := evalErrorsRow.holds Tryd.pinned (OpenSpec.ofChange evalErrorsSpec)

/-- ITS FALSE NEIGHBOUR: 'it returns false'. Refute it at one input. -/
def evalErrorsWrong : ChangeSpec := { name := "evalErrors", fn := fun _ => fun
  | [d1, d2, d3] => { results := [.lit (.bool false)], args := [d1, d2, d3] }
  | _ => none }
def EvalErrorsWrongFalsely : Prop := evalErrorsRow.holds Tryd.pinned (OpenSpec.ofChange evalErrorsWrong)

/-- 'cnclaw08.EvalCircle': WHATEVER THE INPUT: true; the input reads as it did. -/
def evalCircleSpec : ChangeSpec := { name := "evalCircle", fn := fun _ => fun
  | [d] => { results := [.lit (.bool true)], args := [d] }
  | _ => none }
def evalCircleRow : OpenClaim := { program := "ytdipainocdgfgaadoor", sum := "51bde259659eac4e625bc5198f43527047ce90f22f3f46986cd989cbb9491f90", func := "cnc/cnclaw08.EvalCircle", spec := "evalCircle", inPlace := ["math/bits.Sub64"], unfollowed := true, recurses := true, named := ["cnc/cordic.table", "math/bits.divideError", "math/bits.overflowError"], apart := false, laid := [("cnc/cordic.table", laid_cnc_cordic_table)] }
def EvalCircleSaid : Prop := evalCircleRow.holds Tryd.pinned (OpenSpec.ofChange evalCircleSpec)

/-- ITS FALSE NEIGHBOUR: 'it returns false'. Refute it at one input. -/
def evalCircleWrong : ChangeSpec := { name := "evalCircle", fn := fun _ => fun
  | [d] => { results := [.lit (.bool false)], args := [d] }
  | _ => none }
def EvalCircleWrongFalsely : Prop := evalCircleRow.holds Tryd.pinned (OpenSpec.ofChange evalCircleWrong)

/-- 'cnclaw08.EvalVariables': WHATEVER THE INPUT: true; the input reads as it did. -/
def evalVariablesSpec : ChangeSpec := { name := "evalVariables", fn := fun _ => fun
  | [d1, d2, d3] => { results := [.lit (.bool true)], args := [d1, d2, d3] }
  | _ => none }
def evalVariablesRow : OpenClaim := { program := "ytdipainocdgfgaadoor", sum := "51bde259659eac4e625bc5198f43527047ce90f22f3f46986cd989cbb9491f90", func := "cnc/cnclaw08.EvalVariables", spec := "evalVariables", inPlace := ["math/bits.Sub64"], unfollowed := true, recurses := true, named := ["cnc/cordic.table", "math/bits.divideError", "math/bits.overflowError"], apart := false, laid := [("cnc/cordic.table", laid_cnc_cordic_table)] }
def EvalVariablesSaid : Prop := evalVariablesRow.holds Tryd.pinned (OpenSpec.ofChange evalVariablesSpec)

/-- ITS FALSE NEIGHBOUR: 'it returns false'. Refute it at one input. -/
def evalVariablesWrong : ChangeSpec := { name := "evalVariables", fn := fun _ => fun
  | [d1, d2, d3] => { results := [.lit (.bool false)], args := [d1, d2, d3] }
  | _ => none }
def EvalVariablesWrongFalsely : Prop := evalVariablesRow.holds Tryd.pinned (OpenSpec.ofChange evalVariablesWrong)

/-- 'cnclaw08.EvalKeeps': WHATEVER THE INPUT: true; the input reads as it did. -/
def evalKeepsSpec : ChangeSpec := { name := "evalKeeps", fn := fun _ => fun
  | [d1, d2] => { results := [.lit (.bool true)], args := [d1, d2] }
  | _ => none }
def evalKeepsRow : OpenClaim := { program := "ytdipainocdgfgaadoor", sum := "51bde259659eac4e625bc5198f43527047ce90f22f3f46986cd989cbb9491f90", func := "cnc/cnclaw08.EvalKeeps", spec := "evalKeeps", inPlace := ["math/bits.Sub64"], unfollowed := true, recurses := true, named := ["cnc/cordic.table", "math/bits.divideError", "math/bits.overflowError"], apart := false, laid := [("cnc/cordic.table", laid_cnc_cordic_table)] }
def EvalKeepsSaid : Prop := evalKeepsRow.holds Tryd.pinned (OpenSpec.ofChange evalKeepsSpec)

/-- ITS FALSE NEIGHBOUR: 'it returns false'. Refute it at one input. -/
def evalKeepsWrong : ChangeSpec := { name := "evalKeeps", fn := fun _ => fun
  | [d1, d2] => { results := [.lit (.bool false)], args := [d1, d2] }
  | _ => none }
def EvalKeepsWrongFalsely : Prop := evalKeepsRow.holds Tryd.pinned (OpenSpec.ofChange evalKeepsWrong)

/- THE SECOND FORM. 'bulk': how many values and letters a reading holds, each counted each time it is reached (what is shared counts as often as it is met; a slice's spare places count too). A statement '..UptoSaid' is the law's where the arguments, and the package variables that the reading takes, are together of bulk at most 1048576: NARROWER than '..Said'. Prove '..Said' where nothing that the law and all that it calls make is longer than what came in: it says more and counts as full. Else prove '..UptoSaid'. A law counts once. -/
mutual
def uptoBulk {H : Type} : DataW H → Nat
  | .lit (.string bytes) => bytes.length + 1
  | .lit _ => 1
  | .nil => 1
  | .ptr d => uptoBulk d + 1
  | .slice elems spare => uptoBulkAll elems + uptoBulkAll spare + 1
  | .agg parts => uptoBulkAll parts + 1
  | .iface _ d => uptoBulk d + 1
  | .map entries => uptoBulkEntries entries + 1
  | .held _ => 1
def uptoBulkAll {H : Type} : List (DataW H) → Nat
  | [] => 0
  | d :: r => uptoBulk d + uptoBulkAll r
def uptoBulkEntries {H : Type} : List (Lit × DataW H) → Nat
  | [] => 0
  | x :: r => uptoBulkEntry x + uptoBulkEntries r
def uptoBulkEntry {H : Type} : Lit × DataW H → Nat
  | (.string bytes, d) => bytes.length + uptoBulk d + 1
  | (_, d) => uptoBulk d + 1
 end
def uptoSmall : (H : Type) → List (DataW H) → Bool := fun _ ds => decide (uptoBulkAll ds ≤ 1048576)
def OpenSpec.upto (s : _root_.Go.ChangeSpec) : _root_.Go.OpenSpec := { _root_.Go.OpenSpec.ofChange s with cond := some uptoSmall }

/-- 'cnclaw08.EvalAlgebra', WHERE WHAT IT READS IS OF BULK AT MOST 1048576: true; the input reads as it did. -/
def evalAlgebraUptoRow : OpenClaim := { program := "ytdipainocdgfgaadoor", sum := "51bde259659eac4e625bc5198f43527047ce90f22f3f46986cd989cbb9491f90", func := "cnc/cnclaw08.EvalAlgebra", spec := "evalAlgebra", inPlace := ["math/bits.Sub64"], unfollowed := true, recurses := true, named := ["cnc/cordic.table", "math/bits.divideError", "math/bits.overflowError"], apart := false, laid := [("cnc/cordic.table", laid_cnc_cordic_table)], narrowed := true }
def EvalAlgebraUptoSaid : Prop := evalAlgebraUptoRow.holds Tryd.pinned (OpenSpec.upto evalAlgebraSpec)

/-- 'cnclaw08.EvalLogic', WHERE WHAT IT READS IS OF BULK AT MOST 1048576: true; the input reads as it did. -/
def evalLogicUptoRow : OpenClaim := { program := "ytdipainocdgfgaadoor", sum := "51bde259659eac4e625bc5198f43527047ce90f22f3f46986cd989cbb9491f90", func := "cnc/cnclaw08.EvalLogic", spec := "evalLogic", inPlace := ["math/bits.Sub64"], unfollowed := true, recurses := true, named := ["cnc/cordic.table", "math/bits.divideError", "math/bits.overflowError"], apart := false, laid := [("cnc/cordic.table", laid_cnc_cordic_table)], narrowed := true }
def EvalLogicUptoSaid : Prop := evalLogicUptoRow.holds Tryd.pinned (OpenSpec.upto evalLogicSpec)

/-- 'cnclaw08.EvalErrors', WHERE WHAT IT READS IS OF BULK AT MOST 1048576: true; the input reads as it did. -/
def evalErrorsUptoRow : OpenClaim := { program := "ytdipainocdgfgaadoor", sum := "51bde259659eac4e625bc5198f43527047ce90f22f3f46986cd989cbb9491f90", func := "cnc/cnclaw08.EvalErrors", spec := "evalErrors", inPlace := ["math/bits.Sub64"], unfollowed := true, recurses := true, named := ["cnc/cordic.table", "math/bits.divideError", "math/bits.overflowError"], apart := false, laid := [("cnc/cordic.table", laid_cnc_cordic_table)], narrowed := true }
def EvalErrorsUptoSaid : Prop := evalErrorsUptoRow.holds Tryd.pinned (OpenSpec.upto evalErrorsSpec)

/-- 'cnclaw08.EvalCircle', WHERE WHAT IT READS IS OF BULK AT MOST 1048576: true; the input reads as it did. -/
def evalCircleUptoRow : OpenClaim := { program := "ytdipainocdgfgaadoor", sum := "51bde259659eac4e625bc5198f43527047ce90f22f3f46986cd989cbb9491f90", func := "cnc/cnclaw08.EvalCircle", spec := "evalCircle", inPlace := ["math/bits.Sub64"], unfollowed := true, recurses := true, named := ["cnc/cordic.table", "math/bits.divideError", "math/bits.overflowError"], apart := false, laid := [("cnc/cordic.table", laid_cnc_cordic_table)], narrowed := true }
def EvalCircleUptoSaid : Prop := evalCircleUptoRow.holds Tryd.pinned (OpenSpec.upto evalCircleSpec)

/-- 'cnclaw08.EvalVariables', WHERE WHAT IT READS IS OF BULK AT MOST 1048576: true; the input reads as it did. -/
def evalVariablesUptoRow : OpenClaim := { program := "ytdipainocdgfgaadoor", sum := "51bde259659eac4e625bc5198f43527047ce90f22f3f46986cd989cbb9491f90", func := "cnc/cnclaw08.EvalVariables", spec := "evalVariables", inPlace := ["math/bits.Sub64"], unfollowed := true, recurses := true, named := ["cnc/cordic.table", "math/bits.divideError", "math/bits.overflowError"], apart := false, laid := [("cnc/cordic.table", laid_cnc_cordic_table)], narrowed := true }
def EvalVariablesUptoSaid : Prop := evalVariablesUptoRow.holds Tryd.pinned (OpenSpec.upto evalVariablesSpec)

/-- 'cnclaw08.EvalKeeps', WHERE WHAT IT READS IS OF BULK AT MOST 1048576: true; the input reads as it did. -/
def evalKeepsUptoRow : OpenClaim := { program := "ytdipainocdgfgaadoor", sum := "51bde259659eac4e625bc5198f43527047ce90f22f3f46986cd989cbb9491f90", func := "cnc/cnclaw08.EvalKeeps", spec := "evalKeeps", inPlace := ["math/bits.Sub64"], unfollowed := true, recurses := true, named := ["cnc/cordic.table", "math/bits.divideError", "math/bits.overflowError"], apart := false, laid := [("cnc/cordic.table", laid_cnc_cordic_table)], narrowed := true }
def EvalKeepsUptoSaid : Prop := evalKeepsUptoRow.holds Tryd.pinned (OpenSpec.upto evalKeepsSpec)

end Rows
end Go.Proofs.YtdipainocdgfgaaDoor
