/-
  NARROWER THAN 'FOR EVERY INPUT', by the rows' own cells (each row's printed sentence says how): FlowSteps: laid · FlowLoops: laid · FlowRepeats: laid · FlowSkips: laid · FlowJumps: laid · FlowRuns: laid · FlowPrograms: laid · FlowCalls: laid · FlowCopies: laid.
  DERIVED. THE GIVEN ROWS OF THIS SEAT. 9 by the template 'for every input the law returns true; each argument reads behind the call as it read before'; 0 by the template 'total and deterministic' (their statements: YtdcjbhdfphcefaaGreatDoorTotals.lean).
  GIVEN WITH THE SEED: the statements are not yours to turn. If you find one false, say at which input.
  Laid BY PROGRAM, IN A SANDBOX (cutbox-rows.mjs): the forced cells as the released guide's own fill.sh prints them over the translation ed7a57947d0853e4… (all of the seat's roots in one cut). By AI agents, Wed Nov 11 2026. No macro, syntax, notation, axiom, sorry.
-/
import Derived.Test.YtdcjbhdfphcefaaGreatDoorChecked
import GoSem.Claim
import GoSem.ClaimJoined
import GoSem.ClaimMapViews
import Derived.JoinedTies
import Derived.KernelRfl
namespace Go.Proofs.YtdcjbhdfphcefaaGreatDoor
/- THE CELL 'sum', in the pinned program and in every row, IS THE sha256 OF THE DUMP (.gsa) THAT YtdcjbhdfphcefaaGreatDoorProg.lean LOADS. Nothing in Lean hashes anything: it is a label: what it is worth is what the hold of that sum in a sandbox is worth. -/
noncomputable def Tryz.pinned : Pinned := { name := "ytdcjbhdfphcefaagreatdoor", sum := "ed7a57947d0853e4766724ce88c8d87de2144b7852c0574ab9b8cd71fe2c2a86", checked := Tryz.checked }
namespace Rows
def none {H : Type} : Left H := { results := [], args := [] }

/- WHAT THE LISTED PACKAGE-LEVEL VARIABLES READ AS WHEN THE CALL BEGINS. Each datum BY PROGRAM (the guide's laid-datum.mjs) off the statement by which the dump's own 'gosem.cut.vars' lays the variable. In a bare row this is a premise. The card (YtdcjbhdfphcefaaGreatDoorCards.lean) ties it to the program's text. -/
def laid_cnc_cordic_table {H : Type} : DataW H := .agg [.lit (.int .i64 45000000000), .lit (.int .i64 26565051177), .lit (.int .i64 14036243468), .lit (.int .i64 7125016349), .lit (.int .i64 3576334375), .lit (.int .i64 1789910608), .lit (.int .i64 895173710), .lit (.int .i64 447614171), .lit (.int .i64 223810500), .lit (.int .i64 111905677), .lit (.int .i64 55952892), .lit (.int .i64 27976453), .lit (.int .i64 13988227), .lit (.int .i64 6994114), .lit (.int .i64 3497057), .lit (.int .i64 1748528), .lit (.int .i64 874264), .lit (.int .i64 437132), .lit (.int .i64 218566), .lit (.int .i64 109283), .lit (.int .i64 54642), .lit (.int .i64 27321), .lit (.int .i64 13660), .lit (.int .i64 6830), .lit (.int .i64 3415), .lit (.int .i64 1708)]
def laid_cnc_vars_numbers {H : Type} : DataW H := .agg [.lit (.int .i64 1), .lit (.int .i64 2), .lit (.int .i64 3), .lit (.int .i64 7), .lit (.int .i64 8), .lit (.int .i64 9), .lit (.int .i64 0), .lit (.int .i64 11), .lit (.int .i64 4), .lit (.int .i64 5), .lit (.int .i64 6), .lit (.int .i64 0), .lit (.int .i64 13), .lit (.int .i64 0), .lit (.int .i64 0), .lit (.int .i64 0), .lit (.int .i64 17), .lit (.int .i64 18), .lit (.int .i64 19), .lit (.int .i64 20), .lit (.int .i64 21), .lit (.int .i64 22), .lit (.int .i64 23), .lit (.int .i64 24), .lit (.int .i64 25), .lit (.int .i64 26)]

/-- 'cnclaw10.FlowSteps': WHATEVER THE INPUT: true; the input reads as it did. -/
def flowStepsSpec : ChangeSpec := { name := "flowSteps", fn := fun _ => fun
  | [d1, d2] => { results := [.lit (.bool true)], args := [d1, d2] }
  | _ => none }
def flowStepsRow : OpenClaim := { program := "ytdcjbhdfphcefaagreatdoor", sum := "ed7a57947d0853e4766724ce88c8d87de2144b7852c0574ab9b8cd71fe2c2a86", func := "cnc/cnclaw10.FlowSteps", spec := "flowSteps", inPlace := ["math/bits.Sub64"], unfollowed := true, recurses := true, named := ["cnc/vars.numbers", "cnc/cordic.table", "math/bits.divideError", "math/bits.overflowError"], apart := false, laid := [("cnc/cordic.table", laid_cnc_cordic_table), ("cnc/vars.numbers", laid_cnc_vars_numbers)] }
def FlowStepsSaid : Prop := flowStepsRow.holds Tryz.pinned (OpenSpec.ofChange flowStepsSpec)

/-- ITS FALSE NEIGHBOUR: 'it returns false'. Refute it at one input. -/
def flowStepsWrong : ChangeSpec := { name := "flowSteps", fn := fun _ => fun
  | [d1, d2] => { results := [.lit (.bool false)], args := [d1, d2] }
  | _ => none }
def FlowStepsWrongFalsely : Prop := flowStepsRow.holds Tryz.pinned (OpenSpec.ofChange flowStepsWrong)

/-- 'cnclaw10.FlowLoops': WHATEVER THE INPUT: true; the input reads as it did. -/
def flowLoopsSpec : ChangeSpec := { name := "flowLoops", fn := fun _ => fun
  | [d1, d2] => { results := [.lit (.bool true)], args := [d1, d2] }
  | _ => none }
def flowLoopsRow : OpenClaim := { program := "ytdcjbhdfphcefaagreatdoor", sum := "ed7a57947d0853e4766724ce88c8d87de2144b7852c0574ab9b8cd71fe2c2a86", func := "cnc/cnclaw10.FlowLoops", spec := "flowLoops", inPlace := ["math/bits.Sub64"], unfollowed := true, recurses := true, named := ["cnc/vars.numbers", "cnc/cordic.table", "math/bits.divideError", "math/bits.overflowError"], apart := false, laid := [("cnc/cordic.table", laid_cnc_cordic_table), ("cnc/vars.numbers", laid_cnc_vars_numbers)] }
def FlowLoopsSaid : Prop := flowLoopsRow.holds Tryz.pinned (OpenSpec.ofChange flowLoopsSpec)

/-- ITS FALSE NEIGHBOUR: 'it returns false'. Refute it at one input. -/
def flowLoopsWrong : ChangeSpec := { name := "flowLoops", fn := fun _ => fun
  | [d1, d2] => { results := [.lit (.bool false)], args := [d1, d2] }
  | _ => none }
def FlowLoopsWrongFalsely : Prop := flowLoopsRow.holds Tryz.pinned (OpenSpec.ofChange flowLoopsWrong)

/-- 'cnclaw10.FlowRepeats': WHATEVER THE INPUT: true; the input reads as it did. -/
def flowRepeatsSpec : ChangeSpec := { name := "flowRepeats", fn := fun _ => fun
  | [d1, d2, d3] => { results := [.lit (.bool true)], args := [d1, d2, d3] }
  | _ => none }
def flowRepeatsRow : OpenClaim := { program := "ytdcjbhdfphcefaagreatdoor", sum := "ed7a57947d0853e4766724ce88c8d87de2144b7852c0574ab9b8cd71fe2c2a86", func := "cnc/cnclaw10.FlowRepeats", spec := "flowRepeats", inPlace := ["math/bits.Sub64"], unfollowed := true, recurses := true, named := ["cnc/vars.numbers", "cnc/cordic.table", "math/bits.divideError", "math/bits.overflowError"], apart := false, laid := [("cnc/cordic.table", laid_cnc_cordic_table), ("cnc/vars.numbers", laid_cnc_vars_numbers)] }
def FlowRepeatsSaid : Prop := flowRepeatsRow.holds Tryz.pinned (OpenSpec.ofChange flowRepeatsSpec)

/-- ITS FALSE NEIGHBOUR: 'it returns false'. Refute it at one input. -/
def flowRepeatsWrong : ChangeSpec := { name := "flowRepeats", fn := fun _ => fun
  | [d1, d2, d3] => { results := [.lit (.bool false)], args := [d1, d2, d3] }
  | _ => none }
def FlowRepeatsWrongFalsely : Prop := flowRepeatsRow.holds Tryz.pinned (OpenSpec.ofChange flowRepeatsWrong)

/-- 'cnclaw10.FlowSkips': WHATEVER THE INPUT: true; the input reads as it did. -/
def flowSkipsSpec : ChangeSpec := { name := "flowSkips", fn := fun _ => fun
  | [d1, d2] => { results := [.lit (.bool true)], args := [d1, d2] }
  | _ => none }
def flowSkipsRow : OpenClaim := { program := "ytdcjbhdfphcefaagreatdoor", sum := "ed7a57947d0853e4766724ce88c8d87de2144b7852c0574ab9b8cd71fe2c2a86", func := "cnc/cnclaw10.FlowSkips", spec := "flowSkips", inPlace := ["math/bits.Sub64"], unfollowed := true, recurses := true, named := ["cnc/vars.numbers", "cnc/cordic.table", "math/bits.divideError", "math/bits.overflowError"], apart := false, laid := [("cnc/cordic.table", laid_cnc_cordic_table), ("cnc/vars.numbers", laid_cnc_vars_numbers)] }
def FlowSkipsSaid : Prop := flowSkipsRow.holds Tryz.pinned (OpenSpec.ofChange flowSkipsSpec)

/-- ITS FALSE NEIGHBOUR: 'it returns false'. Refute it at one input. -/
def flowSkipsWrong : ChangeSpec := { name := "flowSkips", fn := fun _ => fun
  | [d1, d2] => { results := [.lit (.bool false)], args := [d1, d2] }
  | _ => none }
def FlowSkipsWrongFalsely : Prop := flowSkipsRow.holds Tryz.pinned (OpenSpec.ofChange flowSkipsWrong)

/-- 'cnclaw10.FlowJumps': WHATEVER THE INPUT: true; the input reads as it did. -/
def flowJumpsSpec : ChangeSpec := { name := "flowJumps", fn := fun _ => fun
  | [d1, d2] => { results := [.lit (.bool true)], args := [d1, d2] }
  | _ => none }
def flowJumpsRow : OpenClaim := { program := "ytdcjbhdfphcefaagreatdoor", sum := "ed7a57947d0853e4766724ce88c8d87de2144b7852c0574ab9b8cd71fe2c2a86", func := "cnc/cnclaw10.FlowJumps", spec := "flowJumps", inPlace := ["math/bits.Sub64"], unfollowed := true, recurses := true, named := ["cnc/vars.numbers", "cnc/cordic.table", "math/bits.divideError", "math/bits.overflowError"], apart := false, laid := [("cnc/cordic.table", laid_cnc_cordic_table), ("cnc/vars.numbers", laid_cnc_vars_numbers)] }
def FlowJumpsSaid : Prop := flowJumpsRow.holds Tryz.pinned (OpenSpec.ofChange flowJumpsSpec)

/-- ITS FALSE NEIGHBOUR: 'it returns false'. Refute it at one input. -/
def flowJumpsWrong : ChangeSpec := { name := "flowJumps", fn := fun _ => fun
  | [d1, d2] => { results := [.lit (.bool false)], args := [d1, d2] }
  | _ => none }
def FlowJumpsWrongFalsely : Prop := flowJumpsRow.holds Tryz.pinned (OpenSpec.ofChange flowJumpsWrong)

/-- 'cnclaw10.FlowRuns': WHATEVER THE INPUT: true; the input reads as it did. -/
def flowRunsSpec : ChangeSpec := { name := "flowRuns", fn := fun _ => fun
  | [d1, d2] => { results := [.lit (.bool true)], args := [d1, d2] }
  | _ => none }
def flowRunsRow : OpenClaim := { program := "ytdcjbhdfphcefaagreatdoor", sum := "ed7a57947d0853e4766724ce88c8d87de2144b7852c0574ab9b8cd71fe2c2a86", func := "cnc/cnclaw10.FlowRuns", spec := "flowRuns", inPlace := ["math/bits.Sub64"], unfollowed := true, recurses := true, named := ["cnc/vars.numbers", "cnc/cordic.table", "math/bits.divideError", "math/bits.overflowError"], apart := false, laid := [("cnc/cordic.table", laid_cnc_cordic_table), ("cnc/vars.numbers", laid_cnc_vars_numbers)] }
def FlowRunsSaid : Prop := flowRunsRow.holds Tryz.pinned (OpenSpec.ofChange flowRunsSpec)

/-- ITS FALSE NEIGHBOUR: 'it returns false'. Refute it at one input. -/
def flowRunsWrong : ChangeSpec := { name := "flowRuns", fn := fun _ => fun
  | [d1, d2] => { results := [.lit (.bool false)], args := [d1, d2] }
  | _ => none }
def FlowRunsWrongFalsely : Prop := flowRunsRow.holds Tryz.pinned (OpenSpec.ofChange flowRunsWrong)

/-- 'cnclaw10.FlowPrograms': WHATEVER THE INPUT: true; the input reads as it did. -/
def flowProgramsSpec : ChangeSpec := { name := "flowPrograms", fn := fun _ => fun
  | [d1, d2] => { results := [.lit (.bool true)], args := [d1, d2] }
  | _ => none }
def flowProgramsRow : OpenClaim := { program := "ytdcjbhdfphcefaagreatdoor", sum := "ed7a57947d0853e4766724ce88c8d87de2144b7852c0574ab9b8cd71fe2c2a86", func := "cnc/cnclaw10.FlowPrograms", spec := "flowPrograms", inPlace := ["math/bits.Sub64"], unfollowed := true, recurses := true, named := ["cnc/vars.numbers", "cnc/cordic.table", "math/bits.divideError", "math/bits.overflowError"], apart := false, laid := [("cnc/cordic.table", laid_cnc_cordic_table), ("cnc/vars.numbers", laid_cnc_vars_numbers)] }
def FlowProgramsSaid : Prop := flowProgramsRow.holds Tryz.pinned (OpenSpec.ofChange flowProgramsSpec)

/-- ITS FALSE NEIGHBOUR: 'it returns false'. Refute it at one input. -/
def flowProgramsWrong : ChangeSpec := { name := "flowPrograms", fn := fun _ => fun
  | [d1, d2] => { results := [.lit (.bool false)], args := [d1, d2] }
  | _ => none }
def FlowProgramsWrongFalsely : Prop := flowProgramsRow.holds Tryz.pinned (OpenSpec.ofChange flowProgramsWrong)

/-- 'cnclaw10.FlowCalls': WHATEVER THE INPUT: true; the input reads as it did. -/
def flowCallsSpec : ChangeSpec := { name := "flowCalls", fn := fun _ => fun
  | [d1, d2] => { results := [.lit (.bool true)], args := [d1, d2] }
  | _ => none }
def flowCallsRow : OpenClaim := { program := "ytdcjbhdfphcefaagreatdoor", sum := "ed7a57947d0853e4766724ce88c8d87de2144b7852c0574ab9b8cd71fe2c2a86", func := "cnc/cnclaw10.FlowCalls", spec := "flowCalls", inPlace := ["math/bits.Sub64"], unfollowed := true, recurses := true, named := ["cnc/vars.numbers", "cnc/cordic.table", "math/bits.divideError", "math/bits.overflowError"], apart := false, laid := [("cnc/cordic.table", laid_cnc_cordic_table), ("cnc/vars.numbers", laid_cnc_vars_numbers)] }
def FlowCallsSaid : Prop := flowCallsRow.holds Tryz.pinned (OpenSpec.ofChange flowCallsSpec)

/-- ITS FALSE NEIGHBOUR: 'it returns false'. Refute it at one input. -/
def flowCallsWrong : ChangeSpec := { name := "flowCalls", fn := fun _ => fun
  | [d1, d2] => { results := [.lit (.bool false)], args := [d1, d2] }
  | _ => none }
def FlowCallsWrongFalsely : Prop := flowCallsRow.holds Tryz.pinned (OpenSpec.ofChange flowCallsWrong)

/-- 'cnclaw10.FlowCopies': WHATEVER THE INPUT: true; the input reads as it did. -/
def flowCopiesSpec : ChangeSpec := { name := "flowCopies", fn := fun _ => fun
  | [d1, d2, d3] => { results := [.lit (.bool true)], args := [d1, d2, d3] }
  | _ => none }
def flowCopiesRow : OpenClaim := { program := "ytdcjbhdfphcefaagreatdoor", sum := "ed7a57947d0853e4766724ce88c8d87de2144b7852c0574ab9b8cd71fe2c2a86", func := "cnc/cnclaw10.FlowCopies", spec := "flowCopies", inPlace := ["math/bits.Sub64"], unfollowed := true, recurses := true, named := ["cnc/vars.numbers", "cnc/cordic.table", "math/bits.divideError", "math/bits.overflowError"], apart := false, laid := [("cnc/cordic.table", laid_cnc_cordic_table), ("cnc/vars.numbers", laid_cnc_vars_numbers)] }
def FlowCopiesSaid : Prop := flowCopiesRow.holds Tryz.pinned (OpenSpec.ofChange flowCopiesSpec)

/-- ITS FALSE NEIGHBOUR: 'it returns false'. Refute it at one input. -/
def flowCopiesWrong : ChangeSpec := { name := "flowCopies", fn := fun _ => fun
  | [d1, d2, d3] => { results := [.lit (.bool false)], args := [d1, d2, d3] }
  | _ => none }
def FlowCopiesWrongFalsely : Prop := flowCopiesRow.holds Tryz.pinned (OpenSpec.ofChange flowCopiesWrong)

/- THE SECOND FORM. 'bulk': how many values and letters a reading holds, each counted each time it is reached (what is shared counts as often as it is met; a slice's spare places count too). A statement '..UptoSaid' is the law's where the arguments, and the package variables that the reading takes, are together of bulk at most 1048576: NARROWER than '..Said'. Prove '..Said' where nothing that the law and all that it calls make is longer than what came in: it says more and counts as full. Else prove '..UptoSaid'. A law counts once. -/
mutual
def uptoBulk {H : Type} : DataW H → Nat
  | .lit (.string bytes) => bytes.length + 1
  | .lit _ => 1
  | .nil => 1
  | .ptr d => uptoBulk d + 1
  | .slice elems spare => uptoBulkAll elems + uptoBulkAll spare + 1
  | .agg parts => uptoBulkAll parts + 1
  | .iface _ d => uptoBulk d + 1
  | .map entries => uptoBulkEntries entries + 1
  | .held _ => 1
def uptoBulkAll {H : Type} : List (DataW H) → Nat
  | [] => 0
  | d :: r => uptoBulk d + uptoBulkAll r
def uptoBulkEntries {H : Type} : List (Lit × DataW H) → Nat
  | [] => 0
  | x :: r => uptoBulkEntry x + uptoBulkEntries r
def uptoBulkEntry {H : Type} : Lit × DataW H → Nat
  | (.string bytes, d) => bytes.length + uptoBulk d + 1
  | (_, d) => uptoBulk d + 1
 end
def uptoSmall : (H : Type) → List (DataW H) → Bool := fun _ ds => decide (uptoBulkAll ds ≤ 1048576)
def OpenSpec.upto (s : _root_.Go.ChangeSpec) : _root_.Go.OpenSpec := { _root_.Go.OpenSpec.ofChange s with cond := some uptoSmall }

/-- 'cnclaw10.FlowSteps', WHERE WHAT IT READS IS OF BULK AT MOST 1048576: true; the input reads as it did. -/
def flowStepsUptoRow : OpenClaim := { program := "ytdcjbhdfphcefaagreatdoor", sum := "ed7a57947d0853e4766724ce88c8d87de2144b7852c0574ab9b8cd71fe2c2a86", func := "cnc/cnclaw10.FlowSteps", spec := "flowSteps", inPlace := ["math/bits.Sub64"], unfollowed := true, recurses := true, named := ["cnc/vars.numbers", "cnc/cordic.table", "math/bits.divideError", "math/bits.overflowError"], apart := false, laid := [("cnc/cordic.table", laid_cnc_cordic_table), ("cnc/vars.numbers", laid_cnc_vars_numbers)], narrowed := true }
def FlowStepsUptoSaid : Prop := flowStepsUptoRow.holds Tryz.pinned (OpenSpec.upto flowStepsSpec)

/-- 'cnclaw10.FlowLoops', WHERE WHAT IT READS IS OF BULK AT MOST 1048576: true; the input reads as it did. -/
def flowLoopsUptoRow : OpenClaim := { program := "ytdcjbhdfphcefaagreatdoor", sum := "ed7a57947d0853e4766724ce88c8d87de2144b7852c0574ab9b8cd71fe2c2a86", func := "cnc/cnclaw10.FlowLoops", spec := "flowLoops", inPlace := ["math/bits.Sub64"], unfollowed := true, recurses := true, named := ["cnc/vars.numbers", "cnc/cordic.table", "math/bits.divideError", "math/bits.overflowError"], apart := false, laid := [("cnc/cordic.table", laid_cnc_cordic_table), ("cnc/vars.numbers", laid_cnc_vars_numbers)], narrowed := true }
def FlowLoopsUptoSaid : Prop := flowLoopsUptoRow.holds Tryz.pinned (OpenSpec.upto flowLoopsSpec)

/-- 'cnclaw10.FlowRepeats', WHERE WHAT IT READS IS OF BULK AT MOST 1048576: true; the input reads as it did. -/
def flowRepeatsUptoRow : OpenClaim := { program := "ytdcjbhdfphcefaagreatdoor", sum := "ed7a57947d0853e4766724ce88c8d87de2144b7852c0574ab9b8cd71fe2c2a86", func := "cnc/cnclaw10.FlowRepeats", spec := "flowRepeats", inPlace := ["math/bits.Sub64"], unfollowed := true, recurses := true, named := ["cnc/vars.numbers", "cnc/cordic.table", "math/bits.divideError", "math/bits.overflowError"], apart := false, laid := [("cnc/cordic.table", laid_cnc_cordic_table), ("cnc/vars.numbers", laid_cnc_vars_numbers)], narrowed := true }
def FlowRepeatsUptoSaid : Prop := flowRepeatsUptoRow.holds Tryz.pinned (OpenSpec.upto flowRepeatsSpec)

/-- 'cnclaw10.FlowSkips', WHERE WHAT IT READS IS OF BULK AT MOST 1048576: true; the input reads as it did. -/
def flowSkipsUptoRow : OpenClaim := { program := "ytdcjbhdfphcefaagreatdoor", sum := "ed7a57947d0853e4766724ce88c8d87de2144b7852c0574ab9b8cd71fe2c2a86", func := "cnc/cnclaw10.FlowSkips", spec := "flowSkips", inPlace := ["math/bits.Sub64"], unfollowed := true, recurses := true, named := ["cnc/vars.numbers", "cnc/cordic.table", "math/bits.divideError", "math/bits.overflowError"], apart := false, laid := [("cnc/cordic.table", laid_cnc_cordic_table), ("cnc/vars.numbers", laid_cnc_vars_numbers)], narrowed := true }
def FlowSkipsUptoSaid : Prop := flowSkipsUptoRow.holds Tryz.pinned (OpenSpec.upto flowSkipsSpec)

/-- 'cnclaw10.FlowJumps', WHERE WHAT IT READS IS OF BULK AT MOST 1048576: true; the input reads as it did. -/
def flowJumpsUptoRow : OpenClaim := { program := "ytdcjbhdfphcefaagreatdoor", sum := "ed7a57947d0853e4766724ce88c8d87de2144b7852c0574ab9b8cd71fe2c2a86", func := "cnc/cnclaw10.FlowJumps", spec := "flowJumps", inPlace := ["math/bits.Sub64"], unfollowed := true, recurses := true, named := ["cnc/vars.numbers", "cnc/cordic.table", "math/bits.divideError", "math/bits.overflowError"], apart := false, laid := [("cnc/cordic.table", laid_cnc_cordic_table), ("cnc/vars.numbers", laid_cnc_vars_numbers)], narrowed := true }
def FlowJumpsUptoSaid : Prop := flowJumpsUptoRow.holds Tryz.pinned (OpenSpec.upto flowJumpsSpec)

/-- 'cnclaw10.FlowRuns', WHERE WHAT IT READS IS OF BULK AT MOST 1048576: true; the input reads as it did. -/
def flowRunsUptoRow : OpenClaim := { program := "ytdcjbhdfphcefaagreatdoor", sum := "ed7a57947d0853e4766724ce88c8d87de2144b7852c0574ab9b8cd71fe2c2a86", func := "cnc/cnclaw10.FlowRuns", spec := "flowRuns", inPlace := ["math/bits.Sub64"], unfollowed := true, recurses := true, named := ["cnc/vars.numbers", "cnc/cordic.table", "math/bits.divideError", "math/bits.overflowError"], apart := false, laid := [("cnc/cordic.table", laid_cnc_cordic_table), ("cnc/vars.numbers", laid_cnc_vars_numbers)], narrowed := true }
def FlowRunsUptoSaid : Prop := flowRunsUptoRow.holds Tryz.pinned (OpenSpec.upto flowRunsSpec)

/-- 'cnclaw10.FlowPrograms', WHERE WHAT IT READS IS OF BULK AT MOST 1048576: true; the input reads as it did. -/
def flowProgramsUptoRow : OpenClaim := { program := "ytdcjbhdfphcefaagreatdoor", sum := "ed7a57947d0853e4766724ce88c8d87de2144b7852c0574ab9b8cd71fe2c2a86", func := "cnc/cnclaw10.FlowPrograms", spec := "flowPrograms", inPlace := ["math/bits.Sub64"], unfollowed := true, recurses := true, named := ["cnc/vars.numbers", "cnc/cordic.table", "math/bits.divideError", "math/bits.overflowError"], apart := false, laid := [("cnc/cordic.table", laid_cnc_cordic_table), ("cnc/vars.numbers", laid_cnc_vars_numbers)], narrowed := true }
def FlowProgramsUptoSaid : Prop := flowProgramsUptoRow.holds Tryz.pinned (OpenSpec.upto flowProgramsSpec)

/-- 'cnclaw10.FlowCalls', WHERE WHAT IT READS IS OF BULK AT MOST 1048576: true; the input reads as it did. -/
def flowCallsUptoRow : OpenClaim := { program := "ytdcjbhdfphcefaagreatdoor", sum := "ed7a57947d0853e4766724ce88c8d87de2144b7852c0574ab9b8cd71fe2c2a86", func := "cnc/cnclaw10.FlowCalls", spec := "flowCalls", inPlace := ["math/bits.Sub64"], unfollowed := true, recurses := true, named := ["cnc/vars.numbers", "cnc/cordic.table", "math/bits.divideError", "math/bits.overflowError"], apart := false, laid := [("cnc/cordic.table", laid_cnc_cordic_table), ("cnc/vars.numbers", laid_cnc_vars_numbers)], narrowed := true }
def FlowCallsUptoSaid : Prop := flowCallsUptoRow.holds Tryz.pinned (OpenSpec.upto flowCallsSpec)

/-- 'cnclaw10.FlowCopies', WHERE WHAT IT READS IS OF BULK AT MOST 1048576: true; the input reads as it did. -/
def flowCopiesUptoRow : OpenClaim := { program := "ytdcjbhdfphcefaagreatdoor", sum := "ed7a57947d0853e4766724ce88c8d87de2144b7852c0574ab9b8cd71fe2c2a86", func := "cnc/cnclaw10.FlowCopies", spec := "flowCopies", inPlace := ["math/bits.Sub64"], unfollowed := true, recurses := true, named := ["cnc/vars.numbers", "cnc/cordic.table", "math/bits.divideError", "math/bits.overflowError"], apart := false, laid := [("cnc/cordic.table", laid_cnc_cordic_table), ("cnc/vars.numbers", laid_cnc_vars_numbers)], narrowed := true }
def FlowCopiesUptoSaid : Prop := flowCopiesUptoRow.holds Tryz.pinned (OpenSpec.upto flowCopiesSpec)

end Rows
end Go.Proofs.YtdcjbhdfphcefaaGreatDoor
