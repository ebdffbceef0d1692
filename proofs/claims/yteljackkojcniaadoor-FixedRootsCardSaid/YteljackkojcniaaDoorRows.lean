/-
  NARROWER THAN 'FOR EVERY INPUT', by the rows' own cells (each row's printed sentence says how): FixedParse: laid · FixedFormat: laid · FixedLength: laid · FixedRoundTrip: laid · FixedTexts: laid · FixedRemainders: laid · FixedUnits: laid · FixedSums: laid · FixedGroup: laid · FixedProducts: laid · FixedDivides: laid · FixedIntegers: laid · FixedSquares: laid · FixedRoots: laid.
  DERIVED. THE GIVEN ROWS OF THIS SEAT. 14 by the template 'for every input the law returns true; each argument reads behind the call as it read before'; 0 by the template 'total and deterministic' (their statements: YteljackkojcniaaDoorTotals.lean).
  GIVEN WITH THE SEED: the statements are not yours to turn. If you find one false, say at which input.
  Laid BY PROGRAM, IN A SANDBOX (cutbox-rows.mjs): the forced cells as the released guide's own fill.sh prints them over the translation 5e69dfd023ef8f6f… (all of the seat's roots in one cut). By AI agents, Wed Nov 11 2026. No macro, syntax, notation, axiom, sorry.
-/
import Derived.Test.YteljackkojcniaaDoorChecked
import GoSem.Claim
import GoSem.ClaimJoined
import GoSem.ClaimMapViews
import Derived.JoinedTies
import Derived.KernelRfl
namespace Go.Proofs.YteljackkojcniaaDoor
/- THE CELL 'sum', in the pinned program and in every row, IS THE sha256 OF THE DUMP (.gsa) THAT YteljackkojcniaaDoorProg.lean LOADS. Nothing in Lean hashes anything: it is a label: what it is worth is what the hold of that sum in a sandbox is worth. -/
noncomputable def Tryd.pinned : Pinned := { name := "yteljackkojcniaadoor", sum := "5e69dfd023ef8f6feadcb7f7bb6222904c8762b656fa93498cf68fca5e7427eb", checked := Tryd.checked }
namespace Rows
def none {H : Type} : Left H := { results := [], args := [] }

/- WHAT THE LISTED PACKAGE-LEVEL VARIABLES READ AS WHEN THE CALL BEGINS. Each datum BY PROGRAM (the guide's laid-datum.mjs) off the statement by which the dump's own 'gosem.cut.vars' lays the variable. In a bare row this is a premise. The card (YteljackkojcniaaDoorCards.lean) ties it to the program's text. -/
def laid_math_bits_deBruijn32tab {H : Type} : DataW H := .agg [.lit (.int .u8 0), .lit (.int .u8 1), .lit (.int .u8 28), .lit (.int .u8 2), .lit (.int .u8 29), .lit (.int .u8 14), .lit (.int .u8 24), .lit (.int .u8 3), .lit (.int .u8 30), .lit (.int .u8 22), .lit (.int .u8 20), .lit (.int .u8 15), .lit (.int .u8 25), .lit (.int .u8 17), .lit (.int .u8 4), .lit (.int .u8 8), .lit (.int .u8 31), .lit (.int .u8 27), .lit (.int .u8 13), .lit (.int .u8 23), .lit (.int .u8 21), .lit (.int .u8 19), .lit (.int .u8 16), .lit (.int .u8 7), .lit (.int .u8 26), .lit (.int .u8 12), .lit (.int .u8 18), .lit (.int .u8 6), .lit (.int .u8 11), .lit (.int .u8 5), .lit (.int .u8 10), .lit (.int .u8 9)]
def laid_math_bits_deBruijn64tab {H : Type} : DataW H := .agg [.lit (.int .u8 0), .lit (.int .u8 1), .lit (.int .u8 56), .lit (.int .u8 2), .lit (.int .u8 57), .lit (.int .u8 49), .lit (.int .u8 28), .lit (.int .u8 3), .lit (.int .u8 61), .lit (.int .u8 58), .lit (.int .u8 42), .lit (.int .u8 50), .lit (.int .u8 38), .lit (.int .u8 29), .lit (.int .u8 17), .lit (.int .u8 4), .lit (.int .u8 62), .lit (.int .u8 47), .lit (.int .u8 59), .lit (.int .u8 36), .lit (.int .u8 45), .lit (.int .u8 43), .lit (.int .u8 51), .lit (.int .u8 22), .lit (.int .u8 53), .lit (.int .u8 39), .lit (.int .u8 33), .lit (.int .u8 30), .lit (.int .u8 24), .lit (.int .u8 18), .lit (.int .u8 12), .lit (.int .u8 5), .lit (.int .u8 63), .lit (.int .u8 55), .lit (.int .u8 48), .lit (.int .u8 27), .lit (.int .u8 60), .lit (.int .u8 41), .lit (.int .u8 37), .lit (.int .u8 16), .lit (.int .u8 46), .lit (.int .u8 35), .lit (.int .u8 44), .lit (.int .u8 21), .lit (.int .u8 52), .lit (.int .u8 32), .lit (.int .u8 23), .lit (.int .u8 11), .lit (.int .u8 54), .lit (.int .u8 26), .lit (.int .u8 40), .lit (.int .u8 15), .lit (.int .u8 34), .lit (.int .u8 20), .lit (.int .u8 31), .lit (.int .u8 10), .lit (.int .u8 25), .lit (.int .u8 14), .lit (.int .u8 19), .lit (.int .u8 9), .lit (.int .u8 13), .lit (.int .u8 8), .lit (.int .u8 7), .lit (.int .u8 6)]
def laid_internal_strconv_uint64pow10 {H : Type} : DataW H := .agg [.lit (.int .u64 1), .lit (.int .u64 10), .lit (.int .u64 100), .lit (.int .u64 1000), .lit (.int .u64 10000), .lit (.int .u64 100000), .lit (.int .u64 1000000), .lit (.int .u64 10000000), .lit (.int .u64 100000000), .lit (.int .u64 1000000000), .lit (.int .u64 10000000000), .lit (.int .u64 100000000000), .lit (.int .u64 1000000000000), .lit (.int .u64 10000000000000), .lit (.int .u64 100000000000000), .lit (.int .u64 1000000000000000), .lit (.int .u64 10000000000000000), .lit (.int .u64 100000000000000000), .lit (.int .u64 1000000000000000000), .lit (.int .u64 10000000000000000000)]

/-- 'cnclaw02.FixedParse': WHATEVER THE INPUT: true; the input reads as it did. -/
def fixedParseSpec : ChangeSpec := { name := "fixedParse", fn := fun _ => fun
  | [d1, d2] => { results := [.lit (.bool true)], args := [d1, d2] }
  | _ => none }
def fixedParseRow : OpenClaim := { program := "yteljackkojcniaadoor", sum := "5e69dfd023ef8f6feadcb7f7bb6222904c8762b656fa93498cf68fca5e7427eb", func := "cnc/cnclaw02.FixedParse", spec := "fixedParse", recurses := true, named := ["math/bits.divideError", "math/bits.overflowError", "internal/strconv.uint64pow10", "math/bits.deBruijn32tab", "math/bits.deBruijn64tab"], apart := false, laid := [("math/bits.deBruijn32tab", laid_math_bits_deBruijn32tab), ("math/bits.deBruijn64tab", laid_math_bits_deBruijn64tab), ("internal/strconv.uint64pow10", laid_internal_strconv_uint64pow10)] }
def FixedParseSaid : Prop := fixedParseRow.holds Tryd.pinned (OpenSpec.ofChange fixedParseSpec)

/-- ITS FALSE NEIGHBOUR: 'it returns false'. Refute it at one input. -/
def fixedParseWrong : ChangeSpec := { name := "fixedParse", fn := fun _ => fun
  | [d1, d2] => { results := [.lit (.bool false)], args := [d1, d2] }
  | _ => none }
def FixedParseWrongFalsely : Prop := fixedParseRow.holds Tryd.pinned (OpenSpec.ofChange fixedParseWrong)

/-- 'cnclaw02.FixedFormat': WHATEVER THE INPUT: true; the input reads as it did. -/
def fixedFormatSpec : ChangeSpec := { name := "fixedFormat", fn := fun _ => fun
  | [d] => { results := [.lit (.bool true)], args := [d] }
  | _ => none }
def fixedFormatRow : OpenClaim := { program := "yteljackkojcniaadoor", sum := "5e69dfd023ef8f6feadcb7f7bb6222904c8762b656fa93498cf68fca5e7427eb", func := "cnc/cnclaw02.FixedFormat", spec := "fixedFormat", recurses := true, named := ["math/bits.divideError", "math/bits.overflowError", "internal/strconv.uint64pow10", "math/bits.deBruijn32tab", "math/bits.deBruijn64tab"], apart := false, laid := [("math/bits.deBruijn32tab", laid_math_bits_deBruijn32tab), ("math/bits.deBruijn64tab", laid_math_bits_deBruijn64tab), ("internal/strconv.uint64pow10", laid_internal_strconv_uint64pow10)] }
def FixedFormatSaid : Prop := fixedFormatRow.holds Tryd.pinned (OpenSpec.ofChange fixedFormatSpec)

/-- ITS FALSE NEIGHBOUR: 'it returns false'. Refute it at one input. -/
def fixedFormatWrong : ChangeSpec := { name := "fixedFormat", fn := fun _ => fun
  | [d] => { results := [.lit (.bool false)], args := [d] }
  | _ => none }
def FixedFormatWrongFalsely : Prop := fixedFormatRow.holds Tryd.pinned (OpenSpec.ofChange fixedFormatWrong)

/-- 'cnclaw02.FixedLength': WHATEVER THE INPUT: true; the input reads as it did. -/
def fixedLengthSpec : ChangeSpec := { name := "fixedLength", fn := fun _ => fun
  | [d1, d2] => { results := [.lit (.bool true)], args := [d1, d2] }
  | _ => none }
def fixedLengthRow : OpenClaim := { program := "yteljackkojcniaadoor", sum := "5e69dfd023ef8f6feadcb7f7bb6222904c8762b656fa93498cf68fca5e7427eb", func := "cnc/cnclaw02.FixedLength", spec := "fixedLength", named := ["math/bits.divideError", "math/bits.overflowError", "internal/strconv.uint64pow10", "math/bits.deBruijn32tab", "math/bits.deBruijn64tab"], apart := false, laid := [("math/bits.deBruijn32tab", laid_math_bits_deBruijn32tab), ("math/bits.deBruijn64tab", laid_math_bits_deBruijn64tab), ("internal/strconv.uint64pow10", laid_internal_strconv_uint64pow10)] }
def FixedLengthSaid : Prop := fixedLengthRow.holds Tryd.pinned (OpenSpec.ofChange fixedLengthSpec)

/-- ITS FALSE NEIGHBOUR: 'it returns false'. Refute it at one input. -/
def fixedLengthWrong : ChangeSpec := { name := "fixedLength", fn := fun _ => fun
  | [d1, d2] => { results := [.lit (.bool false)], args := [d1, d2] }
  | _ => none }
def FixedLengthWrongFalsely : Prop := fixedLengthRow.holds Tryd.pinned (OpenSpec.ofChange fixedLengthWrong)

/-- 'cnclaw02.FixedRoundTrip': WHATEVER THE INPUT: true; the input reads as it did. -/
def fixedRoundTripSpec : ChangeSpec := { name := "fixedRoundTrip", fn := fun _ => fun
  | [d] => { results := [.lit (.bool true)], args := [d] }
  | _ => none }
def fixedRoundTripRow : OpenClaim := { program := "yteljackkojcniaadoor", sum := "5e69dfd023ef8f6feadcb7f7bb6222904c8762b656fa93498cf68fca5e7427eb", func := "cnc/cnclaw02.FixedRoundTrip", spec := "fixedRoundTrip", named := ["internal/strconv.uint64pow10", "math/bits.deBruijn32tab", "math/bits.deBruijn64tab", "math/bits.divideError", "math/bits.overflowError"], apart := false, laid := [("math/bits.deBruijn32tab", laid_math_bits_deBruijn32tab), ("math/bits.deBruijn64tab", laid_math_bits_deBruijn64tab), ("internal/strconv.uint64pow10", laid_internal_strconv_uint64pow10)] }
def FixedRoundTripSaid : Prop := fixedRoundTripRow.holds Tryd.pinned (OpenSpec.ofChange fixedRoundTripSpec)

/-- ITS FALSE NEIGHBOUR: 'it returns false'. Refute it at one input. -/
def fixedRoundTripWrong : ChangeSpec := { name := "fixedRoundTrip", fn := fun _ => fun
  | [d] => { results := [.lit (.bool false)], args := [d] }
  | _ => none }
def FixedRoundTripWrongFalsely : Prop := fixedRoundTripRow.holds Tryd.pinned (OpenSpec.ofChange fixedRoundTripWrong)

/-- 'cnclaw02.FixedTexts': WHATEVER THE INPUT: true; the input reads as it did. -/
def fixedTextsSpec : ChangeSpec := { name := "fixedTexts", fn := fun _ => fun
  | [d1, d2] => { results := [.lit (.bool true)], args := [d1, d2] }
  | _ => none }
def fixedTextsRow : OpenClaim := { program := "yteljackkojcniaadoor", sum := "5e69dfd023ef8f6feadcb7f7bb6222904c8762b656fa93498cf68fca5e7427eb", func := "cnc/cnclaw02.FixedTexts", spec := "fixedTexts", recurses := true, named := ["math/bits.divideError", "math/bits.overflowError", "internal/strconv.uint64pow10", "math/bits.deBruijn32tab", "math/bits.deBruijn64tab"], apart := false, laid := [("math/bits.deBruijn32tab", laid_math_bits_deBruijn32tab), ("math/bits.deBruijn64tab", laid_math_bits_deBruijn64tab), ("internal/strconv.uint64pow10", laid_internal_strconv_uint64pow10)] }
def FixedTextsSaid : Prop := fixedTextsRow.holds Tryd.pinned (OpenSpec.ofChange fixedTextsSpec)

/-- ITS FALSE NEIGHBOUR: 'it returns false'. Refute it at one input. -/
def fixedTextsWrong : ChangeSpec := { name := "fixedTexts", fn := fun _ => fun
  | [d1, d2] => { results := [.lit (.bool false)], args := [d1, d2] }
  | _ => none }
def FixedTextsWrongFalsely : Prop := fixedTextsRow.holds Tryd.pinned (OpenSpec.ofChange fixedTextsWrong)

/-- 'cnclaw02.FixedRemainders': WHATEVER THE INPUT: true; the input reads as it did. -/
def fixedRemaindersSpec : ChangeSpec := { name := "fixedRemainders", fn := fun _ => fun
  | [d1, d2] => { results := [.lit (.bool true)], args := [d1, d2] }
  | _ => none }
def fixedRemaindersRow : OpenClaim := { program := "yteljackkojcniaadoor", sum := "5e69dfd023ef8f6feadcb7f7bb6222904c8762b656fa93498cf68fca5e7427eb", func := "cnc/cnclaw02.FixedRemainders", spec := "fixedRemainders", named := ["math/bits.divideError", "math/bits.overflowError", "internal/strconv.uint64pow10", "math/bits.deBruijn32tab", "math/bits.deBruijn64tab"], apart := false, laid := [("math/bits.deBruijn32tab", laid_math_bits_deBruijn32tab), ("math/bits.deBruijn64tab", laid_math_bits_deBruijn64tab), ("internal/strconv.uint64pow10", laid_internal_strconv_uint64pow10)] }
def FixedRemaindersSaid : Prop := fixedRemaindersRow.holds Tryd.pinned (OpenSpec.ofChange fixedRemaindersSpec)

/-- ITS FALSE NEIGHBOUR: 'it returns false'. Refute it at one input. -/
def fixedRemaindersWrong : ChangeSpec := { name := "fixedRemainders", fn := fun _ => fun
  | [d1, d2] => { results := [.lit (.bool false)], args := [d1, d2] }
  | _ => none }
def FixedRemaindersWrongFalsely : Prop := fixedRemaindersRow.holds Tryd.pinned (OpenSpec.ofChange fixedRemaindersWrong)

/-- 'cnclaw02.FixedUnits': WHATEVER THE INPUT: true; the input reads as it did. -/
def fixedUnitsSpec : ChangeSpec := { name := "fixedUnits", fn := fun _ => fun
  | [d1, d2] => { results := [.lit (.bool true)], args := [d1, d2] }
  | _ => none }
def fixedUnitsRow : OpenClaim := { program := "yteljackkojcniaadoor", sum := "5e69dfd023ef8f6feadcb7f7bb6222904c8762b656fa93498cf68fca5e7427eb", func := "cnc/cnclaw02.FixedUnits", spec := "fixedUnits", named := ["math/bits.divideError", "math/bits.overflowError", "internal/strconv.uint64pow10", "math/bits.deBruijn32tab", "math/bits.deBruijn64tab"], apart := false, laid := [("math/bits.deBruijn32tab", laid_math_bits_deBruijn32tab), ("math/bits.deBruijn64tab", laid_math_bits_deBruijn64tab), ("internal/strconv.uint64pow10", laid_internal_strconv_uint64pow10)] }
def FixedUnitsSaid : Prop := fixedUnitsRow.holds Tryd.pinned (OpenSpec.ofChange fixedUnitsSpec)

/-- ITS FALSE NEIGHBOUR: 'it returns false'. Refute it at one input. -/
def fixedUnitsWrong : ChangeSpec := { name := "fixedUnits", fn := fun _ => fun
  | [d1, d2] => { results := [.lit (.bool false)], args := [d1, d2] }
  | _ => none }
def FixedUnitsWrongFalsely : Prop := fixedUnitsRow.holds Tryd.pinned (OpenSpec.ofChange fixedUnitsWrong)

/-- 'cnclaw02.FixedSums': WHATEVER THE INPUT: true; the input reads as it did. -/
def fixedSumsSpec : ChangeSpec := { name := "fixedSums", fn := fun _ => fun
  | [d1, d2] => { results := [.lit (.bool true)], args := [d1, d2] }
  | _ => none }
def fixedSumsRow : OpenClaim := { program := "yteljackkojcniaadoor", sum := "5e69dfd023ef8f6feadcb7f7bb6222904c8762b656fa93498cf68fca5e7427eb", func := "cnc/cnclaw02.FixedSums", spec := "fixedSums", named := ["math/bits.divideError", "math/bits.overflowError", "internal/strconv.uint64pow10", "math/bits.deBruijn32tab", "math/bits.deBruijn64tab"], apart := false, laid := [("math/bits.deBruijn32tab", laid_math_bits_deBruijn32tab), ("math/bits.deBruijn64tab", laid_math_bits_deBruijn64tab), ("internal/strconv.uint64pow10", laid_internal_strconv_uint64pow10)] }
def FixedSumsSaid : Prop := fixedSumsRow.holds Tryd.pinned (OpenSpec.ofChange fixedSumsSpec)

/-- ITS FALSE NEIGHBOUR: 'it returns false'. Refute it at one input. -/
def fixedSumsWrong : ChangeSpec := { name := "fixedSums", fn := fun _ => fun
  | [d1, d2] => { results := [.lit (.bool false)], args := [d1, d2] }
  | _ => none }
def FixedSumsWrongFalsely : Prop := fixedSumsRow.holds Tryd.pinned (OpenSpec.ofChange fixedSumsWrong)

/-- 'cnclaw02.FixedGroup': WHATEVER THE INPUT: true; the input reads as it did. -/
def fixedGroupSpec : ChangeSpec := { name := "fixedGroup", fn := fun _ => fun
  | [d1, d2] => { results := [.lit (.bool true)], args := [d1, d2] }
  | _ => none }
def fixedGroupRow : OpenClaim := { program := "yteljackkojcniaadoor", sum := "5e69dfd023ef8f6feadcb7f7bb6222904c8762b656fa93498cf68fca5e7427eb", func := "cnc/cnclaw02.FixedGroup", spec := "fixedGroup", named := ["math/bits.divideError", "math/bits.overflowError", "internal/strconv.uint64pow10", "math/bits.deBruijn32tab", "math/bits.deBruijn64tab"], apart := false, laid := [("math/bits.deBruijn32tab", laid_math_bits_deBruijn32tab), ("math/bits.deBruijn64tab", laid_math_bits_deBruijn64tab), ("internal/strconv.uint64pow10", laid_internal_strconv_uint64pow10)] }
def FixedGroupSaid : Prop := fixedGroupRow.holds Tryd.pinned (OpenSpec.ofChange fixedGroupSpec)

/-- ITS FALSE NEIGHBOUR: 'it returns false'. Refute it at one input. -/
def fixedGroupWrong : ChangeSpec := { name := "fixedGroup", fn := fun _ => fun
  | [d1, d2] => { results := [.lit (.bool false)], args := [d1, d2] }
  | _ => none }
def FixedGroupWrongFalsely : Prop := fixedGroupRow.holds Tryd.pinned (OpenSpec.ofChange fixedGroupWrong)

/-- 'cnclaw02.FixedProducts': WHATEVER THE INPUT: true; the input reads as it did. -/
def fixedProductsSpec : ChangeSpec := { name := "fixedProducts", fn := fun _ => fun
  | [d1, d2, d3] => { results := [.lit (.bool true)], args := [d1, d2, d3] }
  | _ => none }
def fixedProductsRow : OpenClaim := { program := "yteljackkojcniaadoor", sum := "5e69dfd023ef8f6feadcb7f7bb6222904c8762b656fa93498cf68fca5e7427eb", func := "cnc/cnclaw02.FixedProducts", spec := "fixedProducts", named := ["math/bits.divideError", "math/bits.overflowError", "internal/strconv.uint64pow10", "math/bits.deBruijn32tab", "math/bits.deBruijn64tab"], apart := false, laid := [("math/bits.deBruijn32tab", laid_math_bits_deBruijn32tab), ("math/bits.deBruijn64tab", laid_math_bits_deBruijn64tab), ("internal/strconv.uint64pow10", laid_internal_strconv_uint64pow10)] }
def FixedProductsSaid : Prop := fixedProductsRow.holds Tryd.pinned (OpenSpec.ofChange fixedProductsSpec)

/-- ITS FALSE NEIGHBOUR: 'it returns false'. Refute it at one input. -/
def fixedProductsWrong : ChangeSpec := { name := "fixedProducts", fn := fun _ => fun
  | [d1, d2, d3] => { results := [.lit (.bool false)], args := [d1, d2, d3] }
  | _ => none }
def FixedProductsWrongFalsely : Prop := fixedProductsRow.holds Tryd.pinned (OpenSpec.ofChange fixedProductsWrong)

/-- 'cnclaw02.FixedDivides': WHATEVER THE INPUT: true; the input reads as it did. -/
def fixedDividesSpec : ChangeSpec := { name := "fixedDivides", fn := fun _ => fun
  | [d1, d2] => { results := [.lit (.bool true)], args := [d1, d2] }
  | _ => none }
def fixedDividesRow : OpenClaim := { program := "yteljackkojcniaadoor", sum := "5e69dfd023ef8f6feadcb7f7bb6222904c8762b656fa93498cf68fca5e7427eb", func := "cnc/cnclaw02.FixedDivides", spec := "fixedDivides", named := ["math/bits.divideError", "math/bits.overflowError", "internal/strconv.uint64pow10", "math/bits.deBruijn32tab", "math/bits.deBruijn64tab"], apart := false, laid := [("math/bits.deBruijn32tab", laid_math_bits_deBruijn32tab), ("math/bits.deBruijn64tab", laid_math_bits_deBruijn64tab), ("internal/strconv.uint64pow10", laid_internal_strconv_uint64pow10)] }
def FixedDividesSaid : Prop := fixedDividesRow.holds Tryd.pinned (OpenSpec.ofChange fixedDividesSpec)

/-- ITS FALSE NEIGHBOUR: 'it returns false'. Refute it at one input. -/
def fixedDividesWrong : ChangeSpec := { name := "fixedDivides", fn := fun _ => fun
  | [d1, d2] => { results := [.lit (.bool false)], args := [d1, d2] }
  | _ => none }
def FixedDividesWrongFalsely : Prop := fixedDividesRow.holds Tryd.pinned (OpenSpec.ofChange fixedDividesWrong)

/-- 'cnclaw02.FixedIntegers': WHATEVER THE INPUT: true; the input reads as it did. -/
def fixedIntegersSpec : ChangeSpec := { name := "fixedIntegers", fn := fun _ => fun
  | [d] => { results := [.lit (.bool true)], args := [d] }
  | _ => none }
def fixedIntegersRow : OpenClaim := { program := "yteljackkojcniaadoor", sum := "5e69dfd023ef8f6feadcb7f7bb6222904c8762b656fa93498cf68fca5e7427eb", func := "cnc/cnclaw02.FixedIntegers", spec := "fixedIntegers", named := ["math/bits.divideError", "math/bits.overflowError", "internal/strconv.uint64pow10", "math/bits.deBruijn32tab", "math/bits.deBruijn64tab"], apart := false, laid := [("math/bits.deBruijn32tab", laid_math_bits_deBruijn32tab), ("math/bits.deBruijn64tab", laid_math_bits_deBruijn64tab), ("internal/strconv.uint64pow10", laid_internal_strconv_uint64pow10)] }
def FixedIntegersSaid : Prop := fixedIntegersRow.holds Tryd.pinned (OpenSpec.ofChange fixedIntegersSpec)

/-- ITS FALSE NEIGHBOUR: 'it returns false'. Refute it at one input. -/
def fixedIntegersWrong : ChangeSpec := { name := "fixedIntegers", fn := fun _ => fun
  | [d] => { results := [.lit (.bool false)], args := [d] }
  | _ => none }
def FixedIntegersWrongFalsely : Prop := fixedIntegersRow.holds Tryd.pinned (OpenSpec.ofChange fixedIntegersWrong)

/-- 'cnclaw02.FixedSquares': WHATEVER THE INPUT: true; the input reads as it did. -/
def fixedSquaresSpec : ChangeSpec := { name := "fixedSquares", fn := fun _ => fun
  | [d] => { results := [.lit (.bool true)], args := [d] }
  | _ => none }
def fixedSquaresRow : OpenClaim := { program := "yteljackkojcniaadoor", sum := "5e69dfd023ef8f6feadcb7f7bb6222904c8762b656fa93498cf68fca5e7427eb", func := "cnc/cnclaw02.FixedSquares", spec := "fixedSquares", inPlace := ["math/bits.Sub64"], named := ["math/bits.divideError", "math/bits.overflowError", "internal/strconv.uint64pow10", "math/bits.deBruijn32tab", "math/bits.deBruijn64tab"], apart := false, laid := [("math/bits.deBruijn32tab", laid_math_bits_deBruijn32tab), ("math/bits.deBruijn64tab", laid_math_bits_deBruijn64tab), ("internal/strconv.uint64pow10", laid_internal_strconv_uint64pow10)] }
def FixedSquaresSaid : Prop := fixedSquaresRow.holds Tryd.pinned (OpenSpec.ofChange fixedSquaresSpec)

/-- ITS FALSE NEIGHBOUR: 'it returns false'. Refute it at one input. -/
def fixedSquaresWrong : ChangeSpec := { name := "fixedSquares", fn := fun _ => fun
  | [d] => { results := [.lit (.bool false)], args := [d] }
  | _ => none }
def FixedSquaresWrongFalsely : Prop := fixedSquaresRow.holds Tryd.pinned (OpenSpec.ofChange fixedSquaresWrong)

/-- 'cnclaw02.FixedRoots': WHATEVER THE INPUT: true; the input reads as it did. -/
def fixedRootsSpec : ChangeSpec := { name := "fixedRoots", fn := fun _ => fun
  | [d1, d2] => { results := [.lit (.bool true)], args := [d1, d2] }
  | _ => none }
def fixedRootsRow : OpenClaim := { program := "yteljackkojcniaadoor", sum := "5e69dfd023ef8f6feadcb7f7bb6222904c8762b656fa93498cf68fca5e7427eb", func := "cnc/cnclaw02.FixedRoots", spec := "fixedRoots", inPlace := ["math/bits.Sub64"], named := ["math/bits.divideError", "math/bits.overflowError", "internal/strconv.uint64pow10", "math/bits.deBruijn32tab", "math/bits.deBruijn64tab"], apart := false, laid := [("math/bits.deBruijn32tab", laid_math_bits_deBruijn32tab), ("math/bits.deBruijn64tab", laid_math_bits_deBruijn64tab), ("internal/strconv.uint64pow10", laid_internal_strconv_uint64pow10)] }
def FixedRootsSaid : Prop := fixedRootsRow.holds Tryd.pinned (OpenSpec.ofChange fixedRootsSpec)

/-- ITS FALSE NEIGHBOUR: 'it returns false'. Refute it at one input. -/
def fixedRootsWrong : ChangeSpec := { name := "fixedRoots", fn := fun _ => fun
  | [d1, d2] => { results := [.lit (.bool false)], args := [d1, d2] }
  | _ => none }
def FixedRootsWrongFalsely : Prop := fixedRootsRow.holds Tryd.pinned (OpenSpec.ofChange fixedRootsWrong)

/- THE SECOND FORM. 'bulk': how many values and letters a reading holds, each counted each time it is reached (what is shared counts as often as it is met; a slice's spare places count too). A statement '..UptoSaid' is the law's where the arguments, and the package variables that the reading takes, are together of bulk at most 1048576: NARROWER than '..Said'. Prove '..Said' where nothing that the law and all that it calls make is longer than what came in: it says more and counts as full. Else prove '..UptoSaid'. A law counts once. -/
mutual
def uptoBulk {H : Type} : DataW H → Nat
  | .lit (.string bytes) => bytes.length + 1
  | .lit _ => 1
  | .nil => 1
  | .ptr d => uptoBulk d + 1
  | .slice elems spare => uptoBulkAll elems + uptoBulkAll spare + 1
  | .agg parts => uptoBulkAll parts + 1
  | .iface _ d => uptoBulk d + 1
  | .map entries => uptoBulkEntries entries + 1
  | .held _ => 1
def uptoBulkAll {H : Type} : List (DataW H) → Nat
  | [] => 0
  | d :: r => uptoBulk d + uptoBulkAll r
def uptoBulkEntries {H : Type} : List (Lit × DataW H) → Nat
  | [] => 0
  | x :: r => uptoBulkEntry x + uptoBulkEntries r
def uptoBulkEntry {H : Type} : Lit × DataW H → Nat
  | (.string bytes, d) => bytes.length + uptoBulk d + 1
  | (_, d) => uptoBulk d + 1
 end
def uptoSmall : (H : Type) → List (DataW H) → Bool := fun _ ds => decide (uptoBulkAll ds ≤ 1048576)
def OpenSpec.upto (s : _root_.Go.ChangeSpec) : _root_.Go.OpenSpec := { _root_.Go.OpenSpec.ofChange s with cond := some uptoSmall }

/-- 'cnclaw02.FixedParse', WHERE WHAT IT READS IS OF BULK AT MOST 1048576: true; the input reads as it did. -/
def fixedParseUptoRow : OpenClaim := { program := "yteljackkojcniaadoor", sum := "5e69dfd023ef8f6feadcb7f7bb6222904c8762b656fa93498cf68fca5e7427eb", func := "cnc/cnclaw02.FixedParse", spec := "fixedParse", recurses := true, named := ["math/bits.divideError", "math/bits.overflowError", "internal/strconv.uint64pow10", "math/bits.deBruijn32tab", "math/bits.deBruijn64tab"], apart := false, laid := [("math/bits.deBruijn32tab", laid_math_bits_deBruijn32tab), ("math/bits.deBruijn64tab", laid_math_bits_deBruijn64tab), ("internal/strconv.uint64pow10", laid_internal_strconv_uint64pow10)], narrowed := true }
def FixedParseUptoSaid : Prop := fixedParseUptoRow.holds Tryd.pinned (OpenSpec.upto fixedParseSpec)

/-- 'cnclaw02.FixedFormat', WHERE WHAT IT READS IS OF BULK AT MOST 1048576: true; the input reads as it did. -/
def fixedFormatUptoRow : OpenClaim := { program := "yteljackkojcniaadoor", sum := "5e69dfd023ef8f6feadcb7f7bb6222904c8762b656fa93498cf68fca5e7427eb", func := "cnc/cnclaw02.FixedFormat", spec := "fixedFormat", recurses := true, named := ["math/bits.divideError", "math/bits.overflowError", "internal/strconv.uint64pow10", "math/bits.deBruijn32tab", "math/bits.deBruijn64tab"], apart := false, laid := [("math/bits.deBruijn32tab", laid_math_bits_deBruijn32tab), ("math/bits.deBruijn64tab", laid_math_bits_deBruijn64tab), ("internal/strconv.uint64pow10", laid_internal_strconv_uint64pow10)], narrowed := true }
def FixedFormatUptoSaid : Prop := fixedFormatUptoRow.holds Tryd.pinned (OpenSpec.upto fixedFormatSpec)

/-- 'cnclaw02.FixedLength', WHERE WHAT IT READS IS OF BULK AT MOST 1048576: true; the input reads as it did. -/
def fixedLengthUptoRow : OpenClaim := { program := "yteljackkojcniaadoor", sum := "5e69dfd023ef8f6feadcb7f7bb6222904c8762b656fa93498cf68fca5e7427eb", func := "cnc/cnclaw02.FixedLength", spec := "fixedLength", named := ["math/bits.divideError", "math/bits.overflowError", "internal/strconv.uint64pow10", "math/bits.deBruijn32tab", "math/bits.deBruijn64tab"], apart := false, laid := [("math/bits.deBruijn32tab", laid_math_bits_deBruijn32tab), ("math/bits.deBruijn64tab", laid_math_bits_deBruijn64tab), ("internal/strconv.uint64pow10", laid_internal_strconv_uint64pow10)], narrowed := true }
def FixedLengthUptoSaid : Prop := fixedLengthUptoRow.holds Tryd.pinned (OpenSpec.upto fixedLengthSpec)

/-- 'cnclaw02.FixedRoundTrip', WHERE WHAT IT READS IS OF BULK AT MOST 1048576: true; the input reads as it did. -/
def fixedRoundTripUptoRow : OpenClaim := { program := "yteljackkojcniaadoor", sum := "5e69dfd023ef8f6feadcb7f7bb6222904c8762b656fa93498cf68fca5e7427eb", func := "cnc/cnclaw02.FixedRoundTrip", spec := "fixedRoundTrip", named := ["internal/strconv.uint64pow10", "math/bits.deBruijn32tab", "math/bits.deBruijn64tab", "math/bits.divideError", "math/bits.overflowError"], apart := false, laid := [("math/bits.deBruijn32tab", laid_math_bits_deBruijn32tab), ("math/bits.deBruijn64tab", laid_math_bits_deBruijn64tab), ("internal/strconv.uint64pow10", laid_internal_strconv_uint64pow10)], narrowed := true }
def FixedRoundTripUptoSaid : Prop := fixedRoundTripUptoRow.holds Tryd.pinned (OpenSpec.upto fixedRoundTripSpec)

/-- 'cnclaw02.FixedTexts', WHERE WHAT IT READS IS OF BULK AT MOST 1048576: true; the input reads as it did. -/
def fixedTextsUptoRow : OpenClaim := { program := "yteljackkojcniaadoor", sum := "5e69dfd023ef8f6feadcb7f7bb6222904c8762b656fa93498cf68fca5e7427eb", func := "cnc/cnclaw02.FixedTexts", spec := "fixedTexts", recurses := true, named := ["math/bits.divideError", "math/bits.overflowError", "internal/strconv.uint64pow10", "math/bits.deBruijn32tab", "math/bits.deBruijn64tab"], apart := false, laid := [("math/bits.deBruijn32tab", laid_math_bits_deBruijn32tab), ("math/bits.deBruijn64tab", laid_math_bits_deBruijn64tab), ("internal/strconv.uint64pow10", laid_internal_strconv_uint64pow10)], narrowed := true }
def FixedTextsUptoSaid : Prop := fixedTextsUptoRow.holds Tryd.pinned (OpenSpec.upto fixedTextsSpec)

/-- 'cnclaw02.FixedRemainders', WHERE WHAT IT READS IS OF BULK AT MOST 1048576: true; the input reads as it did. -/
def fixedRemaindersUptoRow : OpenClaim := { program := "yteljackkojcniaadoor", sum := "5e69dfd023ef8f6feadcb7f7bb6222904c8762b656fa93498cf68fca5e7427eb", func := "cnc/cnclaw02.FixedRemainders", spec := "fixedRemainders", named := ["math/bits.divideError", "math/bits.overflowError", "internal/strconv.uint64pow10", "math/bits.deBruijn32tab", "math/bits.deBruijn64tab"], apart := false, laid := [("math/bits.deBruijn32tab", laid_math_bits_deBruijn32tab), ("math/bits.deBruijn64tab", laid_math_bits_deBruijn64tab), ("internal/strconv.uint64pow10", laid_internal_strconv_uint64pow10)], narrowed := true }
def FixedRemaindersUptoSaid : Prop := fixedRemaindersUptoRow.holds Tryd.pinned (OpenSpec.upto fixedRemaindersSpec)

/-- 'cnclaw02.FixedUnits', WHERE WHAT IT READS IS OF BULK AT MOST 1048576: true; the input reads as it did. -/
def fixedUnitsUptoRow : OpenClaim := { program := "yteljackkojcniaadoor", sum := "5e69dfd023ef8f6feadcb7f7bb6222904c8762b656fa93498cf68fca5e7427eb", func := "cnc/cnclaw02.FixedUnits", spec := "fixedUnits", named := ["math/bits.divideError", "math/bits.overflowError", "internal/strconv.uint64pow10", "math/bits.deBruijn32tab", "math/bits.deBruijn64tab"], apart := false, laid := [("math/bits.deBruijn32tab", laid_math_bits_deBruijn32tab), ("math/bits.deBruijn64tab", laid_math_bits_deBruijn64tab), ("internal/strconv.uint64pow10", laid_internal_strconv_uint64pow10)], narrowed := true }
def FixedUnitsUptoSaid : Prop := fixedUnitsUptoRow.holds Tryd.pinned (OpenSpec.upto fixedUnitsSpec)

/-- 'cnclaw02.FixedSums', WHERE WHAT IT READS IS OF BULK AT MOST 1048576: true; the input reads as it did. -/
def fixedSumsUptoRow : OpenClaim := { program := "yteljackkojcniaadoor", sum := "5e69dfd023ef8f6feadcb7f7bb6222904c8762b656fa93498cf68fca5e7427eb", func := "cnc/cnclaw02.FixedSums", spec := "fixedSums", named := ["math/bits.divideError", "math/bits.overflowError", "internal/strconv.uint64pow10", "math/bits.deBruijn32tab", "math/bits.deBruijn64tab"], apart := false, laid := [("math/bits.deBruijn32tab", laid_math_bits_deBruijn32tab), ("math/bits.deBruijn64tab", laid_math_bits_deBruijn64tab), ("internal/strconv.uint64pow10", laid_internal_strconv_uint64pow10)], narrowed := true }
def FixedSumsUptoSaid : Prop := fixedSumsUptoRow.holds Tryd.pinned (OpenSpec.upto fixedSumsSpec)

/-- 'cnclaw02.FixedGroup', WHERE WHAT IT READS IS OF BULK AT MOST 1048576: true; the input reads as it did. -/
def fixedGroupUptoRow : OpenClaim := { program := "yteljackkojcniaadoor", sum := "5e69dfd023ef8f6feadcb7f7bb6222904c8762b656fa93498cf68fca5e7427eb", func := "cnc/cnclaw02.FixedGroup", spec := "fixedGroup", named := ["math/bits.divideError", "math/bits.overflowError", "internal/strconv.uint64pow10", "math/bits.deBruijn32tab", "math/bits.deBruijn64tab"], apart := false, laid := [("math/bits.deBruijn32tab", laid_math_bits_deBruijn32tab), ("math/bits.deBruijn64tab", laid_math_bits_deBruijn64tab), ("internal/strconv.uint64pow10", laid_internal_strconv_uint64pow10)], narrowed := true }
def FixedGroupUptoSaid : Prop := fixedGroupUptoRow.holds Tryd.pinned (OpenSpec.upto fixedGroupSpec)

/-- 'cnclaw02.FixedProducts', WHERE WHAT IT READS IS OF BULK AT MOST 1048576: true; the input reads as it did. -/
def fixedProductsUptoRow : OpenClaim := { program := "yteljackkojcniaadoor", sum := "5e69dfd023ef8f6feadcb7f7bb6222904c8762b656fa93498cf68fca5e7427eb", func := "cnc/cnclaw02.FixedProducts", spec := "fixedProducts", named := ["math/bits.divideError", "math/bits.overflowError", "internal/strconv.uint64pow10", "math/bits.deBruijn32tab", "math/bits.deBruijn64tab"], apart := false, laid := [("math/bits.deBruijn32tab", laid_math_bits_deBruijn32tab), ("math/bits.deBruijn64tab", laid_math_bits_deBruijn64tab), ("internal/strconv.uint64pow10", laid_internal_strconv_uint64pow10)], narrowed := true }
def FixedProductsUptoSaid : Prop := fixedProductsUptoRow.holds Tryd.pinned (OpenSpec.upto fixedProductsSpec)

/-- 'cnclaw02.FixedDivides', WHERE WHAT IT READS IS OF BULK AT MOST 1048576: true; the input reads as it did. -/
def fixedDividesUptoRow : OpenClaim := { program := "yteljackkojcniaadoor", sum := "5e69dfd023ef8f6feadcb7f7bb6222904c8762b656fa93498cf68fca5e7427eb", func := "cnc/cnclaw02.FixedDivides", spec := "fixedDivides", named := ["math/bits.divideError", "math/bits.overflowError", "internal/strconv.uint64pow10", "math/bits.deBruijn32tab", "math/bits.deBruijn64tab"], apart := false, laid := [("math/bits.deBruijn32tab", laid_math_bits_deBruijn32tab), ("math/bits.deBruijn64tab", laid_math_bits_deBruijn64tab), ("internal/strconv.uint64pow10", laid_internal_strconv_uint64pow10)], narrowed := true }
def FixedDividesUptoSaid : Prop := fixedDividesUptoRow.holds Tryd.pinned (OpenSpec.upto fixedDividesSpec)

/-- 'cnclaw02.FixedIntegers', WHERE WHAT IT READS IS OF BULK AT MOST 1048576: true; the input reads as it did. -/
def fixedIntegersUptoRow : OpenClaim := { program := "yteljackkojcniaadoor", sum := "5e69dfd023ef8f6feadcb7f7bb6222904c8762b656fa93498cf68fca5e7427eb", func := "cnc/cnclaw02.FixedIntegers", spec := "fixedIntegers", named := ["math/bits.divideError", "math/bits.overflowError", "internal/strconv.uint64pow10", "math/bits.deBruijn32tab", "math/bits.deBruijn64tab"], apart := false, laid := [("math/bits.deBruijn32tab", laid_math_bits_deBruijn32tab), ("math/bits.deBruijn64tab", laid_math_bits_deBruijn64tab), ("internal/strconv.uint64pow10", laid_internal_strconv_uint64pow10)], narrowed := true }
def FixedIntegersUptoSaid : Prop := fixedIntegersUptoRow.holds Tryd.pinned (OpenSpec.upto fixedIntegersSpec)

/-- 'cnclaw02.FixedSquares', WHERE WHAT IT READS IS OF BULK AT MOST 1048576: true; the input reads as it did. -/
def fixedSquaresUptoRow : OpenClaim := { program := "yteljackkojcniaadoor", sum := "5e69dfd023ef8f6feadcb7f7bb6222904c8762b656fa93498cf68fca5e7427eb", func := "cnc/cnclaw02.FixedSquares", spec := "fixedSquares", inPlace := ["math/bits.Sub64"], named := ["math/bits.divideError", "math/bits.overflowError", "internal/strconv.uint64pow10", "math/bits.deBruijn32tab", "math/bits.deBruijn64tab"], apart := false, laid := [("math/bits.deBruijn32tab", laid_math_bits_deBruijn32tab), ("math/bits.deBruijn64tab", laid_math_bits_deBruijn64tab), ("internal/strconv.uint64pow10", laid_internal_strconv_uint64pow10)], narrowed := true }
def FixedSquaresUptoSaid : Prop := fixedSquaresUptoRow.holds Tryd.pinned (OpenSpec.upto fixedSquaresSpec)

/-- 'cnclaw02.FixedRoots', WHERE WHAT IT READS IS OF BULK AT MOST 1048576: true; the input reads as it did. -/
def fixedRootsUptoRow : OpenClaim := { program := "yteljackkojcniaadoor", sum := "5e69dfd023ef8f6feadcb7f7bb6222904c8762b656fa93498cf68fca5e7427eb", func := "cnc/cnclaw02.FixedRoots", spec := "fixedRoots", inPlace := ["math/bits.Sub64"], named := ["math/bits.divideError", "math/bits.overflowError", "internal/strconv.uint64pow10", "math/bits.deBruijn32tab", "math/bits.deBruijn64tab"], apart := false, laid := [("math/bits.deBruijn32tab", laid_math_bits_deBruijn32tab), ("math/bits.deBruijn64tab", laid_math_bits_deBruijn64tab), ("internal/strconv.uint64pow10", laid_internal_strconv_uint64pow10)], narrowed := true }
def FixedRootsUptoSaid : Prop := fixedRootsUptoRow.holds Tryd.pinned (OpenSpec.upto fixedRootsSpec)

end Rows
end Go.Proofs.YteljackkojcniaaDoor
