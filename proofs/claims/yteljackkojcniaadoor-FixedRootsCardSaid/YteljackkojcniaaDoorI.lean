/- The contract of the sanity check awake of cnclaw02: it returns true, in every world that holds the table of the powers of ten. -/
import Derived.Test.YteljackkojcniaaDoorH
import Derived.Test.YteljackkojcniaaDoorD
namespace Go.Proofs.YteljackkojcniaaDoor
open Go.RowKit
set_option linter.unusedVariables false

theorem Tab.below {w w1 : World} (h : Tab w) (hb : Below w.heap.size w w1) : Tab w1 := Lib.tabBelow_of_tabIs h w1 hb
theorem below2 {w w1 w2 : World} (h1 : Below w.heap.size w w1) (h2 : Below w1.heap.size w1 w2) : Below w.heap.size w w2 := h1.trans (h2.mono h1.size)

theorem aw_parse : parseS (strI ⟨#[49, 46, 50, 53]⟩) = (1250000, 0) := by decide +kernel
theorem aw_len : lenS 1000000 20 = (25400, 0) := by decide +kernel
theorem aw_mod : modS (-1000000) 3000000 = (2000000, 0) := by decide +kernel
theorem aw_fmt : fmtS (-500000) = ⟨#[45, 48, 46, 53]⟩ := by
  unfold fmtS fmtL fmtP tailD
  rw [vld_mk (by omega) (by omega)]
  have e : (-500000 : Int).natAbs = 500000 := rfl
  rw [e]
  have e2 : Lib.decDigits (500000 / 1000000) = [48] := by rw [Lib.decDigits]; rfl
  rw [e2]
  rfl

theorem awake_any (w : World) (ht : Tab w) :
    Calls Tryd.prog 18 #[] w fun e w' => e = .returned (.bool true) ∧ Below w.heap.size w w' := by
  have e1 := aw_parse
  have e2 := aw_len
  have e3 := aw_mod
  have e4 := aw_fmt
  have HT := Lib.hid ht; clear ht
  go_enter Tryd.func18, Tryd.ntmps18
  go_wp2_with (first | (go_at_call 21; refine (parse_any _ (by decide) _).mono ?_; rintro e w' ⟨rfl, rfl⟩) | (go_at_call 28; refine (length_any _ _ (by omega) (by omega) _).mono ?_; rintro e w1 ⟨rfl, hb⟩; have HA := Lib.hid hb; clear hb) | (go_at_call 35; refine (modf_any _ _ (by omega) (by omega) (by omega) (by omega) _).mono ?_; rintro e w' ⟨rfl, rfl⟩) | (go_at_call 26; refine (format_any _ (by omega) (by omega) _ (HT.out.below HA.out)).mono ?_; rintro e w2 ⟨rfl, hb⟩; have HB := Lib.hid hb; clear hb))
  go_ret
  exact ⟨rfl, below2 HA.out HB.out⟩
end Go.Proofs.YteljackkojcniaaDoor
