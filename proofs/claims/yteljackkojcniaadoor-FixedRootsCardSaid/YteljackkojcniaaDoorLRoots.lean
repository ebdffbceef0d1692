/- The walk of the law FixedRoots: it returns true. Conditions: the integer is an int; the table of the powers of ten lies in memory. -/
import Derived.Test.YteljackkojcniaaDoorI
import Derived.Test.YteljackkojcniaaDoorZ
namespace Go.Proofs.YteljackkojcniaaDoor
open Go.RowKit
set_option linter.unusedVariables false

set_option maxRecDepth 100000 in
theorem rootsLaw_any (a : Int) (v : Bool) (ha1 : -9223372036854775808 ≤ a) (ha2 : a ≤ 9223372036854775807) (w : World) (ht : Tab w) :
    Calls Tryd.prog 16 #[.int .i64 a, .bool v] w fun e w' => e = .returned (.bool true) ∧ Below w.heap.size w w' := by
  have HB : Hid (Below w.heap.size w w) := Below.refl _ _
  have HT := Lib.hid ht; clear ht
  have na := num_bd a
  cases v
  · go_enter Tryd.func16, Tryd.ntmps16
    go_wp2_with (first | (go_at_call 46; refine (sqrt_any _ (by omega) (by omega) _).mono ?_; rintro e w1 ⟨rfl, hb⟩; have HN := Lib.hid (below2 HB.out hb); clear HB hb; have HB := Lib.hid HN.out; clear HN) | (go_at_call 48; refine (sqrt_ref _ (by omega) (by omega) _).mono ?_; rintro e w1 ⟨rfl, hb⟩; have HN := Lib.hid (below2 HB.out hb); clear HB hb; have HB := Lib.hid HN.out; clear HN) | (go_at_call 43; refine (round_any _ _).mono ?_; rintro e w1 ⟨rfl, hb⟩; have HN := Lib.hid (below2 HB.out hb); clear HB hb; have HB := Lib.hid HN.out; clear HN) | (go_at_call 49; refine (round_ref _ _).mono ?_; rintro e w' ⟨rfl, rfl⟩) | (go_at_call 42; refine (fix_any _ _).mono ?_; rintro e w1 ⟨rfl, hb⟩; have HN := Lib.hid (below2 HB.out hb); clear HB hb; have HB := Lib.hid HN.out; clear HN) | (go_at_call 50; refine (fix_ref _ _).mono ?_; rintro e w' ⟨rfl, rfl⟩) | (go_at_call 44; refine (fup_any _ _).mono ?_; rintro e w1 ⟨rfl, hb⟩; have HN := Lib.hid (below2 HB.out hb); clear HB hb; have HB := Lib.hid HN.out; clear HN) | (go_at_call 51; refine (fup_ref _ _).mono ?_; rintro e w' ⟨rfl, rfl⟩) | (go_at_call 45; refine (whole_any _ _).mono ?_; rintro e w' ⟨rfl, rfl⟩) | (go_at_call 52; refine (whole_ref _ _).mono ?_; rintro e w' ⟨rfl, rfl⟩) | (go_at_call 32; refine (same_yes _ _ _).mono ?_; rintro e w' ⟨rfl, rfl⟩) | (go_at_call 23; refine (num_any _ (by omega) (by omega) _).mono ?_; rintro e w' ⟨rfl, rfl⟩) | (go_at_call 18; refine (awake_any _ (HT.out.below HB.out)).mono ?_; rintro e w1 ⟨rfl, hb⟩; have HN := Lib.hid (below2 HB.out hb); clear HB hb; have HB := Lib.hid HN.out; clear HN))
    go_ret
    exact ⟨rfl, HB.out⟩
  · go_enter Tryd.func16, Tryd.ntmps16
    go_wp2_with (first | (go_at_call 46; refine (sqrt_any _ (by omega) (by omega) _).mono ?_; rintro e w1 ⟨rfl, hb⟩; have HN := Lib.hid (below2 HB.out hb); clear HB hb; have HB := Lib.hid HN.out; clear HN) | (go_at_call 48; refine (sqrt_ref _ (by omega) (by omega) _).mono ?_; rintro e w1 ⟨rfl, hb⟩; have HN := Lib.hid (below2 HB.out hb); clear HB hb; have HB := Lib.hid HN.out; clear HN) | (go_at_call 43; refine (round_any _ _).mono ?_; rintro e w1 ⟨rfl, hb⟩; have HN := Lib.hid (below2 HB.out hb); clear HB hb; have HB := Lib.hid HN.out; clear HN) | (go_at_call 49; refine (round_ref _ _).mono ?_; rintro e w' ⟨rfl, rfl⟩) | (go_at_call 42; refine (fix_any _ _).mono ?_; rintro e w1 ⟨rfl, hb⟩; have HN := Lib.hid (below2 HB.out hb); clear HB hb; have HB := Lib.hid HN.out; clear HN) | (go_at_call 50; refine (fix_ref _ _).mono ?_; rintro e w' ⟨rfl, rfl⟩) | (go_at_call 44; refine (fup_any _ _).mono ?_; rintro e w1 ⟨rfl, hb⟩; have HN := Lib.hid (below2 HB.out hb); clear HB hb; have HB := Lib.hid HN.out; clear HN) | (go_at_call 51; refine (fup_ref _ _).mono ?_; rintro e w' ⟨rfl, rfl⟩) | (go_at_call 45; refine (whole_any _ _).mono ?_; rintro e w' ⟨rfl, rfl⟩) | (go_at_call 52; refine (whole_ref _ _).mono ?_; rintro e w' ⟨rfl, rfl⟩) | (go_at_call 32; refine (same_yes _ _ _).mono ?_; rintro e w' ⟨rfl, rfl⟩) | (go_at_call 23; refine (num_any _ (by omega) (by omega) _).mono ?_; rintro e w' ⟨rfl, rfl⟩) | (go_at_call 18; refine (awake_any _ (HT.out.below HB.out)).mono ?_; rintro e w1 ⟨rfl, hb⟩; have HN := Lib.hid (below2 HB.out hb); clear HB hb; have HB := Lib.hid HN.out; clear HN))
    go_ret
    exact ⟨rfl, HB.out⟩
end Go.Proofs.YteljackkojcniaaDoor
