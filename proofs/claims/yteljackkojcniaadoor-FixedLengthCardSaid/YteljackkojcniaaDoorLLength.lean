/- The walk of the law FixedLength: it returns true. Conditions: the integers are ints; the table of the powers of ten lies in memory. -/
import Derived.Test.YteljackkojcniaaDoorI
import Derived.Test.YteljackkojcniaaDoorX
namespace Go.Proofs.YteljackkojcniaaDoor
open Go.RowKit
set_option linter.unusedVariables false

theorem lengthLaw_any (a b : Int) (ha1 : -9223372036854775808 ≤ a) (ha2 : a ≤ 9223372036854775807) (hb1 : -9223372036854775808 ≤ b) (hb2 : b ≤ 9223372036854775807) (w : World) (ht : Tab w) :
    Calls Tryd.prog 5 #[.int .i64 a, .int .i64 b] w fun e w' => e = .returned (.bool true) ∧ Below w.heap.size w w' := by
  have HB : Hid (Below w.heap.size w w) := Below.refl _ _
  have HT := Lib.hid ht; clear ht
  have nm := btw_bd a (-1200000000) 1200000000 (by omega)
  have hm0 := Int.emod_nonneg b (b := 2) (by omega)
  have hm1 := Int.emod_lt_of_pos b (b := 2) (by omega)
  go_enter Tryd.func5, Tryd.ntmps5
  go_wp2_with (first | (go_at_call 28; refine (length_any _ _ (by omega) (by omega) _).mono ?_; rintro e w1 ⟨rfl, hb⟩; have HN := Lib.hid (below2 HB.out hb); clear HB hb; have HB := Lib.hid HN.out; clear HN) | (go_at_call 29; refine (length_ref _ _ (by omega) (by omega) _).mono ?_; rintro e w1 ⟨rfl, hb⟩; have HN := Lib.hid (below2 HB.out hb); clear HB hb; have HB := Lib.hid HN.out; clear HN) | (go_at_call 30; refine (btw_any _ _ _ (by omega) (by omega) (by omega) (by omega) (by omega) _).mono ?_; rintro e w' ⟨rfl, rfl⟩) | (go_at_call 31; refine (mod_any _ _ (by omega) (by omega) (by omega) (by omega) _).mono ?_; rintro e w' ⟨rfl, rfl⟩) | (go_at_call 32; refine (same_yes _ _ _).mono ?_; rintro e w' ⟨rfl, rfl⟩) | (go_at_call 18; refine (awake_any _ (HT.out.below HB.out)).mono ?_; rintro e w1 ⟨rfl, hb⟩; have HN := Lib.hid (below2 HB.out hb); clear HB hb; have HB := Lib.hid HN.out; clear HN))
  go_ret
  exact ⟨rfl, HB.out⟩
end Go.Proofs.YteljackkojcniaaDoor
