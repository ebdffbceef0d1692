/- The walk of the law FixedRemainders: it returns true. Conditions: the integers are ints; the table of the powers of ten lies in memory. -/
import Derived.Test.YteljackkojcniaaDoorI
namespace Go.Proofs.YteljackkojcniaaDoor
open Go.RowKit
set_option linter.unusedVariables false

theorem remainders_any (a b : Int) (ha1 : -9223372036854775808 ≤ a) (ha2 : a ≤ 9223372036854775807) (hb1 : -9223372036854775808 ≤ b) (hb2 : b ≤ 9223372036854775807) (w : World) (ht : Tab w) :
    Calls Tryd.prog 8 #[.int .i64 a, .int .i64 b] w fun e w' => e = .returned (.bool true) ∧ Below w.heap.size w w' := by
  have HB : Hid (Below w.heap.size w w) := Below.refl _ _
  have HT := Lib.hid ht; clear ht
  have na := num_bd a
  have nb := num_bd b
  have va := vld_num a
  have vb := vld_num b
  by_cases hz : num b = 0
  · have e0 := modS_zero va
    clear vb nb
    go_enter Tryd.func8, Tryd.ntmps8
    go_wp2_with (first | (go_at_call 23; refine (num_any _ (by omega) (by omega) _).mono ?_; rintro e w' ⟨rfl, rfl⟩) | (go_at_call 35; refine (modf_any _ _ (by omega) (by omega) (by omega) (by omega) _).mono ?_; rintro e w' ⟨rfl, rfl⟩) | (go_at_call 18; refine (awake_any _ (HT.out.below HB.out)).mono ?_; rintro e w1 ⟨rfl, hb⟩; have HN := Lib.hid (below2 HB.out hb); clear HB hb; have HB := Lib.hid HN.out; clear HN))
    go_ret
    exact ⟨rfl, HB.out⟩
  · obtain ⟨R, hR⟩ : ∃ R, R = num a % num b := ⟨_, rfl⟩
    have e0 : modS (num a) (num b) = (R, 0) := by rw [modS_yes va vb hz, hR]
    have r0 : 0 ≤ R := by rw [hR]; exact Int.emod_nonneg _ hz
    have r1 : R < num b ∨ R < -num b := by have := Int.emod_lt (num a) hz; rw [← hR] at this; omega
    have hd : (num a - R).tmod (num b) = 0 := by
      rw [hR]
      exact Int.tmod_eq_zero_of_dvd (Int.dvd_self_sub_emod)
    have hd2 : (num a - R) % (num b) = 0 := by
      rw [hR]
      exact Int.emod_eq_zero_of_dvd (Int.dvd_self_sub_emod)
    have hz' : (num b == 0) = false := by simpa using hz
    clear hR hz
    obtain ⟨A, hA⟩ : ∃ A, num a = A := ⟨_, rfl⟩
    obtain ⟨B, hB⟩ : ∃ B, num b = B := ⟨_, rfl⟩
    rw [hA, hB] at e0 hd hd2
    rw [hA] at na
    rw [hB] at nb r1 hz'
    by_cases hn : B < 0
    all_goals
      go_enter Tryd.func8, Tryd.ntmps8
      go_wp2_with (first | (go_at_call 23; refine (num_any _ (by omega) (by omega) _).mono ?_; rintro e w' ⟨rfl, rfl⟩) | (go_at_call 35; refine (modf_any _ _ (by omega) (by omega) (by omega) (by omega) _).mono ?_; rintro e w' ⟨rfl, rfl⟩) | (go_at_call 18; refine (awake_any _ (HT.out.below HB.out)).mono ?_; rintro e w1 ⟨rfl, hb⟩; have HN := Lib.hid (below2 HB.out hb); clear HB hb; have HB := Lib.hid HN.out; clear HN))
      go_ret
      exact ⟨rfl, HB.out⟩
end Go.Proofs.YteljackkojcniaaDoor
