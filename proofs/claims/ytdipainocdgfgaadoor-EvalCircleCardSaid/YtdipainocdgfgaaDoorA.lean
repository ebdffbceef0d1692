/- The contracts of the small functions of cncmake, fixed and cncref02: each returns what the plain function of XPl gives. Conditions: the integers are those of their kind. -/
import Derived.Test.YtdipainocdgfgaaDoorRows
import Derived.Test.YtdipainocdgfgaaDoorPl
import Derived.WalkKit
import Derived.WalkSpells
import Derived.WalkLawsBesides
import Derived.Outline
import Derived.Handy
import Derived.Lib.Hide
namespace Go.Proofs.YtdipainocdgfgaaDoor
set_option linter.unusedVariables false
set_option linter.unusedSimpArgs false
open Go.RowKit

theorem ret_int {k : IntKind} {a b : Int} (h : a = b) : Ending.returned (.int k a) = .returned (.int k b) := by rw [h]
theorem ret_two {k l : IntKind} {a b c d : Int} (h : a = c) (h' : b = d) : Ending.returned (.tuple #[.int k a, .int l b]) = .returned (.tuple #[.int k c, .int l d]) := by rw [h, h']

theorem mod_any (v n : Int) (h1 : 1 ≤ n) (h2 : n ≤ 9223372036854775807) (hv1 : -9223372036854775808 ≤ v) (hv2 : v ≤ 9223372036854775807) (w : World) :
    Calls Tryd.prog 17 #[.int .i64 v, .int .i64 n] w fun e w' => e = .returned (.int .i64 (v % n)) ∧ w = w' := by
  have hb := tmod_bd v n h1
  have hf := Lib.hid (tmod_fix v n h1)
  go_enter Tryd.func17, Tryd.ntmps17
  go_wp2
  · have hlt : v.tmod n < 0 := by assumption
    go_ret
    exact ⟨ret_int (hf.out.1 hlt), rfl⟩
  · have hlt : 0 ≤ v.tmod n := by assumption
    go_ret
    exact ⟨ret_int (hf.out.2 hlt), rfl⟩

/-- Between: the range is not too wide. -/
theorem btw_any (v low high : Int) (h1 : low ≤ high) (h2 : -4611686018427387904 ≤ low) (h3 : high ≤ 4611686018427387900) (hv1 : -9223372036854775808 ≤ v) (hv2 : v ≤ 9223372036854775807) (w : World) :
    Calls Tryd.prog 16 #[.int .i64 v, .int .i64 low, .int .i64 high] w fun e w' => e = .returned (.int .i64 (btw v low high)) ∧ w = w' := by
  have hb := emod_bd v (high - low + 1) (by omega)
  have hs := btw_bd v low high h1
  go_enter Tryd.func16, Tryd.ntmps16
  go_wp2_with (go_at_call 17; refine (mod_any _ _ (by omega) (by omega) hv1 hv2 _).mono ?_; rintro e w' ⟨rfl, rfl⟩)
  go_ret
  exact ⟨ret_int rfl, rfl⟩

theorem valid_any (n : Int) (w : World) :
    Calls Tryd.prog 31 #[.int .i64 n] w fun e w' => e = .returned (.bool (vld n)) ∧ w = w' := by
  by_cases h1 : -1000000000000000 ≤ n
  · by_cases h2 : n ≤ 1000000000000000
    · rw [vld_mk h1 h2]
      go_enter Tryd.func31, Tryd.ntmps31
      go_wp2
      go_ret
      exact ⟨rfl, rfl⟩
    · rw [vld_out (by omega)]
      go_enter Tryd.func31, Tryd.ntmps31
      go_wp2
      go_ret
      exact ⟨rfl, rfl⟩
  · rw [vld_out (by omega)]
    go_enter Tryd.func31, Tryd.ntmps31
    go_wp2
    go_ret
    exact ⟨rfl, rfl⟩
theorem valid_ref (n : Int) (w : World) :
    Calls Tryd.prog 46 #[.int .i64 n] w fun e w' => e = .returned (.bool (vld n)) ∧ w = w' := by
  by_cases h1 : -1000000000000000 ≤ n
  · by_cases h2 : n ≤ 1000000000000000
    · rw [vld_mk h1 h2]
      go_enter Tryd.func46, Tryd.ntmps46
      go_wp2
      go_ret
      exact ⟨rfl, rfl⟩
    · rw [vld_out (by omega)]
      go_enter Tryd.func46, Tryd.ntmps46
      go_wp2
      go_ret
      exact ⟨rfl, rfl⟩
  · rw [vld_out (by omega)]
    go_enter Tryd.func46, Tryd.ntmps46
    go_wp2
    go_ret
    exact ⟨rfl, rfl⟩

theorem both_any (a b : Int) (w : World) :
    Calls Tryd.prog 71 #[.int .i64 a, .int .i64 b] w fun e w' => e = .returned (.bool (vld a && vld b)) ∧ w = w' := by
  rcases ha : vld a with _ | _
  all_goals
    go_enter Tryd.func71, Tryd.ntmps71
    go_wp2_with (go_at_call 31; refine (valid_any _ _).mono ?_; rintro e w' ⟨rfl, rfl⟩)
    go_ret
    exact ⟨by simp, rfl⟩

theorem checked_any (n : Int) (w : World) :
    Calls Tryd.prog 72 #[.int .i64 n] w fun e w' => e = .returned (.tuple #[.int .i64 (chk n).1, .int .i64 (chk n).2]) ∧ w = w' := by
  rcases ha : vld n with _ | _
  · rw [chk_no ha]
    go_enter Tryd.func72, Tryd.ntmps72
    go_wp2_with (go_at_call 31; refine (valid_any _ _).mono ?_; rintro e w' ⟨rfl, rfl⟩)
    go_ret2
    exact ⟨rfl, rfl⟩
  · rw [chk_yes ha]
    go_enter Tryd.func72, Tryd.ntmps72
    go_wp2_with (go_at_call 31; refine (valid_any _ _).mono ?_; rintro e w' ⟨rfl, rfl⟩)
    go_ret2
    exact ⟨rfl, rfl⟩

theorem add_any (a b : Int) (ha1 : -9223372036854775808 ≤ a) (ha2 : a ≤ 9223372036854775807) (hb1 : -9223372036854775808 ≤ b) (hb2 : b ≤ 9223372036854775807) (w : World) :
    Calls Tryd.prog 55 #[.int .i64 a, .int .i64 b] w fun e w' => e = .returned (.tuple #[.int .i64 (addS a b).1, .int .i64 (addS a b).2]) ∧ w = w' := by
  rcases h : (vld a && vld b) with _ | _
  · rw [addS_no h]
    go_enter Tryd.func55, Tryd.ntmps55
    go_wp2_with (go_at_call 71; refine (both_any _ _ _).mono ?_; rintro e w' ⟨rfl, rfl⟩)
    go_ret2
    exact ⟨rfl, rfl⟩
  · have h' : vld a = true ∧ vld b = true := by simpa using h
    have k1 := vld_yes h'.1
    have k2 := vld_yes h'.2
    rw [addS_yes h'.1 h'.2]
    clear h'
    go_enter Tryd.func55, Tryd.ntmps55
    go_wp2_with (first | (go_at_call 71; refine (both_any _ _ _).mono ?_; rintro e w' ⟨rfl, rfl⟩) | (go_at_call 72; refine (checked_any _ _).mono ?_; rintro e w' ⟨rfl, rfl⟩))
    go_ret2
    exact ⟨rfl, rfl⟩
theorem sub_any (a b : Int) (ha1 : -9223372036854775808 ≤ a) (ha2 : a ≤ 9223372036854775807) (hb1 : -9223372036854775808 ≤ b) (hb2 : b ≤ 9223372036854775807) (w : World) :
    Calls Tryd.prog 56 #[.int .i64 a, .int .i64 b] w fun e w' => e = .returned (.tuple #[.int .i64 (subS a b).1, .int .i64 (subS a b).2]) ∧ w = w' := by
  rcases h : (vld a && vld b) with _ | _
  · rw [subS_no h]
    go_enter Tryd.func56, Tryd.ntmps56
    go_wp2_with (go_at_call 71; refine (both_any _ _ _).mono ?_; rintro e w' ⟨rfl, rfl⟩)
    go_ret2
    exact ⟨rfl, rfl⟩
  · have h' : vld a = true ∧ vld b = true := by simpa using h
    have k1 := vld_yes h'.1
    have k2 := vld_yes h'.2
    rw [subS_yes h'.1 h'.2]
    clear h'
    go_enter Tryd.func56, Tryd.ntmps56
    go_wp2_with (first | (go_at_call 71; refine (both_any _ _ _).mono ?_; rintro e w' ⟨rfl, rfl⟩) | (go_at_call 72; refine (checked_any _ _).mono ?_; rintro e w' ⟨rfl, rfl⟩))
    go_ret2
    exact ⟨rfl, rfl⟩
theorem modf_any (a b : Int) (ha1 : -9223372036854775808 ≤ a) (ha2 : a ≤ 9223372036854775807) (hb1 : -9223372036854775808 ≤ b) (hb2 : b ≤ 9223372036854775807) (w : World) :
    Calls Tryd.prog 59 #[.int .i64 a, .int .i64 b] w fun e w' => e = .returned (.tuple #[.int .i64 (modS a b).1, .int .i64 (modS a b).2]) ∧ w = w' := by
  rcases h : (vld a && vld b) with _ | _
  · rw [modS_no h]
    go_enter Tryd.func59, Tryd.ntmps59
    go_wp2_with (go_at_call 71; refine (both_any _ _ _).mono ?_; rintro e w' ⟨rfl, rfl⟩)
    go_ret2
    exact ⟨rfl, rfl⟩
  · have h' : vld a = true ∧ vld b = true := by simpa using h
    have k1 := vld_yes h'.1
    have k2 := vld_yes h'.2
    by_cases hb0 : b = 0
    · subst hb0
      rw [modS_zero h'.1]
      clear h'
      go_enter Tryd.func59, Tryd.ntmps59
      go_wp2_with (go_at_call 71; refine (both_any _ _ _).mono ?_; rintro e w' ⟨rfl, rfl⟩)
      go_ret2
      exact ⟨rfl, rfl⟩
    · rw [modS_yes h'.1 h'.2 hb0]
      have hf := Lib.hid (tmod_any a b hb0)
      have hbd := tmod_any_bd a b hb0
      have hb0' : (b == 0) = false := by simpa using hb0
      clear h'
      go_enter Tryd.func59, Tryd.ntmps59
      go_wp2_with (go_at_call 71; refine (both_any _ _ _).mono ?_; rintro e w' ⟨rfl, rfl⟩)
      all_goals
        go_ret2
        exact ⟨ret_two (by have := hf.out; omega) rfl, rfl⟩

end Go.Proofs.YtdipainocdgfgaaDoor
