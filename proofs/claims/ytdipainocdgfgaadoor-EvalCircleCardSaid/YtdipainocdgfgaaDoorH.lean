/- The contracts of what fixed computes with MulDiv: Round, Fix, Fup, Whole, Length, Mul, Div. Conditions: the integers are those of their kind. -/
import Derived.Test.YtdipainocdgfgaaDoorG
import Derived.Test.YtdipainocdgfgaaDoorPlh
namespace Go.Proofs.YtdipainocdgfgaaDoor
set_option linter.unusedVariables false
set_option linter.unusedSimpArgs false
open Go.RowKit

theorem integer_any (a mode : Int) (h : vld a = true) (hm0 : 0 ≤ mode) (hm1 : mode ≤ 2) (w : World) :
    Calls Tryd.prog 62 #[.int .i64 a, .int .i64 mode] w fun e w' => e = .returned (.int .i64 (rnd mode a 1000000 * 1000000)) ∧ Below w.heap.size w w' := by
  have k := vld_yes h
  have e0 := mdS_int h hm0 hm1
  have b0 := rnd_bd h hm0 hm1
  go_enter Tryd.func62, Tryd.ntmps62
  go_wp2_with (go_at_call 54; refine (muldiv_any _ _ _ _ (by omega) (by omega) (by omega) (by omega) (by omega) (by omega) (by omega) (by omega) (by omega) _).mono ?_; rintro e w1 ⟨rfl, hb⟩; have HB := Lib.hid hb; clear hb)
  go_ret
  exact ⟨rfl, HB.out⟩

theorem round_any (a : Int) (w : World) :
    Calls Tryd.prog 50 #[.int .i64 a] w fun e w' => e = .returned (.tuple #[.int .i64 (roundS a).1, .int .i64 (roundS a).2]) ∧ Below w.heap.size w w' := by
  rcases h : vld a with _ | _
  · have e0 : roundS a = (0, 1) := by unfold roundS; rw [h]; rfl
    rw [e0]
    go_enter Tryd.func50, Tryd.ntmps50
    go_wp2_with (go_at_call 31; refine (valid_any _ _).mono ?_; rintro e w' ⟨rfl, rfl⟩)
    go_ret2
    exact ⟨rfl, Below.refl _ _⟩
  · have e0 : roundS a = (rnd 2 a 1000000 * 1000000, 0) := by unfold roundS; rw [h]; rfl
    rw [e0]
    go_enter Tryd.func50, Tryd.ntmps50
    go_wp2_with (first | (go_at_call 31; refine (valid_any _ _).mono ?_; rintro e w' ⟨rfl, rfl⟩) | (go_at_call 62; refine (integer_any _ _ h (by omega) (by omega) _).mono ?_; rintro e w1 ⟨rfl, hb⟩; have HB := Lib.hid hb; clear hb))
    go_ret2
    exact ⟨rfl, HB.out⟩

theorem fix_any (a : Int) (w : World) :
    Calls Tryd.prog 51 #[.int .i64 a] w fun e w' => e = .returned (.tuple #[.int .i64 (fixS a).1, .int .i64 (fixS a).2]) ∧ Below w.heap.size w w' := by
  rcases h : vld a with _ | _
  · have e0 : fixS a = (0, 1) := by unfold fixS; rw [h]; rfl
    rw [e0]
    go_enter Tryd.func51, Tryd.ntmps51
    go_wp2_with (go_at_call 31; refine (valid_any _ _).mono ?_; rintro e w' ⟨rfl, rfl⟩)
    go_ret2
    exact ⟨rfl, Below.refl _ _⟩
  · by_cases hn : a < 0
    · have e0 : fixS a = (rnd 1 a 1000000 * 1000000, 0) := by unfold fixS; rw [h]; simp [hn]
      rw [e0]
      go_enter Tryd.func51, Tryd.ntmps51
      go_wp2_with (first | (go_at_call 31; refine (valid_any _ _).mono ?_; rintro e w' ⟨rfl, rfl⟩) | (go_at_call 62; refine (integer_any _ _ h (by omega) (by omega) _).mono ?_; rintro e w1 ⟨rfl, hb⟩; have HB := Lib.hid hb; clear hb))
      go_ret2
      exact ⟨rfl, HB.out⟩
    · have e0 : fixS a = (rnd 0 a 1000000 * 1000000, 0) := by unfold fixS; rw [h]; simp [hn]
      rw [e0]
      go_enter Tryd.func51, Tryd.ntmps51
      go_wp2_with (first | (go_at_call 31; refine (valid_any _ _).mono ?_; rintro e w' ⟨rfl, rfl⟩) | (go_at_call 62; refine (integer_any _ _ h (by omega) (by omega) _).mono ?_; rintro e w1 ⟨rfl, hb⟩; have HB := Lib.hid hb; clear hb))
      go_ret2
      exact ⟨rfl, HB.out⟩

theorem fup_any (a : Int) (w : World) :
    Calls Tryd.prog 52 #[.int .i64 a] w fun e w' => e = .returned (.tuple #[.int .i64 (fupS a).1, .int .i64 (fupS a).2]) ∧ Below w.heap.size w w' := by
  rcases h : vld a with _ | _
  · have e0 : fupS a = (0, 1) := by unfold fupS; rw [h]; rfl
    rw [e0]
    go_enter Tryd.func52, Tryd.ntmps52
    go_wp2_with (go_at_call 31; refine (valid_any _ _).mono ?_; rintro e w' ⟨rfl, rfl⟩)
    go_ret2
    exact ⟨rfl, Below.refl _ _⟩
  · by_cases hn : a < 0
    · have e0 : fupS a = (rnd 0 a 1000000 * 1000000, 0) := by unfold fupS; rw [h]; simp [hn]
      rw [e0]
      go_enter Tryd.func52, Tryd.ntmps52
      go_wp2_with (first | (go_at_call 31; refine (valid_any _ _).mono ?_; rintro e w' ⟨rfl, rfl⟩) | (go_at_call 62; refine (integer_any _ _ h (by omega) (by omega) _).mono ?_; rintro e w1 ⟨rfl, hb⟩; have HB := Lib.hid hb; clear hb))
      go_ret2
      exact ⟨rfl, HB.out⟩
    · have e0 : fupS a = (rnd 1 a 1000000 * 1000000, 0) := by unfold fupS; rw [h]; simp [hn]
      rw [e0]
      go_enter Tryd.func52, Tryd.ntmps52
      go_wp2_with (first | (go_at_call 31; refine (valid_any _ _).mono ?_; rintro e w' ⟨rfl, rfl⟩) | (go_at_call 62; refine (integer_any _ _ h (by omega) (by omega) _).mono ?_; rintro e w1 ⟨rfl, hb⟩; have HB := Lib.hid hb; clear hb))
      go_ret2
      exact ⟨rfl, HB.out⟩

theorem whole_any (a : Int) (w : World) :
    Calls Tryd.prog 41 #[.int .i64 a] w fun e w' => e = .returned (.tuple #[.int .i64 (wholeS a).1, .bool (wholeS a).2]) ∧ w = w' := by
  rcases h : vld a with _ | _
  · have e0 : wholeS a = (0, false) := by unfold wholeS; simp [h]
    rw [e0]
    go_enter Tryd.func41, Tryd.ntmps41
    go_wp2_with (go_at_call 31; refine (valid_any _ _).mono ?_; rintro e w' ⟨rfl, rfl⟩)
    go_ret2
    exact ⟨rfl, rfl⟩
  · have k := vld_yes h
    by_cases hr : a % 1000000 = 0
    · have e0 : wholeS a = (a / 1000000, true) := by unfold wholeS; simp [h, hr]
      rw [e0]
      have hf := tmod_fix a 1000000 (by omega)
      have hf2 := tmod_bd a 1000000 (by omega)
      have ht : (a.tmod 1000000 == 0) = true := by simp; omega
      have hd : a.tdiv 1000000 = a / 1000000 := by rw [Int.tdiv_eq_ediv, if_pos (Or.inr (Int.dvd_of_emod_eq_zero hr))]; omega
      have HR := Lib.hid hr; clear hr hf hf2
      by_cases hn : a < 0
      · have hd0 : a / 1000000 ≤ 0 := by omega
        have hd1 : -1000000000 ≤ a / 1000000 := by omega
        go_enter Tryd.func41, Tryd.ntmps41
        go_wp2_with (go_at_call 31; refine (valid_any _ _).mono ?_; rintro e w' ⟨rfl, rfl⟩)
        go_ret2
        exact ⟨rfl, rfl⟩
      · have hr' : (a % 1000000 == 0) = true := by simpa using HR.out
        clear ht hd
        go_enter Tryd.func41, Tryd.ntmps41
        go_wp2_with (go_at_call 31; refine (valid_any _ _).mono ?_; rintro e w' ⟨rfl, rfl⟩)
        go_ret2
        exact ⟨rfl, rfl⟩
    · have e0 : wholeS a = (0, false) := by unfold wholeS; simp [hr]
      rw [e0]
      have hf := tmod_fix a 1000000 (by omega)
      have ht : (a.tmod 1000000 == 0) = false := by simp; omega
      have hr' : (a % 1000000 == 0) = false := by simpa using hr
      clear hr hf
      by_cases hn : a < 0
      all_goals
        go_enter Tryd.func41, Tryd.ntmps41
        go_wp2_with (go_at_call 31; refine (valid_any _ _).mono ?_; rintro e w' ⟨rfl, rfl⟩)
        go_ret2
        exact ⟨rfl, rfl⟩

theorem scaled_any (a b c : Int) (ha1 : -9223372036854775808 ≤ a) (ha2 : a ≤ 9223372036854775807) (hb1 : -9223372036854775808 ≤ b) (hb2 : b ≤ 9223372036854775807) (hc1 : -9223372036854775808 ≤ c) (hc2 : c ≤ 9223372036854775807) (hc0 : c ≠ 0) (w : World) :
    Calls Tryd.prog 73 #[.int .i64 a, .int .i64 b, .int .i64 c] w fun e w' => e = .returned (.tuple #[.int .i64 (scaS a b c).1, .int .i64 (scaS a b c).2]) ∧ Below w.heap.size w w' := by
  rcases hm : mdS a b c 2 with ⟨n, ok⟩
  have E0 : Hid (scaS a b c = if ok then chk n else (0, 3)) := by unfold Hid scaS; rw [hm]
  cases ok
  · rw [E0.out]
    clear E0
    go_enter Tryd.func73, Tryd.ntmps73
    go_wp2_with (first | (go_at_call 54; refine (muldiv_any _ _ _ _ (by omega) (by omega) (by omega) (by omega) (by omega) (by omega) (by omega) (by omega) (by omega) _).mono ?_; rintro e w1A ⟨rfl, hb⟩; have HA := Lib.hid hb; clear hb))
    go_ret2
    exact ⟨rfl, HA.out⟩
  · rw [E0.out]
    clear E0
    go_enter Tryd.func73, Tryd.ntmps73
    go_wp2_with (first | (go_at_call 54; refine (muldiv_any _ _ _ _ (by omega) (by omega) (by omega) (by omega) (by omega) (by omega) (by omega) (by omega) (by omega) _).mono ?_; rintro e w1A ⟨rfl, hb⟩; have HA := Lib.hid hb; clear hb) | (go_at_call 72; refine (checked_any _ _).mono ?_; rintro e w' ⟨rfl, rfl⟩))
    go_ret2
    exact ⟨rfl, HA.out⟩

theorem mulf_any (a b : Int) (ha1 : -9223372036854775808 ≤ a) (ha2 : a ≤ 9223372036854775807) (hb1 : -9223372036854775808 ≤ b) (hb2 : b ≤ 9223372036854775807) (w : World) :
    Calls Tryd.prog 57 #[.int .i64 a, .int .i64 b] w fun e w' => e = .returned (.tuple #[.int .i64 (mulS a b).1, .int .i64 (mulS a b).2]) ∧ Below w.heap.size w w' := by
  rcases h : (vld a && vld b) with _ | _
  · rw [mulS_no h]
    go_enter Tryd.func57, Tryd.ntmps57
    go_wp2_with (go_at_call 71; refine (both_any _ _ _).mono ?_; rintro e w' ⟨rfl, rfl⟩)
    go_ret2
    exact ⟨rfl, Below.refl _ _⟩
  · have h' : vld a = true ∧ vld b = true := by simpa using h
    rw [mulS_yes h'.1 h'.2]
    clear h'
    go_enter Tryd.func57, Tryd.ntmps57
    go_wp2_with (first | (go_at_call 71; refine (both_any _ _ _).mono ?_; rintro e w' ⟨rfl, rfl⟩) | (go_at_call 73; refine (scaled_any _ _ _ (by omega) (by omega) (by omega) (by omega) (by omega) (by omega) (by omega) _).mono ?_; rintro e w1 ⟨rfl, hb⟩; have HA := Lib.hid hb; clear hb))
    go_ret2
    exact ⟨rfl, HA.out⟩

theorem divf_any (a b : Int) (ha1 : -9223372036854775808 ≤ a) (ha2 : a ≤ 9223372036854775807) (hb1 : -9223372036854775808 ≤ b) (hb2 : b ≤ 9223372036854775807) (w : World) :
    Calls Tryd.prog 58 #[.int .i64 a, .int .i64 b] w fun e w' => e = .returned (.tuple #[.int .i64 (divS a b).1, .int .i64 (divS a b).2]) ∧ Below w.heap.size w w' := by
  rcases h : (vld a && vld b) with _ | _
  · rw [divS_no h]
    go_enter Tryd.func58, Tryd.ntmps58
    go_wp2_with (go_at_call 71; refine (both_any _ _ _).mono ?_; rintro e w' ⟨rfl, rfl⟩)
    go_ret2
    exact ⟨rfl, Below.refl _ _⟩
  · have h' : vld a = true ∧ vld b = true := by simpa using h
    by_cases hb0 : b = 0
    · subst hb0
      rw [divS_zero h'.1]
      clear h'
      go_enter Tryd.func58, Tryd.ntmps58
      go_wp2_with (go_at_call 71; refine (both_any _ _ _).mono ?_; rintro e w' ⟨rfl, rfl⟩)
      go_ret2
      exact ⟨rfl, Below.refl _ _⟩
    · rw [divS_yes h'.1 h'.2 hb0]
      clear h'
      have hb0' : (b == 0) = false := by simpa using hb0
      go_enter Tryd.func58, Tryd.ntmps58
      go_wp2_with (first | (go_at_call 71; refine (both_any _ _ _).mono ?_; rintro e w' ⟨rfl, rfl⟩) | (go_at_call 73; refine (scaled_any _ _ _ (by omega) (by omega) (by omega) (by omega) (by omega) (by omega) (by omega) _).mono ?_; rintro e w1 ⟨rfl, hb⟩; have HA := Lib.hid hb; clear hb))
      go_ret2
      exact ⟨rfl, HA.out⟩
end Go.Proofs.YtdipainocdgfgaaDoor
