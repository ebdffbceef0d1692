/- The contracts of Length, Mul, Div of cncref02: they return what the plain functions lenS, mulS, divS give. Conditions: the integers are ints. -/
import Derived.Test.YtdipainocdgfgaaGreatDoorW
namespace Go.Proofs.YtdipainocdgfgaaGreatDoor
set_option linter.unusedVariables false
set_option linter.unusedSimpArgs false
open Go.RowKit

theorem mul_ref2 (a b : Int) (ha1 : -9223372036854775808 ≤ a) (ha2 : a ≤ 9223372036854775807) (hb1 : -9223372036854775808 ≤ b) (hb2 : b ≤ 9223372036854775807) (w : World) :
    Calls Tryz.prog 37 #[.int .i64 a, .int .i64 b] w fun e w' => e = .returned (.tuple #[.int .i64 (mulS a b).1, .int .i64 (mulS a b).2]) ∧ Below w.heap.size w w' := by
  by_cases hva : vld a = true
  case neg =>
    have hva' : vld a = false := by simpa using hva
    rw [mulS_no (by rw [hva']; rfl)]
    go_enter Tryz.func37, Tryz.ntmps37
    go_wp2_with (go_at_call 49; refine (valid_ref _ _).mono ?_; rintro e w' ⟨rfl, rfl⟩)
    go_ret2
    exact ⟨rfl, Below.refl _ _⟩
  by_cases hvb : vld b = true
  case neg =>
    have hvb' : vld b = false := by simpa using hvb
    rw [mulS_no (by rw [hva, hvb']; rfl)]
    go_enter Tryz.func37, Tryz.ntmps37
    go_wp2_with (go_at_call 49; refine (valid_ref _ _).mono ?_; rintro e w' ⟨rfl, rfl⟩)
    go_ret2
    exact ⟨rfl, Below.refl _ _⟩
  rw [mulS_yes hva hvb]
  rcases hm : mdS a b 1000000 2 with ⟨n, ok⟩
  have E0 : Hid (scaS a b 1000000 = if ok then chk n else (0, 3)) := by unfold Hid scaS; rw [hm]
  cases ok
  · rw [E0.out]
    clear E0
    go_enter Tryz.func37, Tryz.ntmps37
    go_wp2_with (first | (go_at_call 49; refine (valid_ref _ _).mono ?_; rintro e w' ⟨rfl, rfl⟩) | (go_at_call 58; refine (muldiv_ref _ _ _ _ (by omega) (by omega) (by omega) (by omega) (by omega) (by omega) (by omega) (by omega) (by omega) _).mono ?_; rw [hm]; rintro e w1A ⟨rfl, hb⟩; have HA := Lib.hid hb; clear hb) | (go_at_call 57; refine (told_no _ _).mono ?_; rintro e w' ⟨rfl, rfl⟩))
    go_ret2
    exact ⟨rfl, HA.out⟩
  · rw [E0.out]
    clear E0
    go_enter Tryz.func37, Tryz.ntmps37
    go_wp2_with (first | (go_at_call 49; refine (valid_ref _ _).mono ?_; rintro e w' ⟨rfl, rfl⟩) | (go_at_call 58; refine (muldiv_ref _ _ _ _ (by omega) (by omega) (by omega) (by omega) (by omega) (by omega) (by omega) (by omega) (by omega) _).mono ?_; rw [hm]; rintro e w1A ⟨rfl, hb⟩; have HA := Lib.hid hb; clear hb) | (go_at_call 57; refine (told_yes _ _).mono ?_; rintro e w' ⟨rfl, rfl⟩))
    go_ret2
    exact ⟨rfl, HA.out⟩

theorem div_ref2 (a b : Int) (ha1 : -9223372036854775808 ≤ a) (ha2 : a ≤ 9223372036854775807) (hb1 : -9223372036854775808 ≤ b) (hb2 : b ≤ 9223372036854775807) (w : World) :
    Calls Tryz.prog 38 #[.int .i64 a, .int .i64 b] w fun e w' => e = .returned (.tuple #[.int .i64 (divS a b).1, .int .i64 (divS a b).2]) ∧ Below w.heap.size w w' := by
  by_cases hva : vld a = true
  case neg =>
    have hva' : vld a = false := by simpa using hva
    rw [divS_no (by rw [hva']; rfl)]
    go_enter Tryz.func38, Tryz.ntmps38
    go_wp2_with (go_at_call 49; refine (valid_ref _ _).mono ?_; rintro e w' ⟨rfl, rfl⟩)
    go_ret2
    exact ⟨rfl, Below.refl _ _⟩
  by_cases hvb : vld b = true
  case neg =>
    have hvb' : vld b = false := by simpa using hvb
    rw [divS_no (by rw [hva, hvb']; rfl)]
    go_enter Tryz.func38, Tryz.ntmps38
    go_wp2_with (go_at_call 49; refine (valid_ref _ _).mono ?_; rintro e w' ⟨rfl, rfl⟩)
    go_ret2
    exact ⟨rfl, Below.refl _ _⟩
  by_cases hb0 : b = 0
  · subst hb0
    rw [divS_zero hva]
    go_enter Tryz.func38, Tryz.ntmps38
    go_wp2_with (go_at_call 49; refine (valid_ref _ _).mono ?_; rintro e w' ⟨rfl, rfl⟩)
    go_ret2
    exact ⟨rfl, Below.refl _ _⟩
  · rw [divS_yes hva hvb hb0]
    have hb0' : (b == 0) = false := by simpa using hb0
    rcases hm : mdS a 1000000 b 2 with ⟨n, ok⟩
    have E0 : Hid (scaS a 1000000 b = if ok then chk n else (0, 3)) := by unfold Hid scaS; rw [hm]
    cases ok
    · rw [E0.out]
      clear E0
      go_enter Tryz.func38, Tryz.ntmps38
      go_wp2_with (first | (go_at_call 49; refine (valid_ref _ _).mono ?_; rintro e w' ⟨rfl, rfl⟩) | (go_at_call 58; refine (muldiv_ref _ _ _ _ (by omega) (by omega) (by omega) (by omega) (by omega) (by omega) (by omega) (by omega) (by omega) _).mono ?_; rw [hm]; rintro e w1A ⟨rfl, hb⟩; have HA := Lib.hid hb; clear hb) | (go_at_call 57; refine (told_no _ _).mono ?_; rintro e w' ⟨rfl, rfl⟩))
      go_ret2
      exact ⟨rfl, HA.out⟩
    · rw [E0.out]
      clear E0
      go_enter Tryz.func38, Tryz.ntmps38
      go_wp2_with (first | (go_at_call 49; refine (valid_ref _ _).mono ?_; rintro e w' ⟨rfl, rfl⟩) | (go_at_call 58; refine (muldiv_ref _ _ _ _ (by omega) (by omega) (by omega) (by omega) (by omega) (by omega) (by omega) (by omega) (by omega) _).mono ?_; rw [hm]; rintro e w1A ⟨rfl, hb⟩; have HA := Lib.hid hb; clear hb) | (go_at_call 57; refine (told_yes _ _).mono ?_; rintro e w' ⟨rfl, rfl⟩))
      go_ret2
      exact ⟨rfl, HA.out⟩
end Go.Proofs.YtdipainocdgfgaaGreatDoor
