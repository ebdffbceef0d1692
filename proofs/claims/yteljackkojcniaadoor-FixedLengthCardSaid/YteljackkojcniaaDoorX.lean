/- The contracts of Length, Mul, Div of cncref02: they return what the plain functions lenS, mulS, divS give. Conditions: the integers are ints. -/
import Derived.Test.YteljackkojcniaaDoorW
namespace Go.Proofs.YteljackkojcniaaDoor
open Go.RowKit
set_option linter.unusedVariables false

theorem length_ref (a u : Int) (ha1 : -9223372036854775808 ≤ a) (ha2 : a ≤ 9223372036854775807) (w : World) :
    Calls Tryd.prog 29 #[.int .i64 a, .int .i64 u] w fun e w' => e = .returned (.tuple #[.int .i64 (lenS a u).1, .int .i64 (lenS a u).2]) ∧ Below w.heap.size w w' := by
  rcases h : vld a with _ | _
  · rw [lenS_no (Or.inl h)]
    go_enter Tryd.func29, Tryd.ntmps29
    go_wp2_with (go_at_call 25; refine (valid_ref _ _).mono ?_; rintro e w' ⟨rfl, rfl⟩)
    go_ret2
    exact ⟨rfl, Below.refl _ _⟩
  have k := vld_yes h
  by_cases h20 : u = 20
  · subst h20
    rw [lenS_20 h]
    have e1 := mdS_mm h
    have e2 := mdS_inch h
    rw [e2]
    generalize (2 * a + 1000) / 2000 = n1 at e1
    generalize (2 * (a * 254) + 10000) / 20000 = n2 at e2 ⊢
    by_cases hl : n2 < -1048576
    · rw [lenR_no (Or.inr (Or.inl hl))]
      have tok1 : True := trivial
      go_enter Tryd.func29, Tryd.ntmps29
      go_wp2_with (first | (go_at_call 25; refine (valid_ref _ _).mono ?_; rintro e w' ⟨rfl, rfl⟩) | (go_at_call 59; have _t := tok1; refine (muldiv_ref _ _ _ _ (by omega) (by omega) (by omega) (by omega) (by omega) (by omega) (by omega) (by omega) (by omega) _).mono ?_; rintro e w1A ⟨rfl, hb⟩; have HA := Lib.hid hb; clear hb; clear tok1) | (go_at_call 59; refine (muldiv_ref _ _ _ _ (by omega) (by omega) (by omega) (by omega) (by omega) (by omega) (by omega) (by omega) (by omega) _).mono ?_; rintro e w1B ⟨rfl, hb⟩; have HB := Lib.hid hb; clear hb))
      go_ret2
      exact ⟨rfl, HA.out.trans (HB.out.mono HA.out.size)⟩
    by_cases hg : 1048576 < n2
    · rw [lenR_no (Or.inr (Or.inr hg))]
      have tok1 : True := trivial
      go_enter Tryd.func29, Tryd.ntmps29
      go_wp2_with (first | (go_at_call 25; refine (valid_ref _ _).mono ?_; rintro e w' ⟨rfl, rfl⟩) | (go_at_call 59; have _t := tok1; refine (muldiv_ref _ _ _ _ (by omega) (by omega) (by omega) (by omega) (by omega) (by omega) (by omega) (by omega) (by omega) _).mono ?_; rintro e w1A ⟨rfl, hb⟩; have HA := Lib.hid hb; clear hb; clear tok1) | (go_at_call 59; refine (muldiv_ref _ _ _ _ (by omega) (by omega) (by omega) (by omega) (by omega) (by omega) (by omega) (by omega) (by omega) _).mono ?_; rintro e w1B ⟨rfl, hb⟩; have HB := Lib.hid hb; clear hb))
      go_ret2
      exact ⟨rfl, HA.out.trans (HB.out.mono HA.out.size)⟩
    · rw [lenR_yes (by omega) (by omega)]
      have tok1 : True := trivial
      go_enter Tryd.func29, Tryd.ntmps29
      go_wp2_with (first | (go_at_call 25; refine (valid_ref _ _).mono ?_; rintro e w' ⟨rfl, rfl⟩) | (go_at_call 59; have _t := tok1; refine (muldiv_ref _ _ _ _ (by omega) (by omega) (by omega) (by omega) (by omega) (by omega) (by omega) (by omega) (by omega) _).mono ?_; rintro e w1A ⟨rfl, hb⟩; have HA := Lib.hid hb; clear hb; clear tok1) | (go_at_call 59; refine (muldiv_ref _ _ _ _ (by omega) (by omega) (by omega) (by omega) (by omega) (by omega) (by omega) (by omega) (by omega) _).mono ?_; rintro e w1B ⟨rfl, hb⟩; have HB := Lib.hid hb; clear hb))
      go_ret2
      exact ⟨rfl, HA.out.trans (HB.out.mono HA.out.size)⟩

  by_cases h21 : u = 21
  · subst h21
    rw [lenS_21 h]
    have e1 := mdS_mm h
    rw [e1]
    generalize (2 * a + 1000) / 2000 = n1 at e1 ⊢
    clear h20
    by_cases hl : n1 < -1048576
    · rw [lenR_no (Or.inr (Or.inl hl))]
      go_enter Tryd.func29, Tryd.ntmps29
      go_wp2_with (first | (go_at_call 25; refine (valid_ref _ _).mono ?_; rintro e w' ⟨rfl, rfl⟩) | (go_at_call 59; refine (muldiv_ref _ _ _ _ (by omega) (by omega) (by omega) (by omega) (by omega) (by omega) (by omega) (by omega) (by omega) _).mono ?_; rintro e w1A ⟨rfl, hb⟩; have HA := Lib.hid hb; clear hb))
      go_ret2
      exact ⟨rfl, HA.out⟩
    by_cases hg : 1048576 < n1
    · rw [lenR_no (Or.inr (Or.inr hg))]
      go_enter Tryd.func29, Tryd.ntmps29
      go_wp2_with (first | (go_at_call 25; refine (valid_ref _ _).mono ?_; rintro e w' ⟨rfl, rfl⟩) | (go_at_call 59; refine (muldiv_ref _ _ _ _ (by omega) (by omega) (by omega) (by omega) (by omega) (by omega) (by omega) (by omega) (by omega) _).mono ?_; rintro e w1A ⟨rfl, hb⟩; have HA := Lib.hid hb; clear hb))
      go_ret2
      exact ⟨rfl, HA.out⟩
    · rw [lenR_yes (by omega) (by omega)]
      go_enter Tryd.func29, Tryd.ntmps29
      go_wp2_with (first | (go_at_call 25; refine (valid_ref _ _).mono ?_; rintro e w' ⟨rfl, rfl⟩) | (go_at_call 59; refine (muldiv_ref _ _ _ _ (by omega) (by omega) (by omega) (by omega) (by omega) (by omega) (by omega) (by omega) (by omega) _).mono ?_; rintro e w1A ⟨rfl, hb⟩; have HA := Lib.hid hb; clear hb))
      go_ret2
      exact ⟨rfl, HA.out⟩

  · rw [lenS_no (Or.inr ⟨h20, h21⟩)]
    have h20' : (u == 20) = false := by simpa using h20
    have h21' : (u == 21) = false := by simpa using h21
    have h20'' : (u != 20) = true := by simpa using h20
    have h21'' : (u != 21) = true := by simpa using h21
    clear h20 h21
    go_enter Tryd.func29, Tryd.ntmps29
    go_wp2_with (go_at_call 25; refine (valid_ref _ _).mono ?_; rintro e w' ⟨rfl, rfl⟩)
    go_ret2
    exact ⟨rfl, Below.refl _ _⟩


theorem mul_ref2 (a b : Int) (ha1 : -9223372036854775808 ≤ a) (ha2 : a ≤ 9223372036854775807) (hb1 : -9223372036854775808 ≤ b) (hb2 : b ≤ 9223372036854775807) (w : World) :
    Calls Tryd.prog 64 #[.int .i64 a, .int .i64 b] w fun e w' => e = .returned (.tuple #[.int .i64 (mulS a b).1, .int .i64 (mulS a b).2]) ∧ Below w.heap.size w w' := by
  by_cases hva : vld a = true
  case neg =>
    have hva' : vld a = false := by simpa using hva
    rw [mulS_no (by rw [hva']; rfl)]
    go_enter Tryd.func64, Tryd.ntmps64
    go_wp2_with (go_at_call 25; refine (valid_ref _ _).mono ?_; rintro e w' ⟨rfl, rfl⟩)
    go_ret2
    exact ⟨rfl, Below.refl _ _⟩
  by_cases hvb : vld b = true
  case neg =>
    have hvb' : vld b = false := by simpa using hvb
    rw [mulS_no (by rw [hva, hvb']; rfl)]
    go_enter Tryd.func64, Tryd.ntmps64
    go_wp2_with (go_at_call 25; refine (valid_ref _ _).mono ?_; rintro e w' ⟨rfl, rfl⟩)
    go_ret2
    exact ⟨rfl, Below.refl _ _⟩
  rw [mulS_yes hva hvb]
  rcases hm : mdS a b 1000000 2 with ⟨n, ok⟩
  have E0 : Hid (scaS a b 1000000 = if ok then chk n else (0, 3)) := by unfold Hid scaS; rw [hm]
  cases ok
  · rw [E0.out]
    clear E0
    go_enter Tryd.func64, Tryd.ntmps64
    go_wp2_with (first | (go_at_call 25; refine (valid_ref _ _).mono ?_; rintro e w' ⟨rfl, rfl⟩) | (go_at_call 59; refine (muldiv_ref _ _ _ _ (by omega) (by omega) (by omega) (by omega) (by omega) (by omega) (by omega) (by omega) (by omega) _).mono ?_; rw [hm]; rintro e w1A ⟨rfl, hb⟩; have HA := Lib.hid hb; clear hb) | (go_at_call 74; refine (told_no _ _).mono ?_; rintro e w' ⟨rfl, rfl⟩))
    go_ret2
    exact ⟨rfl, HA.out⟩
  · rw [E0.out]
    clear E0
    go_enter Tryd.func64, Tryd.ntmps64
    go_wp2_with (first | (go_at_call 25; refine (valid_ref _ _).mono ?_; rintro e w' ⟨rfl, rfl⟩) | (go_at_call 59; refine (muldiv_ref _ _ _ _ (by omega) (by omega) (by omega) (by omega) (by omega) (by omega) (by omega) (by omega) (by omega) _).mono ?_; rw [hm]; rintro e w1A ⟨rfl, hb⟩; have HA := Lib.hid hb; clear hb) | (go_at_call 74; refine (told_yes _ _).mono ?_; rintro e w' ⟨rfl, rfl⟩))
    go_ret2
    exact ⟨rfl, HA.out⟩

theorem div_ref2 (a b : Int) (ha1 : -9223372036854775808 ≤ a) (ha2 : a ≤ 9223372036854775807) (hb1 : -9223372036854775808 ≤ b) (hb2 : b ≤ 9223372036854775807) (w : World) :
    Calls Tryd.prog 65 #[.int .i64 a, .int .i64 b] w fun e w' => e = .returned (.tuple #[.int .i64 (divS a b).1, .int .i64 (divS a b).2]) ∧ Below w.heap.size w w' := by
  by_cases hva : vld a = true
  case neg =>
    have hva' : vld a = false := by simpa using hva
    rw [divS_no (by rw [hva']; rfl)]
    go_enter Tryd.func65, Tryd.ntmps65
    go_wp2_with (go_at_call 25; refine (valid_ref _ _).mono ?_; rintro e w' ⟨rfl, rfl⟩)
    go_ret2
    exact ⟨rfl, Below.refl _ _⟩
  by_cases hvb : vld b = true
  case neg =>
    have hvb' : vld b = false := by simpa using hvb
    rw [divS_no (by rw [hva, hvb']; rfl)]
    go_enter Tryd.func65, Tryd.ntmps65
    go_wp2_with (go_at_call 25; refine (valid_ref _ _).mono ?_; rintro e w' ⟨rfl, rfl⟩)
    go_ret2
    exact ⟨rfl, Below.refl _ _⟩
  by_cases hb0 : b = 0
  · subst hb0
    rw [divS_zero hva]
    go_enter Tryd.func65, Tryd.ntmps65
    go_wp2_with (go_at_call 25; refine (valid_ref _ _).mono ?_; rintro e w' ⟨rfl, rfl⟩)
    go_ret2
    exact ⟨rfl, Below.refl _ _⟩
  · rw [divS_yes hva hvb hb0]
    have hb0' : (b == 0) = false := by simpa using hb0
    rcases hm : mdS a 1000000 b 2 with ⟨n, ok⟩
    have E0 : Hid (scaS a 1000000 b = if ok then chk n else (0, 3)) := by unfold Hid scaS; rw [hm]
    cases ok
    · rw [E0.out]
      clear E0
      go_enter Tryd.func65, Tryd.ntmps65
      go_wp2_with (first | (go_at_call 25; refine (valid_ref _ _).mono ?_; rintro e w' ⟨rfl, rfl⟩) | (go_at_call 59; refine (muldiv_ref _ _ _ _ (by omega) (by omega) (by omega) (by omega) (by omega) (by omega) (by omega) (by omega) (by omega) _).mono ?_; rw [hm]; rintro e w1A ⟨rfl, hb⟩; have HA := Lib.hid hb; clear hb) | (go_at_call 74; refine (told_no _ _).mono ?_; rintro e w' ⟨rfl, rfl⟩))
      go_ret2
      exact ⟨rfl, HA.out⟩
    · rw [E0.out]
      clear E0
      go_enter Tryd.func65, Tryd.ntmps65
      go_wp2_with (first | (go_at_call 25; refine (valid_ref _ _).mono ?_; rintro e w' ⟨rfl, rfl⟩) | (go_at_call 59; refine (muldiv_ref _ _ _ _ (by omega) (by omega) (by omega) (by omega) (by omega) (by omega) (by omega) (by omega) (by omega) _).mono ?_; rw [hm]; rintro e w1A ⟨rfl, hb⟩; have HA := Lib.hid hb; clear hb) | (go_at_call 74; refine (told_yes _ _).mono ?_; rintro e w' ⟨rfl, rfl⟩))
      go_ret2
      exact ⟨rfl, HA.out⟩
end Go.Proofs.YteljackkojcniaaDoor
