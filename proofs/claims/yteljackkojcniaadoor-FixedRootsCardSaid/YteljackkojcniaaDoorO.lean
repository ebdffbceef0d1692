/- The contracts of Cmp of wide and Sqrt of fixed. Conditions: the integers are those of their kind. -/
import Derived.Test.YteljackkojcniaaDoorN
namespace Go.Proofs.YteljackkojcniaaDoor
open Go.RowKit
set_option linter.unusedVariables false

theorem sg_cases (a b : Int) : (a * b < 0 ∧ sg a b = -1 ∧ mg a * mg b = -(a * b)) ∨ (0 < a * b ∧ sg a b = 1 ∧ mg a * mg b = a * b) ∨ (a * b = 0 ∧ sg a b = 0 ∧ mg a * mg b = 0) := by
  rw [mg_mul]
  unfold sg
  by_cases ha : a = 0
  · subst ha; right; right; exact ⟨Int.zero_mul b, by simp, by rw [Int.zero_mul]; rfl⟩
  by_cases hb : b = 0
  · subst hb; right; right; exact ⟨Int.mul_zero a, by simp, by rw [Int.mul_zero]; rfl⟩
  rw [if_neg (by omega)]
  by_cases hs : (a < 0 ↔ b < 0)
  · rw [if_pos hs]
    have : 0 < a * b := by
      rcases Int.lt_or_le a 0 with ha' | ha'
      · exact Int.mul_pos_of_neg_of_neg ha' (by omega)
      · exact Int.mul_pos (by omega) (by omega)
    exact Or.inr (Or.inl ⟨this, rfl, by unfold mg; omega⟩)
  · rw [if_neg hs]
    have : a * b < 0 := by
      rcases Int.lt_or_le a 0 with ha' | ha'
      · exact Int.mul_neg_of_neg_of_pos ha' (by omega)
      · exact Int.mul_neg_of_pos_of_neg (by omega) (by omega)
    exact Or.inl ⟨this, rfl, by unfold mg; omega⟩

theorem cm_cases (x y : Int) : cm x y = -1 ∨ cm x y = 0 ∨ cm x y = 1 := by
  rcases Int.lt_trichotomy x y with h | h | h
  · exact Or.inl (cm_lt h)
  · subst h; exact Or.inr (Or.inl (cm_eq _))
  · exact Or.inr (Or.inr (cm_gt h))
set_option maxHeartbeats 1000000 in
theorem Cmp_any (a b c d : Int) (ha1 : -9223372036854775808 ≤ a) (ha2 : a ≤ 9223372036854775807) (hb1 : -9223372036854775808 ≤ b) (hb2 : b ≤ 9223372036854775807) (hc1 : -9223372036854775808 ≤ c) (hc2 : c ≤ 9223372036854775807) (hd1 : -9223372036854775808 ≤ d) (hd2 : d ≤ 9223372036854775807) (w : World) :
    Calls Tryd.prog 47 #[.int .i64 a, .int .i64 b, .int .i64 c, .int .i64 d] w fun e w' => e = .returned (.int .i64 (cm (a * b) (c * d))) ∧ Below w.heap.size w w' := by
  have na := mg_nonneg a
  have la := mg_le a ha1 ha2
  have nb := mg_nonneg b
  have lb := mg_le b hb1 hb2
  have nc := mg_nonneg c
  have lc := mg_le c hc1 hc2
  have nd := mg_nonneg d
  have ld := mg_le d hd1 hd2
  have x0 := prod_nonneg na nb
  have x1 := prod_lt na nb (by omega) (by omega)
  have y0 := prod_nonneg nc nd
  have y1 := prod_lt nc nd (by omega) (by omega)
  have hx := sg_cases a b
  have hy := sg_cases c d
  obtain ⟨X, hX⟩ : ∃ X, mg a * mg b = X := ⟨_, rfl⟩
  obtain ⟨Y, hY⟩ : ∃ Y, mg c * mg d = Y := ⟨_, rfl⟩
  rw [hX] at x0 x1 hx
  rw [hY] at y0 y1 hy
  generalize a * b = P at *
  generalize c * d = Q at *
  rcases hx with ⟨s1, s2, s3⟩ | ⟨s1, s2, s3⟩ | ⟨s1, s2, s3⟩ <;> rcases hy with ⟨t1, t2, t3⟩ | ⟨t1, t2, t3⟩ | ⟨t1, t2, t3⟩
  · have e : Hid (cm P Q = -cm X Y) := by unfold Hid cm; split <;> split <;> (try split) <;> (try split) <;> omega
    rw [e.out]
    have hc := cm_cases X Y
    clear s3 t3 e
    rcases hc with hc | hc | hc
    all_goals
      go_enter Tryd.func47, Tryd.ntmps47
      go_wp2_with (first | (go_at_call 70; refine (sign_any _ _ _).mono ?_; rintro e w' ⟨rfl, rfl⟩) | (go_at_call 73; refine (size_any _ (by omega) (by omega) _).mono ?_; rintro e w' ⟨rfl, rfl⟩) | (go_at_call 72; refine (product_any _ _ (by omega) (by omega) (by omega) (by omega) _).mono ?_; rintro e w' ⟨rfl, rfl⟩) | (go_at_call 71; refine (compare_any _ _ (by omega) (by omega) (by omega) (by omega) _).mono ?_; rintro e w' ⟨rfl, rfl⟩))
      go_ret
      exact ⟨by rw [hc]; rfl, by go_grown⟩
  · rw [cm_lt (show P < Q by omega)]
    clear s3 t3
    go_enter Tryd.func47, Tryd.ntmps47
    go_wp2_with (first | (go_at_call 70; refine (sign_any _ _ _).mono ?_; rintro e w' ⟨rfl, rfl⟩))
    go_ret
    exact ⟨rfl, Below.refl _ _⟩
  · rw [cm_lt (show P < Q by omega)]
    clear s3 t3
    go_enter Tryd.func47, Tryd.ntmps47
    go_wp2_with (first | (go_at_call 70; refine (sign_any _ _ _).mono ?_; rintro e w' ⟨rfl, rfl⟩))
    go_ret
    exact ⟨rfl, Below.refl _ _⟩
  · rw [cm_gt (show Q < P by omega)]
    clear s3 t3
    go_enter Tryd.func47, Tryd.ntmps47
    go_wp2_with (first | (go_at_call 70; refine (sign_any _ _ _).mono ?_; rintro e w' ⟨rfl, rfl⟩))
    go_ret
    exact ⟨rfl, Below.refl _ _⟩
  · have e : Hid (cm P Q = cm X Y) := by unfold Hid; rw [s3, t3]
    rw [e.out]
    have hc := cm_cases X Y
    clear s3 t3 e
    rcases hc with hc | hc | hc
    all_goals
      go_enter Tryd.func47, Tryd.ntmps47
      go_wp2_with (first | (go_at_call 70; refine (sign_any _ _ _).mono ?_; rintro e w' ⟨rfl, rfl⟩) | (go_at_call 73; refine (size_any _ (by omega) (by omega) _).mono ?_; rintro e w' ⟨rfl, rfl⟩) | (go_at_call 72; refine (product_any _ _ (by omega) (by omega) (by omega) (by omega) _).mono ?_; rintro e w' ⟨rfl, rfl⟩) | (go_at_call 71; refine (compare_any _ _ (by omega) (by omega) (by omega) (by omega) _).mono ?_; rintro e w' ⟨rfl, rfl⟩))
      go_ret
      exact ⟨by rw [hc]; rfl, by go_grown⟩
  · rw [cm_gt (show Q < P by omega)]
    clear s3 t3
    go_enter Tryd.func47, Tryd.ntmps47
    go_wp2_with (first | (go_at_call 70; refine (sign_any _ _ _).mono ?_; rintro e w' ⟨rfl, rfl⟩))
    go_ret
    exact ⟨rfl, Below.refl _ _⟩
  · rw [cm_gt (show Q < P by omega)]
    clear s3 t3
    go_enter Tryd.func47, Tryd.ntmps47
    go_wp2_with (first | (go_at_call 70; refine (sign_any _ _ _).mono ?_; rintro e w' ⟨rfl, rfl⟩))
    go_ret
    exact ⟨rfl, Below.refl _ _⟩
  · rw [cm_lt (show P < Q by omega)]
    clear s3 t3
    go_enter Tryd.func47, Tryd.ntmps47
    go_wp2_with (first | (go_at_call 70; refine (sign_any _ _ _).mono ?_; rintro e w' ⟨rfl, rfl⟩))
    go_ret
    exact ⟨rfl, Below.refl _ _⟩
  · have e : Hid (cm P Q = 0) := by unfold Hid; rw [s1, t1, cm_eq]
    rw [e.out]
    have hc := cm_cases X Y
    clear s3 t3 e s1 t1
    rcases hc with hc | hc | hc
    all_goals
      go_enter Tryd.func47, Tryd.ntmps47
      go_wp2_with (first | (go_at_call 70; refine (sign_any _ _ _).mono ?_; rintro e w' ⟨rfl, rfl⟩) | (go_at_call 73; refine (size_any _ (by omega) (by omega) _).mono ?_; rintro e w' ⟨rfl, rfl⟩) | (go_at_call 72; refine (product_any _ _ (by omega) (by omega) (by omega) (by omega) _).mono ?_; rintro e w' ⟨rfl, rfl⟩) | (go_at_call 71; refine (compare_any _ _ (by omega) (by omega) (by omega) (by omega) _).mono ?_; rintro e w' ⟨rfl, rfl⟩))
      go_ret
      exact ⟨rfl, by go_grown⟩

/-- The floor of the square root. -/
def isqN : Nat → Nat
  | 0 => 0
  | n + 1 => if (isqN n + 1) * (isqN n + 1) ≤ n + 1 then isqN n + 1 else isqN n
theorem isqN_spec : ∀ n, isqN n * isqN n ≤ n ∧ n < (isqN n + 1) * (isqN n + 1)
  | 0 => by simp [isqN]
  | n + 1 => by
    obtain ⟨h1, h2⟩ := isqN_spec n
    rw [isqN]
    by_cases h : (isqN n + 1) * (isqN n + 1) ≤ n + 1
    · rw [if_pos h]
      refine ⟨h, ?_⟩
      have e : (isqN n + 1 + 1) * (isqN n + 1 + 1) = (isqN n + 1) * (isqN n + 1) + 2 * (isqN n + 1) + 1 := by
        rw [Nat.add_mul, Nat.mul_add]; omega
      omega
    · rw [if_neg h]
      exact ⟨by omega, by omega⟩
def isq (x : Int) : Int := (isqN x.toNat : Int)
theorem isq_spec (x : Int) (h : 0 ≤ x) : 0 ≤ isq x ∧ isq x * isq x ≤ x ∧ x < (isq x + 1) * (isq x + 1) := by
  obtain ⟨h1, h2⟩ := isqN_spec x.toNat
  have e1 : isq x * isq x = ((isqN x.toNat * isqN x.toNat : Nat) : Int) := by unfold isq; rw [Int.natCast_mul]
  have e2 : (isq x + 1) * (isq x + 1) = (((isqN x.toNat + 1) * (isqN x.toNat + 1) : Nat) : Int) := by unfold isq; rw [Int.natCast_mul, Int.natCast_add]; rfl
  refine ⟨by unfold isq; omega, ?_, ?_⟩
  · rw [e1]; omega
  · rw [e2]; omega
theorem isq_unique {x r : Int} (h0 : 0 ≤ r) (h1 : r * r ≤ x) (h2 : x < (r + 1) * (r + 1)) : r = isq x := by
  have hx : 0 ≤ x := by have := Int.mul_nonneg h0 h0; omega
  obtain ⟨s0, s1, s2⟩ := isq_spec x hx
  generalize isq x = s at *
  rcases Int.lt_trichotomy r s with h | h | h
  · have := Int.mul_le_mul (show r + 1 ≤ s by omega) (show r + 1 ≤ s by omega) (by omega) s0
    omega
  · exact h
  · have := Int.mul_le_mul (show s + 1 ≤ r by omega) (show s + 1 ≤ r by omega) (by omega) h0
    omega
/-- What Sqrt returns. -/
def sqrtS (a : Int) : Int × Int := if vld a then (if a < 0 then (0, 5) else (rup (a * 1000000) 2 (isq (a * 1000000)), 0)) else (0, 1)
theorem isq_small {x : Int} (h0 : 0 ≤ x) (h : x ≤ 1000000000000000000000) : isq x ≤ 31622776602 := by
  obtain ⟨s0, s1, s2⟩ := isq_spec x h0
  rcases Int.lt_or_le 31622776602 (isq x) with h' | h'
  · have := Int.mul_le_mul (show 31622776603 ≤ isq x by omega) (show 31622776603 ≤ isq x by omega) (by omega) s0
    omega
  · exact h'
theorem rup_bd (x mode r : Int) : r ≤ rup x mode r ∧ rup x mode r ≤ r + 1 := by unfold rup; split <;> omega

theorem sqrt_any (a : Int) (ha1 : -9223372036854775808 ≤ a) (ha2 : a ≤ 9223372036854775807) (w : World) :
    Calls Tryd.prog 46 #[.int .i64 a] w fun e w' => e = .returned (.tuple #[.int .i64 (sqrtS a).1, .int .i64 (sqrtS a).2]) ∧ Below w.heap.size w w' := by
  rcases h : vld a with _ | _
  · have e0 : sqrtS a = (0, 1) := by unfold sqrtS; rw [h]; rfl
    rw [e0]
    go_enter Tryd.func46, Tryd.ntmps46
    go_wp2_with (go_at_call 24; refine (valid_any _ _).mono ?_; rintro e w' ⟨rfl, rfl⟩)
    go_ret2
    exact ⟨rfl, Below.refl _ _⟩
  by_cases hn : a < 0
  · have e0 : sqrtS a = (0, 5) := by unfold sqrtS; rw [h]; simp [hn]
    rw [e0]
    go_enter Tryd.func46, Tryd.ntmps46
    go_wp2_with (go_at_call 24; refine (valid_any _ _).mono ?_; rintro e w' ⟨rfl, rfl⟩)
    go_ret2
    exact ⟨rfl, Below.refl _ _⟩
  · have k := vld_yes h
    have HE : Hid (sqrtS a = (rup (a * 1000000) 2 (isq (a * 1000000)), 0)) := by unfold Hid sqrtS; rw [h]; simp [hn]
    go_enter Tryd.func46, Tryd.ntmps46
    go_wp2_with (first | (go_at_call 24; refine (valid_any _ _).mono ?_; rintro e w' ⟨rfl, rfl⟩) | (go_at_call 69; refine (Root_any _ _ _ (by omega) (by omega) (by omega) (by omega) (by omega) (by omega) _).mono ?_; rintro e w1 ⟨⟨r, hr0, hr1, hr2, hr3, rfl⟩, hb⟩; have HB := Lib.hid hb; clear hb; have HR := Lib.hid (isq_unique hr0 hr2 hr3); clear hr2 hr3))
    go_ret2
    have hs := isq_small (x := a * 1000000) (by omega) (by omega)
    have hu := rup_bd (a * 1000000) 2 r
    have hr := HR.out
    have e1 : sgnd (rup (a * 1000000) 2 r) false = (rup (a * 1000000) 2 r, true) := by unfold sgnd; simp; omega
    refine ⟨?_, HB.out⟩
    rw [HE.out, ← hr, e1]
    rfl
end Go.Proofs.YteljackkojcniaaDoor
