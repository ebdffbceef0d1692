/- The contracts of Cmp of wide and Sqrt of fixed. Conditions: the integers are those of their kind. -/
import Derived.Test.YtdipainocdgfgaaDoorN
namespace Go.Proofs.YtdipainocdgfgaaDoor
set_option linter.unusedVariables false
set_option linter.unusedSimpArgs false
open Go.RowKit

theorem sg_cases (a b : Int) : (a * b < 0 ∧ sg a b = -1 ∧ mg a * mg b = -(a * b)) ∨ (0 < a * b ∧ sg a b = 1 ∧ mg a * mg b = a * b) ∨ (a * b = 0 ∧ sg a b = 0 ∧ mg a * mg b = 0) := by
  rw [mg_mul]
  unfold sg
  by_cases ha : a = 0
  · subst ha; right; right; exact ⟨Int.zero_mul b, by simp, by rw [Int.zero_mul]; rfl⟩
  by_cases hb : b = 0
  · subst hb; right; right; exact ⟨Int.mul_zero a, by simp, by rw [Int.mul_zero]; rfl⟩
  rw [if_neg (by omega)]
  by_cases hs : (a < 0 ↔ b < 0)
  · rw [if_pos hs]
    have : 0 < a * b := by
      rcases Int.lt_or_le a 0 with ha' | ha'
      · exact Int.mul_pos_of_neg_of_neg ha' (by omega)
      · exact Int.mul_pos (by omega) (by omega)
    exact Or.inr (Or.inl ⟨this, rfl, by unfold mg; omega⟩)
  · rw [if_neg hs]
    have : a * b < 0 := by
      rcases Int.lt_or_le a 0 with ha' | ha'
      · exact Int.mul_neg_of_neg_of_pos ha' (by omega)
      · exact Int.mul_neg_of_pos_of_neg (by omega) (by omega)
    exact Or.inl ⟨this, rfl, by unfold mg; omega⟩

theorem cm_cases (x y : Int) : cm x y = -1 ∨ cm x y = 0 ∨ cm x y = 1 := by
  rcases Int.lt_trichotomy x y with h | h | h
  · exact Or.inl (cm_lt h)
  · subst h; exact Or.inr (Or.inl (cm_eq _))
  · exact Or.inr (Or.inr (cm_gt h))
/-- The floor of the square root. -/
def isqN : Nat → Nat
  | 0 => 0
  | n + 1 => if (isqN n + 1) * (isqN n + 1) ≤ n + 1 then isqN n + 1 else isqN n
theorem isqN_spec : ∀ n, isqN n * isqN n ≤ n ∧ n < (isqN n + 1) * (isqN n + 1)
  | 0 => by simp [isqN]
  | n + 1 => by
    obtain ⟨h1, h2⟩ := isqN_spec n
    rw [isqN]
    by_cases h : (isqN n + 1) * (isqN n + 1) ≤ n + 1
    · rw [if_pos h]
      refine ⟨h, ?_⟩
      have e : (isqN n + 1 + 1) * (isqN n + 1 + 1) = (isqN n + 1) * (isqN n + 1) + 2 * (isqN n + 1) + 1 := by
        rw [Nat.add_mul, Nat.mul_add]; omega
      omega
    · rw [if_neg h]
      exact ⟨by omega, by omega⟩
def isq (x : Int) : Int := (isqN x.toNat : Int)
theorem isq_spec (x : Int) (h : 0 ≤ x) : 0 ≤ isq x ∧ isq x * isq x ≤ x ∧ x < (isq x + 1) * (isq x + 1) := by
  obtain ⟨h1, h2⟩ := isqN_spec x.toNat
  have e1 : isq x * isq x = ((isqN x.toNat * isqN x.toNat : Nat) : Int) := by unfold isq; rw [Int.natCast_mul]
  have e2 : (isq x + 1) * (isq x + 1) = (((isqN x.toNat + 1) * (isqN x.toNat + 1) : Nat) : Int) := by unfold isq; rw [Int.natCast_mul, Int.natCast_add]; rfl
  refine ⟨by unfold isq; omega, ?_, ?_⟩
  · rw [e1]; omega
  · rw [e2]; omega
theorem isq_unique {x r : Int} (h0 : 0 ≤ r) (h1 : r * r ≤ x) (h2 : x < (r + 1) * (r + 1)) : r = isq x := by
  have hx : 0 ≤ x := by have := Int.mul_nonneg h0 h0; omega
  obtain ⟨s0, s1, s2⟩ := isq_spec x hx
  generalize isq x = s at *
  rcases Int.lt_trichotomy r s with h | h | h
  · have := Int.mul_le_mul (show r + 1 ≤ s by omega) (show r + 1 ≤ s by omega) (by omega) s0
    omega
  · exact h
  · have := Int.mul_le_mul (show s + 1 ≤ r by omega) (show s + 1 ≤ r by omega) (by omega) h0
    omega
/-- What Sqrt returns. -/
def sqrtS (a : Int) : Int × Int := if vld a then (if a < 0 then (0, 5) else (rup (a * 1000000) 2 (isq (a * 1000000)), 0)) else (0, 1)
theorem isq_small {x : Int} (h0 : 0 ≤ x) (h : x ≤ 1000000000000000000000) : isq x ≤ 31622776602 := by
  obtain ⟨s0, s1, s2⟩ := isq_spec x h0
  rcases Int.lt_or_le 31622776602 (isq x) with h' | h'
  · have := Int.mul_le_mul (show 31622776603 ≤ isq x by omega) (show 31622776603 ≤ isq x by omega) (by omega) s0
    omega
  · exact h'
theorem rup_bd (x mode r : Int) : r ≤ rup x mode r ∧ rup x mode r ≤ r + 1 := by unfold rup; split <;> omega

theorem sqrt_any (a : Int) (ha1 : -9223372036854775808 ≤ a) (ha2 : a ≤ 9223372036854775807) (w : World) :
    Calls Tryd.prog 49 #[.int .i64 a] w fun e w' => e = .returned (.tuple #[.int .i64 (sqrtS a).1, .int .i64 (sqrtS a).2]) ∧ Below w.heap.size w w' := by
  rcases h : vld a with _ | _
  · have e0 : sqrtS a = (0, 1) := by unfold sqrtS; rw [h]; rfl
    rw [e0]
    go_enter Tryd.func49, Tryd.ntmps49
    go_wp2_with (go_at_call 31; refine (valid_any _ _).mono ?_; rintro e w' ⟨rfl, rfl⟩)
    go_ret2
    exact ⟨rfl, Below.refl _ _⟩
  by_cases hn : a < 0
  · have e0 : sqrtS a = (0, 5) := by unfold sqrtS; rw [h]; simp [hn]
    rw [e0]
    go_enter Tryd.func49, Tryd.ntmps49
    go_wp2_with (go_at_call 31; refine (valid_any _ _).mono ?_; rintro e w' ⟨rfl, rfl⟩)
    go_ret2
    exact ⟨rfl, Below.refl _ _⟩
  · have k := vld_yes h
    have HE : Hid (sqrtS a = (rup (a * 1000000) 2 (isq (a * 1000000)), 0)) := by unfold Hid sqrtS; rw [h]; simp [hn]
    go_enter Tryd.func49, Tryd.ntmps49
    go_wp2_with (first | (go_at_call 31; refine (valid_any _ _).mono ?_; rintro e w' ⟨rfl, rfl⟩) | (go_at_call 61; refine (Root_any _ _ _ (by omega) (by omega) (by omega) (by omega) (by omega) (by omega) _).mono ?_; rintro e w1 ⟨⟨r, hr0, hr1, hr2, hr3, rfl⟩, hb⟩; have HB := Lib.hid hb; clear hb; have HR := Lib.hid (isq_unique hr0 hr2 hr3); clear hr2 hr3))
    go_ret2
    have hs := isq_small (x := a * 1000000) (by omega) (by omega)
    have hu := rup_bd (a * 1000000) 2 r
    have hr := HR.out
    have e1 : sgnd (rup (a * 1000000) 2 r) false = (rup (a * 1000000) 2 r, true) := by unfold sgnd; simp; omega
    refine ⟨?_, HB.out⟩
    rw [HE.out, ← hr, e1]
    rfl
end Go.Proofs.YtdipainocdgfgaaDoor
