/- The walk of the law FixedSquares: it returns true. Conditions: the integer is an int; the table of the powers of ten lies in memory. -/
import Derived.Test.YteljackkojcniaaDoorI
import Derived.Test.YteljackkojcniaaDoorO
namespace Go.Proofs.YteljackkojcniaaDoor
open Go.RowKit
set_option linter.unusedVariables false

/-- The rounded root is the nearest one. -/
theorem near_root (x : Int) (h : 0 ≤ x) : (1 ≤ rup x 2 (isq x) → (2 * rup x 2 (isq x) - 1) * (2 * rup x 2 (isq x) - 1) ≤ 4 * x) ∧ 4 * x < (2 * rup x 2 (isq x) + 1) * (2 * rup x 2 (isq x) + 1) := by
  obtain ⟨s0, s1, s2⟩ := isq_spec x h
  generalize isq x = s at *
  have e1 : ∀ t : Int, (2 * t + 1) * (2 * t + 1) = 4 * (t * t) + 4 * t + 1 := fun t => by
    rw [Int.add_mul, Int.mul_add, Int.mul_assoc, Int.mul_left_comm t 2 t]; omega
  have e2 : ∀ t : Int, (2 * t - 1) * (2 * t - 1) = 4 * (t * t) - 4 * t + 1 := fun t => by
    rw [Int.sub_mul, Int.mul_sub, Int.mul_assoc, Int.mul_left_comm t 2 t]; omega
  have e3 : (s + 1) * (s + 1) = s * s + 2 * s + 1 := by rw [Int.add_mul, Int.mul_add]; omega
  rw [e3] at s2
  unfold rup upS
  by_cases hd : s < x - s * s
  · simp [hd]
    rw [e1, e2, e3]
    constructor <;> (try intro) <;> omega
  · simp [hd]
    rw [e1, e2]
    constructor <;> (try intro) <;> omega
theorem squares_any (a : Int) (ha1 : -9223372036854775808 ≤ a) (ha2 : a ≤ 9223372036854775807) (w : World) (ht : Tab w) :
    Calls Tryd.prog 15 #[.int .i64 a] w fun e w' => e = .returned (.bool true) ∧ Below w.heap.size w w' := by
  have HB : Hid (Below w.heap.size w w) := Below.refl _ _
  have HT := Lib.hid ht; clear ht
  have nm := btw_bd a 0 1000000000000000 (by omega)
  obtain ⟨M, hM⟩ : ∃ M, btw a 0 1000000000000000 = M := ⟨_, rfl⟩
  rw [hM] at nm
  have v1 : vld M = true := vld_mk (by omega) (by omega)
  have hn := near_root (M * 1000000) (by omega)
  have hs := isq_small (x := M * 1000000) (by omega) (by omega)
  have hs0 := (isq_spec (M * 1000000) (by omega)).1
  have hu := rup_bd (M * 1000000) 2 (isq (M * 1000000))
  obtain ⟨R, hR⟩ : ∃ R, rup (M * 1000000) 2 (isq (M * 1000000)) = R := ⟨_, rfl⟩
  have e0 : sqrtS M = (R, 0) := by unfold sqrtS; rw [v1, hR]; simp; omega
  rw [hR] at hn hu
  have r0 : 0 ≤ R ∧ R ≤ 31622776603 := by omega
  have hX : 4 * M * 1000000 = 4 * (M * 1000000) := by omega
  have c2 : 0 < cm ((2 * R + 1) * (2 * R + 1)) (4 * M * 1000000) := by rw [cm_gt (by rw [hX]; exact hn.2)]; omega
  by_cases hz : R = 0
  · subst hz
    have c2' : 0 < cm 1 (4 * M * 1000000) := c2
    clear hn hu hs hs0 hR hX c2
    go_enter Tryd.func15, Tryd.ntmps15
    go_wp2_with (first | (go_at_call 30; refine (btw_any _ _ _ (by omega) (by omega) (by omega) (by omega) (by omega) _).mono ?_; rintro e w' ⟨rfl, rfl⟩) | (go_at_call 46; refine (sqrt_any _ (by omega) (by omega) _).mono ?_; rintro e w1 ⟨rfl, hb⟩; have HN := Lib.hid (below2 HB.out hb); clear HB hb; have HB := Lib.hid HN.out; clear HN) | (go_at_call 47; refine (Cmp_any _ _ _ _ (by omega) (by omega) (by omega) (by omega) (by omega) (by omega) (by omega) (by omega) _).mono ?_; rintro e w1 ⟨rfl, hb⟩; have HN := Lib.hid (below2 HB.out hb); clear HB hb; have HB := Lib.hid HN.out; clear HN) | (go_at_call 18; refine (awake_any _ (HT.out.below HB.out)).mono ?_; rintro e w1 ⟨rfl, hb⟩; have HN := Lib.hid (below2 HB.out hb); clear HB hb; have HB := Lib.hid HN.out; clear HN))
    go_ret
    exact ⟨rfl, HB.out⟩
  · have hz' : (R == 0) = false := by simpa using hz
    have c1 : cm ((2 * R - 1) * (2 * R - 1)) (4 * M * 1000000) ≤ 0 := cm_le (by rw [hX]; exact hn.1 (by omega))
    clear hn hu hs hs0 hR hX hz
    go_enter Tryd.func15, Tryd.ntmps15
    go_wp2_with (first | (go_at_call 30; refine (btw_any _ _ _ (by omega) (by omega) (by omega) (by omega) (by omega) _).mono ?_; rintro e w' ⟨rfl, rfl⟩) | (go_at_call 46; refine (sqrt_any _ (by omega) (by omega) _).mono ?_; rintro e w1 ⟨rfl, hb⟩; have HN := Lib.hid (below2 HB.out hb); clear HB hb; have HB := Lib.hid HN.out; clear HN) | (go_at_call 47; refine (Cmp_any _ _ _ _ (by omega) (by omega) (by omega) (by omega) (by omega) (by omega) (by omega) (by omega) _).mono ?_; rintro e w1 ⟨rfl, hb⟩; have HN := Lib.hid (below2 HB.out hb); clear HB hb; have HB := Lib.hid HN.out; clear HN) | (go_at_call 18; refine (awake_any _ (HT.out.below HB.out)).mono ?_; rintro e w1 ⟨rfl, hb⟩; have HN := Lib.hid (below2 HB.out hb); clear HB hb; have HB := Lib.hid HN.out; clear HN))
    go_ret
    exact ⟨rfl, HB.out⟩
end Go.Proofs.YteljackkojcniaaDoor
