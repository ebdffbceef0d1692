/- Plain words of the direction of a point. No program in sight. Conditions: none beyond each lemma's own premises. -/
import Derived.Test.YtdipainocdgfgaaDoorPlv
namespace Go.Proofs.YtdipainocdgfgaaDoor
set_option linter.unusedVariables false
set_option linter.unusedSimpArgs false

/-- Turned back by j quarter turns. -/
def qp (p : Int × Int) : Nat → Int × Int
  | 0 => p
  | j + 1 => ((qp p j).2, -(qp p j).1)
/-- The quarter that an angle is measured in. -/
def Sec (p : Int × Int) : Prop := 0 < p.1 ∧ -p.1 ≤ p.2 ∧ p.2 < p.1
instance (p : Int × Int) : Decidable (Sec p) := by unfold Sec; infer_instance
def kq (p : Int × Int) : Nat := if Sec p then 0 else if Sec (qp p 1) then 1 else if Sec (qp p 2) then 2 else 3
theorem kq_le (p : Int × Int) : kq p ≤ 3 := by
  unfold kq
  by_cases h0 : Sec p
  · rw [if_pos h0]; omega
  rw [if_neg h0]
  by_cases h1 : Sec (qp p 1)
  · rw [if_pos h1]; omega
  rw [if_neg h1]
  by_cases h2 : Sec (qp p 2)
  · rw [if_pos h2]; omega
  · rw [if_neg h2]; omega
theorem kq_in (p : Int × Int) (h : p.1 ≠ 0 ∨ p.2 ≠ 0) : Sec (qp p (kq p)) := by
  unfold kq
  by_cases h0 : Sec p
  · rw [if_pos h0]; exact h0
  rw [if_neg h0]
  by_cases h1 : Sec (qp p 1)
  · rw [if_pos h1]; exact h1
  rw [if_neg h1]
  by_cases h2 : Sec (qp p 2)
  · rw [if_pos h2]; exact h2
  rw [if_neg h2]
  unfold Sec at *
  simp only [qp] at *
  omega
theorem kq_out (p : Int × Int) (j : Nat) (h : j < kq p) : ¬ Sec (qp p j) := by
  unfold kq at h
  by_cases h0 : Sec p
  · rw [if_pos h0] at h; omega
  rw [if_neg h0] at h
  by_cases h1 : Sec (qp p 1)
  · rw [if_pos h1] at h; rw [show j = 0 by omega]; exact h0
  rw [if_neg h1] at h
  by_cases h2 : Sec (qp p 2)
  · rw [if_pos h2] at h
    have : j = 0 ∨ j = 1 := by omega
    rcases this with rfl | rfl
    · exact h0
    · exact h1
  · rw [if_neg h2] at h
    have : j = 0 ∨ j = 1 ∨ j = 2 := by omega
    rcases this with rfl | rfl | rfl
    · exact h0
    · exact h1
    · exact h2
theorem qp_bd {p : Int × Int} {M : Int} (h1 : -M ≤ p.1 ∧ p.1 ≤ M) (h2 : -M ≤ p.2 ∧ p.2 ≤ M) : ∀ k, (-M ≤ (qp p k).1 ∧ (qp p k).1 ≤ M) ∧ (-M ≤ (qp p k).2 ∧ (qp p k).2 ≤ M)
  | 0 => ⟨h1, h2⟩
  | k + 1 => by
    have h := qp_bd h1 h2 k
    simp only [qp]
    omega
/-- The angle within the quarter. -/
def angR (p : Int × Int) : Int := if p.2 = 0 then 0 else ((itA (p.1 * 1048576, p.2 * 1048576, 0) 26).2.2 + 500) / 1000
/-- The direction of the point (x, y). -/
def angS (x y : Int) : Int := ((kq (x, y) : Int) * 90000000 + angR (qp (x, y) (kq (x, y)))) % 360000000
theorem angS_bd (x y : Int) : 0 ≤ angS x y ∧ angS x y < 360000000 := ⟨Int.emod_nonneg _ (by omega), Int.emod_lt_of_pos _ (by omega)⟩
theorem round_1000 (w : Int) : (w - w % 1000).tdiv 1000 = w / 1000 := by
  have h := Int.emod_add_mul_ediv w 1000
  rw [show w - w % 1000 = 1000 * (w / 1000) by omega]
  exact Int.mul_tdiv_cancel_left _ (by omega)
end Go.Proofs.YtdipainocdgfgaaDoor
