/- Sign sequences: where the product of two lists of small turns lies near the positive ray, the tabled angles of the two lists are near one another. No program in sight. Conditions: none beyond each lemma's own premises. -/
import Derived.Test.YtdipainocdgfgaaDoorPlv
namespace Go.Proofs.YtdipainocdgfgaaDoor
set_option linter.unusedVariables false
set_option linter.unusedSimpArgs false

/-- One step of a difference of signs: dl is -1, 0 or 1. -/
def nst (j : Nat) (dl : Int) (p : Int × Int) : Int × Int := if dl = 0 then p else (p.1 * (4 ^ j - 1) - p.2 * (dl * 2 ^ (j + 1)), p.2 * (4 ^ j - 1) + p.1 * (dl * 2 ^ (j + 1)))
def nrun (dl : Nat → Int) (j : Nat) : Nat → Int × Int → Int × Int
  | 0, p => p
  | k + 1, p => nrun dl (j + 1) k (nst j (dl j) p)
def trun (dl : Nat → Int) (j : Nat) : Nat → Int
  | 0 => 0
  | k + 1 => 2 * dl j * tbl j + trun dl (j + 1) k
def Sgn (dl : Nat → Int) : Prop := ∀ j, dl j = -1 ∨ dl j = 0 ∨ dl j = 1
theorem nrun_add (dl : Nat → Int) (j k l : Nat) (p : Int × Int) : nrun dl j (k + l) p = nrun dl (j + k) l (nrun dl j k p) := by
  induction k generalizing j p with
  | zero => simp [nrun]
  | succ k ih =>
    rw [show k + 1 + l = (k + l) + 1 by omega]
    simp only [nrun]
    rw [ih, show j + 1 + k = j + (k + 1) by omega]
theorem trun_add (dl : Nat → Int) (j k l : Nat) : trun dl j (k + l) = trun dl j k + trun dl (j + k) l := by
  induction k generalizing j with
  | zero => simp [trun]
  | succ k ih =>
    rw [show k + 1 + l = (k + l) + 1 by omega]
    simp only [trun]
    rw [ih, show j + 1 + k = j + (k + 1) by omega]
    omega
/-- A product's bound. -/
theorem mul_abs {t h r : Int} (h1 : -r ≤ t) (h2 : t ≤ r) : t * h ≤ r * h ∧ -(r * h) ≤ t * h ∨ t * h ≤ -(r * h) ∧ r * h ≤ t * h := by
  rcases Int.le_total 0 h with h0 | h0
  · have a := Int.mul_le_mul_of_nonneg_right h2 h0
    have b := Int.mul_le_mul_of_nonneg_right h1 h0
    rw [Int.neg_mul] at b
    exact .inl ⟨a, b⟩
  · have a := Int.mul_le_mul_of_nonpos_right h2 h0
    have b := Int.mul_le_mul_of_nonpos_right h1 h0
    rw [Int.neg_mul] at b
    exact .inr ⟨b, a⟩
/-- What is known of a point at a level: from the end back. -/
def Inv (m e r : Int) (p : Int × Int) (t : Int) : Prop := 0 < p.1 ∧ -(m * p.1) ≤ 1099511627776 * p.2 ∧ 1099511627776 * p.2 ≤ m * p.1 ∧ -(e * p.1) ≤ 57295779513 * p.2 + t * p.1 ∧ 57295779513 * p.2 + t * p.1 ≤ e * p.1 ∧ -r ≤ t ∧ t ≤ r
theorem inv_25 (dl : Int) (hd : dl = -1 ∨ dl = 0 ∨ dl = 1) (p : Int × Int) (t : Int) (h : Inv 10995117 572959 0 (nst 25 dl p) t) : Inv 11060655 572961 3416 p (2 * dl * tbl 25 + t) := by
  obtain ⟨g, k⟩ := p
  have ht : tbl 25 = 1708 := rfl
  rw [ht]
  rcases hd with rfl | rfl | rfl
  · rw [show nst 25 (-1) (g, k) = (g * 1125899906842623 + k * 67108864, k * 1125899906842623 - g * 67108864) from by simp [nst]; omega] at h
    obtain ⟨h1, h2, h3, h4, h5, h6, h7⟩ := h
    dsimp only at h1 h2 h3 h4 h5
    have e1 : t * (g * 1125899906842623 + k * 67108864) = (t * g) * 1125899906842623 + (t * k) * 67108864 := by rw [Int.mul_add, Int.mul_assoc, Int.mul_assoc]
    rw [e1] at h4 h5
    have hm := mul_abs (h := k) h6 h7
    have e2 : (2 * (-1) * 1708 + t) * g = t * g - 3416 * g := by rw [Int.add_mul]; omega
    refine ⟨?_, ?_, ?_, ?_, ?_, ?_, ?_⟩ <;> (try dsimp only)
    · omega
    · omega
    · omega
    · rw [e2]; omega
    · rw [e2]; omega
    · omega
    · omega
  · rw [show nst 25 0 (g, k) = (g, k) from rfl] at h
    obtain ⟨h1, h2, h3, h4, h5, h6, h7⟩ := h
    dsimp only at h1 h2 h3 h4 h5
    have e2 : 2 * 0 * 1708 + t = t := by omega
    rw [e2]
    refine ⟨?_, ?_, ?_, ?_, ?_, ?_, ?_⟩ <;> (try dsimp only) <;> omega
  · rw [show nst 25 1 (g, k) = (g * 1125899906842623 - k * 67108864, k * 1125899906842623 + g * 67108864) from by simp [nst]] at h
    obtain ⟨h1, h2, h3, h4, h5, h6, h7⟩ := h
    dsimp only at h1 h2 h3 h4 h5
    have e1 : t * (g * 1125899906842623 - k * 67108864) = (t * g) * 1125899906842623 - (t * k) * 67108864 := by rw [Int.mul_sub, Int.mul_assoc, Int.mul_assoc]
    rw [e1] at h4 h5
    have hm := mul_abs (h := k) h6 h7
    have e2 : (2 * 1 * 1708 + t) * g = t * g + 3416 * g := by rw [Int.add_mul]; omega
    refine ⟨?_, ?_, ?_, ?_, ?_, ?_, ?_⟩ <;> (try dsimp only)
    · omega
    · omega
    · omega
    · rw [e2]; omega
    · rw [e2]; omega
    · omega
    · omega
theorem inv_24 (dl : Int) (hd : dl = -1 ∨ dl = 0 ∨ dl = 1) (p : Int × Int) (t : Int) (h : Inv 11060655 572961 3416 (nst 24 dl p) t) : Inv 11191729 572963 10246 p (2 * dl * tbl 24 + t) := by
  obtain ⟨g, k⟩ := p
  have ht : tbl 24 = 3415 := rfl
  rw [ht]
  rcases hd with rfl | rfl | rfl
  · rw [show nst 24 (-1) (g, k) = (g * 281474976710655 + k * 33554432, k * 281474976710655 - g * 33554432) from by simp [nst]; omega] at h
    obtain ⟨h1, h2, h3, h4, h5, h6, h7⟩ := h
    dsimp only at h1 h2 h3 h4 h5
    have e1 : t * (g * 281474976710655 + k * 33554432) = (t * g) * 281474976710655 + (t * k) * 33554432 := by rw [Int.mul_add, Int.mul_assoc, Int.mul_assoc]
    rw [e1] at h4 h5
    have hm := mul_abs (h := k) h6 h7
    have e2 : (2 * (-1) * 3415 + t) * g = t * g - 6830 * g := by rw [Int.add_mul]; omega
    refine ⟨?_, ?_, ?_, ?_, ?_, ?_, ?_⟩ <;> (try dsimp only)
    · omega
    · omega
    · omega
    · rw [e2]; omega
    · rw [e2]; omega
    · omega
    · omega
  · rw [show nst 24 0 (g, k) = (g, k) from rfl] at h
    obtain ⟨h1, h2, h3, h4, h5, h6, h7⟩ := h
    dsimp only at h1 h2 h3 h4 h5
    have e2 : 2 * 0 * 3415 + t = t := by omega
    rw [e2]
    refine ⟨?_, ?_, ?_, ?_, ?_, ?_, ?_⟩ <;> (try dsimp only) <;> omega
  · rw [show nst 24 1 (g, k) = (g * 281474976710655 - k * 33554432, k * 281474976710655 + g * 33554432) from by simp [nst]] at h
    obtain ⟨h1, h2, h3, h4, h5, h6, h7⟩ := h
    dsimp only at h1 h2 h3 h4 h5
    have e1 : t * (g * 281474976710655 - k * 33554432) = (t * g) * 281474976710655 - (t * k) * 33554432 := by rw [Int.mul_sub, Int.mul_assoc, Int.mul_assoc]
    rw [e1] at h4 h5
    have hm := mul_abs (h := k) h6 h7
    have e2 : (2 * 1 * 3415 + t) * g = t * g + 6830 * g := by rw [Int.add_mul]; omega
    refine ⟨?_, ?_, ?_, ?_, ?_, ?_, ?_⟩ <;> (try dsimp only)
    · omega
    · omega
    · omega
    · rw [e2]; omega
    · rw [e2]; omega
    · omega
    · omega
theorem inv_23 (dl : Int) (hd : dl = -1 ∨ dl = 0 ∨ dl = 1) (p : Int × Int) (t : Int) (h : Inv 11191729 572963 10246 (nst 23 dl p) t) : Inv 11453875 572965 23906 p (2 * dl * tbl 23 + t) := by
  obtain ⟨g, k⟩ := p
  have ht : tbl 23 = 6830 := rfl
  rw [ht]
  rcases hd with rfl | rfl | rfl
  · rw [show nst 23 (-1) (g, k) = (g * 70368744177663 + k * 16777216, k * 70368744177663 - g * 16777216) from by simp [nst]; omega] at h
    obtain ⟨h1, h2, h3, h4, h5, h6, h7⟩ := h
    dsimp only at h1 h2 h3 h4 h5
    have e1 : t * (g * 70368744177663 + k * 16777216) = (t * g) * 70368744177663 + (t * k) * 16777216 := by rw [Int.mul_add, Int.mul_assoc, Int.mul_assoc]
    rw [e1] at h4 h5
    have hm := mul_abs (h := k) h6 h7
    have e2 : (2 * (-1) * 6830 + t) * g = t * g - 13660 * g := by rw [Int.add_mul]; omega
    refine ⟨?_, ?_, ?_, ?_, ?_, ?_, ?_⟩ <;> (try dsimp only)
    · omega
    · omega
    · omega
    · rw [e2]; omega
    · rw [e2]; omega
    · omega
    · omega
  · rw [show nst 23 0 (g, k) = (g, k) from rfl] at h
    obtain ⟨h1, h2, h3, h4, h5, h6, h7⟩ := h
    dsimp only at h1 h2 h3 h4 h5
    have e2 : 2 * 0 * 6830 + t = t := by omega
    rw [e2]
    refine ⟨?_, ?_, ?_, ?_, ?_, ?_, ?_⟩ <;> (try dsimp only) <;> omega
  · rw [show nst 23 1 (g, k) = (g * 70368744177663 - k * 16777216, k * 70368744177663 + g * 16777216) from by simp [nst]] at h
    obtain ⟨h1, h2, h3, h4, h5, h6, h7⟩ := h
    dsimp only at h1 h2 h3 h4 h5
    have e1 : t * (g * 70368744177663 - k * 16777216) = (t * g) * 70368744177663 - (t * k) * 16777216 := by rw [Int.mul_sub, Int.mul_assoc, Int.mul_assoc]
    rw [e1] at h4 h5
    have hm := mul_abs (h := k) h6 h7
    have e2 : (2 * 1 * 6830 + t) * g = t * g + 13660 * g := by rw [Int.add_mul]; omega
    refine ⟨?_, ?_, ?_, ?_, ?_, ?_, ?_⟩ <;> (try dsimp only)
    · omega
    · omega
    · omega
    · rw [e2]; omega
    · rw [e2]; omega
    · omega
    · omega
theorem inv_22 (dl : Int) (hd : dl = -1 ∨ dl = 0 ∨ dl = 1) (p : Int × Int) (t : Int) (h : Inv 11453875 572965 23906 (nst 22 dl p) t) : Inv 11978165 572967 51226 p (2 * dl * tbl 22 + t) := by
  obtain ⟨g, k⟩ := p
  have ht : tbl 22 = 13660 := rfl
  rw [ht]
  rcases hd with rfl | rfl | rfl
  · rw [show nst 22 (-1) (g, k) = (g * 17592186044415 + k * 8388608, k * 17592186044415 - g * 8388608) from by simp [nst]; omega] at h
    obtain ⟨h1, h2, h3, h4, h5, h6, h7⟩ := h
    dsimp only at h1 h2 h3 h4 h5
    have e1 : t * (g * 17592186044415 + k * 8388608) = (t * g) * 17592186044415 + (t * k) * 8388608 := by rw [Int.mul_add, Int.mul_assoc, Int.mul_assoc]
    rw [e1] at h4 h5
    have hm := mul_abs (h := k) h6 h7
    have e2 : (2 * (-1) * 13660 + t) * g = t * g - 27320 * g := by rw [Int.add_mul]; omega
    refine ⟨?_, ?_, ?_, ?_, ?_, ?_, ?_⟩ <;> (try dsimp only)
    · omega
    · omega
    · omega
    · rw [e2]; omega
    · rw [e2]; omega
    · omega
    · omega
  · rw [show nst 22 0 (g, k) = (g, k) from rfl] at h
    obtain ⟨h1, h2, h3, h4, h5, h6, h7⟩ := h
    dsimp only at h1 h2 h3 h4 h5
    have e2 : 2 * 0 * 13660 + t = t := by omega
    rw [e2]
    refine ⟨?_, ?_, ?_, ?_, ?_, ?_, ?_⟩ <;> (try dsimp only) <;> omega
  · rw [show nst 22 1 (g, k) = (g * 17592186044415 - k * 8388608, k * 17592186044415 + g * 8388608) from by simp [nst]] at h
    obtain ⟨h1, h2, h3, h4, h5, h6, h7⟩ := h
    dsimp only at h1 h2 h3 h4 h5
    have e1 : t * (g * 17592186044415 - k * 8388608) = (t * g) * 17592186044415 - (t * k) * 8388608 := by rw [Int.mul_sub, Int.mul_assoc, Int.mul_assoc]
    rw [e1] at h4 h5
    have hm := mul_abs (h := k) h6 h7
    have e2 : (2 * 1 * 13660 + t) * g = t * g + 27320 * g := by rw [Int.add_mul]; omega
    refine ⟨?_, ?_, ?_, ?_, ?_, ?_, ?_⟩ <;> (try dsimp only)
    · omega
    · omega
    · omega
    · rw [e2]; omega
    · rw [e2]; omega
    · omega
    · omega
theorem inv_21 (dl : Int) (hd : dl = -1 ∨ dl = 0 ∨ dl = 1) (p : Int × Int) (t : Int) (h : Inv 11978165 572967 51226 (nst 21 dl p) t) : Inv 13026743 572969 105868 p (2 * dl * tbl 21 + t) := by
  obtain ⟨g, k⟩ := p
  have ht : tbl 21 = 27321 := rfl
  rw [ht]
  rcases hd with rfl | rfl | rfl
  · rw [show nst 21 (-1) (g, k) = (g * 4398046511103 + k * 4194304, k * 4398046511103 - g * 4194304) from by simp [nst]; omega] at h
    obtain ⟨h1, h2, h3, h4, h5, h6, h7⟩ := h
    dsimp only at h1 h2 h3 h4 h5
    have e1 : t * (g * 4398046511103 + k * 4194304) = (t * g) * 4398046511103 + (t * k) * 4194304 := by rw [Int.mul_add, Int.mul_assoc, Int.mul_assoc]
    rw [e1] at h4 h5
    have hm := mul_abs (h := k) h6 h7
    have e2 : (2 * (-1) * 27321 + t) * g = t * g - 54642 * g := by rw [Int.add_mul]; omega
    refine ⟨?_, ?_, ?_, ?_, ?_, ?_, ?_⟩ <;> (try dsimp only)
    · omega
    · omega
    · omega
    · rw [e2]; omega
    · rw [e2]; omega
    · omega
    · omega
  · rw [show nst 21 0 (g, k) = (g, k) from rfl] at h
    obtain ⟨h1, h2, h3, h4, h5, h6, h7⟩ := h
    dsimp only at h1 h2 h3 h4 h5
    have e2 : 2 * 0 * 27321 + t = t := by omega
    rw [e2]
    refine ⟨?_, ?_, ?_, ?_, ?_, ?_, ?_⟩ <;> (try dsimp only) <;> omega
  · rw [show nst 21 1 (g, k) = (g * 4398046511103 - k * 4194304, k * 4398046511103 + g * 4194304) from by simp [nst]] at h
    obtain ⟨h1, h2, h3, h4, h5, h6, h7⟩ := h
    dsimp only at h1 h2 h3 h4 h5
    have e1 : t * (g * 4398046511103 - k * 4194304) = (t * g) * 4398046511103 - (t * k) * 4194304 := by rw [Int.mul_sub, Int.mul_assoc, Int.mul_assoc]
    rw [e1] at h4 h5
    have hm := mul_abs (h := k) h6 h7
    have e2 : (2 * 1 * 27321 + t) * g = t * g + 54642 * g := by rw [Int.add_mul]; omega
    refine ⟨?_, ?_, ?_, ?_, ?_, ?_, ?_⟩ <;> (try dsimp only)
    · omega
    · omega
    · omega
    · rw [e2]; omega
    · rw [e2]; omega
    · omega
    · omega
theorem inv_20 (dl : Int) (hd : dl = -1 ∨ dl = 0 ∨ dl = 1) (p : Int × Int) (t : Int) (h : Inv 13026743 572969 105868 (nst 20 dl p) t) : Inv 15123897 572971 215152 p (2 * dl * tbl 20 + t) := by
  obtain ⟨g, k⟩ := p
  have ht : tbl 20 = 54642 := rfl
  rw [ht]
  rcases hd with rfl | rfl | rfl
  · rw [show nst 20 (-1) (g, k) = (g * 1099511627775 + k * 2097152, k * 1099511627775 - g * 2097152) from by simp [nst]; omega] at h
    obtain ⟨h1, h2, h3, h4, h5, h6, h7⟩ := h
    dsimp only at h1 h2 h3 h4 h5
    have e1 : t * (g * 1099511627775 + k * 2097152) = (t * g) * 1099511627775 + (t * k) * 2097152 := by rw [Int.mul_add, Int.mul_assoc, Int.mul_assoc]
    rw [e1] at h4 h5
    have hm := mul_abs (h := k) h6 h7
    have e2 : (2 * (-1) * 54642 + t) * g = t * g - 109284 * g := by rw [Int.add_mul]; omega
    refine ⟨?_, ?_, ?_, ?_, ?_, ?_, ?_⟩ <;> (try dsimp only)
    · omega
    · omega
    · omega
    · rw [e2]; omega
    · rw [e2]; omega
    · omega
    · omega
  · rw [show nst 20 0 (g, k) = (g, k) from rfl] at h
    obtain ⟨h1, h2, h3, h4, h5, h6, h7⟩ := h
    dsimp only at h1 h2 h3 h4 h5
    have e2 : 2 * 0 * 54642 + t = t := by omega
    rw [e2]
    refine ⟨?_, ?_, ?_, ?_, ?_, ?_, ?_⟩ <;> (try dsimp only) <;> omega
  · rw [show nst 20 1 (g, k) = (g * 1099511627775 - k * 2097152, k * 1099511627775 + g * 2097152) from by simp [nst]] at h
    obtain ⟨h1, h2, h3, h4, h5, h6, h7⟩ := h
    dsimp only at h1 h2 h3 h4 h5
    have e1 : t * (g * 1099511627775 - k * 2097152) = (t * g) * 1099511627775 - (t * k) * 2097152 := by rw [Int.mul_sub, Int.mul_assoc, Int.mul_assoc]
    rw [e1] at h4 h5
    have hm := mul_abs (h := k) h6 h7
    have e2 : (2 * 1 * 54642 + t) * g = t * g + 109284 * g := by rw [Int.add_mul]; omega
    refine ⟨?_, ?_, ?_, ?_, ?_, ?_, ?_⟩ <;> (try dsimp only)
    · omega
    · omega
    · omega
    · rw [e2]; omega
    · rw [e2]; omega
    · omega
    · omega
theorem inv_19 (dl : Int) (hd : dl = -1 ∨ dl = 0 ∨ dl = 1) (p : Int × Int) (t : Int) (h : Inv 15123897 572971 215152 (nst 19 dl p) t) : Inv 19318203 572973 433718 p (2 * dl * tbl 19 + t) := by
  obtain ⟨g, k⟩ := p
  have ht : tbl 19 = 109283 := rfl
  rw [ht]
  rcases hd with rfl | rfl | rfl
  · rw [show nst 19 (-1) (g, k) = (g * 274877906943 + k * 1048576, k * 274877906943 - g * 1048576) from by simp [nst]; omega] at h
    obtain ⟨h1, h2, h3, h4, h5, h6, h7⟩ := h
    dsimp only at h1 h2 h3 h4 h5
    have e1 : t * (g * 274877906943 + k * 1048576) = (t * g) * 274877906943 + (t * k) * 1048576 := by rw [Int.mul_add, Int.mul_assoc, Int.mul_assoc]
    rw [e1] at h4 h5
    have hm := mul_abs (h := k) h6 h7
    have e2 : (2 * (-1) * 109283 + t) * g = t * g - 218566 * g := by rw [Int.add_mul]; omega
    refine ⟨?_, ?_, ?_, ?_, ?_, ?_, ?_⟩ <;> (try dsimp only)
    · omega
    · omega
    · omega
    · rw [e2]; omega
    · rw [e2]; omega
    · omega
    · omega
  · rw [show nst 19 0 (g, k) = (g, k) from rfl] at h
    obtain ⟨h1, h2, h3, h4, h5, h6, h7⟩ := h
    dsimp only at h1 h2 h3 h4 h5
    have e2 : 2 * 0 * 109283 + t = t := by omega
    rw [e2]
    refine ⟨?_, ?_, ?_, ?_, ?_, ?_, ?_⟩ <;> (try dsimp only) <;> omega
  · rw [show nst 19 1 (g, k) = (g * 274877906943 - k * 1048576, k * 274877906943 + g * 1048576) from by simp [nst]] at h
    obtain ⟨h1, h2, h3, h4, h5, h6, h7⟩ := h
    dsimp only at h1 h2 h3 h4 h5
    have e1 : t * (g * 274877906943 - k * 1048576) = (t * g) * 274877906943 - (t * k) * 1048576 := by rw [Int.mul_sub, Int.mul_assoc, Int.mul_assoc]
    rw [e1] at h4 h5
    have hm := mul_abs (h := k) h6 h7
    have e2 : (2 * 1 * 109283 + t) * g = t * g + 218566 * g := by rw [Int.add_mul]; omega
    refine ⟨?_, ?_, ?_, ?_, ?_, ?_, ?_⟩ <;> (try dsimp only)
    · omega
    · omega
    · omega
    · rw [e2]; omega
    · rw [e2]; omega
    · omega
    · omega
theorem inv_18 (dl : Int) (hd : dl = -1 ∨ dl = 0 ∨ dl = 1) (p : Int × Int) (t : Int) (h : Inv 19318203 572973 433718 (nst 18 dl p) t) : Inv 27706813 572975 870850 p (2 * dl * tbl 18 + t) := by
  obtain ⟨g, k⟩ := p
  have ht : tbl 18 = 218566 := rfl
  rw [ht]
  rcases hd with rfl | rfl | rfl
  · rw [show nst 18 (-1) (g, k) = (g * 68719476735 + k * 524288, k * 68719476735 - g * 524288) from by simp [nst]; omega] at h
    obtain ⟨h1, h2, h3, h4, h5, h6, h7⟩ := h
    dsimp only at h1 h2 h3 h4 h5
    have e1 : t * (g * 68719476735 + k * 524288) = (t * g) * 68719476735 + (t * k) * 524288 := by rw [Int.mul_add, Int.mul_assoc, Int.mul_assoc]
    rw [e1] at h4 h5
    have hm := mul_abs (h := k) h6 h7
    have e2 : (2 * (-1) * 218566 + t) * g = t * g - 437132 * g := by rw [Int.add_mul]; omega
    refine ⟨?_, ?_, ?_, ?_, ?_, ?_, ?_⟩ <;> (try dsimp only)
    · omega
    · omega
    · omega
    · rw [e2]; omega
    · rw [e2]; omega
    · omega
    · omega
  · rw [show nst 18 0 (g, k) = (g, k) from rfl] at h
    obtain ⟨h1, h2, h3, h4, h5, h6, h7⟩ := h
    dsimp only at h1 h2 h3 h4 h5
    have e2 : 2 * 0 * 218566 + t = t := by omega
    rw [e2]
    refine ⟨?_, ?_, ?_, ?_, ?_, ?_, ?_⟩ <;> (try dsimp only) <;> omega
  · rw [show nst 18 1 (g, k) = (g * 68719476735 - k * 524288, k * 68719476735 + g * 524288) from by simp [nst]] at h
    obtain ⟨h1, h2, h3, h4, h5, h6, h7⟩ := h
    dsimp only at h1 h2 h3 h4 h5
    have e1 : t * (g * 68719476735 - k * 524288) = (t * g) * 68719476735 - (t * k) * 524288 := by rw [Int.mul_sub, Int.mul_assoc, Int.mul_assoc]
    rw [e1] at h4 h5
    have hm := mul_abs (h := k) h6 h7
    have e2 : (2 * 1 * 218566 + t) * g = t * g + 437132 * g := by rw [Int.add_mul]; omega
    refine ⟨?_, ?_, ?_, ?_, ?_, ?_, ?_⟩ <;> (try dsimp only)
    · omega
    · omega
    · omega
    · rw [e2]; omega
    · rw [e2]; omega
    · omega
    · omega
theorem inv_17 (dl : Int) (hd : dl = -1 ∨ dl = 0 ∨ dl = 1) (p : Int × Int) (t : Int) (h : Inv 27706813 572975 870850 (nst 17 dl p) t) : Inv 44484031 572977 1745114 p (2 * dl * tbl 17 + t) := by
  obtain ⟨g, k⟩ := p
  have ht : tbl 17 = 437132 := rfl
  rw [ht]
  rcases hd with rfl | rfl | rfl
  · rw [show nst 17 (-1) (g, k) = (g * 17179869183 + k * 262144, k * 17179869183 - g * 262144) from by simp [nst]; omega] at h
    obtain ⟨h1, h2, h3, h4, h5, h6, h7⟩ := h
    dsimp only at h1 h2 h3 h4 h5
    have e1 : t * (g * 17179869183 + k * 262144) = (t * g) * 17179869183 + (t * k) * 262144 := by rw [Int.mul_add, Int.mul_assoc, Int.mul_assoc]
    rw [e1] at h4 h5
    have hm := mul_abs (h := k) h6 h7
    have e2 : (2 * (-1) * 437132 + t) * g = t * g - 874264 * g := by rw [Int.add_mul]; omega
    refine ⟨?_, ?_, ?_, ?_, ?_, ?_, ?_⟩ <;> (try dsimp only)
    · omega
    · omega
    · omega
    · rw [e2]; omega
    · rw [e2]; omega
    · omega
    · omega
  · rw [show nst 17 0 (g, k) = (g, k) from rfl] at h
    obtain ⟨h1, h2, h3, h4, h5, h6, h7⟩ := h
    dsimp only at h1 h2 h3 h4 h5
    have e2 : 2 * 0 * 437132 + t = t := by omega
    rw [e2]
    refine ⟨?_, ?_, ?_, ?_, ?_, ?_, ?_⟩ <;> (try dsimp only) <;> omega
  · rw [show nst 17 1 (g, k) = (g * 17179869183 - k * 262144, k * 17179869183 + g * 262144) from by simp [nst]] at h
    obtain ⟨h1, h2, h3, h4, h5, h6, h7⟩ := h
    dsimp only at h1 h2 h3 h4 h5
    have e1 : t * (g * 17179869183 - k * 262144) = (t * g) * 17179869183 - (t * k) * 262144 := by rw [Int.mul_sub, Int.mul_assoc, Int.mul_assoc]
    rw [e1] at h4 h5
    have hm := mul_abs (h := k) h6 h7
    have e2 : (2 * 1 * 437132 + t) * g = t * g + 874264 * g := by rw [Int.add_mul]; omega
    refine ⟨?_, ?_, ?_, ?_, ?_, ?_, ?_⟩ <;> (try dsimp only)
    · omega
    · omega
    · omega
    · rw [e2]; omega
    · rw [e2]; omega
    · omega
    · omega
theorem inv_16 (dl : Int) (hd : dl = -1 ∨ dl = 0 ∨ dl = 1) (p : Int × Int) (t : Int) (h : Inv 44484031 572977 1745114 (nst 16 dl p) t) : Inv 78038465 572979 3493642 p (2 * dl * tbl 16 + t) := by
  obtain ⟨g, k⟩ := p
  have ht : tbl 16 = 874264 := rfl
  rw [ht]
  rcases hd with rfl | rfl | rfl
  · rw [show nst 16 (-1) (g, k) = (g * 4294967295 + k * 131072, k * 4294967295 - g * 131072) from by simp [nst]; omega] at h
    obtain ⟨h1, h2, h3, h4, h5, h6, h7⟩ := h
    dsimp only at h1 h2 h3 h4 h5
    have e1 : t * (g * 4294967295 + k * 131072) = (t * g) * 4294967295 + (t * k) * 131072 := by rw [Int.mul_add, Int.mul_assoc, Int.mul_assoc]
    rw [e1] at h4 h5
    have hm := mul_abs (h := k) h6 h7
    have e2 : (2 * (-1) * 874264 + t) * g = t * g - 1748528 * g := by rw [Int.add_mul]; omega
    refine ⟨?_, ?_, ?_, ?_, ?_, ?_, ?_⟩ <;> (try dsimp only)
    · omega
    · omega
    · omega
    · rw [e2]; omega
    · rw [e2]; omega
    · omega
    · omega
  · rw [show nst 16 0 (g, k) = (g, k) from rfl] at h
    obtain ⟨h1, h2, h3, h4, h5, h6, h7⟩ := h
    dsimp only at h1 h2 h3 h4 h5
    have e2 : 2 * 0 * 874264 + t = t := by omega
    rw [e2]
    refine ⟨?_, ?_, ?_, ?_, ?_, ?_, ?_⟩ <;> (try dsimp only) <;> omega
  · rw [show nst 16 1 (g, k) = (g * 4294967295 - k * 131072, k * 4294967295 + g * 131072) from by simp [nst]] at h
    obtain ⟨h1, h2, h3, h4, h5, h6, h7⟩ := h
    dsimp only at h1 h2 h3 h4 h5
    have e1 : t * (g * 4294967295 - k * 131072) = (t * g) * 4294967295 - (t * k) * 131072 := by rw [Int.mul_sub, Int.mul_assoc, Int.mul_assoc]
    rw [e1] at h4 h5
    have hm := mul_abs (h := k) h6 h7
    have e2 : (2 * 1 * 874264 + t) * g = t * g + 1748528 * g := by rw [Int.add_mul]; omega
    refine ⟨?_, ?_, ?_, ?_, ?_, ?_, ?_⟩ <;> (try dsimp only)
    · omega
    · omega
    · omega
    · rw [e2]; omega
    · rw [e2]; omega
    · omega
    · omega
theorem inv_15 (dl : Int) (hd : dl = -1 ∨ dl = 0 ∨ dl = 1) (p : Int × Int) (t : Int) (h : Inv 78038465 572979 3493642 (nst 15 dl p) t) : Inv 145147331 572981 6990698 p (2 * dl * tbl 15 + t) := by
  obtain ⟨g, k⟩ := p
  have ht : tbl 15 = 1748528 := rfl
  rw [ht]
  rcases hd with rfl | rfl | rfl
  · rw [show nst 15 (-1) (g, k) = (g * 1073741823 + k * 65536, k * 1073741823 - g * 65536) from by simp [nst]; omega] at h
    obtain ⟨h1, h2, h3, h4, h5, h6, h7⟩ := h
    dsimp only at h1 h2 h3 h4 h5
    have e1 : t * (g * 1073741823 + k * 65536) = (t * g) * 1073741823 + (t * k) * 65536 := by rw [Int.mul_add, Int.mul_assoc, Int.mul_assoc]
    rw [e1] at h4 h5
    have hm := mul_abs (h := k) h6 h7
    have e2 : (2 * (-1) * 1748528 + t) * g = t * g - 3497056 * g := by rw [Int.add_mul]; omega
    refine ⟨?_, ?_, ?_, ?_, ?_, ?_, ?_⟩ <;> (try dsimp only)
    · omega
    · omega
    · omega
    · rw [e2]; omega
    · rw [e2]; omega
    · omega
    · omega
  · rw [show nst 15 0 (g, k) = (g, k) from rfl] at h
    obtain ⟨h1, h2, h3, h4, h5, h6, h7⟩ := h
    dsimp only at h1 h2 h3 h4 h5
    have e2 : 2 * 0 * 1748528 + t = t := by omega
    rw [e2]
    refine ⟨?_, ?_, ?_, ?_, ?_, ?_, ?_⟩ <;> (try dsimp only) <;> omega
  · rw [show nst 15 1 (g, k) = (g * 1073741823 - k * 65536, k * 1073741823 + g * 65536) from by simp [nst]] at h
    obtain ⟨h1, h2, h3, h4, h5, h6, h7⟩ := h
    dsimp only at h1 h2 h3 h4 h5
    have e1 : t * (g * 1073741823 - k * 65536) = (t * g) * 1073741823 - (t * k) * 65536 := by rw [Int.mul_sub, Int.mul_assoc, Int.mul_assoc]
    rw [e1] at h4 h5
    have hm := mul_abs (h := k) h6 h7
    have e2 : (2 * 1 * 1748528 + t) * g = t * g + 3497056 * g := by rw [Int.add_mul]; omega
    refine ⟨?_, ?_, ?_, ?_, ?_, ?_, ?_⟩ <;> (try dsimp only)
    · omega
    · omega
    · omega
    · rw [e2]; omega
    · rw [e2]; omega
    · omega
    · omega
theorem inv_14 (dl : Int) (hd : dl = -1 ∨ dl = 0 ∨ dl = 1) (p : Int × Int) (t : Int) (h : Inv 145147331 572981 6990698 (nst 14 dl p) t) : Inv 279365066 572983 13984812 p (2 * dl * tbl 14 + t) := by
  obtain ⟨g, k⟩ := p
  have ht : tbl 14 = 3497057 := rfl
  rw [ht]
  rcases hd with rfl | rfl | rfl
  · rw [show nst 14 (-1) (g, k) = (g * 268435455 + k * 32768, k * 268435455 - g * 32768) from by simp [nst]; omega] at h
    obtain ⟨h1, h2, h3, h4, h5, h6, h7⟩ := h
    dsimp only at h1 h2 h3 h4 h5
    have e1 : t * (g * 268435455 + k * 32768) = (t * g) * 268435455 + (t * k) * 32768 := by rw [Int.mul_add, Int.mul_assoc, Int.mul_assoc]
    rw [e1] at h4 h5
    have hm := mul_abs (h := k) h6 h7
    have e2 : (2 * (-1) * 3497057 + t) * g = t * g - 6994114 * g := by rw [Int.add_mul]; omega
    refine ⟨?_, ?_, ?_, ?_, ?_, ?_, ?_⟩ <;> (try dsimp only)
    · omega
    · omega
    · omega
    · rw [e2]; omega
    · rw [e2]; omega
    · omega
    · omega
  · rw [show nst 14 0 (g, k) = (g, k) from rfl] at h
    obtain ⟨h1, h2, h3, h4, h5, h6, h7⟩ := h
    dsimp only at h1 h2 h3 h4 h5
    have e2 : 2 * 0 * 3497057 + t = t := by omega
    rw [e2]
    refine ⟨?_, ?_, ?_, ?_, ?_, ?_, ?_⟩ <;> (try dsimp only) <;> omega
  · rw [show nst 14 1 (g, k) = (g * 268435455 - k * 32768, k * 268435455 + g * 32768) from by simp [nst]] at h
    obtain ⟨h1, h2, h3, h4, h5, h6, h7⟩ := h
    dsimp only at h1 h2 h3 h4 h5
    have e1 : t * (g * 268435455 - k * 32768) = (t * g) * 268435455 - (t * k) * 32768 := by rw [Int.mul_sub, Int.mul_assoc, Int.mul_assoc]
    rw [e1] at h4 h5
    have hm := mul_abs (h := k) h6 h7
    have e2 : (2 * 1 * 3497057 + t) * g = t * g + 6994114 * g := by rw [Int.add_mul]; omega
    refine ⟨?_, ?_, ?_, ?_, ?_, ?_, ?_⟩ <;> (try dsimp only)
    · omega
    · omega
    · omega
    · rw [e2]; omega
    · rw [e2]; omega
    · omega
    · omega
theorem inv_13 (dl : Int) (hd : dl = -1 ∨ dl = 0 ∨ dl = 1) (p : Int × Int) (t : Int) (h : Inv 279365066 572983 13984812 (nst 13 dl p) t) : Inv 547800561 572987 27973040 p (2 * dl * tbl 13 + t) := by
  obtain ⟨g, k⟩ := p
  have ht : tbl 13 = 6994114 := rfl
  rw [ht]
  rcases hd with rfl | rfl | rfl
  · rw [show nst 13 (-1) (g, k) = (g * 67108863 + k * 16384, k * 67108863 - g * 16384) from by simp [nst]; omega] at h
    obtain ⟨h1, h2, h3, h4, h5, h6, h7⟩ := h
    dsimp only at h1 h2 h3 h4 h5
    have e1 : t * (g * 67108863 + k * 16384) = (t * g) * 67108863 + (t * k) * 16384 := by rw [Int.mul_add, Int.mul_assoc, Int.mul_assoc]
    rw [e1] at h4 h5
    have hm := mul_abs (h := k) h6 h7
    have e2 : (2 * (-1) * 6994114 + t) * g = t * g - 13988228 * g := by rw [Int.add_mul]; omega
    refine ⟨?_, ?_, ?_, ?_, ?_, ?_, ?_⟩ <;> (try dsimp only)
    · omega
    · omega
    · omega
    · rw [e2]; omega
    · rw [e2]; omega
    · omega
    · omega
  · rw [show nst 13 0 (g, k) = (g, k) from rfl] at h
    obtain ⟨h1, h2, h3, h4, h5, h6, h7⟩ := h
    dsimp only at h1 h2 h3 h4 h5
    have e2 : 2 * 0 * 6994114 + t = t := by omega
    rw [e2]
    refine ⟨?_, ?_, ?_, ?_, ?_, ?_, ?_⟩ <;> (try dsimp only) <;> omega
  · rw [show nst 13 1 (g, k) = (g * 67108863 - k * 16384, k * 67108863 + g * 16384) from by simp [nst]] at h
    obtain ⟨h1, h2, h3, h4, h5, h6, h7⟩ := h
    dsimp only at h1 h2 h3 h4 h5
    have e1 : t * (g * 67108863 - k * 16384) = (t * g) * 67108863 - (t * k) * 16384 := by rw [Int.mul_sub, Int.mul_assoc, Int.mul_assoc]
    rw [e1] at h4 h5
    have hm := mul_abs (h := k) h6 h7
    have e2 : (2 * 1 * 6994114 + t) * g = t * g + 13988228 * g := by rw [Int.add_mul]; omega
    refine ⟨?_, ?_, ?_, ?_, ?_, ?_, ?_⟩ <;> (try dsimp only)
    · omega
    · omega
    · omega
    · rw [e2]; omega
    · rw [e2]; omega
    · omega
    · omega
theorem inv_12 (dl : Int) (hd : dl = -1 ∨ dl = 0 ∨ dl = 1) (p : Int × Int) (t : Int) (h : Inv 547800561 572987 27973040 (nst 12 dl p) t) : Inv 1084671770 573005 55949494 p (2 * dl * tbl 12 + t) := by
  obtain ⟨g, k⟩ := p
  have ht : tbl 12 = 13988227 := rfl
  rw [ht]
  rcases hd with rfl | rfl | rfl
  · rw [show nst 12 (-1) (g, k) = (g * 16777215 + k * 8192, k * 16777215 - g * 8192) from by simp [nst]; omega] at h
    obtain ⟨h1, h2, h3, h4, h5, h6, h7⟩ := h
    dsimp only at h1 h2 h3 h4 h5
    have e1 : t * (g * 16777215 + k * 8192) = (t * g) * 16777215 + (t * k) * 8192 := by rw [Int.mul_add, Int.mul_assoc, Int.mul_assoc]
    rw [e1] at h4 h5
    have hm := mul_abs (h := k) h6 h7
    have e2 : (2 * (-1) * 13988227 + t) * g = t * g - 27976454 * g := by rw [Int.add_mul]; omega
    refine ⟨?_, ?_, ?_, ?_, ?_, ?_, ?_⟩ <;> (try dsimp only)
    · omega
    · omega
    · omega
    · rw [e2]; omega
    · rw [e2]; omega
    · omega
    · omega
  · rw [show nst 12 0 (g, k) = (g, k) from rfl] at h
    obtain ⟨h1, h2, h3, h4, h5, h6, h7⟩ := h
    dsimp only at h1 h2 h3 h4 h5
    have e2 : 2 * 0 * 13988227 + t = t := by omega
    rw [e2]
    refine ⟨?_, ?_, ?_, ?_, ?_, ?_, ?_⟩ <;> (try dsimp only) <;> omega
  · rw [show nst 12 1 (g, k) = (g * 16777215 - k * 8192, k * 16777215 + g * 8192) from by simp [nst]] at h
    obtain ⟨h1, h2, h3, h4, h5, h6, h7⟩ := h
    dsimp only at h1 h2 h3 h4 h5
    have e1 : t * (g * 16777215 - k * 8192) = (t * g) * 16777215 - (t * k) * 8192 := by rw [Int.mul_sub, Int.mul_assoc, Int.mul_assoc]
    rw [e1] at h4 h5
    have hm := mul_abs (h := k) h6 h7
    have e2 : (2 * 1 * 13988227 + t) * g = t * g + 27976454 * g := by rw [Int.add_mul]; omega
    refine ⟨?_, ?_, ?_, ?_, ?_, ?_, ?_⟩ <;> (try dsimp only)
    · omega
    · omega
    · omega
    · rw [e2]; omega
    · rw [e2]; omega
    · omega
    · omega
theorem inv_11 (dl : Int) (hd : dl = -1 ∨ dl = 0 ∨ dl = 1) (p : Int × Int) (t : Int) (h : Inv 1084671770 573005 55949494 (nst 11 dl p) t) : Inv 2158415931 573132 111902400 p (2 * dl * tbl 11 + t) := by
  obtain ⟨g, k⟩ := p
  have ht : tbl 11 = 27976453 := rfl
  rw [ht]
  rcases hd with rfl | rfl | rfl
  · rw [show nst 11 (-1) (g, k) = (g * 4194303 + k * 4096, k * 4194303 - g * 4096) from by simp [nst]; omega] at h
    obtain ⟨h1, h2, h3, h4, h5, h6, h7⟩ := h
    dsimp only at h1 h2 h3 h4 h5
    have e1 : t * (g * 4194303 + k * 4096) = (t * g) * 4194303 + (t * k) * 4096 := by rw [Int.mul_add, Int.mul_assoc, Int.mul_assoc]
    rw [e1] at h4 h5
    have hm := mul_abs (h := k) h6 h7
    have e2 : (2 * (-1) * 27976453 + t) * g = t * g - 55952906 * g := by rw [Int.add_mul]; omega
    refine ⟨?_, ?_, ?_, ?_, ?_, ?_, ?_⟩ <;> (try dsimp only)
    · omega
    · omega
    · omega
    · rw [e2]; omega
    · rw [e2]; omega
    · omega
    · omega
  · rw [show nst 11 0 (g, k) = (g, k) from rfl] at h
    obtain ⟨h1, h2, h3, h4, h5, h6, h7⟩ := h
    dsimp only at h1 h2 h3 h4 h5
    have e2 : 2 * 0 * 27976453 + t = t := by omega
    rw [e2]
    refine ⟨?_, ?_, ?_, ?_, ?_, ?_, ?_⟩ <;> (try dsimp only) <;> omega
  · rw [show nst 11 1 (g, k) = (g * 4194303 - k * 4096, k * 4194303 + g * 4096) from by simp [nst]] at h
    obtain ⟨h1, h2, h3, h4, h5, h6, h7⟩ := h
    dsimp only at h1 h2 h3 h4 h5
    have e1 : t * (g * 4194303 - k * 4096) = (t * g) * 4194303 - (t * k) * 4096 := by rw [Int.mul_sub, Int.mul_assoc, Int.mul_assoc]
    rw [e1] at h4 h5
    have hm := mul_abs (h := k) h6 h7
    have e2 : (2 * 1 * 27976453 + t) * g = t * g + 55952906 * g := by rw [Int.add_mul]; omega
    refine ⟨?_, ?_, ?_, ?_, ?_, ?_, ?_⟩ <;> (try dsimp only)
    · omega
    · omega
    · omega
    · rw [e2]; omega
    · rw [e2]; omega
    · omega
    · omega
theorem inv_10 (dl : Int) (hd : dl = -1 ∨ dl = 0 ∨ dl = 1) (p : Int × Int) (t : Int) (h : Inv 2158415931 573132 111902400 (nst 10 dl p) t) : Inv 4305918138 574136 223808184 p (2 * dl * tbl 10 + t) := by
  obtain ⟨g, k⟩ := p
  have ht : tbl 10 = 55952892 := rfl
  rw [ht]
  rcases hd with rfl | rfl | rfl
  · rw [show nst 10 (-1) (g, k) = (g * 1048575 + k * 2048, k * 1048575 - g * 2048) from by simp [nst]; omega] at h
    obtain ⟨h1, h2, h3, h4, h5, h6, h7⟩ := h
    dsimp only at h1 h2 h3 h4 h5
    have e1 : t * (g * 1048575 + k * 2048) = (t * g) * 1048575 + (t * k) * 2048 := by rw [Int.mul_add, Int.mul_assoc, Int.mul_assoc]
    rw [e1] at h4 h5
    have hm := mul_abs (h := k) h6 h7
    have e2 : (2 * (-1) * 55952892 + t) * g = t * g - 111905784 * g := by rw [Int.add_mul]; omega
    refine ⟨?_, ?_, ?_, ?_, ?_, ?_, ?_⟩ <;> (try dsimp only)
    · omega
    · omega
    · omega
    · rw [e2]; omega
    · rw [e2]; omega
    · omega
    · omega
  · rw [show nst 10 0 (g, k) = (g, k) from rfl] at h
    obtain ⟨h1, h2, h3, h4, h5, h6, h7⟩ := h
    dsimp only at h1 h2 h3 h4 h5
    have e2 : 2 * 0 * 55952892 + t = t := by omega
    rw [e2]
    refine ⟨?_, ?_, ?_, ?_, ?_, ?_, ?_⟩ <;> (try dsimp only) <;> omega
  · rw [show nst 10 1 (g, k) = (g * 1048575 - k * 2048, k * 1048575 + g * 2048) from by simp [nst]] at h
    obtain ⟨h1, h2, h3, h4, h5, h6, h7⟩ := h
    dsimp only at h1 h2 h3 h4 h5
    have e1 : t * (g * 1048575 - k * 2048) = (t * g) * 1048575 - (t * k) * 2048 := by rw [Int.mul_sub, Int.mul_assoc, Int.mul_assoc]
    rw [e1] at h4 h5
    have hm := mul_abs (h := k) h6 h7
    have e2 : (2 * 1 * 55952892 + t) * g = t * g + 111905784 * g := by rw [Int.add_mul]; omega
    refine ⟨?_, ?_, ?_, ?_, ?_, ?_, ?_⟩ <;> (try dsimp only)
    · omega
    · omega
    · omega
    · rw [e2]; omega
    · rw [e2]; omega
    · omega
    · omega
theorem inv_9 (dl : Int) (hd : dl = -1 ∨ dl = 0 ∨ dl = 1) (p : Int × Int) (t : Int) (h : Inv 4305918138 574136 223808184 (nst 9 dl p) t) : Inv 8601033396 582132 447619538 p (2 * dl * tbl 9 + t) := by
  obtain ⟨g, k⟩ := p
  have ht : tbl 9 = 111905677 := rfl
  rw [ht]
  rcases hd with rfl | rfl | rfl
  · rw [show nst 9 (-1) (g, k) = (g * 262143 + k * 1024, k * 262143 - g * 1024) from by simp [nst]; omega] at h
    obtain ⟨h1, h2, h3, h4, h5, h6, h7⟩ := h
    dsimp only at h1 h2 h3 h4 h5
    have e1 : t * (g * 262143 + k * 1024) = (t * g) * 262143 + (t * k) * 1024 := by rw [Int.mul_add, Int.mul_assoc, Int.mul_assoc]
    rw [e1] at h4 h5
    have hm := mul_abs (h := k) h6 h7
    have e2 : (2 * (-1) * 111905677 + t) * g = t * g - 223811354 * g := by rw [Int.add_mul]; omega
    refine ⟨?_, ?_, ?_, ?_, ?_, ?_, ?_⟩ <;> (try dsimp only)
    · omega
    · omega
    · omega
    · rw [e2]; omega
    · rw [e2]; omega
    · omega
    · omega
  · rw [show nst 9 0 (g, k) = (g, k) from rfl] at h
    obtain ⟨h1, h2, h3, h4, h5, h6, h7⟩ := h
    dsimp only at h1 h2 h3 h4 h5
    have e2 : 2 * 0 * 111905677 + t = t := by omega
    rw [e2]
    refine ⟨?_, ?_, ?_, ?_, ?_, ?_, ?_⟩ <;> (try dsimp only) <;> omega
  · rw [show nst 9 1 (g, k) = (g * 262143 - k * 1024, k * 262143 + g * 1024) from by simp [nst]] at h
    obtain ⟨h1, h2, h3, h4, h5, h6, h7⟩ := h
    dsimp only at h1 h2 h3 h4 h5
    have e1 : t * (g * 262143 - k * 1024) = (t * g) * 262143 - (t * k) * 1024 := by rw [Int.mul_sub, Int.mul_assoc, Int.mul_assoc]
    rw [e1] at h4 h5
    have hm := mul_abs (h := k) h6 h7
    have e2 : (2 * 1 * 111905677 + t) * g = t * g + 223811354 * g := by rw [Int.add_mul]; omega
    refine ⟨?_, ?_, ?_, ?_, ?_, ?_, ?_⟩ <;> (try dsimp only)
    · omega
    · omega
    · omega
    · rw [e2]; omega
    · rw [e2]; omega
    · omega
    · omega
theorem inv_8 (dl : Int) (hd : dl = -1 ∨ dl = 0 ∨ dl = 1) (p : Int × Int) (t : Int) (h : Inv 8601033396 582132 447619538 (nst 8 dl p) t) : Inv 17192149761 645993 895240538 p (2 * dl * tbl 8 + t) := by
  obtain ⟨g, k⟩ := p
  have ht : tbl 8 = 223810500 := rfl
  rw [ht]
  rcases hd with rfl | rfl | rfl
  · rw [show nst 8 (-1) (g, k) = (g * 65535 + k * 512, k * 65535 - g * 512) from by simp [nst]; omega] at h
    obtain ⟨h1, h2, h3, h4, h5, h6, h7⟩ := h
    dsimp only at h1 h2 h3 h4 h5
    have e1 : t * (g * 65535 + k * 512) = (t * g) * 65535 + (t * k) * 512 := by rw [Int.mul_add, Int.mul_assoc, Int.mul_assoc]
    rw [e1] at h4 h5
    have hm := mul_abs (h := k) h6 h7
    have e2 : (2 * (-1) * 223810500 + t) * g = t * g - 447621000 * g := by rw [Int.add_mul]; omega
    refine ⟨?_, ?_, ?_, ?_, ?_, ?_, ?_⟩ <;> (try dsimp only)
    · omega
    · omega
    · omega
    · rw [e2]; omega
    · rw [e2]; omega
    · omega
    · omega
  · rw [show nst 8 0 (g, k) = (g, k) from rfl] at h
    obtain ⟨h1, h2, h3, h4, h5, h6, h7⟩ := h
    dsimp only at h1 h2 h3 h4 h5
    have e2 : 2 * 0 * 223810500 + t = t := by omega
    rw [e2]
    refine ⟨?_, ?_, ?_, ?_, ?_, ?_, ?_⟩ <;> (try dsimp only) <;> omega
  · rw [show nst 8 1 (g, k) = (g * 65535 - k * 512, k * 65535 + g * 512) from by simp [nst]] at h
    obtain ⟨h1, h2, h3, h4, h5, h6, h7⟩ := h
    dsimp only at h1 h2 h3 h4 h5
    have e1 : t * (g * 65535 - k * 512) = (t * g) * 65535 - (t * k) * 512 := by rw [Int.mul_sub, Int.mul_assoc, Int.mul_assoc]
    rw [e1] at h4 h5
    have hm := mul_abs (h := k) h6 h7
    have e2 : (2 * 1 * 223810500 + t) * g = t * g + 447621000 * g := by rw [Int.add_mul]; omega
    refine ⟨?_, ?_, ?_, ?_, ?_, ?_, ?_⟩ <;> (try dsimp only)
    · omega
    · omega
    · omega
    · rw [e2]; omega
    · rw [e2]; omega
    · omega
    · omega
theorem tail_law (dl : Nat → Int) (hd : Sgn dl) (p : Int × Int) (h1 : 0 < (nrun dl 8 18 p).1) (h2 : -(nrun dl 8 18 p).1 ≤ 100000 * (nrun dl 8 18 p).2) (h3 : 100000 * (nrun dl 8 18 p).2 ≤ (nrun dl 8 18 p).1) :
    Inv 17192149761 645993 895240538 p (trun dl 8 18) := by
  have h : Inv 10995117 572959 0 (nrun dl 8 18 p) 0 := by
    generalize nrun dl 8 18 p = z at h1 h2 h3
    refine ⟨h1, ?_, ?_, ?_, ?_, ?_, ?_⟩ <;> omega
  simp only [nrun, trun] at h ⊢
  replace h := inv_25 (dl 25) (hd 25) _ _ h
  replace h := inv_24 (dl 24) (hd 24) _ _ h
  replace h := inv_23 (dl 23) (hd 23) _ _ h
  replace h := inv_22 (dl 22) (hd 22) _ _ h
  replace h := inv_21 (dl 21) (hd 21) _ _ h
  replace h := inv_20 (dl 20) (hd 20) _ _ h
  replace h := inv_19 (dl 19) (hd 19) _ _ h
  replace h := inv_18 (dl 18) (hd 18) _ _ h
  replace h := inv_17 (dl 17) (hd 17) _ _ h
  replace h := inv_16 (dl 16) (hd 16) _ _ h
  replace h := inv_15 (dl 15) (hd 15) _ _ h
  replace h := inv_14 (dl 14) (hd 14) _ _ h
  replace h := inv_13 (dl 13) (hd 13) _ _ h
  replace h := inv_12 (dl 12) (hd 12) _ _ h
  replace h := inv_11 (dl 11) (hd 11) _ _ h
  replace h := inv_10 (dl 10) (hd 10) _ _ h
  replace h := inv_9 (dl 9) (hd 9) _ _ h
  replace h := inv_8 (dl 8) (hd 8) _ _ h
  exact h
/-- Every beginning is tried. -/
def pre : Nat → Nat → Int → Int → Int → Bool
  | 0, _, g, h, t => !(decide (0 < g) && decide (-(17192149761 * g) ≤ 1099511627776 * h) && decide (1099511627776 * h ≤ 17192149761 * g)) || (decide (-(73000 * g) ≤ 57295779513 * h - t * g) && decide (57295779513 * h - t * g ≤ 73000 * g)) || (decide (-(73000 * g) ≤ 57295779513 * h - (t - 360000000000) * g) && decide (57295779513 * h - (t - 360000000000) * g ≤ 73000 * g))
  | k + 1, j, g, h, t => pre k (j + 1) g h t && pre k (j + 1) (g * (4 ^ j - 1) - h * 2 ^ (j + 1)) (h * (4 ^ j - 1) + g * 2 ^ (j + 1)) (t + 2 * tbl j) && pre k (j + 1) (g * (4 ^ j - 1) + h * 2 ^ (j + 1)) (h * (4 ^ j - 1) - g * 2 ^ (j + 1)) (t - 2 * tbl j)
theorem pre_spec (dl : Nat → Int) (hd : Sgn dl) : ∀ (k j : Nat) (g h t : Int), pre k j g h t = true →
    pre 0 0 (nrun dl j k (g, h)).1 (nrun dl j k (g, h)).2 (t + trun dl j k) = true := by
  intro k
  induction k with
  | zero =>
    intro j g h t hp
    rw [show pre 0 j g h t = pre 0 0 g h t from rfl] at hp
    simp only [nrun, trun, Int.add_zero]
    exact hp
  | succ k ih =>
    intro j g h t hp
    simp only [pre, Bool.and_eq_true] at hp
    obtain ⟨⟨h0, h1⟩, h2⟩ := hp
    simp only [nrun, trun]
    rcases hd j with e | e | e
    · rw [e, show nst j (-1) (g, h) = (g * (4 ^ j - 1) + h * 2 ^ (j + 1), h * (4 ^ j - 1) - g * 2 ^ (j + 1)) from by simp [nst, Int.mul_neg, Int.sub_eq_add_neg], show t + (2 * -1 * tbl j + trun dl (j + 1) k) = (t - 2 * tbl j) + trun dl (j + 1) k by omega]
      exact ih _ _ _ _ h2
    · rw [e, show nst j 0 (g, h) = (g, h) from rfl, show t + (2 * 0 * tbl j + trun dl (j + 1) k) = t + trun dl (j + 1) k by omega]
      exact ih _ _ _ _ h0
    · rw [e, show nst j 1 (g, h) = (g * (4 ^ j - 1) - h * 2 ^ (j + 1), h * (4 ^ j - 1) + g * 2 ^ (j + 1)) from by simp [nst], show t + (2 * 1 * tbl j + trun dl (j + 1) k) = (t + 2 * tbl j) + trun dl (j + 1) k by omega]
      exact ih _ _ _ _ h1
theorem pre_0 : pre 8 0 1 0 0 = true := by decide +kernel
theorem pre_1 : pre 8 0 0 1 90000000000 = true := by decide +kernel
theorem pre_2 : pre 8 0 (-1) 0 180000000000 = true := by decide +kernel
theorem pre_3 : pre 8 0 0 (-1) 270000000000 = true := by decide +kernel
theorem pre_m (m : Nat) (h : m < 4) : pre 8 0 (trn (1, 0) m).1 (trn (1, 0) m).2 (90000000000 * (m : Int)) = true := by
  have c : m = 0 ∨ m = 1 ∨ m = 2 ∨ m = 3 := by omega
  rcases c with rfl | rfl | rfl | rfl
  · exact pre_0
  · exact pre_1
  · exact pre_2
  · exact pre_3
/-- THE LAW OF SIGNS. -/
theorem sign_law (dl : Nat → Int) (hd : Sgn dl) (m : Nat) (hm : m < 4) (h1 : 0 < (nrun dl 0 26 (trn (1, 0) m)).1) (h2 : -(nrun dl 0 26 (trn (1, 0) m)).1 ≤ 100000 * (nrun dl 0 26 (trn (1, 0) m)).2) (h3 : 100000 * (nrun dl 0 26 (trn (1, 0) m)).2 ≤ (nrun dl 0 26 (trn (1, 0) m)).1) :
    ∃ q : Int, -718993 ≤ 90000000000 * (m : Int) + trun dl 0 26 - 360000000000 * q ∧ 90000000000 * (m : Int) + trun dl 0 26 - 360000000000 * q ≤ 718993 := by
  have e := nrun_add dl 0 8 18 (trn (1, 0) m)
  rw [show 8 + 18 = 26 from rfl, show 0 + 8 = 8 from rfl] at e
  rw [e] at h1 h2 h3
  have et := trun_add dl 0 8 18
  rw [show 8 + 18 = 26 from rfl, show 0 + 8 = 8 from rfl] at et
  have hi := tail_law dl hd _ h1 h2 h3
  have hp := pre_spec dl hd 8 0 _ _ _ (pre_m m hm)
  rw [show ((trn (1, 0) m).1, (trn (1, 0) m).2) = trn (1, 0) m from rfl] at hp
  rw [et]
  generalize nrun dl 0 8 (trn (1, 0) m) = z at hi hp
  generalize trun dl 0 8 = t0 at hp ⊢
  generalize trun dl 8 18 = t1 at hi ⊢
  obtain ⟨g, h⟩ := z
  obtain ⟨i1, i2, i3, i4, i5, i6, i7⟩ := hi
  dsimp only at i1 i2 i3 i4 i5 hp
  simp only [pre, Bool.or_eq_true, Bool.and_eq_true, Bool.not_eq_true', Bool.and_eq_false_iff, decide_eq_true_eq, decide_eq_false_iff_not] at hp
  have fin : ∀ T : Int, -(73000 * g) ≤ 57295779513 * h - T * g → 57295779513 * h - T * g ≤ 73000 * g → -718993 ≤ T + t1 ∧ T + t1 ≤ 718993 := by
    intro T a b
    have s1 : (T + t1) * g ≤ 718993 * g := by rw [Int.add_mul]; omega
    have s2 : (-718993) * g ≤ (T + t1) * g := by rw [Int.add_mul]; omega
    exact ⟨Int.le_of_mul_le_mul_right s2 i1, Int.le_of_mul_le_mul_right s1 i1⟩
  rcases hp with (hp | ⟨a, b⟩) | ⟨a, b⟩
  · omega
  · have := fin _ a b
    exact ⟨0, by omega, by omega⟩
  · have := fin _ a b
    exact ⟨1, by omega, by omega⟩
end Go.Proofs.YtdipainocdgfgaaDoor
