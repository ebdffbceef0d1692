/- Plain words and laws of what fixed computes with MulDiv. No program in sight. Conditions: the premises of each lemma. -/
import Derived.Test.YtdipainocdgfgaaDoorPl
import Derived.Test.YtdipainocdgfgaaDoorPle
namespace Go.Proofs.YtdipainocdgfgaaDoor
set_option linter.unusedVariables false
set_option linter.unusedSimpArgs false

/-- A product or quotient as a number, or ErrRange. -/
def scaS (a b c : Int) : Int × Int := if (mdS a b c 2).2 then chk (mdS a b c 2).1 else (0, 3)
def mulS (a b : Int) : Int × Int := if vld a && vld b then scaS a b 1000000 else (0, 1)
def divS (a b : Int) : Int × Int := if vld a && vld b then (if b = 0 then (0, 4) else scaS a 1000000 b) else (0, 1)
/-- An integer, as a number: rounded by the mode. -/
def intS (a mode : Int) : Int := (mdS a 1 1000000 mode).1 * 1000000
/-- A length, or its error. -/
def lenR (r : Int × Bool) : Int × Int := if r.2 = true ∧ -1048576 ≤ r.1 ∧ r.1 ≤ 1048576 then (r.1, 0) else (0, 3)
def lenS (a u : Int) : Int × Int :=
  if vld a = true ∧ (u = 20 ∨ u = 21) then lenR (if u = 20 then mdS a 254 10000 2 else mdS a 1 1000 2) else (0, 1)
theorem lenS_no {a u : Int} (h : vld a = false ∨ (u ≠ 20 ∧ u ≠ 21)) : lenS a u = (0, 1) := by
  unfold lenS; rw [if_neg]; rintro ⟨h1, h2⟩; rcases h with h | h
  · rw [h] at h1; cases h1
  · omega
theorem lenS_20 {a : Int} (h : vld a = true) : lenS a 20 = lenR (mdS a 254 10000 2) := by unfold lenS; simp [h]
theorem lenS_21 {a : Int} (h : vld a = true) : lenS a 21 = lenR (mdS a 1 1000 2) := by unfold lenS; simp [h]
theorem lenR_yes {n : Int} (h1 : -1048576 ≤ n) (h2 : n ≤ 1048576) : lenR (n, true) = (n, 0) := by unfold lenR; simp [h1, h2]
theorem lenR_no {n : Int} {b : Bool} (h : b = false ∨ n < -1048576 ∨ 1048576 < n) : lenR (n, b) = (0, 3) := by
  unfold lenR; rw [if_neg]; rintro ⟨h1, h2, h3⟩; rcases h with h | h | h
  · simp at h1; rw [h] at h1; cases h1
  · simp at h2; omega
  · simp at h3; omega
theorem mulS_yes {a b : Int} (ha : vld a = true) (hb : vld b = true) : mulS a b = scaS a b 1000000 := by unfold mulS; simp [ha, hb]
theorem mulS_no {a b : Int} (h : (vld a && vld b) = false) : mulS a b = (0, 1) := by unfold mulS; simp [h]
theorem divS_yes {a b : Int} (ha : vld a = true) (hb : vld b = true) (h : b ≠ 0) : divS a b = scaS a 1000000 b := by unfold divS; simp [ha, hb, h]
theorem divS_no {a b : Int} (h : (vld a && vld b) = false) : divS a b = (0, 1) := by unfold divS; simp [h]
theorem divS_zero {a : Int} (h : vld a = true) : divS a 0 = (0, 4) := by unfold divS; rw [h, vld_mk (by omega) (by omega)]; rfl

/-- The rounded quotient by a positive divisor. -/
def rnd (mode p c : Int) : Int := if mode = 0 then p / c else if mode = 1 then -(-p / c) else (2 * p + c) / (2 * c)

theorem ediv_of {p c q r : Int} (hc : 0 < c) (h : r + c * q = p) (h0 : 0 ≤ r) (h1 : r < c) : p / c = q := ((Int.ediv_emod_unique hc).2 ⟨h, h0, h1⟩).1

/-- What MulDiv returns for a positive divisor where the result is not too large. -/
theorem mdS_rnd (a b c mode : Int) (hc : 0 < c) (hm0 : 0 ≤ mode) (hm1 : mode ≤ 2) (hs : mg a * mg b / c < 9223372036854775807) : mdS a b c mode = (rnd mode (a * b) c, true) := by
  unfold mdS mdA
  rw [mg_pos (Int.le_of_lt hc)]
  have hx : mg a * mg b = mg (a * b) := mg_mul a b
  rw [hx] at hs ⊢
  have hd := Int.mul_ediv_add_emod (mg (a * b)) c
  have h0 := Int.emod_nonneg (mg (a * b)) (b := c) (by omega)
  have h1 := Int.emod_lt_of_pos (mg (a * b)) hc
  have hq := Int.ediv_nonneg (mg_nonneg (a * b)) (Int.le_of_lt hc)
  have hng : ngt a b c = decide (a * b < 0) := by
    unfold ngt sg
    by_cases ha : a = 0
    · subst ha; simp
    by_cases hb : b = 0
    · subst hb; simp
    rw [if_neg (by omega)]
    by_cases h : (a < 0 ↔ b < 0)
    · rw [if_pos h]
      have : ¬ a * b < 0 := by
        rcases Int.lt_or_le a 0 with ha' | ha'
        · have := Int.mul_nonneg_of_nonpos_of_nonpos (show a ≤ 0 by omega) (show b ≤ 0 by omega); omega
        · have := Int.mul_nonneg ha' (show 0 ≤ b by omega); omega
      simp [this]; omega
    · rw [if_neg h]
      have : a * b < 0 := by
        rcases Int.lt_or_le a 0 with ha' | ha'
        · exact Int.mul_neg_of_neg_of_pos ha' (by omega)
        · exact Int.mul_neg_of_pos_of_neg (by omega) (by omega)
      simp [this]; omega
  rw [hng]
  generalize mg (a * b) / c = q at *
  generalize mg (a * b) % c = r at *
  generalize hp : a * b = p at *
  have hmg : mg p = if p < 0 then -p else p := by unfold mg; split <;> omega
  have hmode : mode = 0 ∨ mode = 1 ∨ mode = 2 := by omega
  by_cases hneg : p < 0
  · rw [if_pos hneg] at hmg
    rw [hmg] at hd
    have e1 : c * -q = -(c * q) := by rw [Int.mul_neg]
    have e2 : c * (-q - 1) = -(c * q) - c := by rw [Int.mul_sub, Int.mul_neg]; omega
    have e3 : 2 * c * -q = -(2 * (c * q)) := by rw [Int.mul_neg, Int.mul_assoc]
    have e4 : 2 * c * (-q - 1) = -(2 * (c * q)) - 2 * c := by rw [Int.mul_sub, Int.mul_neg, Int.mul_assoc]; omega
    rcases hmode with rfl | rfl | rfl
    · by_cases hr : 0 < r
      · have hr2 : p / c = -q - 1 := ediv_of (r := c - r) hc (by rw [e2]; omega) (by omega) (by omega)
        simp [grw, sgnd, rnd, hneg, hr, hr2]; (first | omega | (rw [if_pos (by omega)]; exact Prod.ext (by dsimp only; omega) rfl))
      · have hr2 : p / c = -q := ediv_of (r := -r) hc (by rw [e1]; omega) (by omega) (by omega)
        simp [grw, sgnd, rnd, hneg, hr, hr2]; (first | omega | (rw [if_pos (by omega)]; exact Prod.ext (by dsimp only; omega) rfl))
    · have hr2 : -p / c = q := ediv_of (r := r) hc (by omega) (by omega) (by omega)
      simp [grw, sgnd, rnd, hneg, hr2]; (first | omega | (rw [if_pos (by omega)]; exact Prod.ext (by dsimp only; omega) rfl))
    · by_cases hr : c - r < r
      · have hr2 : (2 * p + c) / (2 * c) = -q - 1 := ediv_of (r := 3 * c - 2 * r) (by omega) (by rw [e4]; omega) (by omega) (by omega)
        simp [grw, sgnd, rnd, hneg, half_hi hr, hr2]; (first | omega | (rw [if_pos (by omega)]; exact Prod.ext (by dsimp only; omega) rfl))
      · have hr2 : (2 * p + c) / (2 * c) = -q := ediv_of (r := c - 2 * r) (by omega) (by rw [e3]; omega) (by omega) (by omega)
        have hh : half r c = -1 ∨ half r c = 0 := by unfold half; rw [if_neg hr]; split <;> simp
        rcases hh with hh | hh <;> simp [grw, sgnd, rnd, hneg, hh, hr2] <;> (first | omega | (rw [if_pos (by omega)]; exact Prod.ext (by dsimp only; omega) rfl))
  · rw [if_neg hneg] at hmg
    rw [hmg] at hd
    have e1 : c * -q = -(c * q) := by rw [Int.mul_neg]
    have e2 : c * (-q - 1) = -(c * q) - c := by rw [Int.mul_sub, Int.mul_neg]; omega
    have e3 : 2 * c * q = 2 * (c * q) := by rw [Int.mul_assoc]
    have e4 : 2 * c * (q + 1) = 2 * (c * q) + 2 * c := by rw [Int.mul_add, Int.mul_assoc]; omega
    rcases hmode with rfl | rfl | rfl
    · have hr2 : p / c = q := ediv_of (r := r) hc (by omega) (by omega) (by omega)
      simp [grw, sgnd, rnd, hneg, hr2]; (first | omega | (rw [if_pos (by omega)]; exact Prod.ext (by dsimp only; omega) rfl))
    · by_cases hr : 0 < r
      · have hr2 : -p / c = -q - 1 := ediv_of (r := c - r) hc (by rw [e2]; omega) (by omega) (by omega)
        simp [grw, sgnd, rnd, hneg, hr, hr2]; (first | omega | (rw [if_pos (by omega)]; exact Prod.ext (by dsimp only; omega) rfl))
      · have hr2 : -p / c = -q := ediv_of (r := -r) hc (by rw [e1]; omega) (by omega) (by omega)
        simp [grw, sgnd, rnd, hneg, hr, hr2]; (first | omega | (rw [if_pos (by omega)]; exact Prod.ext (by dsimp only; omega) rfl))
    · by_cases hr : r < c - r
      · have hr2 : (2 * p + c) / (2 * c) = q := ediv_of (r := 2 * r + c) (by omega) (by rw [e3]; omega) (by omega) (by omega)
        simp [grw, sgnd, rnd, hneg, half_lo hr, hr2]; (first | omega | (rw [if_pos (by omega)]; exact Prod.ext (by dsimp only; omega) rfl))
      · have hr2 : (2 * p + c) / (2 * c) = q + 1 := ediv_of (r := 2 * r - c) (by omega) (by rw [e4]; omega) (by omega) (by omega)
        have hh : half r c = 1 ∨ half r c = 0 := by unfold half; rw [if_neg hr]; split <;> simp
        rcases hh with hh | hh <;> simp [grw, sgnd, rnd, hneg, hh, hr2] <;> (first | omega | (rw [if_pos (by omega)]; exact Prod.ext (by dsimp only; omega) rfl))

theorem mg_one : mg 1 = 1 := rfl
theorem mg_div_le {a : Int} (h : vld a = true) (c : Int) (hc : 0 < c) (b : Int) (hb0 : 0 ≤ b) (hb : b ≤ 1000000) : mg a * mg b / c < 9223372036854775807 ∨ 1000 < b := by
  by_cases hb2 : b ≤ 1000
  · left
    have k := vld_yes h
    have h1 : mg a ≤ 1000000000000000 := by unfold mg; omega
    rw [mg_pos hb0]
    have h2 := Int.mul_le_mul h1 hb2 hb0 (by omega)
    have h3 : mg a * b / c ≤ mg a * b := Int.ediv_le_self _ (Int.mul_nonneg (mg_nonneg a) hb0)
    omega
  · right; omega
theorem mdS_int {a mode : Int} (h : vld a = true) (hm0 : 0 ≤ mode) (hm1 : mode ≤ 2) : mdS a 1 1000000 mode = (rnd mode a 1000000, true) := by
  have := mdS_rnd a 1 1000000 mode (by omega) hm0 hm1 (by have := mg_div_le h 1000000 (by omega) 1 (by omega) (by omega); omega)
  rwa [Int.mul_one] at this
theorem mdS_mm {a : Int} (h : vld a = true) : mdS a 1 1000 2 = ((2 * a + 1000) / 2000, true) := by
  have := mdS_rnd a 1 1000 2 (by omega) (by omega) (by omega) (by have := mg_div_le h 1000 (by omega) 1 (by omega) (by omega); omega)
  rw [Int.mul_one] at this
  rw [this]; unfold rnd; simp
theorem mdS_inch {a : Int} (h : vld a = true) : mdS a 254 10000 2 = ((2 * (a * 254) + 10000) / 20000, true) := by
  have := mdS_rnd a 254 10000 2 (by omega) (by omega) (by omega) (by have := mg_div_le h 10000 (by omega) 254 (by omega) (by omega); omega)
  rw [this]; unfold rnd; simp
theorem rnd_bd {a mode : Int} (h : vld a = true) (hm0 : 0 ≤ mode) (hm1 : mode ≤ 2) : -1000000001 ≤ rnd mode a 1000000 ∧ rnd mode a 1000000 ≤ 1000000001 := by
  have k := vld_yes h
  have hmode : mode = 0 ∨ mode = 1 ∨ mode = 2 := by omega
  rcases hmode with rfl | rfl | rfl <;> simp [rnd] <;> omega
def roundS (a : Int) : Int × Int := if vld a then (rnd 2 a 1000000 * 1000000, 0) else (0, 1)
def fixS (a : Int) : Int × Int := if vld a then ((if a < 0 then rnd 1 a 1000000 else rnd 0 a 1000000) * 1000000, 0) else (0, 1)
def fupS (a : Int) : Int × Int := if vld a then ((if a < 0 then rnd 0 a 1000000 else rnd 1 a 1000000) * 1000000, 0) else (0, 1)
def wholeS (a : Int) : Int × Bool := if vld a = true ∧ a % 1000000 = 0 then (a / 1000000, true) else (0, false)
end Go.Proofs.YtdipainocdgfgaaDoor
