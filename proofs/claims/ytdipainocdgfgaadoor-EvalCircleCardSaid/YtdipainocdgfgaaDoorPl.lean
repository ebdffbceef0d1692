/- Plain words and laws of integers for layer 2 (fixed). No program in sight. Conditions: none beyond each lemma's own premises. -/
namespace Go.Proofs.YtdipainocdgfgaaDoor
set_option linter.unusedVariables false
set_option linter.unusedSimpArgs false

theorem tmod_fix (v n : Int) (h : 1 ≤ n) : (v.tmod n < 0 → v.tmod n + n = v % n) ∧ (0 ≤ v.tmod n → v.tmod n = v % n) := by
  have e := Int.tmod_eq_emod (a := v) (b := n)
  have h0 := Int.emod_nonneg v (b := n) (by omega)
  have h1 := Int.emod_lt_of_pos v (b := n) (by omega)
  by_cases c : 0 ≤ v ∨ n ∣ v
  · rw [if_pos c] at e; constructor <;> intro <;> omega
  · rw [if_neg c] at e; constructor <;> intro <;> omega
theorem emod_bd (v n : Int) (h : 1 ≤ n) : 0 ≤ v % n ∧ v % n ≤ n - 1 := ⟨Int.emod_nonneg v (by omega), by have := Int.emod_lt_of_pos v (b := n) (by omega); omega⟩
theorem tmod_bd (v n : Int) (h : 1 ≤ n) : -n < v.tmod n ∧ v.tmod n < n := by
  have e := Int.tmod_eq_emod (a := v) (b := n)
  have h0 := Int.emod_nonneg v (b := n) (by omega)
  have h1 := Int.emod_lt_of_pos v (b := n) (by omega)
  by_cases c : 0 ≤ v ∨ n ∣ v
  · rw [if_pos c] at e; constructor <;> omega
  · rw [if_neg c] at e
    have hne : v % n ≠ 0 := fun h => c (Or.inr (Int.dvd_of_emod_eq_zero h))
    constructor <;> omega

/-- Is n a valid number? -/
def vld (n : Int) : Bool := decide (-1000000000000000 ≤ n ∧ n ≤ 1000000000000000)
theorem vld_yes {n : Int} (h : vld n = true) : -1000000000000000 ≤ n ∧ n ≤ 1000000000000000 := of_decide_eq_true h
theorem vld_no {n : Int} (h : vld n = false) : n < -1000000000000000 ∨ 1000000000000000 < n := by have := of_decide_eq_false h; omega
theorem vld_mk {n : Int} (h : -1000000000000000 ≤ n) (h' : n ≤ 1000000000000000) : vld n = true := decide_eq_true ⟨h, h'⟩
theorem vld_out {n : Int} (h : n < -1000000000000000 ∨ 1000000000000000 < n) : vld n = false := decide_eq_false (by omega)
/-- The number that depends on v, from low to high. -/
def btw (v low high : Int) : Int := low + v % (high - low + 1)
theorem btw_bd (v low high : Int) (h : low ≤ high) : low ≤ btw v low high ∧ btw v low high ≤ high := by
  have := emod_bd v (high - low + 1) (by omega); unfold btw; omega
/-- The valid number that depends on v. -/
def num (v : Int) : Int := btw v (-1000000000000000) 1000000000000000
theorem num_bd (v : Int) : -1000000000000000 ≤ num v ∧ num v ≤ 1000000000000000 := btw_bd v _ _ (by omega)
theorem vld_num (v : Int) : vld (num v) = true := vld_mk (num_bd v).1 (num_bd v).2
/-- A result with its error: the number where it is valid, ErrRange where it is not. -/
def chk (n : Int) : Int × Int := if vld n then (n, 0) else (0, 3)
theorem chk_yes {n : Int} (h : vld n = true) : chk n = (n, 0) := by unfold chk; rw [if_pos h]
theorem chk_no {n : Int} (h : vld n = false) : chk n = (0, 3) := by unfold chk; rw [h]; rfl
def addS (a b : Int) : Int × Int := if vld a && vld b then chk (a + b) else (0, 1)
def subS (a b : Int) : Int × Int := if vld a && vld b then chk (a - b) else (0, 1)
theorem addS_yes {a b : Int} (ha : vld a = true) (hb : vld b = true) : addS a b = chk (a + b) := by unfold addS; simp [ha, hb]
theorem subS_yes {a b : Int} (ha : vld a = true) (hb : vld b = true) : subS a b = chk (a - b) := by unfold subS; simp [ha, hb]
theorem addS_no {a b : Int} (h : (vld a && vld b) = false) : addS a b = (0, 1) := by unfold addS; simp [h]
theorem subS_no {a b : Int} (h : (vld a && vld b) = false) : subS a b = (0, 1) := by unfold subS; simp [h]
def modS (a b : Int) : Int × Int := if vld a && vld b then (if b == 0 then (0, 4) else (a % b, 0)) else (0, 1)
theorem modS_no {a b : Int} (h : (vld a && vld b) = false) : modS a b = (0, 1) := by unfold modS; simp [h]
theorem modS_zero {a : Int} (h : vld a = true) : modS a 0 = (0, 4) := by unfold modS; rw [h, vld_mk (by omega) (by omega)]; rfl
theorem modS_yes {a b : Int} (ha : vld a = true) (hb : vld b = true) (h : b ≠ 0) : modS a b = (a % b, 0) := by unfold modS; simp [ha, hb, h]
/-- The tmod by a divisor of either sign. -/
theorem tmod_any (a b : Int) (h : b ≠ 0) : (a.tmod b < 0 → a.tmod b + max b (-b) = a % b) ∧ (0 ≤ a.tmod b → a.tmod b = a % b) := by
  rcases Int.lt_or_le b 0 with hb | hb
  · have h2 := tmod_fix a (-b) (by omega)
    rw [Int.tmod_neg, Int.emod_neg] at h2
    have e : max b (-b) = -b := by omega
    rw [e]; exact h2
  · have h2 := tmod_fix a b (by omega)
    have e : max b (-b) = b := by omega
    rw [e]; exact h2
theorem tmod_any_bd (a b : Int) (h : b ≠ 0) : - max b (-b) < a.tmod b ∧ a.tmod b < max b (-b) := by
  rcases Int.lt_or_le b 0 with hb | hb
  · have h2 := tmod_bd a (-b) (by omega)
    rw [Int.tmod_neg] at h2
    have e : max b (-b) = -b := by omega
    rw [e]; exact h2
  · have h2 := tmod_bd a b (by omega)
    have e : max b (-b) = b := by omega
    rw [e]; exact h2
end Go.Proofs.YtdipainocdgfgaaDoor
