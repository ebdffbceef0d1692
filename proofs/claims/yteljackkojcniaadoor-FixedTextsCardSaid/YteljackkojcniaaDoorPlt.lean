/- Plain words and laws of counting a text's bytes: what Parse accepts, told by counts of digits, points and others. No program in sight. Conditions: none beyond each lemma's own premises. -/
import Derived.Test.YteljackkojcniaaDoorPlb
namespace Go.Proofs.YteljackkojcniaaDoor
open Go.PlainAid

/-- Digits, points, others, digits behind a point. -/
def cnt : List Int → Nat → Nat → Nat → Nat → Nat × Nat × Nat × Nat
  | [], d, p, o, t => (d, p, o, t)
  | c :: cs, d, p, o, t => if dgt c then cnt cs (d + 1) p o (t + p) else if c = 46 then cnt cs d (p + 1) o t else cnt cs d p (o + 1) t
theorem cnt_dgt {c : Int} {cs : List Int} {d p o t : Nat} (h : dgt c = true) : cnt (c :: cs) d p o t = cnt cs (d + 1) p o (t + p) := by rw [cnt]; simp [h]
theorem cnt_pt {c : Int} {cs : List Int} {d p o t : Nat} (h : c = 46) : cnt (c :: cs) d p o t = cnt cs d (p + 1) o t := by
  have : dgt c = false := dgt_out (by omega)
  rw [cnt, this]; simp [h]
theorem cnt_no {c : Int} {cs : List Int} {d p o t : Nat} (h : dgt c = false) (h' : c ≠ 46) : cnt (c :: cs) d p o t = cnt cs d p (o + 1) t := by rw [cnt]; simp [h, h']
/-- What the law asks of the counts. -/
def Good (r : Nat × Nat × Nat × Nat) : Prop := r.2.1 ≤ 1 ∧ r.2.2.1 = 0 ∧ r.1 ≤ 9 + r.2.2.2 ∧ r.2.2.2 ≤ 6
theorem cnt_mono (l : List Int) : ∀ d p o t, p ≤ (cnt l d p o t).2.1 ∧ o ≤ (cnt l d p o t).2.2.1 ∧ t ≤ (cnt l d p o t).2.2.2 ∧ ((cnt l d p o t).2.1 ≤ 1 → d + (cnt l d p o t).2.2.2 ≤ (cnt l d p o t).1 + t) := by
  induction l with
  | nil => intro d p o t; exact ⟨Nat.le_refl _, Nat.le_refl _, Nat.le_refl _, fun _ => Nat.le_refl _⟩
  | cons c cs ih =>
    intro d p o t
    rcases hd : dgt c with _ | _
    · by_cases h : c = 46
      · rw [cnt_pt h]; have := ih d (p + 1) o t; omega
      · rw [cnt_no hd h]; have := ih d p (o + 1) t; omega
    · rw [cnt_dgt hd]; have := ih (d + 1) p o (t + p); omega
/-- The counts of a text at a place of the reading. -/
def pc (pt : Bool) : Nat := if pt then 1 else 0
theorem prs_cnt (l : List Int) : ∀ (w p : Nat) (pt : Bool) (n : Int), w ≤ 9 → p ≤ 6 →
    (prs l w p pt n = none ∧ ¬ Good (cnt l (w + p) (pc pt) 0 p)) ∨
    ∃ (w' p' : Nat) (n' : Int), prs l w p pt n = some (w', p', n') ∧ p' ≤ 6 ∧ Good (cnt l (w + p) (pc pt) 0 p) ∧ (cnt l (w + p) (pc pt) 0 p).1 = w' + p' ∧ (cnt l (w + p) (pc pt) 0 p).2.2.2 = p' ∧ (0 ≤ n → 0 ≤ n') ∧ w ≤ w' ∧
      (w' ≤ 8 → prs l (w + 1) p pt n = some (w' + 1, p', n')) := by
  induction l with
  | nil =>
    intro w p pt n hw hp
    refine Or.inr ⟨w, p, n, rfl, hp, ⟨?_, rfl, ?_, hp⟩, rfl, rfl, id, Nat.le_refl _, fun _ => rfl⟩
    · show pc pt ≤ 1; cases pt <;> decide
    · show w + p ≤ 9 + p; omega
  | cons c cs ih =>
    intro w p pt n hw hp
    rcases hd : dgt c with _ | _
    · by_cases h : c = 46
      · rw [cnt_pt h]
        cases pt
        · rw [prs_point h, prs_point h]; exact ih w p true n hw hp
        · refine Or.inl ⟨prs_bad hd (Or.inr rfl), fun hg => ?_⟩
          have h1 := cnt_mono cs (w + p) (pc true + 1) 0 p
          have h2 : pc true = 1 := rfl
          have h3 := hg.1
          omega
      · rw [cnt_no hd h]
        refine Or.inl ⟨prs_bad hd (Or.inl h), fun hg => ?_⟩
        have h1 := cnt_mono cs (w + p) (pc pt) (0 + 1) p
        have h3 := hg.2.1
        omega
    · rw [cnt_dgt hd]
      have hc := dgt_yes hd
      cases pt
      · have e0 : p + pc false = p := rfl
        rw [e0]
        by_cases hw9 : w < 9
        · have e1 : w + p + 1 = w + 1 + p := by omega
          rw [e1, prs_whole hd hw9]
          rcases ih (w + 1) p false (10 * n + (c - 48)) (by omega) hp with h | ⟨w', p', n', h1, h2, h3, h4, h5, h6, h7, h8⟩
          · exact Or.inl h
          · refine Or.inr ⟨w', p', n', h1, h2, h3, h4, h5, fun hn => h6 (by omega), by omega, fun h9 => ?_⟩
            rw [prs_whole hd (by omega)]; exact h8 h9
        · refine Or.inl ⟨prs_whole_no hd (by omega), fun hg => ?_⟩
          have h1 := cnt_mono cs (w + p + 1) (pc false) 0 p
          have h3 := hg.1
          have h4 := hg.2.2.1
          omega
      · have e0 : p + pc true = p + 1 := rfl
        rw [e0]
        by_cases hp6 : p < 6
        · rw [prs_part hd hp6]
          rcases ih w (p + 1) true (10 * n + (c - 48)) hw (by omega) with h | ⟨w', p', n', h1, h2, h3, h4, h5, h6, h7, h8⟩
          · exact Or.inl h
          · refine Or.inr ⟨w', p', n', h1, h2, h3, h4, h5, fun hn => h6 (by omega), by omega, fun h9 => ?_⟩
            rw [prs_part hd hp6]; exact h8 h9
        · refine Or.inl ⟨prs_part_no hd (by omega), fun hg => ?_⟩
          have h1 := cnt_mono cs (w + p + 1) (pc true) 0 (p + 1)
          have h3 := hg.2.2.2
          omega
/-- WHAT PARSE ACCEPTS, by the counts. -/
theorem parse_counts (l : List Int) (d p o t : Nat) (h : cnt l 0 0 0 0 = (d, p, o, t)) :
    0 ≤ (parseS l).1 ∧ (((parseS l).2 = 0 ∧ 0 < d ∧ p ≤ 1 ∧ o = 0 ∧ d ≤ 9 + t ∧ t ≤ 6 ∧ (d < 9 + t → parseS (48 :: l) = ((parseS l).1, 0))) ∨ ((parseS l).2 = 2 ∧ ¬ (0 < d ∧ p ≤ 1 ∧ o = 0 ∧ d ≤ 9 + t ∧ t ≤ 6))) := by
  have h0 := prs_cnt l 0 0 false 0 (by omega) (by omega)
  have e0 : cnt l (0 + 0) (pc false) 0 0 = (d, p, o, t) := h
  rw [e0] at h0
  rcases h0 with ⟨h1, h2⟩ | ⟨w', p', n', h1, h2, ⟨g1, g2, g3, g4⟩, h4, h5, h6, h7, h8⟩
  · have e1 : parseS l = (0, 2) := by unfold parseS; rw [h1]; rfl
    rw [e1]
    exact ⟨Int.le_refl _, Or.inr ⟨rfl, fun hg => h2 ⟨hg.2.1, hg.2.2.1, hg.2.2.2.1, hg.2.2.2.2⟩⟩⟩
  · simp only at g1 g2 g3 g4 h4 h5
    have hn := h6 (Int.le_refl _)
    have hpos : (0 : Int) ≤ n' * 10 ^ (6 - p') := Int.mul_nonneg hn (Int.le_of_lt (Int.pow_pos (by decide)))
    by_cases hz : w' + p' = 0
    · have e1 : parseS l = (0, 2) := by unfold parseS; rw [h1]; unfold fin; simp only [hz, if_true]
      rw [e1]
      exact ⟨Int.le_refl _, Or.inr ⟨rfl, fun hg => by omega⟩⟩
    · have e1 : parseS l = (n' * 10 ^ (6 - p'), 0) := by unfold parseS; rw [h1]; unfold fin; simp only [hz, if_false]
      rw [e1]
      refine ⟨hpos, Or.inl ⟨rfl, by omega, g1, g2, g3, g4, fun hlt => ?_⟩⟩
      have h9 := h8 (by omega)
      unfold parseS
      rw [prs_whole (dgt_mk (by omega) (by omega)) (by omega)]
      rw [show (10 * 0 + (48 - 48) : Int) = 0 from rfl, h9]
      unfold fin
      simp only [show ¬ (w' + 1 + p' = 0) by omega, if_false]
theorem strI_zero (s : ByteArray) : strI (⟨#[48]⟩ ++ s) = 48 :: strI s := by
  unfold strI
  simp [ByteArray.data_append]
end Go.Proofs.YteljackkojcniaaDoor
