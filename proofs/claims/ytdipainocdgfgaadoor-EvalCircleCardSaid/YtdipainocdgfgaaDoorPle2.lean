/- Plain words of layer 8: what each operator makes of numbers, what a tree evaluates to. No program in sight. Conditions: none beyond each lemma's own premises. -/
import Derived.Test.YtdipainocdgfgaaDoorPlw
namespace Go.Proofs.YtdipainocdgfgaaDoor
set_option linter.unusedVariables false
set_option linter.unusedSimpArgs false

theorem sinS_bd (a : Int) : (-9223372036854775000 ≤ (sinS a).1 ∧ (sinS a).1 ≤ 9223372036854775000) ∧ (-9223372036854775000 ≤ (sinS a).2 ∧ (sinS a).2 ≤ 9223372036854775000) := by
  have h1 : (-9223372036854775000 ≤ (scXY a).1 ∧ (scXY a).1 ≤ 9223372036854775000) ∧ (-9223372036854775000 ≤ (scXY a).2 ∧ (scXY a).2 ≤ 9223372036854775000) := by
    unfold scXY
    by_cases h : scZ a = 0
    · rw [if_pos h]; exact ⟨⟨by omega, by omega⟩, by omega, by omega⟩
    · rw [if_neg h]
      have hz : -45000000 ≤ scZ a ∧ scZ a ≤ 45000000 := by unfold scZ scK scR; omega
      have hb := Bd.itS (p := (652032874, 0, scZ a * 1000)) (by refine ⟨?_, ?_, ?_⟩ <;> simp [gr] <;> omega) 26
      obtain ⟨⟨a1, a2⟩, ⟨b1, b2⟩, _⟩ := hb
      have g := gr_26
      dsimp only
      omega
  have h2 := trn_bd h1.1 h1.2 (scK a).toNat
  unfold sinS
  dsimp only
  omega
/-- Is a point too far out to be measured? -/
def big (p : Int × Int) : Prop := p.1 < -1099511627776 ∨ (-1099511627776 ≤ p.1 ∧ 1099511627776 < p.1) ∨ (-1099511627776 ≤ p.1 ∧ p.1 ≤ 1099511627776 ∧ p.2 < -1099511627776) ∨ (-1099511627776 ≤ p.1 ∧ p.1 ≤ 1099511627776 ∧ -1099511627776 ≤ p.2 ∧ 1099511627776 < p.2)
instance (p : Int × Int) : Decidable (big p) := by unfold big; infer_instance
theorem small {x y : Int} (h : ¬ big (x, y)) : (-1099511627776 ≤ x ∧ x ≤ 1099511627776) ∧ (-1099511627776 ≤ y ∧ y ≤ 1099511627776) := by unfold big at h; dsimp only at h; omega
/-- Halved until it can be measured. -/
def hvF : Nat → Int × Int → Int × Int
  | 0, p => p
  | f + 1, p => if big p then hvF f (p.1 / 2, p.2 / 2) else p
theorem hv_end (f : Nat) {p : Int × Int} (h : ¬ big p) : hvF f p = p := by
  cases f with
  | zero => rfl
  | succ f => simp only [hvF]; rw [if_neg h]
theorem hv_i64 {f : Nat} {x : Int} (hf : f ≤ 64) (h : -2 ^ f ≤ x ∧ x < 2 ^ f) : -18446744073709551616 ≤ x ∧ x < 18446744073709551616 := by
  have : (2 : Int) ^ f ≤ 2 ^ 64 := by
    have h1 : (2 : Nat) ^ f ≤ 2 ^ 64 := Nat.pow_le_pow_right (by decide) hf
    have h2 : (((2 : Nat) ^ f : Nat) : Int) = (2 : Int) ^ f := by simp
    rw [← h2]; omega
  have e : (2 : Int) ^ 64 = 18446744073709551616 := by decide
  omega
theorem hv_step {f : Nat} {x y : Int} {q : Int × Int} (h : hvF f (x, y) = q) (hb : (-2 ^ f ≤ x ∧ x < 2 ^ f) ∧ (-2 ^ f ≤ y ∧ y < 2 ^ f)) (hg : big (x, y)) :
    ∃ f', hvF f' (x / 2, y / 2) = q ∧ (-2 ^ f' ≤ x / 2 ∧ x / 2 < 2 ^ f') ∧ (-2 ^ f' ≤ y / 2 ∧ y / 2 < 2 ^ f') ∧ f' < f ∧ (x / 2 ≠ 0 ∨ y / 2 ≠ 0) := by
  have hc := hg
  unfold big at hc
  dsimp only at hc
  cases f with
  | zero => simp at hb; omega
  | succ f =>
    have e : (2 : Int) ^ (f + 1) = 2 * 2 ^ f := by rw [Int.pow_succ, Int.mul_comm]
    rw [e] at hb
    simp only [hvF] at h
    rw [if_pos hg] at h
    exact ⟨f, h, by omega, by omega, by omega, by omega⟩
/-- The direction of the point (x, y), with its error. -/
def dirS (y x : Int) : Int × Int := if x = 0 ∧ y = 0 then (0, 4) else (angS (hvF 64 (x, y)).1 (hvF 64 (x, y)).2, 0)
/-- The tangent from the sine and the cosine. -/
def tanS (s c : Int) : Int × Int := if c = 0 then (0, 4) else if (mdS s 1000000 c 2).2 && vld (mdS s 1000000 c 2).1 then ((mdS s 1000000 c 2).1, 0) else (0, 3)
/-- What an operator makes of one number. -/
def unS (op a : Int) : Int × Int :=
  if op = 2 then (-a, 0)
  else if op = 13 then (max a (-a), 0)
  else if op = 12 then sqrtS a
  else if op = 14 then roundS a
  else if op = 15 then fixS a
  else if op = 16 then fupS a
  else if op = 8 then ((mdS (sinS a).1 1000000 1073741824 2).1, 0)
  else if op = 9 then ((mdS (sinS a).2 1000000 1073741824 2).1, 0)
  else tanS (sinS a).1 (sinS a).2
/-- Does a comparison or a logical operation hold? -/
def holdsS (op a b : Int) : Bool :=
  if op = 17 then a == b
  else if op = 18 then a != b
  else if op = 19 then decide (b < a)
  else if op = 20 then decide (b ≤ a)
  else if op = 21 then decide (a < b)
  else if op = 22 then decide (a ≤ b)
  else if op = 23 then (a != 0) && (b != 0)
  else if op = 24 then (a != 0) || (b != 0)
  else (a != 0) != (b != 0)
/-- What an operator that computes makes of two numbers. -/
def arS (op a b : Int) : Int × Int :=
  if op = 3 then addS a b else if op = 4 then subS a b else if op = 5 then mulS a b else if op = 6 then divS a b else modS a b
theorem kids_one {op : Int} (h : kidsS op = 1) (h1 : op ≠ 1) : op = 2 ∨ op = 8 ∨ op = 9 ∨ op = 10 ∨ op = 12 ∨ op = 13 ∨ op = 14 ∨ op = 15 ∨ op = 16 := by
  unfold kidsS at h
  by_cases c0 : op = 0
  · rw [if_pos c0] at h; omega
  rw [if_neg c0] at h
  by_cases c2 : (3 ≤ op ∧ op ≤ 7) ∨ op = 11 ∨ (17 ≤ op ∧ op ≤ 25)
  · rw [if_pos c2] at h; omega
  rw [if_neg c2] at h
  by_cases c1 : 1 ≤ op ∧ op ≤ 25
  · omega
  · rw [if_neg c1] at h; omega
/-- The end of an evaluation: the operator, its number, the values of its parts. -/
def finS (V : Int → Int × Int) (op n a b : Int) : Int × Int :=
  if op = 0 then (n, 0)
  else if op = 1 then (if (wholeS a).2 then V (wholeS a).1 else (0, 6))
  else if op = 11 then dirS a b
  else if kidsS op = 1 then unS op a
  else if 17 ≤ op then (if holdsS op a b then 1000000 else 0, 0)
  else arS op a b
/-- What a tree evaluates to: its value and its error. -/
def evalS (V : Int → Int × Int) : Tr → Int × Int
  | .none_ => (0, 0)
  | .mk op n k kid =>
    if k = 0 then finS V op n 0 0
    else if (evalS V (kid 0)).2 ≠ 0 then (0, (evalS V (kid 0)).2)
    else if k = 1 then finS V op n (evalS V (kid 0)).1 0
    else if (evalS V (kid 1)).2 ≠ 0 then (0, (evalS V (kid 1)).2)
    else finS V op n (evalS V (kid 0)).1 (evalS V (kid 1)).1
end Go.Proofs.YtdipainocdgfgaaDoor
