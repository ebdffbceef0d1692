/- Plain words and laws of texts of numbers: what Parse makes of a list of bytes. No program in sight. Conditions: none beyond each lemma's own premises. -/
import Derived.PlainAid
namespace Go.Proofs.YteljackkojcniaaDoor
open Go.PlainAid

/-- Is c a decimal digit? -/
def dgt (c : Int) : Bool := decide (48 ≤ c ∧ c ≤ 57)
theorem dgt_yes {c : Int} (h : dgt c = true) : 48 ≤ c ∧ c ≤ 57 := of_decide_eq_true h
theorem dgt_no {c : Int} (h : dgt c = false) : ¬ (48 ≤ c ∧ c ≤ 57) := of_decide_eq_false h
theorem dgt_mk {c : Int} (h : 48 ≤ c) (h' : c ≤ 57) : dgt c = true := decide_eq_true ⟨h, h'⟩
theorem dgt_out {c : Int} (h : c < 48 ∨ 57 < c) : dgt c = false := decide_eq_false (by omega)

/-- The bytes of a string, as numbers. -/
def strI (s : ByteArray) : List Int := s.data.toList.map fun c => (c.toNat : Int)
theorem strI_length (s : ByteArray) : (strI s).length = s.size := by unfold strI; rw [List.length_map, Array.length_toList]; rfl
theorem strI_drop (s : ByteArray) (k : Nat) (h : k < s.size) : (strI s).drop k = bt s k :: (strI s).drop (k + 1) := by
  have hl : k < (strI s).length := by rw [strI_length]; exact h
  rw [List.drop_eq_getElem_cons hl]
  congr 1
  unfold bt; rw [dif_pos h]; simp [strI]; rfl
theorem strI_end (s : ByteArray) (k : Nat) (h : s.size ≤ k) : (strI s).drop k = [] := List.drop_eq_nil_of_le (by rw [strI_length]; exact h)

/-- Reading on: how many digits stood before and behind the point, was there one, the number so far. -/
def prs : List Int → Nat → Nat → Bool → Int → Option (Nat × Nat × Int)
  | [], w, p, _, n => some (w, p, n)
  | c :: cs, w, p, pt, n =>
    if c == 46 && !pt then prs cs w p true n
    else if !dgt c then none
    else if pt then (if p + 1 > 6 then none else prs cs w (p + 1) true (10 * n + (c - 48)))
    else (if w + 1 > 9 then none else prs cs (w + 1) p false (10 * n + (c - 48)))

def fin (r : Option (Nat × Nat × Int)) : Int × Int :=
  match r with
  | none => (0, 2)
  | some (w, p, n) => if w + p = 0 then (0, 2) else (n * 10 ^ (6 - p), 0)
/-- What Parse returns. -/
def parseS (l : List Int) : Int × Int := fin (prs l 0 0 false 0)

theorem prs_point {c : Int} {cs : List Int} {w p : Nat} {n : Int} (h : c = 46) : prs (c :: cs) w p false n = prs cs w p true n := by
  rw [prs]; simp [h]
theorem prs_bad {c : Int} {cs : List Int} {w p : Nat} {pt : Bool} {n : Int} (h : dgt c = false) (h' : c ≠ 46 ∨ pt = true) : prs (c :: cs) w p pt n = none := by
  rw [prs]
  have : (c == 46 && !pt) = false := by rcases h' with h' | h' <;> simp [h']
  simp [this, h]
theorem prs_whole {c : Int} {cs : List Int} {w p : Nat} {n : Int} (h : dgt c = true) (hw : w < 9) : prs (c :: cs) w p false n = prs cs (w + 1) p false (10 * n + (c - 48)) := by
  have := dgt_yes h
  rw [prs]
  have e : (c == 46 && !false) = false := by simp; omega
  rw [e, h]; simp; omega
theorem prs_whole_no {c : Int} {cs : List Int} {w p : Nat} {n : Int} (h : dgt c = true) (hw : 9 ≤ w) : prs (c :: cs) w p false n = none := by
  have := dgt_yes h
  rw [prs]
  have e : (c == 46 && !false) = false := by simp; omega
  rw [e, h]; simp; omega
theorem prs_part {c : Int} {cs : List Int} {w p : Nat} {n : Int} (h : dgt c = true) (hw : p < 6) : prs (c :: cs) w p true n = prs cs w (p + 1) true (10 * n + (c - 48)) := by
  rw [prs]
  simp [h]; omega
theorem prs_part_no {c : Int} {cs : List Int} {w p : Nat} {n : Int} (h : dgt c = true) (hw : 6 ≤ p) : prs (c :: cs) w p true n = none := by
  rw [prs]
  simp [h]; omega
theorem p10_le {k : Nat} (h : k ≤ 17) : (10 : Int) ^ k ≤ 100000000000000000 := by
  have := Nat.pow_le_pow_right (n := 10) (by decide) h
  have h2 : (((10 : Nat) ^ k : Nat) : Int) = (10 : Int) ^ k := by push_cast; rfl
  omega
theorem p10_step {k : Nat} {m c : Int} (h : m < 10 ^ k) (h1 : 48 ≤ c) (h2 : c ≤ 57) : 10 * m + (c - 48) < 10 ^ (k + 1) := by
  have : (10 : Int) ^ (k + 1) = 10 ^ k * 10 := Int.pow_succ 10 k
  omega
end Go.Proofs.YteljackkojcniaaDoor
