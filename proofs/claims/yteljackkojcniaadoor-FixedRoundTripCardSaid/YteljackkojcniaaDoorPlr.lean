/- Plain laws: Parse reads what Format writes; the text of a valid number is not empty. No program in sight. Conditions: the premises of each lemma. -/
import Derived.Test.YteljackkojcniaaDoorPlc
namespace Go.Proofs.YteljackkojcniaaDoor
open Go.PlainAid

def ints (l : List UInt8) : List Int := l.map fun c => (c.toNat : Int)
theorem strI_mk (l : List UInt8) : strI ⟨l.toArray⟩ = ints l := by simp [strI, ints]
theorem digit_int (d : Nat) (h : d < 10) : ((UInt8.ofNat (48 + d)).toNat : Int) = 48 + d := by
  rw [UInt8.toNat_ofNat']; omega
theorem dgt_digit (d : Nat) (h : d < 10) : dgt ((UInt8.ofNat (48 + d)).toNat : Int) = true := by rw [digit_int d h]; exact dgt_mk (by omega) (by omega)
theorem dec_nonempty (u : Nat) : 0 < (Lib.decDigits u).length := by rw [Lib.decDigits_length]; exact Lib.nDigits_pos _
theorem nDigits_le9 (u : Nat) (h : u < 1000000000) : Lib.nDigits u ≤ 9 := by
  have hp := Lib.nDigits_pos u
  have b : ∀ k v : Nat, v < 10 ^ (k + 1) → Lib.nDigits v ≤ k + 1 := by
    intro k
    induction k with
    | zero => intro v hv; rw [Lib.nDigits_small (by simpa using hv)]; omega
    | succ k ih =>
      intro v hv
      by_cases hs : v < 10
      · rw [Lib.nDigits_small hs]; omega
      · rw [Lib.nDigits_big hs]
        have := ih (v / 10) (by rw [Nat.pow_succ] at hv; omega)
        omega
  exact b 8 u (by simpa using h)
/-- Reading the digits of a whole number. -/
theorem prs_dec (u : Nat) (rest : List Int) (h : Lib.nDigits u ≤ 9) : prs (ints (Lib.decDigits u) ++ rest) 0 0 false 0 = prs rest (Lib.nDigits u) 0 false u := by
  induction u using Nat.strongRecOn generalizing rest with
  | _ u ih =>
    by_cases hs : u < 10
    · rw [Lib.decDigits, dif_pos hs, Lib.nDigits_small hs]
      have hd := digit_int u hs
      simp only [ints, List.map_cons, List.map_nil, List.cons_append, List.nil_append]
      rw [hd, prs_whole (dgt_mk (by omega) (by omega)) (by omega)]
      congr 1
      omega
    · rw [Lib.nDigits_big hs] at h
      rw [Lib.decDigits, dif_neg hs, Lib.nDigits_big hs]
      have hd := digit_int (u % 10) (by omega)
      have e : ints (Lib.decDigits (u / 10) ++ [UInt8.ofNat (48 + u % 10)]) ++ rest = ints (Lib.decDigits (u / 10)) ++ ((48 + ((u % 10 : Nat) : Int)) :: rest) := by
        simp only [ints, List.map_append, List.map_cons, List.map_nil, List.append_assoc, List.cons_append, List.nil_append, hd]
      rw [e, ih (u / 10) (by omega) _ (by omega), prs_whole (dgt_mk (by omega) (by omega)) (by omega)]
      congr 1
      omega
/-- Reading the fraction. -/
theorem prs_fr : ∀ (j r k p : Nat) (n : Int), r < 10 ^ j → p + j = 6 → 0 < k + p → fin (prs (ints (fr j r)) k p true n) = (n * 10 ^ j + r, 0)
  | 0, r, k, p, n, h, hp, hk => by
    have h0 : r = 0 := by simpa using h
    subst h0
    simp only [fr, ints, List.map_nil, prs, fin]
    rw [if_neg (by omega), show 6 - p = 0 by omega]
    simp
  | j + 1, r, k, p, n, h, hp, hk => by
    by_cases h0 : r = 0
    · subst h0
      rw [fr_zero]
      simp only [ints, List.map_nil, prs, fin]
      rw [if_neg (by omega), show 6 - p = j + 1 by omega]
      simp
    · have hpw : 0 < 10 ^ j := Nat.pos_of_ne_zero (by simp)
      rw [Nat.pow_succ] at h
      have hd9 : r / 10 ^ j < 10 := Nat.div_lt_of_lt_mul (by omega)
      rw [fr, if_neg h0]
      have hd := digit_int (r / 10 ^ j) hd9
      simp only [ints, List.map_cons]
      have hg : dgt ((UInt8.ofNat (48 + r / 10 ^ j)).toNat : Int) = true := dgt_digit _ hd9
      rw [prs_part hg (by omega), hd]
      have := prs_fr j (r % 10 ^ j) k (p + 1) (10 * n + ((48 : Int) + ((r / 10 ^ j : Nat) : Int) - 48)) (Nat.mod_lt _ hpw) (by omega) (by omega)
      unfold ints at this
      rw [this]
      have e1 : r = r / 10 ^ j * 10 ^ j + r % 10 ^ j := by rw [Nat.mul_comm]; exact (Nat.div_add_mod r (10 ^ j)).symm
      have e2 : (r : Int) = ((r / 10 ^ j : Nat) : Int) * ((10 ^ j : Nat) : Int) + ((r % 10 ^ j : Nat) : Int) := by
        rw [← Int.natCast_mul]; omega
      have e3 : ((10 ^ j : Nat) : Int) = (10 : Int) ^ j := by push_cast; rfl
      rw [e3] at e2
      generalize (r / 10 ^ j : Nat) = q at *
      generalize (r % 10 ^ j : Nat) = s at *
      rw [e2]
      have e4 : (10 * n + ((48 : Int) + (q : Int) - 48)) * 10 ^ j = n * 10 ^ (j + 1) + (q : Int) * 10 ^ j := by
        rw [show (10 * n + ((48 : Int) + (q : Int) - 48)) = n * 10 + q by omega, Int.add_mul, Int.mul_assoc, Int.pow_succ, Int.mul_comm 10]
      rw [e4]
      congr 1
      omega
theorem round_trip (n : Nat) (h : n < 1000000000000000) : parseS (strI ⟨(fmtP n).toArray⟩) = ((n : Int), 0) := by
  rw [strI_mk]
  unfold parseS fmtP
  have hn := nDigits_le9 (n / 1000000) (by omega)
  have hp := Lib.nDigits_pos (n / 1000000)
  have e : ints (Lib.decDigits (n / 1000000) ++ tailD (n % 1000000)) = ints (Lib.decDigits (n / 1000000)) ++ ints (tailD (n % 1000000)) := by unfold ints; rw [List.map_append]
  rw [e, prs_dec _ _ hn]
  unfold tailD
  by_cases h0 : n % 1000000 = 0
  · rw [if_pos h0]
    simp only [ints, List.map_nil, prs, fin]
    rw [if_neg (by omega)]
    congr 1
    have : (10 : Int) ^ (6 - 0) = 1000000 := rfl
    rw [this]
    omega
  · rw [if_neg h0]
    have e2 : ints (46 :: fr 6 (n % 1000000)) = 46 :: ints (fr 6 (n % 1000000)) := rfl
    rw [e2, prs_point rfl, prs_fr 6 _ _ 0 _ (by omega) rfl (by omega)]
    congr 1
    have : (10 : Int) ^ 6 = 1000000 := rfl
    rw [this]
    omega
end Go.Proofs.YteljackkojcniaaDoor
