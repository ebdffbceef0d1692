/- Plain laws of the division of two words by one (Knuth's step, twice). No program in sight. Conditions: the premises of each lemma. -/
import Derived.Test.YtdipainocdgfgaaDoorPle
import Derived.Lib.BitFns
import Derived.Laws.BitsAllLaws
import Derived.Shelf.Bits.Mul64
namespace Go.Proofs.YtdipainocdgfgaaDoor
set_option linter.unusedVariables false
set_option linter.unusedSimpArgs false

section
variable {u v y y1 y0 q r : Int}
theorem kn_small (hy : 0 < y) (hu : u < y) (hv : v < 4294967296) : (u * 4294967296 + v) / y < 4294967296 := by
  rw [Int.ediv_lt_iff_lt_mul hy]
  omega
theorem kn_start (hy : y = y1 * 4294967296 + y0) (h1 : 2147483648 ≤ y1) (h2 : 0 ≤ y0) (h3 : y0 < 4294967296) (hu0 : 0 ≤ u) (hu : u < y) (hv0 : 0 ≤ v) (hv : v < 4294967296) :
    (u * 4294967296 + v) / y ≤ u / y1 ∧ u / y1 ≤ 4294967297 := by
  have hyp : 0 < y := by omega
  constructor
  · rw [Int.le_ediv_iff_mul_le (by omega)]
    have hm := Int.ediv_mul_le (u * 4294967296 + v) (b := y) (by omega)
    generalize (u * 4294967296 + v) / y = Q at *
    have hQ : 0 ≤ Q ∨ Q < 0 := by omega
    rcases hQ with hQ | hQ
    · have e : Q * y = Q * y1 * 4294967296 + Q * y0 := by rw [hy, Int.mul_add, Int.mul_assoc]
      have : 0 ≤ Q * y0 := Int.mul_nonneg hQ h2
      omega
    · have := Int.mul_nonneg (show 0 ≤ -Q by omega) (show 0 ≤ y1 by omega)
      rw [Int.neg_mul] at this
      omega
  · have : u / y1 < 4294967298 := by
      rw [Int.ediv_lt_iff_lt_mul (by omega)]
      omega
    omega
theorem kn_more (hy : y = y1 * 4294967296 + y0) (hyp : 0 < y) (hr : r = u - q * y1) (h : 4294967296 * r + v < q * y0) : (u * 4294967296 + v) / y ≤ q - 1 := by
  have : (u * 4294967296 + v) / y < q := by
    rw [Int.ediv_lt_iff_lt_mul hyp]
    have e : q * y = q * y1 * 4294967296 + q * y0 := by rw [hy, Int.mul_add, Int.mul_assoc]
    omega
  omega
theorem kn_stop (hy : y = y1 * 4294967296 + y0) (hyp : 0 < y) (hr : r = u - q * y1) (h : q * y0 ≤ 4294967296 * r + v) (hQ : (u * 4294967296 + v) / y ≤ q) : q = (u * 4294967296 + v) / y := by
  have : q ≤ (u * 4294967296 + v) / y := by
    rw [Int.le_ediv_iff_mul_le hyp]
    have e : q * y = q * y1 * 4294967296 + q * y0 := by rw [hy, Int.mul_add, Int.mul_assoc]
    omega
  omega
theorem kn_break (hy : y = y1 * 4294967296 + y0) (hyp : 0 < y) (h2 : 0 ≤ y0) (h3 : y0 < 4294967296) (hv0 : 0 ≤ v) (hr : r = u - q * y1) (hb : 4294967296 ≤ r) (hq0 : 0 ≤ q) (hq : q ≤ 4294967296) (hQ : (u * 4294967296 + v) / y ≤ q) : q = (u * 4294967296 + v) / y := by
  refine kn_stop hy hyp hr ?_ hQ
  have := Int.mul_le_mul hq (show y0 ≤ 4294967295 by omega) h2 (by omega)
  omega
/-- The rest, as it is reckoned in words that wrap. -/
theorem kn_rest (hyp : 0 < y) (hy : y < 18446744073709551616) : (((u * 4294967296) % 18446744073709551616 + v) % 18446744073709551616 - ((u * 4294967296 + v) / y * y) % 18446744073709551616) % 18446744073709551616 = (u * 4294967296 + v) % y := by
  have h0 := Int.emod_nonneg (u * 4294967296 + v) (b := y) (by omega)
  have h1 := Int.emod_lt_of_pos (u * 4294967296 + v) hyp
  have h2 := Int.ediv_mul_add_emod (u * 4294967296 + v) y
  generalize (u * 4294967296 + v) / y * y = t at *
  omega
end

/-- Two steps make the division. -/
theorem kn_two (U y v1 v0 : Int) (hy : 0 < y) : ((U * 4294967296 + v1) / y * 4294967296 + ((U * 4294967296 + v1) % y * 4294967296 + v0) / y = ((U * 4294967296 + v1) * 4294967296 + v0) / y) ∧ ((U * 4294967296 + v1) % y * 4294967296 + v0) % y = ((U * 4294967296 + v1) * 4294967296 + v0) % y := by
  have h := Int.ediv_mul_add_emod (U * 4294967296 + v1) y
  generalize ha : (U * 4294967296 + v1) / y = a at *
  generalize hb : (U * 4294967296 + v1) % y = b at *
  have e : (U * 4294967296 + v1) * 4294967296 + v0 = (b * 4294967296 + v0) + a * 4294967296 * y := by
    rw [← h, Int.add_mul, Int.mul_assoc a y, Int.mul_comm y, ← Int.mul_assoc]; omega
  rw [e, Int.add_mul_ediv_right _ _ (by omega), Int.add_mul_emod_self_right]
  exact ⟨by omega, rfl⟩
/-- A shift of both by s leaves the quotient; the rest is shifted. -/
theorem kn_shift (N y : Int) (s : Nat) (hy : 0 < y) : N * 2 ^ s / (y * 2 ^ s) = N / y ∧ N * 2 ^ s % (y * 2 ^ s) / 2 ^ s = N % y := by
  have hp : (0 : Int) < 2 ^ s := Int.pow_pos (by decide)
  constructor
  · exact Int.mul_ediv_mul_of_pos_left N y hp
  · rw [Int.mul_comm N, Int.mul_comm y, Int.mul_emod_mul_of_pos _ _ hp, Int.mul_comm]
    exact Int.mul_ediv_cancel _ (by omega)
/-- How far a divisor is shifted. -/
theorem shift_of (y : Int) (h0 : 0 < y) (h1 : y ≤ 18446744073709551615) : ∃ s : Nat, s ≤ 63 ∧ 64 - (Lib.bitLen y.toNat : Int) = (s : Int) ∧ 2 ^ (63 - s) ≤ y ∧ y < 2 ^ (64 - s) := by
  obtain ⟨n, rfl⟩ := Int.eq_ofNat_of_zero_le (show 0 ≤ y by omega)
  have hne : n ≠ 0 := by omega
  have a := Nat.log2_self_le hne
  have b := Nat.lt_log2_self (n := n)
  have hk : n.log2 < 64 := by
    rw [Nat.log2_lt hne]; omega
  generalize n.log2 = k at *
  have hd : n / 2 ^ k = 1 := by
    have hp : 0 < 2 ^ k := Nat.pos_of_ne_zero (by simp)
    rw [Nat.pow_succ] at b
    have c1 : 1 ≤ n / 2 ^ k := (Nat.le_div_iff_mul_le hp).2 (by omega)
    have c2 : n / 2 ^ k < 2 := Nat.div_lt_of_lt_mul (by omega)
    omega
  have e := Lib.bitLen_shift k n a (by omega)
  rw [hd, show Lib.bitLen 1 = 1 from rfl] at e
  refine ⟨63 - k, by omega, by simp only [Int.toNat_natCast]; omega, ?_, ?_⟩
  · rw [show 63 - (63 - k) = k by omega]
    have : ((2 ^ k : Nat) : Int) = (2 : Int) ^ k := by push_cast; rfl
    omega
  · rw [show 64 - (63 - k) = k + 1 by omega]
    have : ((2 ^ (k + 1) : Nat) : Int) = (2 : Int) ^ (k + 1) := by push_cast; rfl
    omega

/-- What the shifts make: P and R are the two powers of 2, their product is 2 to the 64. -/
theorem shift_facts (hi lo y P R : Int) (hP : 0 < P) (hR : 0 < R) (hPR : P * R = 18446744073709551616) (h0 : 0 ≤ hi) (h1 : hi < y) (h2 : 0 ≤ lo) (h3 : lo < 18446744073709551616) (h4 : R ≤ 2 * y) (h5 : y < R) :
    (9223372036854775808 ≤ y * P ∧ y * P < 18446744073709551616) ∧ (0 ≤ hi * P ∧ hi * P < 18446744073709551616) ∧ (0 ≤ lo / R ∧ lo / R < P) ∧ hi * P + lo / R < y * P ∧
    (hi * P + lo / R) * 18446744073709551616 + lo * P % 18446744073709551616 = (hi * 18446744073709551616 + lo) * P := by
  have a1 : y * P < 18446744073709551616 := by
    have := Int.mul_lt_mul_of_pos_right h5 hP
    rw [Int.mul_comm R] at this; omega
  have a2 : 9223372036854775808 ≤ y * P := by
    have := Int.mul_le_mul_of_nonneg_right h4 (Int.le_of_lt hP)
    rw [Int.mul_comm R, hPR, Int.mul_assoc] at this; omega
  have b1 : (hi + 1) * P ≤ y * P := Int.mul_le_mul_of_nonneg_right (by omega) (Int.le_of_lt hP)
  rw [Int.add_mul] at b1
  have b2 : 0 ≤ hi * P := Int.mul_nonneg h0 (Int.le_of_lt hP)
  have c1 : 0 ≤ lo / R := Int.ediv_nonneg h2 (Int.le_of_lt hR)
  have c2 : lo / R < P := Int.ediv_lt_of_lt_mul hR (by omega)
  have d1 := Int.ediv_mul_add_emod lo R
  have d2 := Int.emod_nonneg lo (b := R) (by omega)
  have d3 := Int.emod_lt_of_pos lo hR
  have e1 : lo * P = lo / R * 18446744073709551616 + lo % R * P := by
    calc lo * P = (lo / R * R + lo % R) * P := by rw [d1]
      _ = lo / R * (P * R) + lo % R * P := by rw [Int.add_mul, Int.mul_assoc, Int.mul_comm R]
      _ = _ := by rw [hPR]
  have e2 : 0 ≤ lo % R * P := Int.mul_nonneg d2 (Int.le_of_lt hP)
  have e3 : lo % R * P < 18446744073709551616 := by
    have := Int.mul_lt_mul_of_pos_right d3 hP
    rw [Int.mul_comm R] at this; omega
  refine ⟨⟨a2, a1⟩, ⟨b2, by omega⟩, ⟨c1, c2⟩, by omega, ?_⟩
  have f : hi * 18446744073709551616 * P = hi * P * 18446744073709551616 := by rw [Int.mul_assoc, Int.mul_comm _ P, ← Int.mul_assoc]
  rw [Int.add_mul (hi * 18446744073709551616) lo P, f]
  omega
theorem or_join (x y : Int) (s : Nat) (hx : 0 ≤ x) (hx1 : x < 18446744073709551616) (hxs : x % 2 ^ s = 0) (hy : 0 ≤ y) (hy1 : y < 2 ^ s) (hs : s ≤ 64) : bits .or .u64 x y = x + y := by
  obtain ⟨a, rfl⟩ := Int.eq_ofNat_of_zero_le hx
  obtain ⟨b, rfl⟩ := Int.eq_ofNat_of_zero_le hy
  have hp : ((2 ^ s : Nat) : Int) = (2 : Int) ^ s := by push_cast; rfl
  have hb : b < 2 ^ s := by omega
  have hb64 : 2 ^ s ≤ 2 ^ 64 := Nat.pow_le_pow_right (by decide) hs
  have ha : a % 2 ^ s = 0 := by
    rw [← hp, ← Int.natCast_emod] at hxs
    omega
  rw [u64_or_nat a b (by omega) (by omega), nat_join s a b ha hb]
  omega
theorem and_mask (x : Int) (hx : 0 ≤ x) (hx1 : x < 18446744073709551616) : bits .and .u64 x 4294967295 = x % 4294967296 := by
  obtain ⟨a, rfl⟩ := Int.eq_ofNat_of_zero_le hx
  have h := u64_and_nat a 4294967295 (by omega) (by omega)
  have e : a &&& 4294967295 = a % 4294967296 := Nat.and_two_pow_sub_one_eq_mod a 32
  rw [e] at h
  exact h.trans (by omega)
end Go.Proofs.YtdipainocdgfgaaDoor
