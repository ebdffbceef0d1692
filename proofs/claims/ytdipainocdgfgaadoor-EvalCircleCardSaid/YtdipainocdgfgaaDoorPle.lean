/- Plain words and laws of products and quotients of ints (layer 1, wide). No program in sight. Conditions: none beyond each lemma's own premises. -/
import Derived.PlainAid
namespace Go.Proofs.YtdipainocdgfgaaDoor
set_option linter.unusedVariables false
set_option linter.unusedSimpArgs false

/-- The absolute value. -/
def mg (n : Int) : Int := (n.natAbs : Int)
theorem mg_nonneg (n : Int) : 0 ≤ mg n := by unfold mg; omega
theorem mg_le (n : Int) (h1 : -9223372036854775808 ≤ n) (h2 : n ≤ 9223372036854775807) : mg n ≤ 9223372036854775808 := by unfold mg; omega
theorem mg_neg {n : Int} (h : n < 0) : mg n = -n := by unfold mg; omega
theorem mg_pos {n : Int} (h : 0 ≤ n) : mg n = n := by unfold mg; omega
theorem mg_mul (a b : Int) : mg a * mg b = mg (a * b) := by unfold mg; rw [Int.natAbs_mul]; push_cast; rfl
/-- The high and the low word of a number. -/
def hiW (x : Int) : Int := x / 18446744073709551616
def loW (x : Int) : Int := x % 18446744073709551616
theorem word_hilo (x : Int) : hiW x * 18446744073709551616 + loW x = x := by unfold hiW loW; omega
theorem loW_nonneg (x : Int) : 0 ≤ loW x := by unfold loW; omega
theorem loW_le (x : Int) : loW x ≤ 18446744073709551615 := by unfold loW; omega
theorem hiW_nonneg {x : Int} (h : 0 ≤ x) : 0 ≤ hiW x := by unfold hiW; omega
theorem hiW_le {x : Int} (h : x < 340282366920938463463374607431768211456) : hiW x ≤ 18446744073709551615 := by unfold hiW; omega
theorem prod_nonneg {a b : Int} (h1 : 0 ≤ a) (h2 : 0 ≤ b) : 0 ≤ a * b := Int.mul_nonneg h1 h2
theorem prod_lt {a b : Int} (h1 : 0 ≤ a) (h2 : 0 ≤ b) (h3 : a ≤ 18446744073709551615) (h4 : b ≤ 18446744073709551615) : a * b < 340282366920938463463374607431768211456 := by
  have := Int.mul_le_mul h3 h4 h2 (by omega)
  omega

/-- The sign of a * b. -/
def sg (a b : Int) : Int := if a = 0 ∨ b = 0 then 0 else if (a < 0 ↔ b < 0) then 1 else -1
theorem sg_zero {a b : Int} (h : a = 0 ∨ b = 0) : sg a b = 0 := by unfold sg; rw [if_pos h]
theorem sg_pos {a b : Int} (ha : a ≠ 0) (hb : b ≠ 0) (h : a < 0 ↔ b < 0) : sg a b = 1 := by unfold sg; rw [if_neg (by omega), if_pos h]
theorem sg_neg {a b : Int} (ha : a ≠ 0) (hb : b ≠ 0) (h : ¬ (a < 0 ↔ b < 0)) : sg a b = -1 := by unfold sg; rw [if_neg (by omega), if_neg h]

/-- A rounded absolute value with its sign, where it is an int. -/
def sgnd (n : Int) (neg : Bool) : Int × Bool := if neg then (if n ≤ 9223372036854775808 then (-n, true) else (0, false)) else if n < 9223372036854775808 then (n, true) else (0, false)
/-- Does the absolute value grow by 1? -/
def grw (mode more : Int) (some neg : Bool) : Bool := if mode = 0 then some && neg else if mode = 1 then some && !neg else decide (0 < more) || (decide (more = 0) && !neg)
/-- How the rest r of a division by d compares with a half. -/
def half (r d : Int) : Int := if d - r < r then 1 else if r < d - r then -1 else 0
theorem half_hi {r d : Int} (h : d - r < r) : half r d = 1 := by unfold half; rw [if_pos h]
theorem half_lo {r d : Int} (h : r < d - r) : half r d = -1 := by unfold half; rw [if_neg (by omega), if_pos h]
theorem half_eq {r d : Int} (h : r = d - r) : half r d = 0 := by unfold half; rw [if_neg (by omega), if_neg (by omega)]
def ngt (a b c : Int) : Bool := decide (sg a b ≠ 0) && decide (¬ (sg a b < 0 ↔ c < 0))
/-- The rounded absolute value of a * b / c. -/
def mdA (a b c mode : Int) : Int := mg a * mg b / mg c + (if grw mode (half (mg a * mg b % mg c) (mg c)) (decide (0 < mg a * mg b % mg c)) (ngt a b c) then 1 else 0)
/-- What MulDiv returns, for one of the three modes and a divisor that is not 0. -/
def mdS (a b c mode : Int) : Int × Bool := sgnd (mdA a b c mode) (ngt a b c)
end Go.Proofs.YtdipainocdgfgaaDoor
