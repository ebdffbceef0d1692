/- Plain words and laws of numbers in digits to the base 65536. No program in sight. Conditions: none beyond each lemma's own premises. -/
import Derived.PlainAid
namespace Go.Proofs.YtdipainocdgfgaaGreatDoor
set_option linter.unusedVariables false
set_option linter.unusedSimpArgs false

/-- The weight of place k. -/
def P (k : Nat) : Nat := 65536 ^ k
theorem P_zero : P 0 = 1 := rfl
theorem P_succ (k : Nat) : P (k + 1) = P k * 65536 := Nat.pow_succ 65536 k
theorem P_pos (k : Nat) : 0 < P k := Nat.pow_pos (by decide)
theorem P_add (i k : Nat) : P (i + k) = P i * P k := Nat.pow_add 65536 i k
theorem P_mono {i k : Nat} (h : i ≤ k) : P i ≤ P k := Nat.pow_le_pow_right (by decide) h
/-- Digit k. -/
def dg (V k : Nat) : Nat := V / P k % 65536
theorem dg_lt (V k : Nat) : dg V k < 65536 := Nat.mod_lt _ (by decide)
theorem div_succ (V k : Nat) : V / P (k + 1) = V / P k / 65536 := by rw [P_succ, Nat.div_div_eq_div_mul]
theorem div_dg (V k : Nat) : V / P k = V / P (k + 1) * 65536 + dg V k := by
  rw [div_succ]; unfold dg; exact (Nat.div_add_mod' (V / P k) 65536).symm
theorem div_zero (V : Nat) : V / P 0 = V := by rw [P_zero, Nat.div_one]
theorem lt_P {V k : Nat} (h : V / P k = 0) : V < P k := (Nat.div_eq_zero_iff_lt (P_pos k)).1 h
theorem div_lt_P {V k : Nat} (h : V < P k) : V / P k = 0 := Nat.div_eq_of_lt h
theorem le_of_div_pos {V k : Nat} (h : 0 < V / P k) : P k ≤ V := Nat.le_of_not_lt fun h' => by rw [div_lt_P h'] at h; omega
theorem div_pos {V k : Nat} (h : P k ≤ V) : 0 < V / P k := Nat.div_pos h (P_pos k)
theorem mod_succ (V k : Nat) : V % P (k + 1) = V % P k + P k * dg V k := by rw [P_succ, Nat.mod_mul]; rfl
theorem dg_mod {V i j : Nat} (h : i < j) : dg (V % P j) i = dg V i := by
  obtain ⟨t, rfl⟩ : ∃ t, j = i + (t + 1) := ⟨j - i - 1, by omega⟩
  unfold dg
  rw [P_add, Nat.mod_mul_right_div_self, Nat.mod_mod_of_dvd _ ⟨P t, by rw [P_succ, Nat.mul_comm]⟩]
theorem dg_div (V i j : Nat) : dg (V / P j) i = dg V (j + i) := by unfold dg; rw [Nat.div_div_eq_div_mul, P_add]
theorem dg_high {V k j : Nat} (h : V < P k) (hj : k ≤ j) : dg V j = 0 := by
  unfold dg; rw [div_lt_P (Nat.lt_of_lt_of_le h (P_mono hj))]
/-- How many digits. -/
def nd (V : Nat) : Nat := if h : V = 0 then 0 else nd (V / 65536) + 1
termination_by V
decreasing_by omega
theorem nd_zero : nd 0 = 0 := by rw [nd]; rfl
theorem nd_succ {V : Nat} (h : V ≠ 0) : nd V = nd (V / 65536) + 1 := by rw [nd, dif_neg h]
theorem lt_nd (k : Nat) : ∀ V, k < nd V ↔ 0 < V / P k := by
  induction k with
  | zero =>
    intro V
    rw [div_zero]
    by_cases h : V = 0
    · subst h; rw [nd_zero]
    · rw [nd_succ h]; omega
  | succ k ih =>
    intro V
    have e : V / P (k + 1) = V / 65536 / P k := by rw [P_succ, Nat.mul_comm, Nat.div_div_eq_div_mul]
    rw [e, ← ih]
    by_cases h : V = 0
    · subst h; rw [nd_zero]; simp
    · rw [nd_succ h]; omega
theorem lt_P_nd (V : Nat) : V < P (nd V) := lt_P (Nat.eq_zero_of_not_pos fun h => Nat.lt_irrefl _ ((lt_nd (nd V) V).2 h))
theorem nd_le {V k : Nat} (h : V < P k) : nd V ≤ k := by have := lt_nd k V; rw [div_lt_P h] at this; omega
theorem nd_mono {V W : Nat} (h : V ≤ W) : nd V ≤ nd W := nd_le (Nat.lt_of_le_of_lt h (lt_P_nd W))
theorem lt_of_nd {V W : Nat} (h : nd V < nd W) : V < W := by
  have h1 := (lt_nd (nd V) W).1 h
  have h2 := le_of_div_pos h1
  have h3 := lt_P_nd V
  omega
/-- The top digit of a number that is cut. -/
theorem nd_of_top {V n : Nat} (h : V < P (n + 1)) (hd : dg V n ≠ 0) : nd V = n + 1 := by
  have h1 := nd_le h
  have h2 : 0 < V / P n := by
    unfold dg at hd
    rcases Nat.eq_zero_or_pos (V / P n) with h0 | h0
    · rw [h0] at hd; exact absurd rfl hd
    · exact h0
  have h3 := (lt_nd n V).2 h2
  omega
theorem lt_of_top {V n : Nat} (h : V < P (n + 1)) (hd : dg V n = 0) : V < P n := by
  refine lt_P ?_
  have h1 := div_dg V n
  rw [hd, div_lt_P h] at h1
  omega
/-- Digit j set. -/
def setd (V j d : Nat) : Nat := V / P (j + 1) * P (j + 1) + d * P j + V % P j
theorem setd_add (V j d : Nat) : setd V j d + dg V j * P j = V + d * P j := by
  have h1 := Nat.div_add_mod' V (P (j + 1))
  rw [mod_succ, Nat.mul_comm (P j)] at h1
  unfold setd
  omega
theorem setd_lo {V j d : Nat} (hd : d < 65536) : d * P j + V % P j < P (j + 1) := by
  have h1 : (d + 1) * P j ≤ 65536 * P j := Nat.mul_le_mul_right _ hd
  have h2 := Nat.mod_lt V (P_pos j)
  rw [P_succ, Nat.mul_comm (P j)]
  rw [Nat.add_mul, Nat.one_mul] at h1
  omega
theorem setd_div {V j d : Nat} (hd : d < 65536) : setd V j d / P (j + 1) = V / P (j + 1) := by
  unfold setd
  rw [Nat.add_assoc, Nat.mul_comm, Nat.mul_add_div (P_pos _), Nat.div_eq_of_lt (setd_lo hd), Nat.add_zero]
theorem setd_mod {V j d : Nat} : setd V j d % P j = V % P j := by
  unfold setd
  rw [P_succ, ← Nat.mul_assoc, Nat.mul_right_comm, ← Nat.add_mul, Nat.mul_comm, Nat.mul_add_mod, Nat.mod_mod]
theorem setd_at {V j d : Nat} (hd : d < 65536) : dg (setd V j d) j = d := by
  have h1 := div_dg (setd V j d) j
  have h2 : setd V j d / P j = V / P (j + 1) * 65536 + d := by
    unfold setd
    rw [P_succ, ← Nat.mul_assoc, Nat.mul_right_comm, ← Nat.add_mul, Nat.mul_comm, Nat.mul_add_div (P_pos _), Nat.div_eq_of_lt (Nat.mod_lt _ (P_pos _)), Nat.add_zero]
  rw [setd_div hd, h2] at h1
  omega
theorem setd_other {V j d i : Nat} (hd : d < 65536) (h : i ≠ j) : dg (setd V j d) i = dg V i := by
  rcases Nat.lt_or_gt_of_ne h with h | h
  · rw [← dg_mod h, setd_mod, dg_mod h]
  · obtain ⟨t, rfl⟩ : ∃ t, i = j + 1 + t := ⟨i - j - 1, by omega⟩
    rw [← dg_div, setd_div hd, dg_div]
theorem setd_lt {V j d n : Nat} (hd : d < 65536) (hj : j < n) (h : V < P n) : setd V j d < P n := by
  refine lt_P ?_
  obtain ⟨t, rfl⟩ : ∃ t, n = j + 1 + t := ⟨n - j - 1, by omega⟩
  rw [P_add, ← Nat.div_div_eq_div_mul, setd_div hd, Nat.div_div_eq_div_mul, ← P_add]
  exact div_lt_P h

/-- THE INNER STEP OF A PRODUCT. -/
theorem mul_step {V V0 a M i k c v : Nat} (hE : V + c * P (i + k) = V0 + a * P i * (M % P k)) (hv : v = dg V (i + k) + a * dg M k + c) :
    setd V (i + k) (v % 65536) + v / 65536 * P (i + (k + 1)) = V0 + a * P i * (M % P (k + 1)) := by
  have h1 := setd_add V (i + k) (v % 65536)
  have h2 : v / 65536 * P (i + (k + 1)) = (v / 65536 * 65536) * P (i + k) := by rw [show i + (k + 1) = i + k + 1 from rfl, P_succ, Nat.mul_comm (P (i + k)), Nat.mul_assoc]
  have h3 : v % 65536 * P (i + k) + (v / 65536 * 65536) * P (i + k) = v * P (i + k) := by rw [← Nat.add_mul, Nat.mod_add_div']
  have h4 : v * P (i + k) = dg V (i + k) * P (i + k) + a * dg M k * P (i + k) + c * P (i + k) := by rw [hv, Nat.add_mul, Nat.add_mul]
  have h5 : a * P i * (M % P (k + 1)) = a * P i * (M % P k) + a * dg M k * P (i + k) := by
    rw [mod_succ, Nat.mul_add, P_add]
    congr 1
    simp only [Nat.mul_comm, Nat.mul_left_comm, Nat.mul_assoc]
  rw [h2, h5]
  omega
/-- THE OUTER STEP: the row's end. -/
theorem mul_row {V N M i n c : Nat} (hE : V + c * P (i + n) = (N % P i) * M + dg N i * P i * (M % P n)) (hM : M < P n) (hV : V < P (i + n)) :
    dg V (i + n) = 0 ∧ setd V (i + n) c = (N % P (i + 1)) * M := by
  have h0 : dg V (i + n) = 0 := dg_high hV (Nat.le_refl _)
  have h1 := setd_add V (i + n) c
  rw [h0, Nat.zero_mul, Nat.add_zero] at h1
  refine ⟨h0, ?_⟩
  rw [h1, hE, Nat.mod_eq_of_lt hM, mod_succ, Nat.add_mul, Nat.mul_comm (P i)]
theorem row_lt {N M i n : Nat} (hM : M < P n) : (N % P i) * M < P (i + n) := by
  rw [P_add]
  rcases Nat.eq_zero_or_pos M with h | h
  · subst h; rw [Nat.mul_zero]; exact Nat.mul_pos (P_pos i) (P_pos n)
  · exact Nat.lt_of_lt_of_le (Nat.mul_lt_mul_of_pos_right (Nat.mod_lt _ (P_pos i)) h) (Nat.mul_le_mul_left _ (Nat.le_of_lt hM))
/-- The values of the inner loop fit. -/
theorem mul_fits {x a y c : Nat} (hx : x < 65536) (ha : a < 65536) (hy : y < 65536) (hc : c < 65536) : a * y ≤ 4294836225 ∧ x + a * y + c < 4294967296 := by
  have := Nat.mul_le_mul (Nat.le_of_lt_succ ha) (Nat.le_of_lt_succ hy)
  omega
/-- THE STEP OF A SUM. -/
theorem add_step {N M k c : Nat} (h : N / P k + M / P k + c = (N + M) / P k) :
    (c + dg N k + dg M k) % 65536 = dg (N + M) k ∧ N / P (k + 1) + M / P (k + 1) + (c + dg N k + dg M k) / 65536 = (N + M) / P (k + 1) := by
  have h1 := div_dg N k
  have h2 := div_dg M k
  have h3 := div_dg (N + M) k
  have h4 := dg_lt (N + M) k
  have h5 := div_succ (N + M) k
  unfold dg at h3 h4 ⊢
  unfold dg at h1 h2
  omega
theorem add_carry {N M k c : Nat} (h : N / P k + M / P k + c = (N + M) / P k) : c ≤ 1 := by
  have h1 := Nat.div_add_mod' N (P k)
  have h2 := Nat.div_add_mod' M (P k)
  have h3 := Nat.mod_lt N (P_pos k)
  have h4 := Nat.mod_lt M (P_pos k)
  have h5 : (N + M) / P k < N / P k + M / P k + 2 := by
    rw [Nat.div_lt_iff_lt_mul (P_pos k), Nat.add_mul, Nat.add_mul]
    omega
  omega
/-- -1, 0, 1. -/
def cmpN (N M : Nat) : Int := if N < M then -1 else if M < N then 1 else 0
theorem cmpN_lt {N M : Nat} (h : N < M) : cmpN N M = -1 := if_pos h
theorem cmpN_gt {N M : Nat} (h : M < N) : cmpN N M = 1 := by unfold cmpN; rw [if_neg (by omega), if_pos h]
theorem cmpN_eq {N M : Nat} (h : N = M) : cmpN N M = 0 := by unfold cmpN; rw [if_neg (by omega), if_neg (by omega)]
theorem cmp_at {N M k : Nat} (h : N / P (k + 1) = M / P (k + 1)) : (dg N k < dg M k → N < M) ∧ (dg M k < dg N k → M < N) ∧ (dg N k = dg M k → N / P k = M / P k) := by
  have h1 := div_dg N k
  have h2 := div_dg M k
  refine ⟨fun hd => ?_, fun hd => ?_, fun hd => by rw [h1, h2, h, hd]⟩
  · have : N / P k < M / P k := by omega
    exact Nat.lt_of_not_le fun hle => by have := Nat.div_le_div_right (c := P k) hle; omega
  · have : M / P k < N / P k := by omega
    exact Nat.lt_of_not_le fun hle => by have := Nat.div_le_div_right (c := P k) hle; omega
end Go.Proofs.YtdipainocdgfgaaGreatDoor
