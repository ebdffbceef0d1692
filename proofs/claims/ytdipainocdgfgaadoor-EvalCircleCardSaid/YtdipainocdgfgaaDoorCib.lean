/- The errors of the two iterations of cordic: how far the rounded iterates lie from the exact products; convergence. No program in sight. Conditions: none beyond each lemma's own premises. -/
import Derived.Test.YtdipainocdgfgaaDoorCia
import Derived.Test.YtdipainocdgfgaaDoorPlw
namespace Go.Proofs.YtdipainocdgfgaaDoor
set_option linter.unusedVariables false
set_option linter.unusedSimpArgs false

def sS : Nat → Int
  | 0 => 1
  | j + 1 => sS j * 2 ^ j
def er : Nat → Int
  | 0 => 0
  | j + 1 => er j + er j / 2 ^ j + 2
def exu (d : Nat → Int) : Nat → Int × Int
  | 0 => (1, 0)
  | j + 1 => (2 ^ j * (exu d j).1 - d j * (exu d j).2, 2 ^ j * (exu d j).2 + d j * (exu d j).1)
def Pm (d : Nat → Int) : Prop := ∀ j, d j = -1 ∨ d j = 1
theorem p2_pos (j : Nat) : (0 : Int) < 2 ^ j := Int.pow_pos (by decide)
theorem sS_nonneg : ∀ j, 0 ≤ sS j
  | 0 => by decide
  | j + 1 => Int.mul_nonneg (sS_nonneg j) (Int.le_of_lt (p2_pos j))
theorem er_nonneg : ∀ j, 0 ≤ er j
  | 0 => by decide
  | j + 1 => by
    have h := er_nonneg j
    have h2 : 0 ≤ er j / 2 ^ j := Int.ediv_nonneg h (Int.le_of_lt (p2_pos j))
    simp only [er]; omega
theorem er_step (j : Nat) : er j * 2 ^ j + er j + 2 ^ j ≤ er (j + 1) * 2 ^ j := by
  have hp := p2_pos j
  have h1 := Int.emod_add_mul_ediv (er j) (2 ^ j)
  have h2 := Int.emod_lt_of_pos (er j) hp
  simp only [er, Int.add_mul]
  rw [Int.mul_comm (2 ^ j) (er j / 2 ^ j)] at h1
  omega
theorem step_err {P S x y xe ye e e' : Int} (hP : 0 < P) (hS : 0 ≤ S) (a1 : -(e * S) ≤ S * x - xe) (a2 : S * x - xe ≤ e * S) (b1 : -(e * S) ≤ S * y - ye) (b2 : S * y - ye ≤ e * S) (he : e * P + e + P ≤ e' * P) (d : Int) (hd : d = -1 ∨ d = 1) :
    -(e' * (S * P)) ≤ (S * P) * (x - d * (y / P)) - (P * xe - d * ye) ∧ (S * P) * (x - d * (y / P)) - (P * xe - d * ye) ≤ e' * (S * P) := by
  have m0 := Int.emod_nonneg y (show P ≠ 0 by omega)
  have m1 := Int.emod_lt_of_pos y hP
  have my := Int.emod_add_mul_ediv y P
  generalize y / P = Q at *
  generalize y % P = m at *
  have c1 := Int.mul_le_mul_of_nonneg_left a1 (Int.le_of_lt hP)
  have c2 := Int.mul_le_mul_of_nonneg_left a2 (Int.le_of_lt hP)
  have s1 := Int.mul_le_mul_of_nonneg_left (Int.le_of_lt m1) hS
  have s0 := Int.mul_nonneg hS m0
  have h := Int.mul_le_mul_of_nonneg_right he hS
  have sy : S * y = S * m + S * (P * Q) := by rw [← my, Int.mul_add]
  clear a1 a2 he my
  rcases hd with rfl | rfl
  all_goals
    simp only [Int.mul_sub, Int.mul_add, Int.add_mul, Int.sub_mul, Int.mul_neg, Int.neg_mul, Int.one_mul, Int.mul_one, Int.mul_assoc, Int.mul_comm, Int.mul_left_comm, Int.sub_neg] at *
    omega
def dS (p0 : P3) (j : Nat) : Int := if 0 ≤ (itS p0 j).2.2 then 1 else -1
def dA (p0 : P3) (j : Nat) : Int := if 0 ≤ (itA p0 j).2.1 then 1 else -1
theorem dS_pm (p0 : P3) : Pm (dS p0) := fun j => by unfold dS; split <;> omega
theorem dA_pm (p0 : P3) : Pm (dA p0) := fun j => by unfold dA; split <;> omega
theorem itS_step (p0 : P3) (j : Nat) : itS p0 (j + 1) = ((itS p0 j).1 - dS p0 j * ((itS p0 j).2.1 / 2 ^ j), (itS p0 j).2.1 + dS p0 j * ((itS p0 j).1 / 2 ^ j), (itS p0 j).2.2 - dS p0 j * tbl j) := by
  simp only [itS, stS, dS]
  split <;> simp <;> omega
theorem itA_step (p0 : P3) (j : Nat) : itA p0 (j + 1) = ((itA p0 j).1 + dA p0 j * ((itA p0 j).2.1 / 2 ^ j), (itA p0 j).2.1 - dA p0 j * ((itA p0 j).1 / 2 ^ j), (itA p0 j).2.2 + dA p0 j * tbl j) := by
  simp only [itA, stA, dA]
  split <;> simp <;> omega
theorem fw_err (β z0 : Int) : ∀ j, (-(er j * sS j) ≤ sS j * (itS (β, 0, z0) j).1 - β * (exu (dS (β, 0, z0)) j).1 ∧ sS j * (itS (β, 0, z0) j).1 - β * (exu (dS (β, 0, z0)) j).1 ≤ er j * sS j) ∧
    (-(er j * sS j) ≤ sS j * (itS (β, 0, z0) j).2.1 - β * (exu (dS (β, 0, z0)) j).2 ∧ sS j * (itS (β, 0, z0) j).2.1 - β * (exu (dS (β, 0, z0)) j).2 ≤ er j * sS j) := by
  intro j
  induction j with
  | zero => simp [er, sS, itS, exu]
  | succ j ih =>
    obtain ⟨⟨a1, a2⟩, b1, b2⟩ := ih
    have hd := dS_pm (β, 0, z0) j
    have h1 := step_err (p2_pos j) (sS_nonneg j) a1 a2 b1 b2 (er_step j) (dS (β, 0, z0) j) hd
    have h2 := step_err (p2_pos j) (sS_nonneg j) b1 b2 a1 a2 (er_step j) (-dS (β, 0, z0) j) (by omega)
    rw [itS_step]
    simp only [sS, exu]
    have e1 : β * (2 ^ j * (exu (dS (β, 0, z0)) j).1 - dS (β, 0, z0) j * (exu (dS (β, 0, z0)) j).2) = 2 ^ j * (β * (exu (dS (β, 0, z0)) j).1) - dS (β, 0, z0) j * (β * (exu (dS (β, 0, z0)) j).2) := by
      rw [Int.mul_sub, Int.mul_left_comm, Int.mul_left_comm β (dS (β, 0, z0) j)]
    have e2 : β * (2 ^ j * (exu (dS (β, 0, z0)) j).2 + dS (β, 0, z0) j * (exu (dS (β, 0, z0)) j).1) = 2 ^ j * (β * (exu (dS (β, 0, z0)) j).2) + dS (β, 0, z0) j * (β * (exu (dS (β, 0, z0)) j).1) := by
      rw [Int.mul_add, Int.mul_left_comm, Int.mul_left_comm β (dS (β, 0, z0) j)]
    rw [e1, e2]
    simp only [Int.neg_mul, Int.sub_neg] at h2
    exact ⟨h1, h2⟩
theorem bw_err (a0 b0 z0 : Int) : ∀ j, (-(er j * sS j) ≤ sS j * (itA (a0, b0, z0) j).1 - ((exu (dA (a0, b0, z0)) j).1 * a0 + (exu (dA (a0, b0, z0)) j).2 * b0) ∧ sS j * (itA (a0, b0, z0) j).1 - ((exu (dA (a0, b0, z0)) j).1 * a0 + (exu (dA (a0, b0, z0)) j).2 * b0) ≤ er j * sS j) ∧
    (-(er j * sS j) ≤ sS j * (itA (a0, b0, z0) j).2.1 - ((exu (dA (a0, b0, z0)) j).1 * b0 - (exu (dA (a0, b0, z0)) j).2 * a0) ∧ sS j * (itA (a0, b0, z0) j).2.1 - ((exu (dA (a0, b0, z0)) j).1 * b0 - (exu (dA (a0, b0, z0)) j).2 * a0) ≤ er j * sS j) := by
  intro j
  induction j with
  | zero => simp [er, sS, itA, exu]
  | succ j ih =>
    obtain ⟨⟨a1, a2⟩, b1, b2⟩ := ih
    have hd := dA_pm (a0, b0, z0) j
    have h1 := step_err (p2_pos j) (sS_nonneg j) a1 a2 b1 b2 (er_step j) (-dA (a0, b0, z0) j) (by omega)
    have h2 := step_err (p2_pos j) (sS_nonneg j) b1 b2 a1 a2 (er_step j) (dA (a0, b0, z0) j) hd
    rw [itA_step]
    simp only [sS, exu]
    generalize dA (a0, b0, z0) j = e at *
    generalize exu (dA (a0, b0, z0)) j = q at *
    generalize itA (a0, b0, z0) j = r at *
    obtain ⟨u, v⟩ := q
    have e1 : (2 ^ j * u - e * v) * a0 + (2 ^ j * v + e * u) * b0 = 2 ^ j * (u * a0 + v * b0) + e * (u * b0 - v * a0) := by
      simp only [Int.mul_sub, Int.mul_add, Int.add_mul, Int.sub_mul, Int.mul_assoc]; omega
    have e2 : (2 ^ j * u - e * v) * b0 - (2 ^ j * v + e * u) * a0 = 2 ^ j * (u * b0 - v * a0) - e * (u * a0 + v * b0) := by
      simp only [Int.mul_sub, Int.mul_add, Int.add_mul, Int.sub_mul, Int.mul_assoc]; omega
    dsimp only at *
    rw [e1, e2]
    simp only [Int.neg_mul, Int.sub_neg] at h1
    exact ⟨h1, h2⟩
/-- The coordinates of an exact product: a bound; its norm. -/
def bU : Nat → Int
  | 0 => 1
  | j + 1 => 2 ^ j * bU j + bU j
theorem exu_bd {d : Nat → Int} (hd : Pm d) : ∀ j, (-bU j ≤ (exu d j).1 ∧ (exu d j).1 ≤ bU j) ∧ (-bU j ≤ (exu d j).2 ∧ (exu d j).2 ≤ bU j) := by
  intro j
  induction j with
  | zero => simp [bU, exu]
  | succ j ih =>
    obtain ⟨⟨a1, a2⟩, b1, b2⟩ := ih
    have hp := Int.le_of_lt (p2_pos j)
    have c1 := Int.mul_le_mul_of_nonneg_left a1 hp
    have c2 := Int.mul_le_mul_of_nonneg_left a2 hp
    have c3 := Int.mul_le_mul_of_nonneg_left b1 hp
    have c4 := Int.mul_le_mul_of_nonneg_left b2 hp
    rw [Int.mul_neg] at c1 c3
    simp only [bU, exu]
    rcases hd j with e | e <;> rw [e] <;> omega
def nn : Nat → Int
  | 0 => 1
  | j + 1 => (2 ^ j * 2 ^ j + 1) * nn j
theorem exu_nn {d : Nat → Int} (hd : Pm d) : ∀ j, (exu d j).1 * (exu d j).1 + (exu d j).2 * (exu d j).2 = nn j := by
  intro j
  induction j with
  | zero => simp [nn, exu]
  | succ j ih =>
    simp only [nn, exu]
    rw [← ih]
    generalize (2 : Int) ^ j = P
    generalize exu d j = q
    obtain ⟨u, v⟩ := q
    rcases hd j with e | e <;> rw [e]
    all_goals
      simp only [Int.mul_sub, Int.mul_add, Int.add_mul, Int.sub_mul, Int.mul_neg, Int.neg_mul, Int.one_mul, Int.mul_one, Int.mul_assoc, Int.mul_comm, Int.mul_left_comm, Int.sub_neg]
      omega
/-- What is left of the angle. -/
def rz (k : Nat) : Int := (tb.drop k).foldr (· + ·) 0 + 1708
theorem rz_all : (List.range 26).all (fun k => decide (rz k = tbl k + rz (k + 1)) && decide (tbl k ≤ rz (k + 1))) = true := by decide +kernel
theorem rz_step {k : Nat} (h : k < 26) : rz k = tbl k + rz (k + 1) ∧ tbl k ≤ rz (k + 1) := by
  have e := rz_all
  rw [List.all_eq_true] at e
  have := e k (by simp [h])
  simpa using this
theorem z_bd (β z0 : Int) (h1 : -45000000000 ≤ z0) (h2 : z0 ≤ 45000000000) : ∀ k, k ≤ 26 → -rz k ≤ (itS (β, 0, z0) k).2.2 ∧ (itS (β, 0, z0) k).2.2 ≤ rz k := by
  intro k
  induction k with
  | zero =>
    intro _
    have e : 45000000000 ≤ rz 0 := by decide +kernel
    simp only [itS]
    omega
  | succ k ih =>
    intro hk
    have hi := ih (by omega)
    have hr := rz_step (k := k) (by omega)
    have ht := tbl_bd k
    rw [itS_step]
    unfold dS
    dsimp only
    split <;> omega
def ssum (d : Nat → Int) : Nat → Int
  | 0 => 0
  | k + 1 => ssum d k + d k * tbl k
theorem z_sum (β z0 : Int) : ∀ k, (itS (β, 0, z0) k).2.2 = z0 - ssum (dS (β, 0, z0)) k := by
  intro k
  induction k with
  | zero => simp [itS, ssum]
  | succ k ih =>
    rw [itS_step]
    simp only [ssum]
    rw [ih]
    omega
theorem w_sum (a0 b0 z0 : Int) : ∀ k, (itA (a0, b0, z0) k).2.2 = z0 + ssum (dA (a0, b0, z0)) k := by
  intro k
  induction k with
  | zero => simp [itA, ssum]
  | succ k ih =>
    rw [itA_step]
    simp only [ssum]
    rw [ih]
    omega
/-- Behind each round the second coordinate is small against the first. -/
theorem ab_bd (a0 b0 z0 : Int) (h0 : 0 < a0) (h1 : -a0 ≤ b0) (h2 : b0 ≤ a0) : ∀ k, a0 ≤ (itA (a0, b0, z0) k).1 ∧ -(2 * (itA (a0, b0, z0) k).1 + 2 ^ k * k) ≤ 2 ^ k * (itA (a0, b0, z0) k).2.1 ∧ 2 ^ k * (itA (a0, b0, z0) k).2.1 ≤ 2 * (itA (a0, b0, z0) k).1 + 2 ^ k * k := by
  intro k
  induction k with
  | zero => simp [itA]; omega
  | succ k ih =>
    obtain ⟨i1, i2, i3⟩ := ih
    rw [itA_step]
    unfold dA
    generalize itA (a0, b0, z0) k = r at *
    obtain ⟨a, b, z⟩ := r
    dsimp only at *
    have hp := p2_pos k
    have e2 : (2 : Int) ^ (k + 1) = 2 * 2 ^ k := by rw [Int.pow_succ, Int.mul_comm]
    have ek : ((k + 1 : Nat) : Int) = (k : Int) + 1 := by omega
    rw [e2, ek]
    generalize (2 : Int) ^ k = P at *
    have hpk : 0 ≤ P * (k : Int) := Int.mul_nonneg (Int.le_of_lt hp) (by omega)
    have a1 := Int.emod_nonneg a (show P ≠ 0 by omega)
    have a2 := Int.emod_lt_of_pos a hp
    have a3 := Int.emod_add_mul_ediv a P
    have b1 := Int.emod_nonneg b (show P ≠ 0 by omega)
    have b2 := Int.emod_lt_of_pos b hp
    have b3 := Int.emod_add_mul_ediv b P
    have x1 : 2 * P * (b - a / P) = 2 * (P * b) - 2 * (P * (a / P)) := by rw [Int.mul_sub, Int.mul_assoc, Int.mul_assoc]
    have x2 : 2 * P * (b + a / P) = 2 * (P * b) + 2 * (P * (a / P)) := by rw [Int.mul_add, Int.mul_assoc, Int.mul_assoc]
    have x3 : 2 * P * ((k : Int) + 1) = 2 * (P * (k : Int)) + 2 * P := by rw [Int.mul_add, Int.mul_assoc, Int.mul_one]
    rcases Int.lt_or_le b 0 with hb | hb
    · rw [if_neg (by omega)]
      have q1 : b / P < 0 := Int.ediv_neg_of_neg_of_pos hb hp
      have q3 : P * b < 0 := Int.mul_neg_of_pos_of_neg hp hb
      have e5 : a + -1 * (b / P) = a - b / P := by omega
      have e6 : b - -1 * (a / P) = b + a / P := by omega
      rw [e5, e6, x2, x3]
      refine ⟨by omega, by omega, by omega⟩
    · rw [if_pos hb]
      have q1 : 0 ≤ b / P := Int.ediv_nonneg hb (Int.le_of_lt hp)
      have q3 : 0 ≤ P * b := Int.mul_nonneg (Int.le_of_lt hp) hb
      have e5 : a + 1 * (b / P) = a + b / P := by omega
      have e6 : b - 1 * (a / P) = b - a / P := by omega
      rw [e5, e6, x1, x3]
      refine ⟨by omega, by omega, by omega⟩
theorem trn_add (p : Int × Int) (a : Nat) : ∀ b, trn (trn p a) b = trn p (a + b)
  | 0 => rfl
  | b + 1 => by rw [← Nat.add_assoc]; simp only [trn]; rw [trn_add p a b]
theorem trn_4 (p : Int × Int) (a : Nat) : trn p (a + 4) = trn p a := by simp [trn]
theorem qp_trn (p : Int × Int) (j : Nat) (h : j ≤ 3) : qp p j = trn p (4 - j) := by
  have c : j = 0 ∨ j = 1 ∨ j = 2 ∨ j = 3 := by omega
  rcases c with rfl | rfl | rfl | rfl <;> simp [qp, trn]
theorem trn_lin (P d u v : Int) : ∀ m, trn (P * u - d * v, P * v + d * u) m = (P * (trn (u, v) m).1 - d * (trn (u, v) m).2, P * (trn (u, v) m).2 + d * (trn (u, v) m).1)
  | 0 => rfl
  | m + 1 => by
    simp only [trn]
    rw [trn_lin P d u v m]
    simp only [Prod.mk.injEq, Int.mul_neg]
    omega
/-- The difference of two lists of signs. -/
def dif (d e : Nat → Int) (j : Nat) : Int := if d j = e j then 0 else d j
theorem dif_sgn {d e : Nat → Int} (hd : Pm d) : Sgn (dif d e) := fun j => by
  unfold dif
  have := hd j
  split <;> omega
theorem nrun_succ (dl : Nat → Int) (j : Nat) (p : Int × Int) : nrun dl 0 (j + 1) p = nst j (dl j) (nrun dl 0 j p) := by
  rw [nrun_add]
  simp [nrun]
theorem dif_sum {d e : Nat → Int} (hd : Pm d) (he : Pm e) : ∀ k, trun (dif d e) 0 k = ssum d k - ssum e k
  | 0 => by simp [trun, ssum]
  | k + 1 => by
    rw [trun_add, dif_sum hd he k]
    simp only [ssum, trun, Nat.zero_add]
    have h1 := hd k
    have h2 := he k
    unfold dif
    rcases h1 with h1 | h1 <;> rcases h2 with h2 | h2 <;> rw [h1, h2] <;> simp <;> omega
/-- The product of one list and the other's mirror. -/
def gg (d e : Nat → Int) (m j : Nat) : Int × Int := ((trn (exu d j) m).1 * (exu e j).1 + (trn (exu d j) m).2 * (exu e j).2, (trn (exu d j) m).2 * (exu e j).1 - (trn (exu d j) m).1 * (exu e j).2)
theorem gg_run {d e : Nat → Int} (hd : Pm d) (he : Pm e) (m : Nat) : ∀ j, ∃ c : Int, 0 < c ∧ (gg d e m j).1 = c * (nrun (dif d e) 0 j (trn (1, 0) m)).1 ∧ (gg d e m j).2 = c * (nrun (dif d e) 0 j (trn (1, 0) m)).2 := by
  intro j
  induction j with
  | zero => exact ⟨1, by decide, by simp [gg, exu, nrun], by simp [gg, exu, nrun]⟩
  | succ j ih =>
    obtain ⟨c, hc, h1, h2⟩ := ih
    rw [nrun_succ]
    generalize nrun (dif d e) 0 j (trn (1, 0) m) = q at *
    obtain ⟨g, h⟩ := q
    simp only [gg] at h1 h2 ⊢
    simp only [exu]
    rw [trn_lin]
    rw [show ((exu d j).1, (exu d j).2) = exu d j from rfl]
    generalize trn (exu d j) m = r at *
    generalize exu e j = s at *
    obtain ⟨u, v⟩ := r
    obtain ⟨x, y⟩ := s
    have e4 : (4 : Int) ^ j = 2 ^ j * 2 ^ j := by rw [show (4 : Int) = 2 * 2 from rfl, Int.mul_pow]
    have e2 : (2 : Int) ^ (j + 1) = 2 ^ j + 2 ^ j := by rw [Int.pow_succ]; omega
    have hp := p2_pos j
    unfold nst dif
    rw [e4, e2]
    generalize (2 : Int) ^ j = P at *
    (try dsimp only at *)
    have hpp : 0 < P * P := Int.mul_pos hp hp
    have k1 := congrArg (fun z => P * P * z) h1
    have k2 := congrArg (fun z => P * P * z) h2
    have k3 := congrArg (fun z => P * z) h1
    have k4 := congrArg (fun z => P * z) h2
    (try dsimp only at k1 k2 k3 k4)
    rcases hd j with ed | ed <;> rcases he j with ee | ee <;> rw [ed, ee]
    · refine ⟨(P * P + 1) * c, Int.mul_pos (by omega) hc, ?_, ?_⟩ <;> rw [if_pos rfl, if_pos rfl] <;> simp only [Int.mul_sub, Int.mul_add, Int.add_mul, Int.sub_mul, Int.mul_neg, Int.neg_mul, Int.one_mul, Int.mul_one, Int.mul_assoc, Int.mul_comm, Int.mul_left_comm, Int.sub_neg] at * <;> omega
    · refine ⟨c, hc, ?_, ?_⟩ <;> rw [if_neg (by decide), if_neg (by decide)] <;> simp only [Int.mul_sub, Int.mul_add, Int.add_mul, Int.sub_mul, Int.mul_neg, Int.neg_mul, Int.one_mul, Int.mul_one, Int.mul_assoc, Int.mul_comm, Int.mul_left_comm, Int.sub_neg] at * <;> omega
    · refine ⟨c, hc, ?_, ?_⟩ <;> rw [if_neg (by decide), if_neg (by decide)] <;> simp only [Int.mul_sub, Int.mul_add, Int.add_mul, Int.sub_mul, Int.mul_neg, Int.neg_mul, Int.one_mul, Int.mul_one, Int.mul_assoc, Int.mul_comm, Int.mul_left_comm, Int.sub_neg] at * <;> omega
    · refine ⟨(P * P + 1) * c, Int.mul_pos (by omega) hc, ?_, ?_⟩ <;> rw [if_pos rfl, if_pos rfl] <;> simp only [Int.mul_sub, Int.mul_add, Int.add_mul, Int.sub_mul, Int.mul_neg, Int.neg_mul, Int.one_mul, Int.mul_one, Int.mul_assoc, Int.mul_comm, Int.mul_left_comm, Int.sub_neg] at * <;> omega
end Go.Proofs.YtdipainocdgfgaaDoor
