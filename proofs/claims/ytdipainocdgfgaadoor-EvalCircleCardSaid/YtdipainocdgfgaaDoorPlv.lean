/- Plain words of layers 3, 6, 7 and 8: the iteration of sines and directions, expressions as trees, which trees are right, what a tree evaluates to. No program in sight. Conditions: none beyond each lemma's own premises. -/
import Derived.Test.YtdipainocdgfgaaDoorH
import Derived.Test.YtdipainocdgfgaaDoorO
namespace Go.Proofs.YtdipainocdgfgaaDoor
set_option linter.unusedVariables false
set_option linter.unusedSimpArgs false

/-- The arctangents of the powers of 1/2, in 10^-9 degrees. -/
def tb : List Int := [45000000000, 26565051177, 14036243468, 7125016349, 3576334375, 1789910608, 895173710, 447614171, 223810500, 111905677, 55952892, 27976453, 13988227, 6994114, 3497057, 1748528, 874264, 437132, 218566, 109283, 54642, 27321, 13660, 6830, 3415, 1708]
def tbl (i : Nat) : Int := tb.getD i 0
abbrev P3 := Int × Int × Int
def stS (i : Nat) (p : P3) : P3 := if 0 ≤ p.2.2 then (p.1 - p.2.1 / 2 ^ i, p.2.1 + p.1 / 2 ^ i, p.2.2 - tbl i) else (p.1 + p.2.1 / 2 ^ i, p.2.1 - p.1 / 2 ^ i, p.2.2 + tbl i)
def stA (i : Nat) (p : P3) : P3 := if 0 ≤ p.2.1 then (p.1 + p.2.1 / 2 ^ i, p.2.1 - p.1 / 2 ^ i, p.2.2 + tbl i) else (p.1 - p.2.1 / 2 ^ i, p.2.1 + p.1 / 2 ^ i, p.2.2 - tbl i)
def itS (p : P3) : Nat → P3
  | 0 => p
  | k + 1 => stS k (itS p k)
def itA (p : P3) : Nat → P3
  | 0 => p
  | k + 1 => stA k (itA p k)
/-- A bound of the coordinates after k rounds. -/
def gr : Nat → Int
  | 0 => 1152921504606846976
  | k + 1 => gr k + gr k / 2 ^ k + 1
theorem gr_26 : gr 26 ≤ 9223372036854775000 := by decide +kernel
theorem gr_nonneg : ∀ k, 0 ≤ gr k
  | 0 => by decide
  | k + 1 => by
    have h := gr_nonneg k
    have h2 : 0 ≤ gr k / 2 ^ k := Int.ediv_nonneg h (Int.le_of_lt (Int.pow_pos (by decide)))
    simp only [gr]; omega
theorem gr_succ (k : Nat) : gr k ≤ gr (k + 1) := by
  have h2 : 0 ≤ gr k / 2 ^ k := Int.ediv_nonneg (gr_nonneg k) (Int.le_of_lt (Int.pow_pos (by decide)))
  simp only [gr]; omega
theorem gr_mono {j k : Nat} (h : j ≤ k) : gr j ≤ gr k := by
  induction h with
  | refl => exact Int.le_refl _
  | step _ ih => exact Int.le_trans ih (gr_succ _)
theorem gr_top {k : Nat} (h : k ≤ 26) : gr k ≤ 9223372036854775000 := Int.le_trans (gr_mono h) gr_26
theorem sh_bd {b m : Int} (i : Nat) (h1 : -m ≤ b) (h2 : b ≤ m) : -(m / 2 ^ i + 1) ≤ b / 2 ^ i ∧ b / 2 ^ i ≤ m / 2 ^ i := by
  have hp : (0 : Int) < 2 ^ i := Int.pow_pos (by decide)
  refine ⟨?_, Int.ediv_le_ediv hp h2⟩
  have h3 : (-m) / 2 ^ i ≤ b / 2 ^ i := Int.ediv_le_ediv hp h1
  have h4 : -(m / 2 ^ i + 1) ≤ (-m) / 2 ^ i := by
    rw [Int.le_ediv_iff_mul_le hp]
    have h5 := Int.emod_add_mul_ediv m (2 ^ i)
    have h6 := Int.emod_lt_of_pos m hp
    have h7 : -(m / 2 ^ i + 1) * 2 ^ i = -(2 ^ i * (m / 2 ^ i)) - 2 ^ i := by rw [Int.neg_mul, Int.add_mul, Int.one_mul, Int.mul_comm]; omega
    rw [h7]
    omega
  omega
theorem sh_le {b m : Int} (i : Nat) (h1 : -m ≤ b) (h2 : b ≤ m) : -(m + 1) ≤ b / 2 ^ i ∧ b / 2 ^ i ≤ m := by
  have h := sh_bd i h1 h2
  have hm : 0 ≤ m := by omega
  have h3 : m / 2 ^ i ≤ m := Int.ediv_le_self _ hm
  omega
theorem tbl_bd (i : Nat) : 0 ≤ tbl i ∧ tbl i ≤ 45000000000 := by
  have h : ∀ x ∈ tb, (0 : Int) ≤ x ∧ x ≤ 45000000000 := by decide
  unfold tbl
  rw [List.getD_eq_getElem?_getD]
  rcases hx : tb[i]? with _ | x
  · simp
  · exact h x (List.mem_of_getElem? hx)
/-- The coordinates after k rounds are bounded. -/
def Bd (k : Nat) (p : P3) : Prop := (-gr k ≤ p.1 ∧ p.1 ≤ gr k) ∧ (-gr k ≤ p.2.1 ∧ p.2.1 ≤ gr k) ∧ -(100000000000 + 45000000000 * k) ≤ p.2.2 ∧ p.2.2 ≤ 100000000000 + 45000000000 * k
theorem Bd.stS {k : Nat} {p : P3} (h : Bd k p) : Bd (k + 1) (stS k p) := by
  obtain ⟨⟨a1, a2⟩, ⟨b1, b2⟩, c1, c2⟩ := h
  have h1 := sh_bd k a1 a2
  have h2 := sh_bd k b1 b2
  have h3 := tbl_bd k
  have e : gr (k + 1) = gr k + gr k / 2 ^ k + 1 := rfl
  unfold Proofs.YtdipainocdgfgaaDoor.stS Bd
  split
  all_goals
    dsimp only
    rw [e]
    refine ⟨⟨?_, ?_⟩, ⟨?_, ?_⟩, ?_, ?_⟩ <;> omega
theorem Bd.stA {k : Nat} {p : P3} (h : Bd k p) : Bd (k + 1) (stA k p) := by
  obtain ⟨⟨a1, a2⟩, ⟨b1, b2⟩, c1, c2⟩ := h
  have h1 := sh_bd k a1 a2
  have h2 := sh_bd k b1 b2
  have h3 := tbl_bd k
  have e : gr (k + 1) = gr k + gr k / 2 ^ k + 1 := rfl
  unfold Proofs.YtdipainocdgfgaaDoor.stA Bd
  split
  all_goals
    dsimp only
    rw [e]
    refine ⟨⟨?_, ?_⟩, ⟨?_, ?_⟩, ?_, ?_⟩ <;> omega
theorem Bd.itS {p : P3} (h : Bd 0 p) : ∀ k, Bd k (itS p k)
  | 0 => h
  | k + 1 => (Bd.itS h k).stS
theorem Bd.itA {p : P3} (h : Bd 0 p) : ∀ k, Bd k (itA p k)
  | 0 => h
  | k + 1 => (Bd.itA h k).stA
/-- What a walk wants to know of the coordinates behind k rounds. -/
theorem Bd.nums {k : Nat} {x y z : Int} (hk : k < 26) (h : Bd k (x, y, z)) :
    (-9223372036854775000 ≤ x - y / 2 ^ k ∧ x - y / 2 ^ k ≤ 9223372036854775000) ∧ (-9223372036854775000 ≤ x + y / 2 ^ k ∧ x + y / 2 ^ k ≤ 9223372036854775000) ∧
    (-9223372036854775000 ≤ y - x / 2 ^ k ∧ y - x / 2 ^ k ≤ 9223372036854775000) ∧ (-9223372036854775000 ≤ y + x / 2 ^ k ∧ y + x / 2 ^ k ≤ 9223372036854775000) ∧
    -2000000000000 ≤ z ∧ z ≤ 2000000000000 := by
  obtain ⟨⟨a1, a2⟩, ⟨b1, b2⟩, c1, c2⟩ := h
  have h1 := sh_bd k a1 a2
  have h2 := sh_bd k b1 b2
  have e : gr (k + 1) = gr k + gr k / 2 ^ k + 1 := rfl
  have g := gr_top (show k + 1 ≤ 26 by omega)
  dsimp only at *
  omega
/-- k quarter turns. -/
def trn (p : Int × Int) : Nat → Int × Int
  | 0 => p
  | k + 1 => (-(trn p k).2, (trn p k).1)
theorem trn_bd {p : Int × Int} {M : Int} (h1 : -M ≤ p.1 ∧ p.1 ≤ M) (h2 : -M ≤ p.2 ∧ p.2 ≤ M) : ∀ k, (-M ≤ (trn p k).1 ∧ (trn p k).1 ≤ M) ∧ (-M ≤ (trn p k).2 ∧ (trn p k).2 ≤ M)
  | 0 => ⟨h1, h2⟩
  | k + 1 => by
    have h := trn_bd h1 h2 k
    simp only [trn]
    omega
/-- The sine and the cosine of an angle, in parts of 2^30. -/
def scR (angle : Int) : Int := angle % 360000000
def scK (angle : Int) : Int := (scR angle + 45000000) / 90000000
def scZ (angle : Int) : Int := scR angle - scK angle * 90000000
def scXY (angle : Int) : Int × Int := if scZ angle = 0 then (1073741824, 0) else ((itS (652032874, 0, scZ angle * 1000) 26).1, (itS (652032874, 0, scZ angle * 1000) 26).2.1)
def sinS (angle : Int) : Int × Int := ((trn (scXY angle) (scK angle).toNat).2, (trn (scXY angle) (scK angle).toNat).1)
/-- An expression: its operator, its number, how many parts it has and which. -/
inductive Tr where
  | none_
  | mk (op n : Int) (k : Nat) (kid : Nat → Tr)
def kidsS (op : Int) : Int :=
  if op = 0 then 0
  else if (3 ≤ op ∧ op ≤ 7) ∨ op = 11 ∨ (17 ≤ op ∧ op ≤ 25) then 2
  else if 1 ≤ op ∧ op ≤ 25 then 1
  else -1
theorem kidsS_bd (op : Int) : -1 ≤ kidsS op ∧ kidsS op ≤ 2 := by unfold kidsS; repeat' split <;> omega
def numS (op n : Int) : Bool := if op = 0 then decide (0 ≤ n ∧ n < 1000000000000000) else decide (n = 0)
/-- Is an expression well formed and at most m deep? -/
def rightS : Nat → Tr → Bool
  | 0, _ => false
  | _ + 1, .none_ => false
  | m + 1, .mk op n k kid => decide ((k : Int) = kidsS op) && numS op n && (List.range k).all fun i => rightS m (kid i)
theorem rightS_kids {m : Nat} {op n : Int} {k : Nat} {kid : Nat → Tr} (h : rightS (m + 1) (.mk op n k kid) = true) : (k : Int) = kidsS op ∧ numS op n = true ∧ ∀ i, i < k → rightS m (kid i) = true := by
  simp only [rightS, Bool.and_eq_true, decide_eq_true_eq, List.all_eq_true, List.mem_range] at h
  exact ⟨h.1.1, h.1.2, h.2⟩
theorem rightS_mk {m : Nat} {op n : Int} {k : Nat} {kid : Nat → Tr} (h1 : (k : Int) = kidsS op) (h2 : numS op n = true) (h3 : ∀ i, i < k → rightS m (kid i) = true) : rightS (m + 1) (.mk op n k kid) = true := by
  simp only [rightS, Bool.and_eq_true, decide_eq_true_eq, List.all_eq_true, List.mem_range]
  exact ⟨⟨h1, h2⟩, h3⟩
theorem rightS_no1 {m : Nat} {op n : Int} {k : Nat} {kid : Nat → Tr} (h : (k : Int) ≠ kidsS op) : rightS (m + 1) (.mk op n k kid) = false := by
  rcases e : rightS (m + 1) (.mk op n k kid)
  · rfl
  · exact absurd (rightS_kids e).1 h
theorem rightS_no2 {m : Nat} {op n : Int} {k : Nat} {kid : Nat → Tr} (h : numS op n = false) : rightS (m + 1) (.mk op n k kid) = false := by
  rcases e : rightS (m + 1) (.mk op n k kid)
  · rfl
  · have := (rightS_kids e).2.1; rw [h] at this; cases this
theorem rightS_no3 {m : Nat} {op n : Int} {k : Nat} {kid : Nat → Tr} {i : Nat} (hi : i < k) (h : rightS m (kid i) = false) : rightS (m + 1) (.mk op n k kid) = false := by
  rcases e : rightS (m + 1) (.mk op n k kid)
  · rfl
  · have := (rightS_kids e).2.2 i hi; rw [h] at this; cases this
theorem rightS_mono {t : Tr} : ∀ {m m' : Nat}, m ≤ m' → rightS m t = true → rightS m' t = true := by
  induction t with
  | none_ => intro m m' _ h; cases m <;> cases h
  | mk op n k kid ih =>
    intro m m' hm h
    rcases m with _ | m
    · cases h
    rcases m' with _ | m'
    · omega
    obtain ⟨h1, h2, h3⟩ := rightS_kids h
    exact rightS_mk h1 h2 fun i hi => ih i (by omega) (h3 i hi)
end Go.Proofs.YtdipainocdgfgaaDoor
