/- The law of the circle: sine and cosine lie near a circle, the arc tangent leads back to the angle. No program in sight. Conditions: the angle lies within one turn. -/
import Derived.Test.YtdipainocdgfgaaDoorCib
import Derived.Test.YtdipainocdgfgaaDoorPle2
namespace Go.Proofs.YtdipainocdgfgaaDoor
set_option linter.unusedVariables false
set_option linter.unusedSimpArgs false

theorem sS26 : sS 26 = 2 ^ 325 := by decide +kernel
theorem er26 : er 26 = 55 := by decide +kernel
theorem bU26 : bU 26 ≤ 5 * 2 ^ 325 := by decide +kernel
theorem nn26 : 1152921504000000000 * (2 ^ 325 * 2 ^ 325) ≤ 652032874 * 652032874 * nn 26 ∧ 652032874 * 652032874 * nn 26 ≤ 1152921504606846976 * (2 ^ 325 * 2 ^ 325) := by decide +kernel
theorem mul_bd {a b A B : Int} (h1 : -A ≤ a) (h2 : a ≤ A) (h3 : -B ≤ b) (h4 : b ≤ B) : -(A * B) ≤ a * b ∧ a * b ≤ A * B := by
  have p1 := Int.mul_nonneg (show 0 ≤ A - a by omega) (show 0 ≤ B + b by omega)
  have p2 := Int.mul_nonneg (show 0 ≤ A + a by omega) (show 0 ≤ B - b by omega)
  have p3 := Int.mul_nonneg (show 0 ≤ A - a by omega) (show 0 ≤ B - b by omega)
  have p4 := Int.mul_nonneg (show 0 ≤ A + a by omega) (show 0 ≤ B + b by omega)
  simp only [Int.sub_mul, Int.add_mul, Int.mul_sub, Int.mul_add] at p1 p2 p3 p4
  omega
theorem sq_nn (a : Int) : 0 ≤ a * a := by
  rcases Int.le_total 0 a with h | h
  · exact Int.mul_nonneg h h
  · have := Int.mul_nonneg (show 0 ≤ -a by omega) (show 0 ≤ -a by omega)
    rwa [Int.neg_mul_neg] at this
theorem trn_near (S β E x y U V : Int) (h1 : -E ≤ S * x - β * U ∧ S * x - β * U ≤ E) (h2 : -E ≤ S * y - β * V ∧ S * y - β * V ≤ E) : ∀ m, (-E ≤ S * (trn (x, y) m).1 - β * (trn (U, V) m).1 ∧ S * (trn (x, y) m).1 - β * (trn (U, V) m).1 ≤ E) ∧ (-E ≤ S * (trn (x, y) m).2 - β * (trn (U, V) m).2 ∧ S * (trn (x, y) m).2 - β * (trn (U, V) m).2 ≤ E)
  | 0 => ⟨h1, h2⟩
  | m + 1 => by
    have h := trn_near S β E x y U V h1 h2 m
    simp only [trn, Int.mul_neg]
    omega
theorem trn_nn (p : Int × Int) : ∀ m, (trn p m).1 * (trn p m).1 + (trn p m).2 * (trn p m).2 = p.1 * p.1 + p.2 * p.2
  | 0 => rfl
  | m + 1 => by
    have h := trn_nn p m
    simp only [trn, Int.neg_mul_neg]
    omega
theorem sq_lt {a L K : Int} (hL : 0 ≤ L) (h : a * a ≤ K) (hK : K < (L + 1) * (L + 1)) : -L ≤ a ∧ a ≤ L := by
  constructor
  · rcases Int.lt_or_le a (-L) with c | c
    · exfalso
      have := Int.mul_le_mul (show L + 1 ≤ -a by omega) (show L + 1 ≤ -a by omega) (by omega) (by omega)
      rw [Int.neg_mul_neg] at this
      omega
    · exact c
  · rcases Int.lt_or_le L a with c | c
    · exfalso
      have := Int.mul_le_mul (show L + 1 ≤ a by omega) (show L + 1 ≤ a by omega) (by omega) (by omega)
      omega
    · exact c
/-- The iterate of an angle lies near the circle. -/
theorem norm_near (z0 : Int) : -1152921504606 ≤ (itS (652032874, 0, z0) 26).1 * (itS (652032874, 0, z0) 26).1 + (itS (652032874, 0, z0) 26).2.1 * (itS (652032874, 0, z0) 26).2.1 - 1152921504606846976 ∧ (itS (652032874, 0, z0) 26).1 * (itS (652032874, 0, z0) 26).1 + (itS (652032874, 0, z0) 26).2.1 * (itS (652032874, 0, z0) 26).2.1 - 1152921504606846976 ≤ 1152921504606 := by
  obtain ⟨⟨a1, a2⟩, b1, b2⟩ := fw_err 652032874 z0 26
  have hb := exu_bd (dS_pm (652032874, 0, z0)) 26
  have hn := exu_nn (dS_pm (652032874, 0, z0)) 26
  have hU := bU26
  have hnn := nn26
  rw [sS26, er26] at a1 a2 b1 b2
  rw [← hn] at hnn
  generalize exu (dS (652032874, 0, z0)) 26 = q at *
  generalize itS (652032874, 0, z0) 26 = r at *
  obtain ⟨U, V⟩ := q
  obtain ⟨x, y, z⟩ := r
  dsimp only at *
  generalize bU 26 = W at *
  obtain ⟨⟨u1, u2⟩, v1, v2⟩ := hb
  clear hn
  have p1 := mul_bd (a := 2 ^ 325 * x - 652032874 * U) (b := 2 ^ 325 * x + 652032874 * U) (A := 55 * 2 ^ 325) (B := 6520329000 * 2 ^ 325) a1 a2 (by omega) (by omega)
  have p2 := mul_bd (a := 2 ^ 325 * y - 652032874 * V) (b := 2 ^ 325 * y + 652032874 * V) (A := 55 * 2 ^ 325) (B := 6520329000 * 2 ^ 325) b1 b2 (by omega) (by omega)
  have e1 : ∀ s t : Int, (2 ^ 325 * s - 652032874 * t) * (2 ^ 325 * s + 652032874 * t) = 2 ^ 325 * 2 ^ 325 * (s * s) - 652032874 * 652032874 * (t * t) := by
    intro s t
    simp only [Int.mul_add, Int.sub_mul]
    have c1 : (2 : Int) ^ 325 * s * (2 ^ 325 * s) = 2 ^ 325 * 2 ^ 325 * (s * s) := by ac_rfl
    have c2 : (652032874 : Int) * t * (652032874 * t) = 652032874 * 652032874 * (t * t) := by ac_rfl
    have c3 : (2 : Int) ^ 325 * s * (652032874 * t) = 652032874 * t * (2 ^ 325 * s) := Int.mul_comm _ _
    omega
  rw [e1] at p1 p2
  generalize x * x = xx at *
  generalize y * y = yy at *
  generalize U * U = UU at *
  generalize V * V = VV at *
  clear e1 a1 a2 b1 b2 u1 u2 v1 v2 hU
  have e3 : (2 : Int) ^ 325 * 2 ^ 325 = 2 ^ 650 := by decide +kernel
  have e4 : (55 : Int) * 2 ^ 325 * (6520329000 * 2 ^ 325) = 358618095000 * 2 ^ 650 := by decide +kernel
  rw [e3] at p1 p2 hnn
  rw [e4] at p1 p2
  omega
/-- The two lists of signs lead near the positive ray. -/
theorem close_law (z0 : Int) (m : Nat) (u v : Int) (hu : -536870912 ≤ 1073741824 * u - 1000000 * (trn ((itS (652032874, 0, z0) 26).1, (itS (652032874, 0, z0) 26).2.1) m).1 ∧ 1073741824 * u - 1000000 * (trn ((itS (652032874, 0, z0) 26).1, (itS (652032874, 0, z0) 26).2.1) m).1 ≤ 536870912)
    (hv : -536870912 ≤ 1073741824 * v - 1000000 * (trn ((itS (652032874, 0, z0) 26).1, (itS (652032874, 0, z0) 26).2.1) m).2 ∧ 1073741824 * v - 1000000 * (trn ((itS (652032874, 0, z0) 26).1, (itS (652032874, 0, z0) 26).2.1) m).2 ≤ 536870912) (h7 : 700000 ≤ u) (h8 : -u ≤ v) (h9 : v ≤ u) :
    0 < (gg (dS (652032874, 0, z0)) (dA (u * 1048576, v * 1048576, 0)) m 26).1 ∧ -(gg (dS (652032874, 0, z0)) (dA (u * 1048576, v * 1048576, 0)) m 26).1 ≤ 100000 * (gg (dS (652032874, 0, z0)) (dA (u * 1048576, v * 1048576, 0)) m 26).2 ∧ 100000 * (gg (dS (652032874, 0, z0)) (dA (u * 1048576, v * 1048576, 0)) m 26).2 ≤ (gg (dS (652032874, 0, z0)) (dA (u * 1048576, v * 1048576, 0)) m 26).1 := by
  obtain ⟨f1, f2⟩ := fw_err 652032874 z0 26
  have ft := trn_near _ _ _ _ _ _ _ f1 f2 m
  obtain ⟨⟨a1, a2⟩, b1, b2⟩ := bw_err (u * 1048576) (v * 1048576) 0 26
  have hab := ab_bd (u * 1048576) (v * 1048576) 0 (by omega) (by omega) (by omega) 26
  have hb := exu_bd (dA_pm (u * 1048576, v * 1048576, 0)) 26
  have hU := bU26
  rw [sS26, er26] at ft a1 a2 b1 b2
  clear f1 f2
  unfold gg
  rw [show ((exu (dS (652032874, 0, z0)) 26).1, (exu (dS (652032874, 0, z0)) 26).2) = exu (dS (652032874, 0, z0)) 26 from rfl] at ft
  generalize exu (dA (u * 1048576, v * 1048576, 0)) 26 = q at *
  generalize itA (u * 1048576, v * 1048576, 0) 26 = w at *
  generalize trn (exu (dS (652032874, 0, z0)) 26) m = r at *
  generalize trn ((itS (652032874, 0, z0) 26).1, (itS (652032874, 0, z0) 26).2.1) m = s at *
  obtain ⟨X, Y⟩ := q
  obtain ⟨A, B, z⟩ := w
  obtain ⟨U, V⟩ := r
  obtain ⟨x, y⟩ := s
  dsimp only at *
  generalize bU 26 = W at *
  obtain ⟨⟨c1, c2⟩, c3, c4⟩ := hb
  obtain ⟨⟨g1, g2⟩, g3, g4⟩ := ft
  obtain ⟨k1, k2, k3⟩ := hab
  obtain ⟨u1, u2⟩ := hu
  obtain ⟨v1, v2⟩ := hv
  have r1 : -(2 ^ 325 * 591870912) ≤ 2 ^ 325 * 1073741824 * u - 1000000 * 652032874 * U ∧ 2 ^ 325 * 1073741824 * u - 1000000 * 652032874 * U ≤ 2 ^ 325 * 591870912 := by omega
  have r2 : -(2 ^ 325 * 591870912) ≤ 2 ^ 325 * 1073741824 * v - 1000000 * 652032874 * V ∧ 2 ^ 325 * 1073741824 * v - 1000000 * 652032874 * V ≤ 2 ^ 325 * 591870912 := by omega
  have x1 : -(5 * 2 ^ 325) ≤ X ∧ X ≤ 5 * 2 ^ 325 := by omega
  have y1 : -(5 * 2 ^ 325) ≤ Y ∧ Y ≤ 5 * 2 ^ 325 := by omega
  clear g1 g2 g3 g4 u1 u2 v1 v2 c1 c2 c3 c4 hU
  have p1 := mul_bd r1.1 r1.2 x1.1 x1.2
  have p2 := mul_bd r2.1 r2.2 y1.1 y1.2
  have p3 := mul_bd r2.1 r2.2 x1.1 x1.2
  have p4 := mul_bd r1.1 r1.2 y1.1 y1.2
  have en : (2 : Int) ^ 325 * 591870912 * (5 * 2 ^ 325) = 2959354560 * 2 ^ 650 := by decide +kernel
  rw [en, Int.sub_mul, Int.mul_assoc, Int.mul_assoc (1000000 * 652032874)] at p1 p2 p3 p4
  have q1 : X * (u * 1048576) = u * X * 1048576 := by ac_rfl
  have q2 : Y * (v * 1048576) = v * Y * 1048576 := by ac_rfl
  have q3 : X * (v * 1048576) = v * X * 1048576 := by ac_rfl
  have q4 : Y * (u * 1048576) = u * Y * 1048576 := by ac_rfl
  rw [q1, q2] at a1 a2
  rw [q3, q4] at b1 b2
  clear r1 r2 x1 y1 en q1 q2 q3 q4
  generalize u * X = uX at *
  generalize v * Y = vY at *
  generalize v * X = vX at *
  generalize u * Y = uY at *
  generalize U * X = UX at *
  generalize V * Y = VY at *
  generalize V * X = VX at *
  generalize U * Y = UY at *
  have hA : 734003200000 ≤ A := by omega
  have hB1 : 33554432 * B ≤ A + 33554432 * 26 := by omega
  have hB2 : -(A + 33554432 * 26) ≤ 33554432 * B := by omega
  clear k1 k2 k3 h7 h8 h9
  refine ⟨?_, ?_, ?_⟩ <;> omega
/-- A list of signs whose product is nearly real. -/
def d0 : Nat → Int := dA (576460752303423488, 0, 0)
theorem d0_u : 2 ^ 325 ≤ (exu d0 26).1 ∧ (exu d0 26).1 ≤ 2 * 2 ^ 325 ∧ -(2 ^ 325) ≤ 1000000 * (exu d0 26).2 ∧ 1000000 * (exu d0 26).2 ≤ 2 ^ 325 := by decide +kernel
theorem d0_s : -3000 ≤ ssum d0 26 ∧ ssum d0 26 ≤ 3000 := by decide +kernel
theorem close_law0 (z0 : Int) (m : Nat) (u : Int) (hu : -536870912 ≤ 1073741824 * u - 1000000 * (trn ((itS (652032874, 0, z0) 26).1, (itS (652032874, 0, z0) 26).2.1) m).1 ∧ 1073741824 * u - 1000000 * (trn ((itS (652032874, 0, z0) 26).1, (itS (652032874, 0, z0) 26).2.1) m).1 ≤ 536870912)
    (hv : -536870912 ≤ 1073741824 * 0 - 1000000 * (trn ((itS (652032874, 0, z0) 26).1, (itS (652032874, 0, z0) 26).2.1) m).2 ∧ 1073741824 * 0 - 1000000 * (trn ((itS (652032874, 0, z0) 26).1, (itS (652032874, 0, z0) 26).2.1) m).2 ≤ 536870912) (h7 : 700000 ≤ u) :
    0 < (gg (dS (652032874, 0, z0)) d0 m 26).1 ∧ -(gg (dS (652032874, 0, z0)) d0 m 26).1 ≤ 100000 * (gg (dS (652032874, 0, z0)) d0 m 26).2 ∧ 100000 * (gg (dS (652032874, 0, z0)) d0 m 26).2 ≤ (gg (dS (652032874, 0, z0)) d0 m 26).1 := by
  obtain ⟨f1, f2⟩ := fw_err 652032874 z0 26
  have ft := trn_near _ _ _ _ _ _ _ f1 f2 m
  have hb := exu_bd (dS_pm (652032874, 0, z0)) 26
  have hU := bU26
  have hd := d0_u
  rw [sS26, er26] at ft
  clear f1 f2 hb hU
  unfold gg
  rw [show ((exu (dS (652032874, 0, z0)) 26).1, (exu (dS (652032874, 0, z0)) 26).2) = exu (dS (652032874, 0, z0)) 26 from rfl] at ft
  generalize exu d0 26 = q at *
  generalize trn (exu (dS (652032874, 0, z0)) 26) m = r at *
  generalize trn ((itS (652032874, 0, z0) 26).1, (itS (652032874, 0, z0) 26).2.1) m = s at *
  obtain ⟨X, Y⟩ := q
  obtain ⟨U, V⟩ := r
  obtain ⟨x, y⟩ := s
  dsimp only at *
  obtain ⟨⟨g1, g2⟩, g3, g4⟩ := ft
  obtain ⟨u1, u2⟩ := hu
  obtain ⟨v1, v2⟩ := hv
  obtain ⟨x1, x2, y1, y2⟩ := hd
  have k1 : 2 ^ 325 ≤ U := by omega
  have k2 : -(2 ^ 325) ≤ 1000000 * V ∧ 1000000 * V ≤ 2 ^ 325 := by omega
  clear g1 g2 g3 g4 u1 u2 v1 v2
  have k0 : (0 : Int) ≤ 2 ^ 325 := by decide +kernel
  -- V against U, Y against X
  have a1 : 1000000 * V ≤ U := by omega
  have a2 : -U ≤ 1000000 * V := by omega
  have b1 : 1000000 * Y ≤ X := by omega
  have b2 : -X ≤ 1000000 * Y := by omega
  have hU : 0 < U := by have : (0 : Int) < 2 ^ 325 := (by decide +kernel); omega
  have hX : 0 < X := by have : (0 : Int) < 2 ^ 325 := (by decide +kernel); omega
  clear x1 x2 y1 y2 k1 k2 k0
  have c1 := Int.mul_le_mul_of_nonneg_right a1 (Int.le_of_lt hX)
  have c2 := Int.mul_le_mul_of_nonneg_right a2 (Int.le_of_lt hX)
  have c3 := Int.mul_le_mul_of_nonneg_left b1 (Int.le_of_lt hU)
  have c4 := Int.mul_le_mul_of_nonneg_left b2 (Int.le_of_lt hU)
  have c5 := mul_bd a2 a1 b2 b1
  have hUX := Int.mul_pos hU hX
  have e5 : 1000000 * V * (1000000 * Y) = 1000000000000 * (V * Y) := by rw [show (1000000000000 : Int) = 1000000 * 1000000 from rfl]; ac_rfl
  rw [e5] at c5
  rw [Int.mul_assoc] at c1 c2
  rw [Int.mul_left_comm] at c3 c4
  rw [Int.neg_mul] at c2
  rw [Int.mul_neg] at c4
  refine ⟨?_, ?_, ?_⟩ <;> omega
theorem ngt_S (S : Int) : ngt S 1000000 1073741824 = decide (S < 0) := by
  unfold ngt
  rcases Int.lt_trichotomy S 0 with h | h | h
  · rw [show decide (S < 0) = true from decide_eq_true h, sg_neg (by omega) (by omega) (by omega)]; rfl
  · rw [sg_zero (.inl h), h]; rfl
  · rw [show decide (S < 0) = false from decide_eq_false (by omega), sg_pos (by omega) (by omega) (by omega)]; rfl
theorem grw_2 (more : Int) (some neg : Bool) : grw 2 more some neg = (decide (0 < more) || (decide (more = 0) && !neg)) := rfl
theorem md_near (S : Int) (h1 : -4294967296 ≤ S) (h2 : S ≤ 4294967296) : -536870912 ≤ 1073741824 * (mdS S 1000000 1073741824 2).1 - 1000000 * S ∧ 1073741824 * (mdS S 1000000 1073741824 2).1 - 1000000 * S ≤ 536870912 := by
  unfold mdS mdA
  have e2 : mg 1000000 = 1000000 := rfl
  have e3 : mg 1073741824 = 1073741824 := rfl
  rw [ngt_S, e2, e3]
  have hm := Int.emod_add_mul_ediv (mg S * 1000000) 1073741824
  have m0 := Int.emod_nonneg (mg S * 1000000) (show (1073741824 : Int) ≠ 0 by decide)
  have m1 := Int.emod_lt_of_pos (mg S * 1000000) (show (0 : Int) < 1073741824 by decide)
  have hg : mg S = S ∧ 0 ≤ S ∨ mg S = -S ∧ S < 0 := by unfold mg; omega
  generalize mg S * 1000000 / 1073741824 = q at *
  generalize mg S * 1000000 % 1073741824 = r at *
  have hb : ((if grw 2 (half r 1073741824) (decide (0 < r)) (decide (S < 0)) then (1 : Int) else 0) = 0 ∧ 2 * r ≤ 1073741824) ∨ ((if grw 2 (half r 1073741824) (decide (0 < r)) (decide (S < 0)) then (1 : Int) else 0) = 1 ∧ 1073741824 ≤ 2 * r) := by
    rw [grw_2]
    rcases Int.lt_trichotomy (1073741824 - r) r with h | h | h
    · rw [half_hi h]; exact .inr ⟨rfl, by omega⟩
    · rw [half_eq h.symm]
      rcases hs : decide (S < 0) with _ | _
      · exact .inr ⟨rfl, by omega⟩
      · exact .inl ⟨rfl, by omega⟩
    · rw [half_lo h]; exact .inl ⟨rfl, by omega⟩
  unfold sgnd
  rcases hb with ⟨e, h⟩ | ⟨e, h⟩
  all_goals
    rw [e]
    rcases hg with ⟨hg, hs⟩ | ⟨hg, hs⟩
    · rw [decide_eq_false (by omega), if_neg (by decide), if_pos (by omega)]
      dsimp only
      omega
    · rw [decide_eq_true hs, if_pos rfl, if_pos (by omega)]
      dsimp only
      omega
theorem trn_mod (p : Int × Int) (n : Nat) : trn p n = trn p (n % 4) := by
  have h : ∀ t r, trn p (r + 4 * t) = trn p r := by
    intro t
    induction t with
    | zero => intro r; rfl
    | succ t ih => intro r; rw [show r + 4 * (t + 1) = (r + 4 * t) + 4 by omega, trn_4, ih]
  have := h (n / 4) (n % 4)
  rw [show n % 4 + 4 * (n / 4) = n by omega] at this
  exact this
/-- What the law asks of sine, cosine and direction. -/
def Circ (a s c : Int) : Prop := (-2000000 ≤ s ∧ s ≤ 2000000) ∧ (-2000000 ≤ c ∧ c ≤ 2000000) ∧ (-6000000 ≤ s * s + c * c - 1000000000000 ∧ s * s + c * c - 1000000000000 ≤ 6000000) ∧ (c ≠ 0 ∨ s ≠ 0) ∧ (angS c s - a + 1000) % 360000000 ≤ 2000
instance (a s c : Int) : Decidable (Circ a s c) := by unfold Circ; infer_instance
theorem circ_0 : Circ 0 (mdS (sinS 0).1 1000000 1073741824 2).1 (mdS (sinS 0).2 1000000 1073741824 2).1 := by decide +kernel
theorem circ_1 : Circ 90000000 (mdS (sinS 90000000).1 1000000 1073741824 2).1 (mdS (sinS 90000000).2 1000000 1073741824 2).1 := by decide +kernel
theorem circ_2 : Circ 180000000 (mdS (sinS 180000000).1 1000000 1073741824 2).1 (mdS (sinS 180000000).2 1000000 1073741824 2).1 := by decide +kernel
theorem circ_3 : Circ 270000000 (mdS (sinS 270000000).1 1000000 1073741824 2).1 (mdS (sinS 270000000).2 1000000 1073741824 2).1 := by decide +kernel
/-- From the signs to the angles. -/
theorem signs_angle (d e : Nat → Int) (hd : Pm d) (he : Pm e) (m : Nat) (hm : m < 4) (h : 0 < (gg d e m 26).1 ∧ -(gg d e m 26).1 ≤ 100000 * (gg d e m 26).2 ∧ 100000 * (gg d e m 26).2 ≤ (gg d e m 26).1) :
    ∃ q : Int, -718993 ≤ 90000000000 * (m : Int) + (ssum d 26 - ssum e 26) - 360000000000 * q ∧ 90000000000 * (m : Int) + (ssum d 26 - ssum e 26) - 360000000000 * q ≤ 718993 := by
  obtain ⟨c, hc, e1, e2⟩ := gg_run hd he m 26
  rw [e1, e2] at h
  obtain ⟨h1, h2, h3⟩ := h
  have k1 : 0 < (nrun (dif d e) 0 26 (trn (1, 0) m)).1 := Int.pos_of_mul_pos_right h1 hc
  have k2 : -(nrun (dif d e) 0 26 (trn (1, 0) m)).1 ≤ 100000 * (nrun (dif d e) 0 26 (trn (1, 0) m)).2 := by
    apply Int.le_of_mul_le_mul_left _ hc
    rw [Int.mul_neg, Int.mul_left_comm]
    exact h2
  have k3 : 100000 * (nrun (dif d e) 0 26 (trn (1, 0) m)).2 ≤ (nrun (dif d e) 0 26 (trn (1, 0) m)).1 := by
    apply Int.le_of_mul_le_mul_left _ hc
    rw [Int.mul_left_comm]
    exact h3
  have := sign_law (dif d e) (dif_sgn hd) m hm k1 k2 k3
  rw [dif_sum hd he] at this
  exact this
/-- The last reckoning. -/
theorem circ_end (a z0 z26 sd se R q l : Int) (k k' m : Int) (h0 : a * 1000 = 90000000000 * k + z0) (h1 : z26 = z0 - sd) (h2 : -1708 ≤ z26) (h3 : z26 ≤ 1708) (h4 : k + 4 - k' = m + 4 * l) (h5 : -718993 ≤ 90000000000 * m + (sd - se) - 360000000000 * q) (h6 : 90000000000 * m + (sd - se) - 360000000000 * q ≤ 718993) (h7 : -3000 ≤ 1000 * R - se) (h8 : 1000 * R - se ≤ 3000) :
    ((k' * 90000000 + R) % 360000000 - a + 1000) % 360000000 ≤ 2000 := by
  omega
theorem rz26 : rz 26 = 1708 := by decide +kernel
/-- THE CIRCLE. -/
theorem circ_law (a : Int) (h0 : 0 ≤ a) (h1 : a < 360000000) : Circ a (mdS (sinS a).1 1000000 1073741824 2).1 (mdS (sinS a).2 1000000 1073741824 2).1 := by
  by_cases hz : scZ a = 0
  · have hc : a = 0 ∨ a = 90000000 ∨ a = 180000000 ∨ a = 270000000 := by unfold scZ scK scR at hz; omega
    rcases hc with rfl | rfl | rfl | rfl
    · exact circ_0
    · exact circ_1
    · exact circ_2
    · exact circ_3
  have hxy : scXY a = ((itS (652032874, 0, scZ a * 1000) 26).1, (itS (652032874, 0, scZ a * 1000) 26).2.1) := by unfold scXY; rw [if_neg hz]
  have hk : 0 ≤ scK a ∧ scK a ≤ 4 ∧ a = scK a * 90000000 + scZ a ∧ -45000000 ≤ scZ a ∧ scZ a ≤ 45000000 := by unfold scZ scK scR; omega
  obtain ⟨z0, hz0⟩ : ∃ z0, z0 = scZ a * 1000 := ⟨_, rfl⟩
  rw [← hz0] at hxy
  have hsin : sinS a = ((trn ((itS (652032874, 0, z0) 26).1, (itS (652032874, 0, z0) 26).2.1) (scK a).toNat).2, (trn ((itS (652032874, 0, z0) 26).1, (itS (652032874, 0, z0) 26).2.1) (scK a).toNat).1) := by unfold sinS; rw [hxy]
  have hn := norm_near z0
  have hzs := z_sum 652032874 z0 26
  have hzb := z_bd 652032874 z0 (by omega) (by omega) 26 (by omega)
  rw [rz26] at hzb
  obtain ⟨k, hkk⟩ : ∃ k, k = (scK a).toNat := ⟨_, rfl⟩
  rw [hsin, ← hkk]
  have hki : ((k : Nat) : Int) = scK a := by omega
  have hm1 := fun n => close_law z0 n
  have hm2 := fun n => close_law0 z0 n
  have hcl := fun n => trn_add ((itS (652032874, 0, z0) 26).1, (itS (652032874, 0, z0) 26).2.1) k n
  have hT := trn_nn ((itS (652032874, 0, z0) 26).1, (itS (652032874, 0, z0) 26).2.1) k
  generalize hP : ((itS (652032874, 0, z0) 26).1, (itS (652032874, 0, z0) 26).2.1) = P at *
  have hPn : P.1 * P.1 + P.2 * P.2 = (itS (652032874, 0, z0) 26).1 * (itS (652032874, 0, z0) 26).1 + (itS (652032874, 0, z0) 26).2.1 * (itS (652032874, 0, z0) 26).2.1 := by rw [← hP]
  rw [← hPn, ← hT] at hn
  clear hPn hT hP hxy hsin
  rcases htq : trn P k with ⟨C, S⟩
  rw [htq] at hn hcl
  dsimp only at hn ⊢
  have nC := sq_nn C
  have nS := sq_nn S
  have bC := sq_lt (a := C) (L := 1073742400) (K := 1152922657528351582) (by omega) (by omega) (by decide)
  have bS := sq_lt (a := S) (L := 1073742400) (K := 1152922657528351582) (by omega) (by omega) (by decide)
  have mC := md_near C (by omega) (by omega)
  have mS := md_near S (by omega) (by omega)
  clear htq nC nS hz
  generalize (mdS C 1000000 1073741824 2).1 = c at *
  generalize (mdS S 1000000 1073741824 2).1 = s at *
  have dd : -6000000 ≤ s * s + c * c - 1000000000000 ∧ s * s + c * c - 1000000000000 ≤ 6000000 := by
    obtain ⟨rc, hrc⟩ : ∃ r, r = 1073741824 * c - 1000000 * C := ⟨_, rfl⟩
    obtain ⟨rs, hrs⟩ : ∃ r, r = 1073741824 * s - 1000000 * S := ⟨_, rfl⟩
    rw [← hrc] at mC
    rw [← hrs] at mS
    have sq : ∀ x X r : Int, r = 1073741824 * x - 1000000 * X → 1152921504606846976 * (x * x) = 1000000000000 * (X * X) + 2000000 * (X * r) + r * r := by
      intro x X r h
      have e1 : 1073741824 * x = 1000000 * X + r := by omega
      have e2 : (1073741824 * x) * (1073741824 * x) = (1000000 * X + r) * (1000000 * X + r) := by rw [e1]
      have e3 : (1073741824 * x) * (1073741824 * x) = 1152921504606846976 * (x * x) := by rw [show (1152921504606846976 : Int) = 1073741824 * 1073741824 from rfl]; ac_rfl
      have e4 : (1000000 * X + r) * (1000000 * X + r) = 1000000000000 * (X * X) + 2000000 * (X * r) + r * r := by
        simp only [Int.add_mul, Int.mul_add]
        have f1 : 1000000 * X * (1000000 * X) = 1000000000000 * (X * X) := by rw [show (1000000000000 : Int) = 1000000 * 1000000 from rfl]; ac_rfl
        have f2 : 1000000 * X * r = 1000000 * (X * r) := by ac_rfl
        have f3 : r * (1000000 * X) = 1000000 * (X * r) := by ac_rfl
        omega
      omega
    have q1 := sq c C rc hrc
    have q2 := sq s S rs hrs
    have t1 := mul_bd bC.1 bC.2 mC.1 mC.2
    have t2 := mul_bd bS.1 bS.2 mS.1 mS.2
    have t3 := mul_bd mC.1 mC.2 mC.1 mC.2
    have t4 := mul_bd mS.1 mS.2 mS.1 mS.2
    have t5 := sq_nn rc
    have t6 := sq_nn rs
    clear sq hrc hrs
    omega
  have hne : c ≠ 0 ∨ s ≠ 0 := by
    rcases Int.decEq c 0 with h | h
    · exact .inl h
    · rcases Int.decEq s 0 with h' | h'
      · exact .inr h'
      · subst h h'; omega
  refine ⟨by omega, by omega, dd, hne, ?_⟩
  have hsec := kq_in (c, s) hne
  have hk3 := kq_le (c, s)
  have hang : angS c s = ((kq (c, s) : Int) * 90000000 + angR (qp (c, s) (kq (c, s)))) % 360000000 := rfl
  rw [hang]
  clear hang hne
  generalize kq (c, s) = k' at *
  rw [qp_trn _ _ hk3] at hsec ⊢
  have near := trn_near 1073741824 1000000 536870912 c s C S mC mS (4 - k')
  rw [hcl, trn_mod P (k + (4 - k'))] at near
  have hnn := trn_nn (c, s) (4 - k')
  rcases htr : trn (c, s) (4 - k') with ⟨u, v⟩
  rw [htr] at hsec near hnn
  obtain ⟨v1, v2, v3⟩ := hsec
  dsimp only at v1 v2 v3 hnn near ⊢
  have hu : 700000 ≤ u := by
    have m1 := mul_bd v2 (Int.le_of_lt v3) v2 (Int.le_of_lt v3)
    rcases Int.lt_or_le u 700000 with h | h
    · exfalso
      have := Int.mul_le_mul (show u ≤ 700000 by omega) (show u ≤ 700000 by omega) (by omega) (by omega)
      omega
    · exact h
  obtain ⟨m, hm⟩ : ∃ m, m = (k + (4 - k')) % 4 := ⟨_, rfl⟩
  rw [← hm] at near
  have hm4 : m < 4 := by omega
  have hl : scK a + 4 - (k' : Int) = (m : Int) + 4 * (((k + (4 - k')) / 4 : Nat) : Int) := by omega
  have ha : a * 1000 = 90000000000 * scK a + z0 := by omega
  by_cases hv : v = 0
  · subst hv
    obtain ⟨q, s1, s2⟩ := signs_angle _ _ (dS_pm (652032874, 0, z0)) (dA_pm _) m hm4 (hm2 m u near.1 near.2 hu)
    have hr : angR (u, 0) = 0 := by unfold angR; rw [if_pos rfl]
    rw [hr]
    have hs0 := d0_s
    exact circ_end a z0 _ _ _ 0 q _ _ _ _ ha hzs hzb.1 hzb.2 hl s1 s2 (by unfold d0 at hs0; omega) (by unfold d0 at hs0; omega)
  · obtain ⟨q, s1, s2⟩ := signs_angle _ _ (dS_pm (652032874, 0, z0)) (dA_pm _) m hm4 (hm1 m u v near.1 near.2 hu v2 (Int.le_of_lt v3))
    have hr : angR (u, v) = ((itA (u * 1048576, v * 1048576, 0) 26).2.2 + 500) / 1000 := by unfold angR; rw [if_neg hv]
    rw [hr]
    have hw := w_sum (u * 1048576) (v * 1048576) 0 26
    exact circ_end a z0 _ _ _ _ q _ _ _ _ ha hzs hzb.1 hzb.2 hl s1 s2 (by omega) (by omega)
end Go.Proofs.YtdipainocdgfgaaDoor
