/- The contracts of Root of cncref01, of Sqrt, Round, Fix, Fup of cncref02. Conditions: the integers are ints, the mode is one of the three. -/
import Derived.Test.YtdipainocdgfgaaGreatDoorY
namespace Go.Proofs.YtdipainocdgfgaaGreatDoor
set_option linter.unusedVariables false
set_option linter.unusedSimpArgs false
open Go.RowKit

theorem root_law (X q : Nat) (mode : Int) (hm0 : 0 ≤ mode) (hm1 : mode ≤ 2) (hX : X < 85070591730234615865843651857942052864) (hB : Bit (fun t => t * t ≤ X) 9223372036854775808 q 0) :
    rndd q (grw mode (hfR X q) (!(cmpN (q * q) X == 0)) false) false = sgnd (rup (X : Int) mode (isq (X : Int))) false := by
  obtain ⟨_, hq1, hq2, hq3⟩ := hB
  simp only [Nat.pow_zero] at hq1 hq2 hq3
  have hlt : X < (q + 1) * (q + 1) := by
    rcases hq3 with h | h
    · omega
    · rw [h]; omega
  have hi : (q : Int) = isq (X : Int) := isq_unique (by omega) (by exact_mod_cast hq2) (by exact_mod_cast hlt)
  rw [← hi]
  obtain ⟨Y, hY⟩ : ∃ Y, q * q = Y := ⟨_, rfl⟩
  have hYi : (q : Int) * (q : Int) = (Y : Int) := by rw [← hY]; push_cast; rfl
  have hq : q * (q + 1) = Y + q := by rw [Nat.mul_add, hY, Nat.mul_one]
  rw [hY] at hq2 ⊢
  have e : grw mode (hfR X q) (!(cmpN Y X == 0)) false = upS mode ((X : Int) - (q : Int) * (q : Int)) (q : Int) := by
    rw [hYi]
    have e4 : (!(cmpN Y X == 0)) = decide (0 < (X : Int) - (Y : Int)) := by
      by_cases k1 : X = Y
      · rw [cmpN_eq k1.symm]; simp [k1]
      · rw [cmpN_lt (by omega)]; simp; omega
    rw [e4]
    unfold hfR grw upS
    rw [hq]
    have hm : mode = 0 ∨ mode = 1 ∨ mode = 2 := by omega
    rcases hm with rfl | rfl | rfl
    · simp
    · simp
    · by_cases k1 : X ≤ Y + q
      · simp [k1]; omega
      · simp [k1]; omega
  unfold rndd rup
  rw [e]
set_option maxRecDepth 100000 in
theorem Root_ref (a b mode : Int) (a0 : 0 ≤ a) (a1 : a ≤ 9223372036854775807) (b0 : 0 ≤ b) (b1 : b ≤ 9223372036854775807) (hm0 : 0 ≤ mode) (hm1 : mode ≤ 2) (w : World) :
    Calls Tryz.prog 91 #[.int .i64 a, .int .i64 b, .int .i64 mode] w fun e w' => e = .returned (.tuple #[.int .i64 (sgnd (rup (a * b) mode (isq (a * b))) false).1, .bool (sgnd (rup (a * b) mode (isq (a * b))) false).2]) ∧ Below w.heap.size w w' := by
  have x1 : a * b < 85070591730234615865843651857942052864 := by have := Int.mul_le_mul a1 b1 b0 (by decide); omega
  obtain ⟨X, hX⟩ : ∃ X, a.natAbs * b.natAbs = X := ⟨_, rfl⟩
  have hXi : a * b = (X : Int) := by
    rw [← hX]; push_cast
    rw [Int.natAbs_of_nonneg a0, Int.natAbs_of_nonneg b0]
  have hL : ∀ q : Nat, _ → _ := fun q hb => root_law X q mode hm0 hm1 (by omega) hb
  rw [hXi]
  clear x1 hXi
  have HS : Hid (Held w []) := fun t ht => by cases ht
  have HB : Hid (Below w.heap.size w w) := Below.refl _ _
  go_enter Tryz.func91, Tryz.ntmps91
  go_wp2_with (first
    | (go_at_call 80; refine (right_yes _ hm0 hm1 _).mono ?_; rintro e w' ⟨rfl, rfl⟩)
    | (go_at_call 81; refine (product_held a b (by omega) a1 (by omega) b1 _ _ HS.out).mono ?_; rw [hX]; rintro e w1 ⟨Ax, nx, cx, rfl, hs, hb⟩; have HN := Lib.hid (below3 HB.out hb); clear HB hb HS; have HB := Lib.hid HN.out; have HS := Lib.hid hs; clear HN hs)
    | (go_at_call 108; refine (root_ref X _ _ _ _ HS.out).mono ?_; rintro e w2 ⟨q, hbit, rfl, hb⟩; have HBit := Lib.hid hbit; have HN := Lib.hid (below3 HB.out hb); have hq1 : q + 1 ≤ 9223372036854775808 := hbit.2.1; clear HB hb hbit; have HB := Lib.hid HN.out; clear HN)
    | (go_at_call 87; refine (rounded_ref _ _ _ _ _ (by omega) (by omega) hm0 hm1 _).mono ?_; rintro e w' ⟨rfl, rfl⟩))
  go_ret2
  exact ⟨ret_md (hL q HBit.out), HB.out⟩

theorem sqrt_ref (a : Int) (ha1 : -9223372036854775808 ≤ a) (ha2 : a ≤ 9223372036854775807) (w : World) :
    Calls Tryz.prog 63 #[.int .i64 a] w fun e w' => e = .returned (.tuple #[.int .i64 (sqrtS a).1, .int .i64 (sqrtS a).2]) ∧ Below w.heap.size w w' := by
  rcases h : vld a with _ | _
  · have e0 : sqrtS a = (0, 1) := by unfold sqrtS; rw [h]; rfl
    rw [e0]
    go_enter Tryz.func63, Tryz.ntmps63
    go_wp2_with (go_at_call 49; refine (valid_ref _ _).mono ?_; rintro e w' ⟨rfl, rfl⟩)
    go_ret2
    exact ⟨rfl, Below.refl _ _⟩
  by_cases hn : a < 0
  · have e0 : sqrtS a = (0, 5) := by unfold sqrtS; rw [h]; simp [hn]
    rw [e0]
    go_enter Tryz.func63, Tryz.ntmps63
    go_wp2_with (go_at_call 49; refine (valid_ref _ _).mono ?_; rintro e w' ⟨rfl, rfl⟩)
    go_ret2
    exact ⟨rfl, Below.refl _ _⟩
  · have k := vld_yes h
    have hs := isq_small (x := a * 1000000) (by omega) (by omega)
    have hs0 := (isq_spec (a * 1000000) (by omega)).1
    have hu := rup_bd (a * 1000000) 2 (isq (a * 1000000))
    obtain ⟨R, hR⟩ : ∃ R, rup (a * 1000000) 2 (isq (a * 1000000)) = R := ⟨_, rfl⟩
    have HE : sqrtS a = (R, 0) := by unfold sqrtS; rw [h, hR]; simp [hn]
    rw [hR] at hu
    have e1 : Hid (sgnd (rup (a * 1000000) 2 (isq (a * 1000000))) false = (R, true)) := by unfold Hid sgnd; rw [hR]; simp; omega
    have ec : Hid (chk R = (R, 0)) := chk_yes (vld_mk (by omega) (by omega))
    rw [HE]
    clear HE hR hs hs0 hu
    go_enter Tryz.func63, Tryz.ntmps63
    go_wp2_with (first | (go_at_call 49; refine (valid_ref _ _).mono ?_; rintro e w' ⟨rfl, rfl⟩) | (go_at_call 91; refine (Root_ref _ _ _ (by omega) (by omega) (by omega) (by omega) (by omega) (by omega) _).mono ?_; rw [e1.out]; rintro e w1 ⟨rfl, hb⟩; have HB := Lib.hid hb; clear hb) | (go_at_call 57; refine (told_yes _ _).mono ?_; rw [ec.out]; rintro e w' ⟨rfl, rfl⟩))
    go_ret2
    exact ⟨rfl, HB.out⟩

theorem tmod_m (a : Int) : (0 ≤ a → a.tmod 1000000 = a % 1000000) ∧ (a < 0 → a.tmod 1000000 = -((-a) % 1000000)) := by
  refine ⟨fun h => Int.tmod_eq_emod_of_nonneg h, fun h => ?_⟩
  have h1 : (-a).tmod 1000000 = (-a) % 1000000 := Int.tmod_eq_emod_of_nonneg (by omega)
  rw [Int.neg_tmod] at h1
  omega
theorem floor_ref (a : Int) (h1 : -2000000000000000 ≤ a) (h2 : a ≤ 2000000000000000) (w : World) :
    Calls Tryz.prog 92 #[.int .i64 a] w fun e w' => e = .returned (.int .i64 (a - a % 1000000)) ∧ w = w' := by
  have ht := tmod_m a
  obtain ⟨T, hT⟩ : ∃ T, a.tmod 1000000 = T := ⟨_, rfl⟩
  rw [hT] at ht
  have hr : (T < 0 ∧ a % 1000000 = T + 1000000) ∨ (0 ≤ T ∧ a % 1000000 = T) := by omega
  have hb : -1000000 < T ∧ T < 1000000 := by omega
  clear ht
  rcases hr with ⟨k1, k2⟩ | ⟨k1, k2⟩
  all_goals
    rw [k2]
    clear k2
    go_enter Tryz.func92, Tryz.ntmps92
    go_wp2
    go_ret
    exact ⟨rfl, rfl⟩
theorem round_ref (a : Int) (w : World) :
    Calls Tryz.prog 64 #[.int .i64 a] w fun e w' => e = .returned (.tuple #[.int .i64 (roundS a).1, .int .i64 (roundS a).2]) ∧ w = w' := by
  rcases h : vld a with _ | _
  · have e0 : roundS a = (0, 1) := by unfold roundS; rw [h]; rfl
    rw [e0]
    go_enter Tryz.func64, Tryz.ntmps64
    go_wp2_with (go_at_call 49; refine (valid_ref _ _).mono ?_; rintro e w' ⟨rfl, rfl⟩)
    go_ret2
    exact ⟨rfl, rfl⟩
  · have k := vld_yes h
    have e0 : roundS a = (a + 500000 - (a + 500000) % 1000000, 0) := by unfold roundS rnd; rw [h]; simp; omega
    rw [e0]
    generalize hG : a + 500000 - (a + 500000) % 1000000 = G
    go_enter Tryz.func64, Tryz.ntmps64
    go_wp2_with (first | (go_at_call 49; refine (valid_ref _ _).mono ?_; rintro e w' ⟨rfl, rfl⟩) | (go_at_call 92; refine (floor_ref _ (by omega) (by omega) _).mono ?_; rw [hG]; rintro e w' ⟨rfl, rfl⟩))
    go_ret2
    exact ⟨rfl, rfl⟩
theorem fix_ref (a : Int) (w : World) :
    Calls Tryz.prog 65 #[.int .i64 a] w fun e w' => e = .returned (.tuple #[.int .i64 (fixS a).1, .int .i64 (fixS a).2]) ∧ w = w' := by
  rcases h : vld a with _ | _
  · have e0 : fixS a = (0, 1) := by unfold fixS; rw [h]; rfl
    rw [e0]
    go_enter Tryz.func65, Tryz.ntmps65
    go_wp2_with (go_at_call 49; refine (valid_ref _ _).mono ?_; rintro e w' ⟨rfl, rfl⟩)
    go_ret2
    exact ⟨rfl, rfl⟩
  · have k := vld_yes h
    have ht := tmod_m a
    obtain ⟨T, hT⟩ : ∃ T, a.tmod 1000000 = T := ⟨_, rfl⟩
    rw [hT] at ht
    have e0 : fixS a = (a - T, 0) := by unfold fixS rnd; rw [h]; by_cases hn : a < 0 <;> simp [hn] <;> omega
    have hb : -1000000 < T ∧ T < 1000000 := by omega
    clear ht
    rw [e0]
    go_enter Tryz.func65, Tryz.ntmps65
    go_wp2_with (go_at_call 49; refine (valid_ref _ _).mono ?_; rintro e w' ⟨rfl, rfl⟩)
    go_ret2
    exact ⟨rfl, rfl⟩
theorem fup_ref (a : Int) (w : World) :
    Calls Tryz.prog 66 #[.int .i64 a] w fun e w' => e = .returned (.tuple #[.int .i64 (fupS a).1, .int .i64 (fupS a).2]) ∧ w = w' := by
  rcases h : vld a with _ | _
  · have e0 : fupS a = (0, 1) := by unfold fupS; rw [h]; rfl
    rw [e0]
    go_enter Tryz.func66, Tryz.ntmps66
    go_wp2_with (go_at_call 49; refine (valid_ref _ _).mono ?_; rintro e w' ⟨rfl, rfl⟩)
    go_ret2
    exact ⟨rfl, rfl⟩
  · have k := vld_yes h
    have ht := tmod_m a
    obtain ⟨T, hT⟩ : ∃ T, a.tmod 1000000 = T := ⟨_, rfl⟩
    rw [hT] at ht
    have e0 : fupS a = (if 0 < T then a - T + 1000000 else if T < 0 then a - T - 1000000 else a - T, 0) := by unfold fupS rnd; rw [h]; by_cases hn : a < 0 <;> simp [hn] <;> split <;> (try split) <;> omega
    have hb : -1000000 < T ∧ T < 1000000 := by omega
    clear ht
    rw [e0]
    by_cases h1 : 0 < T
    · rw [if_pos h1]
      go_enter Tryz.func66, Tryz.ntmps66
      go_wp2_with (go_at_call 49; refine (valid_ref _ _).mono ?_; rintro e w' ⟨rfl, rfl⟩)
      go_ret2
      exact ⟨rfl, rfl⟩
    · rw [if_neg h1]
      by_cases h2 : T < 0
      · rw [if_pos h2]
        go_enter Tryz.func66, Tryz.ntmps66
        go_wp2_with (go_at_call 49; refine (valid_ref _ _).mono ?_; rintro e w' ⟨rfl, rfl⟩)
        go_ret2
        exact ⟨rfl, rfl⟩
      · rw [if_neg h2]
        go_enter Tryz.func66, Tryz.ntmps66
        go_wp2_with (go_at_call 49; refine (valid_ref _ _).mono ?_; rintro e w' ⟨rfl, rfl⟩)
        go_ret2
        exact ⟨rfl, rfl⟩
end Go.Proofs.YtdipainocdgfgaaGreatDoor
