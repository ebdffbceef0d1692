/- The contract of MulDiv of wide: it returns what the plain function mdS gives; it makes new blocks only. Conditions: the integers are those of their kind, the divisor is not 0, the mode is one of the three. -/
import Derived.Test.YtdipainocdgfgaaDoorF
import Derived.Deep.DeepCutAuto
namespace Go.Proofs.YtdipainocdgfgaaDoor
set_option linter.unusedVariables false
set_option linter.unusedSimpArgs false
open Go.RowKit

theorem below_dn {B : Nat} {a w : World} (h : Below B a w) (n : Nat) : Below B a (w.drewN n) := ⟨h.os, h.tape, h.output, h.size, h.block⟩
theorem sgnd_big {n : Int} {neg : Bool} (h : 9223372036854775808 < n) : sgnd n neg = (0, false) := by
  unfold sgnd; cases neg <;> simp <;> omega

/-- Div64 of a product. -/
theorem div64_at (X D : Int) (h0 : 0 ≤ X) (h3 : D ≤ 18446744073709551615) (h4 : hiW X < D) (w : World) :
    Calls Tryd.prog 67 #[.int .u64 (hiW X), .int .u64 (loW X), .int .u64 D] w fun e w' => e = .returned (.tuple #[.int .u64 (X / D), .int .u64 (X % D)]) ∧ ∃ n, w' = w.drewN n := by
  have h := div64_any (hiW X) (loW X) D (loW_nonneg X) (loW_le X) (hiW_nonneg h0) h3 h4 w
  rw [word_hilo] at h
  exact h

set_option maxRecDepth 100000 in
set_option maxHeartbeats 4000000 in
theorem muldiv_any (a b c mode : Int) (ha1 : -9223372036854775808 ≤ a) (ha2 : a ≤ 9223372036854775807) (hb1 : -9223372036854775808 ≤ b) (hb2 : b ≤ 9223372036854775807)
    (hc1 : -9223372036854775808 ≤ c) (hc2 : c ≤ 9223372036854775807) (hc0 : c ≠ 0) (hm0 : 0 ≤ mode) (hm1 : mode ≤ 2) (w : World) :
    Calls Tryd.prog 54 #[.int .i64 a, .int .i64 b, .int .i64 c, .int .i64 mode] w fun e w' => e = .returned (.tuple #[.int .i64 (mdS a b c mode).1, .bool (mdS a b c mode).2]) ∧ Below w.heap.size w w' := by
  have hc0' : (c == 0) = false := by simpa using hc0
  have na := mg_nonneg a
  have la := mg_le a ha1 ha2
  have nb := mg_nonneg b
  have lb := mg_le b hb1 hb2
  have lc := mg_le c hc1 hc2
  have nc : 0 < mg c := by unfold mg; omega
  obtain ⟨A, hA⟩ : ∃ A, A = mg a := ⟨_, rfl⟩
  obtain ⟨B, hB⟩ : ∃ B, B = mg b := ⟨_, rfl⟩
  obtain ⟨D, hD⟩ : ∃ D, D = mg c := ⟨_, rfl⟩
  have x0 := prod_nonneg na nb
  have x1 := prod_lt na nb (by omega) (by omega)
  have hS : Hid (mdS a b c mode = sgnd (A * B / D + (if grw mode (half (A * B % D) D) (decide (0 < A * B % D)) (ngt a b c) then 1 else 0)) (ngt a b c)) := by
    unfold Hid mdS mdA; rw [hA, hB, hD]
  rw [← hA, ← hB] at x0 x1
  rw [← hA] at na la
  rw [← hB] at nb lb
  rw [← hD] at nc lc
  have E1 : mg a = A := hA.symm
  have E2 : mg b = B := hB.symm
  have E3 : mg c = D := hD.symm
  clear hA hB hD
  obtain ⟨X, hX⟩ : ∃ X, X = A * B := ⟨_, rfl⟩
  rw [← hX] at x0 x1 hS
  have EX : A * B = X := hX.symm
  have w0 := hiW_nonneg x0
  have w1 := hiW_le x1
  have v0 := loW_nonneg X
  have v1 := loW_le X
  have q0 : 0 ≤ X / D := Int.ediv_nonneg x0 (by omega)
  have r0 := Int.emod_nonneg X (b := D) (by omega)
  have r1 := Int.emod_lt_of_pos X nc
  by_cases hov : D ≤ hiW X
  · have hq : 18446744073709551616 ≤ X / D := by
      rw [Int.le_ediv_iff_mul_le nc]
      have := word_hilo X
      have h2 := Int.mul_le_mul_of_nonneg_right hov (show (0 : Int) ≤ 18446744073709551616 by decide)
      rw [Int.mul_comm]; omega
    have hS2 : Hid (mdS a b c mode = (0, false)) := by
      have h := hS.out
      unfold Hid; rw [h]
      apply sgnd_big
      split <;> omega
    clear hS hX
    go_enter Tryd.func54, Tryd.ntmps54
    go_wp2_with (first | (go_at_call 64; refine (known_yes _ hm0 hm1 _).mono ?_; rintro e w' ⟨rfl, rfl⟩) | (go_at_call 66; refine (size_any _ (by omega) (by omega) _).mono ?_; rintro e w' ⟨rfl, rfl⟩) | (go_at_call 65; refine (product_any _ _ (by omega) (by omega) (by omega) (by omega) _).mono ?_; rintro e w' ⟨rfl, rfl⟩))
    go_ret2
    exact ⟨by rw [hS2.out]; rfl, ((Below.refl _ _).alloc (Nat.le_refl _) _).alloc (by simp) _⟩
  · have hq : X / D < 18446744073709551616 := by
      rw [Int.ediv_lt_iff_lt_mul nc]
      have := word_hilo X
      have h2 := Int.mul_le_mul_of_nonneg_right (show hiW X + 1 ≤ D by omega) (show (0 : Int) ≤ 18446744073709551616 by decide)
      rw [Int.add_mul] at h2
      rw [Int.mul_comm]; omega
    obtain ⟨q, hqe⟩ : ∃ q, q = X / D := ⟨_, rfl⟩
    obtain ⟨r, hre⟩ : ∃ r, r = X % D := ⟨_, rfl⟩
    rw [← hqe] at q0 hq
    rw [← hre] at r0 r1
    rw [← hqe, ← hre] at hS
    have EQ : X / D = q := hqe.symm
    have ER : X % D = r := hre.symm
    clear hqe hre hX
    go_enter Tryd.func54, Tryd.ntmps54
    go_upto_region 7 with (first | (go_at_call 64; refine (known_yes _ hm0 hm1 _).mono ?_; rintro e w' ⟨rfl, rfl⟩) | (go_at_call 66; refine (size_any _ (by omega) (by omega) _).mono ?_; rintro e w' ⟨rfl, rfl⟩) | (go_at_call 65; refine (product_any _ _ (by omega) (by omega) (by omega) (by omega) _).mono ?_; rintro e w' ⟨rfl, rfl⟩) | (go_at_call 67; refine (div64_at X D x0 (by omega) (by omega) _).mono ?_; rintro e w' ⟨rfl, nd, rfl⟩))
    go_cut [14] (fun s14 wx => s14 = .bool (ngt a b c) ∧ Below w.heap.size w wx)
    case first =>
      have hsg : sg a b = 0 ∨ sg a b = 1 ∨ sg a b = -1 := by
        by_cases g1 : a = 0 ∨ b = 0
        · exact Or.inl (sg_zero g1)
        · by_cases g2 : (a < 0 ↔ b < 0)
          · exact Or.inr (Or.inl (sg_pos (by omega) (by omega) g2))
          · exact Or.inr (Or.inr (sg_neg (by omega) (by omega) g2))
      have HS := Lib.hid hS; clear hS
      by_cases hcn : c < 0
      all_goals
        rcases hsg with g | g | g
        all_goals
          have hng : Hid (ngt a b c = (decide (sg a b ≠ 0) && decide (¬ (sg a b < 0 ↔ c < 0)))) := rfl
          rw [g] at hng
          go_wp2_with (go_at_call 68; refine (sign_any _ _ _).mono ?_; rintro e w' ⟨rfl, rfl⟩)
          go_meet
          exact ⟨by rw [hng.out]; simp [hcn], below_dn (((Below.refl _ _).alloc (Nat.le_refl _) _).alloc (by simp) _) _⟩
    case rest =>
      obtain ⟨rfl, hbl⟩ := hcut
      have HB := Lib.hid hbl; clear hbl
      generalize ngt a b c = N at *
      cases N
      all_goals
        have hM : (D - r < r ∧ half r D = 1) ∨ (r < D - r ∧ half r D = -1) ∨ ((D - r ≤ r ∧ r ≤ D - r) ∧ half r D = 0) := by
          rcases Int.lt_trichotomy (D - r) r with h | h | h
          · exact Or.inl ⟨h, half_hi h⟩
          · exact Or.inr (Or.inr ⟨by omega, half_eq h.symm⟩)
          · exact Or.inr (Or.inl ⟨h, half_lo h⟩)
        rcases hM with ⟨m1, m2⟩ | ⟨m1, m2⟩ | ⟨m1, m2⟩
        all_goals
          rw [m2] at hS
          clear m2
          generalize hg : grw mode _ (decide (0 < r)) _ = g at hS
          cases g
          · simp only [Bool.false_eq_true, if_false, Int.add_zero] at hS
            go_wp2_with (first | (go_at_call 69; refine (grows_any _ _ _ _ hm0 hm1 _).mono ?_; rintro e w' ⟨rfl, rfl⟩) | (go_at_call 70; refine (signed_any _ _ (by omega) (by omega) _).mono ?_; rintro e w' ⟨rfl, rfl⟩))
            go_ret2
            exact ⟨by rw [hS.out]; rfl, HB.out⟩
          · simp only [if_true] at hS
            by_cases hq1 : q = 18446744073709551615
            · have hS2 : Hid (mdS a b c mode = (0, false)) := by have h := hS.out; unfold Hid; rw [h]; apply sgnd_big; omega
              have hqz : IntKind.u64.wrap (q + 1) = 0 := by rw [hq1]; rfl
              clear hS hq1
              go_wp2_with (first | (go_at_call 69; refine (grows_any _ _ _ _ hm0 hm1 _).mono ?_; rintro e w' ⟨rfl, rfl⟩) | (go_at_call 70; refine (signed_any _ _ (by omega) (by omega) _).mono ?_; rintro e w' ⟨rfl, rfl⟩))
              go_ret2
              exact ⟨by rw [hS2.out]; rfl, HB.out⟩
            · have hqz : (q + 1 == 0) = false := by simp; omega
              have hq2 : q < 18446744073709551615 := by omega
              clear hq1
              go_wp2_with (first | (go_at_call 69; refine (grows_any _ _ _ _ hm0 hm1 _).mono ?_; rintro e w' ⟨rfl, rfl⟩) | (go_at_call 70; refine (signed_any _ _ (by omega) (by omega) _).mono ?_; rintro e w' ⟨rfl, rfl⟩))
              go_ret2
              exact ⟨by rw [hS.out]; rfl, HB.out⟩
end Go.Proofs.YtdipainocdgfgaaDoor
