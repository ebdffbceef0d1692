/- The contract of math/bits.Div64. Conditions: the divisor is greater than the high word. -/
import Derived.Test.YtdipainocdgfgaaDoorE
import Derived.Test.YtdipainocdgfgaaDoorPlf
import Derived.Deep.QuietTactic
import Derived.BigQuiet
namespace Go.Proofs.YtdipainocdgfgaaDoor
set_option linter.unusedVariables false
set_option linter.unusedSimpArgs false
open Go.RowKit

theorem lz_any (y : Int) (s : Nat) (hs : s ≤ 63) (h2 : 0 < y) (h3 : y ≤ 18446744073709551615) (hlz : 64 - (Lib.bitLen y.toNat : Int) = (s : Int)) (w : World) :
    Calls Tryd.prog 76 #[.int .u64 y] w fun e w' => e = .returned (.int .i64 (s : Int)) ∧ w = w' := by
  refine (Tryd.bits_LeadingZeros64 y w (by omega) h3).mono ?_
  rintro e w' ⟨he, hw⟩
  exact ⟨by rw [he, hlz], hw.symm⟩

/-- The high word is 0. -/
theorem div64_lo (lo y : Int) (h0 : 0 ≤ lo) (h1 : lo ≤ 18446744073709551615) (h2 : 0 < y) (h3 : y ≤ 18446744073709551615) (w : World) :
    Calls Tryd.prog 67 #[.int .u64 0, .int .u64 lo, .int .u64 y] w fun e w' => e = .returned (.tuple #[.int .u64 (lo / y), .int .u64 (lo % y)]) ∧ ∃ n, w' = w.drewN n := by
  have hy : (y == 0) = false := by simp; omega
  have d0 : 0 ≤ lo / y := Int.ediv_nonneg h0 (by omega)
  have d1 : lo / y ≤ lo := Int.ediv_le_self _ h0
  have r0 := Int.emod_nonneg lo (b := y) (by omega)
  have r1 := Int.emod_lt_of_pos lo h2
  go_enter Tryd.func67, Tryd.ntmps67
  go_wp2
  go_quiet (fail)
  go_wp2
  go_ret2
  exact ⟨rfl, _, rfl⟩

/-- What a loop keeps: the guess is not too small, the rest goes with it. -/
def KRel (U Y1 Q : Int) (a b : Value) : Prop :=
  ∃ q r : Int, a = .int .u64 q ∧ b = .int .u64 r ∧ r = U - q * Y1 ∧ 0 ≤ r ∧ r ≤ 4294967295 ∧ Q ≤ q ∧ q ≤ 4294967297

set_option maxRecDepth 100000 in
set_option maxHeartbeats 4000000 in
theorem div64_hi (hi lo y : Int) (h0 : 0 ≤ lo) (h1 : lo ≤ 18446744073709551615) (h2' : 0 < hi) (h3 : y ≤ 18446744073709551615) (h4 : hi < y) (w : World) :
    Calls Tryd.prog 67 #[.int .u64 hi, .int .u64 lo, .int .u64 y] w fun e w' => e = .returned (.tuple #[.int .u64 ((hi * 18446744073709551616 + lo) / y), .int .u64 ((hi * 18446744073709551616 + lo) % y)]) ∧ w = w' := by
  have h2 : 0 < y := by omega
  obtain ⟨s, h5, hlz, hya, hyb⟩ := shift_of y h2 h3
  have hP : (0 : Int) < 2 ^ s := Int.pow_pos (by decide)
  have hR : (0 : Int) < 2 ^ (64 - s) := Int.pow_pos (by decide)
  have hPR : (2 : Int) ^ s * 2 ^ (64 - s) = 18446744073709551616 := by rw [← Int.pow_add, show s + (64 - s) = 64 by omega]; rfl
  have hR2 : (2 : Int) ^ (64 - s) ≤ 2 * y := by rw [show 64 - s = 63 - s + 1 by omega, Int.pow_succ]; omega
  obtain ⟨⟨f1, f2⟩, ⟨f3, f4⟩, ⟨f5, f6⟩, f7, f8⟩ := shift_facts hi lo y (2 ^ s) (2 ^ (64 - s)) hP hR hPR (by omega) h4 h0 (by omega) hR2 hyb
  have f9 : 0 ≤ lo * 2 ^ s := Int.mul_nonneg h0 (Int.le_of_lt hP)
  -- the words
  obtain ⟨Y, hY⟩ : ∃ Y, Y = y * 2 ^ s := ⟨_, rfl⟩
  obtain ⟨H, hH⟩ : ∃ H, H = hi * 2 ^ s := ⟨_, rfl⟩
  obtain ⟨L, hL⟩ : ∃ L, L = lo / 2 ^ (64 - s) := ⟨_, rfl⟩
  obtain ⟨T, hT⟩ : ∃ T, T = lo * 2 ^ s % 18446744073709551616 := ⟨_, rfl⟩
  have E1 : IntKind.u64.wrap (y * 2 ^ s) = Y := by rw [hY]; exact IntWalk.u64_in _ ⟨by omega, by omega⟩
  have E4 : IntKind.u64.wrap (hi * 2 ^ s) = H := by rw [hH]; exact IntWalk.u64_in _ ⟨by omega, by omega⟩
  have E6 : IntKind.u64.wrap (lo * 2 ^ s) = T := by rw [hT, IntKind.wrap_u64]
  have E5a : lo / 2 ^ (64 - s) = L := hL.symm
  have E5 : bits .or .u64 H L = H + L := or_join H L s (by omega) (by omega) (by rw [hH]; exact Int.mul_emod_left _ _) (by omega) (by omega) (by omega)
  rw [← hH, ← hL, ← hT] at f8
  rw [← hY] at f1 f2 f7
  rw [← hH] at f3 f4 f7
  rw [← hL] at f5 f6 f7
  have hT0 : 0 ≤ T ∧ T ≤ 18446744073709551615 := by omega
  obtain ⟨U, hU⟩ : ∃ U, U = H + L := ⟨_, rfl⟩
  obtain ⟨Y1, hY1⟩ : ∃ Y1, Y1 = Y / 4294967296 := ⟨_, rfl⟩
  obtain ⟨Y0, hY0⟩ : ∃ Y0, Y0 = Y % 4294967296 := ⟨_, rfl⟩
  obtain ⟨V1, hV1⟩ : ∃ V1, V1 = T / 4294967296 := ⟨_, rfl⟩
  obtain ⟨V0, hV0⟩ : ∃ V0, V0 = T % 4294967296 := ⟨_, rfl⟩
  have E5b : bits .or .u64 H L = U := by rw [E5, hU]
  have E2 : Y / 4294967296 = Y1 := hY1.symm
  have E3 : bits .and .u64 Y 4294967295 = Y0 := by rw [hY0]; exact and_mask Y (by omega) (by omega)
  have E7 : T / 4294967296 = V1 := hV1.symm
  have E8 : bits .and .u64 T 4294967295 = V0 := by rw [hV0]; exact and_mask T (by omega) (by omega)
  have hYY : Y = Y1 * 4294967296 + Y0 := by omega
  have hTT : T = V1 * 4294967296 + V0 := by omega
  have hYp : 0 < Y := by omega
  have hY1a : 2147483648 ≤ Y1 ∧ Y1 ≤ 4294967295 := by omega
  have hY0a : 0 ≤ Y0 := by omega
  have hY0b : Y0 ≤ 4294967295 := by omega
  have hV1a : 0 ≤ V1 ∧ V1 ≤ 4294967295 := by omega
  have hV0a : 0 ≤ V0 ∧ V0 ≤ 4294967295 := by omega
  have hU0 : 0 ≤ U ∧ U < Y := by omega
  have FN : (U * 4294967296 + V1) * 4294967296 + V0 = (hi * 18446744073709551616 + lo) * 2 ^ s := by rw [← f8]; omega
  -- the first step
  obtain ⟨Q1, hQ1⟩ : ∃ Q1, Q1 = (U * 4294967296 + V1) / Y := ⟨_, rfl⟩
  obtain ⟨W, hW⟩ : ∃ W, W = (U * 4294967296 + V1) % Y := ⟨_, rfl⟩
  obtain ⟨qa, hqa⟩ : ∃ q, q = U / Y1 := ⟨_, rfl⟩
  obtain ⟨ta, hta⟩ : ∃ t, t = qa * Y1 := ⟨_, rfl⟩
  have E9 : U / Y1 = qa := hqa.symm
  have k1 := kn_start (v := V1) hYY hY1a.1 hY0a (by omega) hU0.1 hU0.2 hV1a.1 (by omega)
  rw [← hQ1, ← hqa] at k1
  obtain ⟨hqa0, hqa1⟩ := k1
  have m1 := Int.ediv_mul_add_emod U Y1
  have m2 := Int.emod_nonneg U (b := Y1) (by omega)
  have m3 := Int.emod_lt_of_pos U (show 0 < Y1 by omega)
  rw [← hqa, ← hta] at m1
  have hta0 : 0 ≤ ta := by rw [hta, hqa]; exact Int.mul_nonneg (Int.ediv_nonneg hU0.1 (by omega)) (by omega)
  have E10 : IntKind.u64.wrap (qa * Y1) = ta := by rw [← hta]; exact IntWalk.u64_in _ ⟨hta0, by omega⟩
  have ms := kn_small (v := V1) hYp hU0.2 (by omega)
  rw [← hQ1] at ms
  have hQ10 : 0 ≤ Q1 := by rw [hQ1]; exact Int.ediv_nonneg (by omega) (by omega)
  have n1 := Int.emod_nonneg (U * 4294967296 + V1) (b := Y) (by omega)
  have n2 := Int.emod_lt_of_pos (U * 4294967296 + V1) hYp
  rw [← hW] at n1 n2
  have E12 : IntKind.u64.wrap (IntKind.u64.wrap (IntKind.u64.wrap (U * 4294967296) + V1) - IntKind.u64.wrap (Q1 * Y)) = W := by
    simp only [IntKind.wrap_u64]
    rw [hW, hQ1]
    exact kn_rest hYp (by omega)
  -- the second step
  obtain ⟨Q2, hQ2⟩ : ∃ Q2, Q2 = (W * 4294967296 + V0) / Y := ⟨_, rfl⟩
  obtain ⟨X, hX⟩ : ∃ X, X = (W * 4294967296 + V0) % Y := ⟨_, rfl⟩
  obtain ⟨qb, hqb⟩ : ∃ q, q = W / Y1 := ⟨_, rfl⟩
  obtain ⟨tb, htb⟩ : ∃ t, t = qb * Y1 := ⟨_, rfl⟩
  have E13 : W / Y1 = qb := hqb.symm
  have k2 := kn_start (v := V0) hYY hY1a.1 hY0a (by omega) n1 n2 hV0a.1 (by omega)
  rw [← hQ2, ← hqb] at k2
  obtain ⟨hqb0, hqb1⟩ := k2
  have m4 := Int.ediv_mul_add_emod W Y1
  have m5 := Int.emod_nonneg W (b := Y1) (by omega)
  have m6 := Int.emod_lt_of_pos W (show 0 < Y1 by omega)
  rw [← hqb, ← htb] at m4
  have htb0 : 0 ≤ tb := by rw [htb, hqb]; exact Int.mul_nonneg (Int.ediv_nonneg n1 (by omega)) (by omega)
  have E14 : IntKind.u64.wrap (qb * Y1) = tb := by rw [← htb]; exact IntWalk.u64_in _ ⟨htb0, by omega⟩
  have mt := kn_small (v := V0) hYp n2 (by omega)
  rw [← hQ2] at mt
  have hQ20 : 0 ≤ Q2 := by rw [hQ2]; exact Int.ediv_nonneg (by omega) (by omega)
  have E15 : IntKind.u64.wrap (IntKind.u64.wrap (IntKind.u64.wrap (W * 4294967296) + V0) - IntKind.u64.wrap (Q2 * Y)) = X := by
    simp only [IntKind.wrap_u64]
    rw [hX, hQ2]
    exact kn_rest hYp (by omega)
  have n3 := Int.emod_nonneg (W * 4294967296 + V0) (b := Y) (by omega)
  have n4 := Int.emod_lt_of_pos (W * 4294967296 + V0) hYp
  rw [← hX] at n3 n4
  have kt := kn_two U Y V1 V0 hYp
  rw [FN, ← hQ1, ← hW, ← hQ2, ← hX, hY] at kt
  have ks := kn_shift (hi * 18446744073709551616 + lo) y s h2
  have FQ : Hid (Q1 * 4294967296 + Q2 = (hi * 18446744073709551616 + lo) / y) := by unfold Hid; rw [kt.1, ks.1]
  have FR : Hid (X / 2 ^ s = (hi * 18446744073709551616 + lo) % y) := by unfold Hid; rw [kt.2, ks.2]
  have hqa2 : ta ≤ U := by omega
  have hta2 : U - ta ≤ 4294967295 := by omega
  have htb2 : tb ≤ W := by omega
  have htb3 : W - tb ≤ 4294967295 := by omega
  have HY := Lib.hid hYY
  have HQ1 := Lib.hid hQ1
  have HQ2 := Lib.hid hQ2
  have HTA := Lib.hid hta
  have HTB := Lib.hid htb
  clear hY hH hL hT hU hY1 hY0 hV1 hV0 hYY hTT hQ1 hQ2 hW hX hqa hqb hta htb E5 f8 FN kt ks m1 m2 m3 m4 m5 m6 hPR hR2 hya hyb f9
  have hy : (y == 0) = false := by simp; omega
  have hy2 : (hi == 0) = false := by simp; omega
  have hY1z : (Y1 == 0) = false := by simp; omega
  go_enter Tryd.func67, Tryd.ntmps67
  go_wp2_with (go_at_call 76; refine (lz_any y s h5 h2 h3 hlz _).mono ?_; rintro e w' ⟨rfl, rfl⟩)
  go_loop [15, 16] (KRel U Y1 Q1) (fun q _ => (intOf q).toNat)
  case atStart => exact ⟨qa, U - ta, congrArg (Value.int .u64) E9, rfl, by rw [HTA.out], by omega, by omega, hqa0, hqa1⟩
  case round =>
    obtain ⟨q, r, rfl, rfl, hr, hr0, hr1, hq0, hq1⟩ := hrel
    have HRR := Lib.hid hr; clear hr
    by_cases hq : q < 4294967296
    · have hz0 : 0 ≤ q * Y0 := Int.mul_nonneg (by omega) hY0a
      have hz1 : q * Y0 ≤ 18446744073709551615 := by have := Int.mul_le_mul (show q ≤ 4294967295 by omega) (show Y0 ≤ 4294967295 by omega) hY0a (by omega); omega
      obtain ⟨z, hz⟩ : ∃ z, z = q * Y0 := ⟨_, rfl⟩
      have EZ : IntKind.u64.wrap (q * Y0) = z := by rw [← hz] at hz0 hz1 ⊢; exact IntWalk.u64_in _ ⟨hz0, hz1⟩
      rw [← hz] at hz0 hz1
      have HZ := Lib.hid hz; clear hz
      by_cases hc : 4294967296 * r + V1 < z
      · have hm := kn_more HY.out hYp HRR.out (by rw [← HZ.out]; exact hc)
        rw [← HQ1.out] at hm
        by_cases hb : 4294967296 ≤ r + Y1
        · have hqq := Lib.hid (kn_break (u := U) (v := V1) (q := q - 1) (r := r + Y1) HY.out hYp hY0a (by omega) (by omega) (by rw [HRR.out, Int.sub_mul]; omega) hb (by omega) (by omega) (by rw [← HQ1.out]; exact hm))
          have hqe : Hid (q = Q1 + 1) := by have := hqq.out; rw [← HQ1.out] at this; unfold Hid; omega
          obtain rfl : q = Q1 + 1 := hqe
          clear hqq HZ
          go_wp2
          go_loop [18, 16] (KRel W Y1 Q2) (fun q _ => (intOf q).toNat)
          case atStart => exact ⟨qb, W - tb, by first | rfl | exact congrArg (Value.int .u64) E13, rfl, by rw [HTB.out], by omega, by omega, hqb0, hqb1⟩
          case round =>
            obtain ⟨q, r, rfl, rfl, hr, hr0, hr1, hq0, hq1⟩ := hrel
            have HRR := Lib.hid hr; clear hr
            by_cases hq : q < 4294967296
            · have hz0 : 0 ≤ q * Y0 := Int.mul_nonneg (by omega) hY0a
              have hz1 : q * Y0 ≤ 18446744073709551615 := by have := Int.mul_le_mul (show q ≤ 4294967295 by omega) (show Y0 ≤ 4294967295 by omega) hY0a (by omega); omega
              obtain ⟨z, hz⟩ : ∃ z, z = q * Y0 := ⟨_, rfl⟩
              have EZ : IntKind.u64.wrap (q * Y0) = z := by rw [← hz] at hz0 hz1 ⊢; exact IntWalk.u64_in _ ⟨hz0, hz1⟩
              rw [← hz] at hz0 hz1
              have HZ := Lib.hid hz; clear hz
              by_cases hc : 4294967296 * r + V0 < z
              · have hm := kn_more HY.out hYp HRR.out (by rw [← HZ.out]; exact hc)
                rw [← HQ2.out] at hm
                by_cases hb : 4294967296 ≤ r + Y1
                · have hqq := Lib.hid (kn_break (u := W) (v := V0) (q := q - 1) (r := r + Y1) HY.out hYp hY0a (by omega) (by omega) (by rw [HRR.out, Int.sub_mul]; omega) hb (by omega) (by omega) (by rw [← HQ2.out]; exact hm))
                  have hqe : Hid (q = Q2 + 1) := by have := hqq.out; rw [← HQ2.out] at this; unfold Hid; omega
                  obtain rfl : q = Q2 + 1 := hqe
                  clear hqq HZ
                  go_wp2
                  go_ret2
                  exact ⟨ret_two FQ.out FR.out, rfl⟩
                · go_wp2
                  go_round
                  case rel => exact ⟨q - 1, r + Y1, rfl, rfl, by rw [HRR.out, Int.sub_mul]; omega, by omega, by omega, hm, by omega⟩
                  case measure => simp [intOf]; omega
              · have hqe : Hid (Q2 = q) := by
                  unfold Hid
                  rw [HQ2.out]
                  symm
                  exact kn_stop (u := W) (v := V0) HY.out hYp HRR.out (by rw [← HZ.out]; omega) (by rw [← HQ2.out]; exact hq0)
                obtain rfl : Q2 = q := hqe
                go_wp2
                go_ret2
                exact ⟨ret_two FQ.out FR.out, rfl⟩
            · have hm : Q2 ≤ q - 1 := by omega
              by_cases hb : 4294967296 ≤ r + Y1
              · have hqq := Lib.hid (kn_break (u := W) (v := V0) (q := q - 1) (r := r + Y1) HY.out hYp hY0a (by omega) (by omega) (by rw [HRR.out, Int.sub_mul]; omega) hb (by omega) (by omega) (by rw [← HQ2.out]; exact hm))
                have hqe : Hid (q = Q2 + 1) := by have := hqq.out; rw [← HQ2.out] at this; unfold Hid; omega
                obtain rfl : q = Q2 + 1 := hqe
                clear hqq
                go_wp2
                go_ret2
                exact ⟨ret_two FQ.out FR.out, rfl⟩
              · go_wp2
                go_round
                case rel => exact ⟨q - 1, r + Y1, rfl, rfl, by rw [HRR.out, Int.sub_mul]; omega, by omega, by omega, hm, by omega⟩
                case measure => simp [intOf]; omega
        · go_wp2
          go_round
          case rel => exact ⟨q - 1, r + Y1, rfl, rfl, by rw [HRR.out, Int.sub_mul]; omega, by omega, by omega, hm, by omega⟩
          case measure => simp [intOf]; omega
      · have hqe : Hid (Q1 = q) := by
          unfold Hid
          rw [HQ1.out]
          symm
          exact kn_stop (u := U) (v := V1) HY.out hYp HRR.out (by rw [← HZ.out]; omega) (by rw [← HQ1.out]; exact hq0)
        obtain rfl : Q1 = q := hqe
        go_wp2
        go_loop [18, 16] (KRel W Y1 Q2) (fun q _ => (intOf q).toNat)
        case atStart => exact ⟨qb, W - tb, by first | rfl | exact congrArg (Value.int .u64) E13, rfl, by rw [HTB.out], by omega, by omega, hqb0, hqb1⟩
        case round =>
          obtain ⟨q, r, rfl, rfl, hr, hr0, hr1, hq0, hq1⟩ := hrel
          have HRR := Lib.hid hr; clear hr
          by_cases hq : q < 4294967296
          · have hz0 : 0 ≤ q * Y0 := Int.mul_nonneg (by omega) hY0a
            have hz1 : q * Y0 ≤ 18446744073709551615 := by have := Int.mul_le_mul (show q ≤ 4294967295 by omega) (show Y0 ≤ 4294967295 by omega) hY0a (by omega); omega
            obtain ⟨z, hz⟩ : ∃ z, z = q * Y0 := ⟨_, rfl⟩
            have EZ : IntKind.u64.wrap (q * Y0) = z := by rw [← hz] at hz0 hz1 ⊢; exact IntWalk.u64_in _ ⟨hz0, hz1⟩
            rw [← hz] at hz0 hz1
            have HZ := Lib.hid hz; clear hz
            by_cases hc : 4294967296 * r + V0 < z
            · have hm := kn_more HY.out hYp HRR.out (by rw [← HZ.out]; exact hc)
              rw [← HQ2.out] at hm
              by_cases hb : 4294967296 ≤ r + Y1
              · have hqq := Lib.hid (kn_break (u := W) (v := V0) (q := q - 1) (r := r + Y1) HY.out hYp hY0a (by omega) (by omega) (by rw [HRR.out, Int.sub_mul]; omega) hb (by omega) (by omega) (by rw [← HQ2.out]; exact hm))
                have hqe : Hid (q = Q2 + 1) := by have := hqq.out; rw [← HQ2.out] at this; unfold Hid; omega
                obtain rfl : q = Q2 + 1 := hqe
                clear hqq HZ
                go_wp2
                go_ret2
                exact ⟨ret_two FQ.out FR.out, rfl⟩
              · go_wp2
                go_round
                case rel => exact ⟨q - 1, r + Y1, rfl, rfl, by rw [HRR.out, Int.sub_mul]; omega, by omega, by omega, hm, by omega⟩
                case measure => simp [intOf]; omega
            · have hqe : Hid (Q2 = q) := by
                unfold Hid
                rw [HQ2.out]
                symm
                exact kn_stop (u := W) (v := V0) HY.out hYp HRR.out (by rw [← HZ.out]; omega) (by rw [← HQ2.out]; exact hq0)
              obtain rfl : Q2 = q := hqe
              go_wp2
              go_ret2
              exact ⟨ret_two FQ.out FR.out, rfl⟩
          · have hm : Q2 ≤ q - 1 := by omega
            by_cases hb : 4294967296 ≤ r + Y1
            · have hqq := Lib.hid (kn_break (u := W) (v := V0) (q := q - 1) (r := r + Y1) HY.out hYp hY0a (by omega) (by omega) (by rw [HRR.out, Int.sub_mul]; omega) hb (by omega) (by omega) (by rw [← HQ2.out]; exact hm))
              have hqe : Hid (q = Q2 + 1) := by have := hqq.out; rw [← HQ2.out] at this; unfold Hid; omega
              obtain rfl : q = Q2 + 1 := hqe
              clear hqq
              go_wp2
              go_ret2
              exact ⟨ret_two FQ.out FR.out, rfl⟩
            · go_wp2
              go_round
              case rel => exact ⟨q - 1, r + Y1, rfl, rfl, by rw [HRR.out, Int.sub_mul]; omega, by omega, by omega, hm, by omega⟩
              case measure => simp [intOf]; omega
    · have hm : Q1 ≤ q - 1 := by omega
      by_cases hb : 4294967296 ≤ r + Y1
      · have hqq := Lib.hid (kn_break (u := U) (v := V1) (q := q - 1) (r := r + Y1) HY.out hYp hY0a (by omega) (by omega) (by rw [HRR.out, Int.sub_mul]; omega) hb (by omega) (by omega) (by rw [← HQ1.out]; exact hm))
        have hqe : Hid (q = Q1 + 1) := by have := hqq.out; rw [← HQ1.out] at this; unfold Hid; omega
        obtain rfl : q = Q1 + 1 := hqe
        clear hqq
        go_wp2
        go_loop [18, 16] (KRel W Y1 Q2) (fun q _ => (intOf q).toNat)
        case atStart => exact ⟨qb, W - tb, by first | rfl | exact congrArg (Value.int .u64) E13, rfl, by rw [HTB.out], by omega, by omega, hqb0, hqb1⟩
        case round =>
          obtain ⟨q, r, rfl, rfl, hr, hr0, hr1, hq0, hq1⟩ := hrel
          have HRR := Lib.hid hr; clear hr
          by_cases hq : q < 4294967296
          · have hz0 : 0 ≤ q * Y0 := Int.mul_nonneg (by omega) hY0a
            have hz1 : q * Y0 ≤ 18446744073709551615 := by have := Int.mul_le_mul (show q ≤ 4294967295 by omega) (show Y0 ≤ 4294967295 by omega) hY0a (by omega); omega
            obtain ⟨z, hz⟩ : ∃ z, z = q * Y0 := ⟨_, rfl⟩
            have EZ : IntKind.u64.wrap (q * Y0) = z := by rw [← hz] at hz0 hz1 ⊢; exact IntWalk.u64_in _ ⟨hz0, hz1⟩
            rw [← hz] at hz0 hz1
            have HZ := Lib.hid hz; clear hz
            by_cases hc : 4294967296 * r + V0 < z
            · have hm := kn_more HY.out hYp HRR.out (by rw [← HZ.out]; exact hc)
              rw [← HQ2.out] at hm
              by_cases hb : 4294967296 ≤ r + Y1
              · have hqq := Lib.hid (kn_break (u := W) (v := V0) (q := q - 1) (r := r + Y1) HY.out hYp hY0a (by omega) (by omega) (by rw [HRR.out, Int.sub_mul]; omega) hb (by omega) (by omega) (by rw [← HQ2.out]; exact hm))
                have hqe : Hid (q = Q2 + 1) := by have := hqq.out; rw [← HQ2.out] at this; unfold Hid; omega
                obtain rfl : q = Q2 + 1 := hqe
                clear hqq HZ
                go_wp2
                go_ret2
                exact ⟨ret_two FQ.out FR.out, rfl⟩
              · go_wp2
                go_round
                case rel => exact ⟨q - 1, r + Y1, rfl, rfl, by rw [HRR.out, Int.sub_mul]; omega, by omega, by omega, hm, by omega⟩
                case measure => simp [intOf]; omega
            · have hqe : Hid (Q2 = q) := by
                unfold Hid
                rw [HQ2.out]
                symm
                exact kn_stop (u := W) (v := V0) HY.out hYp HRR.out (by rw [← HZ.out]; omega) (by rw [← HQ2.out]; exact hq0)
              obtain rfl : Q2 = q := hqe
              go_wp2
              go_ret2
              exact ⟨ret_two FQ.out FR.out, rfl⟩
          · have hm : Q2 ≤ q - 1 := by omega
            by_cases hb : 4294967296 ≤ r + Y1
            · have hqq := Lib.hid (kn_break (u := W) (v := V0) (q := q - 1) (r := r + Y1) HY.out hYp hY0a (by omega) (by omega) (by rw [HRR.out, Int.sub_mul]; omega) hb (by omega) (by omega) (by rw [← HQ2.out]; exact hm))
              have hqe : Hid (q = Q2 + 1) := by have := hqq.out; rw [← HQ2.out] at this; unfold Hid; omega
              obtain rfl : q = Q2 + 1 := hqe
              clear hqq
              go_wp2
              go_ret2
              exact ⟨ret_two FQ.out FR.out, rfl⟩
            · go_wp2
              go_round
              case rel => exact ⟨q - 1, r + Y1, rfl, rfl, by rw [HRR.out, Int.sub_mul]; omega, by omega, by omega, hm, by omega⟩
              case measure => simp [intOf]; omega
      · go_wp2
        go_round
        case rel => exact ⟨q - 1, r + Y1, rfl, rfl, by rw [HRR.out, Int.sub_mul]; omega, by omega, by omega, hm, by omega⟩
        case measure => simp [intOf]; omega

/-- math/bits.Div64, of words. -/
theorem div64_any (hi lo y : Int) (h0 : 0 ≤ lo) (h1 : lo ≤ 18446744073709551615) (h2 : 0 ≤ hi) (h3 : y ≤ 18446744073709551615) (h4 : hi < y) (w : World) :
    Calls Tryd.prog 67 #[.int .u64 hi, .int .u64 lo, .int .u64 y] w fun e w' => e = .returned (.tuple #[.int .u64 ((hi * 18446744073709551616 + lo) / y), .int .u64 ((hi * 18446744073709551616 + lo) % y)]) ∧ ∃ n, w' = w.drewN n := by
  by_cases h : hi = 0
  · subst h
    rw [Int.zero_mul, Int.zero_add]
    exact div64_lo lo y h0 h1 h4 h3 w
  · exact (div64_hi hi lo y h0 h1 (by omega) h3 h4 w).mono fun e w' ⟨he, hw⟩ => ⟨he, 0, hw.symm⟩
end Go.Proofs.YtdipainocdgfgaaDoor
