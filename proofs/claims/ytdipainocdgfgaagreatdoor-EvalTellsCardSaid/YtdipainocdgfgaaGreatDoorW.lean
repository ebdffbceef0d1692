/- The contract of MulDiv of cncref01: it returns what the plain function mdS gives. Conditions: the integers are those of their kind, the divisor is not 0, the mode is one of the three. -/
import Derived.Test.YtdipainocdgfgaaGreatDoorV
import Derived.Test.YtdipainocdgfgaaGreatDoorO
import Derived.Test.YtdipainocdgfgaaGreatDoorH
namespace Go.Proofs.YtdipainocdgfgaaGreatDoor
set_option linter.unusedVariables false
set_option linter.unusedSimpArgs false
open Go.RowKit

/-- A number built bit by bit from above: what holds before bit j - 1. -/
def Bit (T : Nat → Prop) (top q j : Nat) : Prop := q % 2 ^ j = 0 ∧ q + 2 ^ j ≤ top ∧ T q ∧ (¬ T (q + 2 ^ j) ∨ q + 2 ^ j = top)
theorem Bit.low {T : Nat → Prop} {top q k : Nat} (h : Bit T top q (k + 1)) : q % 2 ^ k = 0 := by
  have h1 := h.1
  rw [Nat.pow_succ] at h1
  exact Nat.mod_eq_zero_of_dvd (Nat.dvd_trans ⟨2, rfl⟩ (Nat.dvd_of_mod_eq_zero h1))
theorem Bit.yes {T : Nat → Prop} {top q k : Nat} (h : Bit T top q (k + 1)) (ht : T (q + 2 ^ k)) : Bit T top (q + 2 ^ k) k := by
  have e : 2 ^ (k + 1) = 2 ^ k + 2 ^ k := by rw [Nat.pow_succ]; omega
  have h0 := h.low
  obtain ⟨h1, h2, h3, h4⟩ := h
  rw [e, ← Nat.add_assoc] at h4 h2
  exact ⟨by rw [Nat.add_mod_right]; exact h0, h2, ht, h4⟩
theorem Bit.no {T : Nat → Prop} {top q k : Nat} (h : Bit T top q (k + 1)) (ht : ¬ T (q + 2 ^ k)) : Bit T top q k := by
  have e : 2 ^ (k + 1) = 2 ^ k + 2 ^ k := by rw [Nat.pow_succ]; omega
  have h0 := h.low
  obtain ⟨h1, h2, h3, h4⟩ := h
  exact ⟨h0, by omega, h3, Or.inl ht⟩
theorem bit_or (q k : Nat) (hq : q % 2 ^ (k + 1) = 0) (hk : k ≤ 63) (h : q + 2 ^ (k + 1) ≤ 18446744073709551616) : bits .or .u64 (q : Int) (((2 ^ k : Nat)) : Int) = ((q + 2 ^ k : Nat) : Int) := by
  have e : 2 ^ (k + 1) = 2 ^ k + 2 ^ k := by rw [Nat.pow_succ]; omega
  have hp : 0 < 2 ^ k := Nat.pow_pos (by decide)
  have e2 : ((2 ^ (k + 1) : Nat) : Int) = (2 : Int) ^ (k + 1) := by push_cast; rfl
  rw [or_join (q : Int) ((2 ^ k : Nat) : Int) (k + 1) (by omega) (by omega) (by rw [← e2, ← Int.natCast_emod, hq]; rfl) (by omega) (by rw [← e2]; omega) (by omega)]
  omega
theorem bit_or' (q k t : Nat) (hq : q % 2 ^ (k + 1) = 0) (hk : k ≤ 63) (h : q + 2 ^ (k + 1) ≤ 18446744073709551616) (ht : q + 2 ^ k = t) : bits .or .u64 (q : Int) (IntKind.u64.wrap (2 ^ k)) = (t : Int) := by
  have e : 2 ^ (k + 1) = 2 ^ k + 2 ^ k := by rw [Nat.pow_succ]; omega
  have e3 : ((2 ^ k : Nat) : Int) = (2 : Int) ^ k := by push_cast; rfl
  rw [← e3, IntWalk.u64_in _ (by omega), bit_or q k hq hk h, ht]
theorem cmp_le0 {N M : Nat} (h : N ≤ M) : cmpN N M ≤ 0 := by
  unfold cmpN; split
  · omega
  · rw [if_neg (by omega)]; omega
theorem cmp_gt0 {N M : Nat} (h : ¬ N ≤ M) : ¬ cmpN N M ≤ 0 := by rw [cmpN_gt (by omega)]; omega
theorem neg_cases (a b c : Int) (h : sg a b ≠ 0) : (!(decide (sg a b < 0) == decide (c < 0))) = ngt a b c := by
  unfold ngt
  by_cases h1 : sg a b < 0 <;> by_cases h2 : c < 0 <;> simp [h, h1, h2]
theorem sg_zero_mg {a b : Int} (h : sg a b = 0) : mg a * mg b = 0 := by
  rcases sg_cases a b with ⟨_, h1, _⟩ | ⟨_, h1, _⟩ | ⟨_, _, h1⟩
  · omega
  · omega
  · exact h1
/-- WHAT THE REFERENCE COMPUTES IS WHAT mdS SAYS. -/
theorem md_law (a b c mode : Int) (X D q : Nat) (hX : a.natAbs * b.natAbs = X) (hD : c.natAbs = D) (hD0 : 0 < D) (hB : Bit (fun t => t * D ≤ X) 18446744073709551616 q 0) :
    rndd q (grw mode (cmpN (X + X) (q * D + q * D + D)) (!(cmpN X (q * D) == 0)) (!(decide (sg a b < 0) == decide (c < 0)))) (!(decide (sg a b < 0) == decide (c < 0))) = mdS a b c mode := by
  have hx : mg a * mg b = (X : Int) := by rw [← hX]; unfold mg; push_cast; rfl
  have hd : mg c = (D : Int) := by rw [← hD]; rfl
  obtain ⟨_, hq1, hq2, hq3⟩ := hB
  simp only [Nat.pow_zero] at hq1 hq2 hq3
  have hd0 : (0 : Int) < (D : Int) := by omega
  by_cases hbig : (q + 1) * D ≤ X
  · have hq : q + 1 = 18446744073709551616 := by rcases hq3 with h | h; exact absurd hbig h; exact h
    rw [rndd_big (by omega)]
    unfold mdS mdA
    rw [hx, hd]
    have h1 : ((q + 1 : Nat) : Int) ≤ (X : Int) / (D : Int) := (Int.le_ediv_iff_mul_le hd0).2 (by exact_mod_cast hbig)
    rw [sgnd_out (by split <;> omega)]
  · have hlt : X < (q + 1) * D := by omega
    rw [Nat.add_mul, Nat.one_mul] at hlt
    obtain ⟨Y, hY⟩ : ∃ Y, q * D = Y := ⟨_, rfl⟩
    rw [hY] at hlt hq2 ⊢
    obtain ⟨r, hr⟩ : ∃ r, X = Y + r := ⟨X - Y, by omega⟩
    have hYi : (D : Int) * (q : Int) = (Y : Int) := by rw [← hY]; push_cast; exact Int.mul_comm _ _
    have e1 : (X : Int) / (D : Int) = (q : Int) := ediv_of hd0 (r := (r : Int)) (by rw [hYi]; omega) (by omega) (by omega)
    have e2 : (X : Int) % (D : Int) = (r : Int) := by
      have := Int.emod_add_mul_ediv (X : Int) (D : Int)
      rw [e1, hYi] at this
      omega
    have e3 : cmpN (X + X) (Y + Y + D) = half (r : Int) (D : Int) := by
      unfold half
      by_cases k1 : (D : Int) - r < r
      · rw [if_pos k1, cmpN_gt (by omega)]
      · rw [if_neg k1]
        by_cases k2 : (r : Int) < D - r
        · rw [if_pos k2, cmpN_lt (by omega)]
        · rw [if_neg k2, cmpN_eq (by omega)]
    have e4 : (!(cmpN X Y == 0)) = decide (0 < (r : Int)) := by
      by_cases k1 : r = 0
      · rw [cmpN_eq (by omega)]; simp [k1]
      · rw [cmpN_gt (by omega)]; simp; omega
    rw [e3, e4]
    unfold mdS mdA
    rw [hx, hd, e1, e2]
    by_cases hs : sg a b = 0
    · have h0 := sg_zero_mg hs
      rw [hx] at h0
      have hr0 : r = 0 := by omega
      have hY0 : Y = 0 := by omega
      have hq0 : q = 0 := by
        rw [hY0] at hY
        rcases Nat.mul_eq_zero.1 hY with h | h
        · exact h
        · omega
      subst hr0
      subst hq0
      have g1 : ∀ n, grw mode (half ((0 : Nat) : Int) (D : Int)) (decide (0 < ((0 : Nat) : Int))) n = false := fun n => by
        rw [half_lo (by omega)]
        unfold grw
        simp
      rw [g1, g1, rndd_0]
      simp
      have g3 : ∀ n, sgnd 0 n = (0, true) := fun n => by cases n <;> rfl
      rw [g3, g3]
    · rw [neg_cases a b c hs]
      rfl

theorem ret_md {p q : Int × Bool} (h : p = q) : Ending.returned (.tuple #[.int .i64 p.1, .bool p.2]) = .returned (.tuple #[.int .i64 q.1, .bool q.2]) := by rw [h]
theorem below3 {w w1 w2 : World} (h1 : Below w.heap.size w w1) (h2 : Below w1.heap.size w1 w2) : Below w.heap.size w w2 := h1.trans (h2.mono h1.size)

set_option maxRecDepth 100000 in
set_option maxHeartbeats 800000 in
theorem muldiv_ref (a b c mode : Int) (ha1 : -9223372036854775808 ≤ a) (ha2 : a ≤ 9223372036854775807) (hb1 : -9223372036854775808 ≤ b) (hb2 : b ≤ 9223372036854775807)
    (hc1 : -9223372036854775808 ≤ c) (hc2 : c ≤ 9223372036854775807) (hc0 : c ≠ 0) (hm0 : 0 ≤ mode) (hm1 : mode ≤ 2) (w : World) :
    Calls Tryz.prog 58 #[.int .i64 a, .int .i64 b, .int .i64 c, .int .i64 mode] w fun e w' => e = .returned (.tuple #[.int .i64 (mdS a b c mode).1, .bool (mdS a b c mode).2]) ∧ Below w.heap.size w w' := by
  have hc0' : (c == 0) = false := by simpa using hc0
  obtain ⟨X, hX⟩ : ∃ X, a.natAbs * b.natAbs = X := ⟨_, rfl⟩
  obtain ⟨D, hD⟩ : ∃ D, c.natAbs = D := ⟨_, rfl⟩
  have hD0 : 0 < D := by omega
  have hD1 : D < 18446744073709551616 := by omega
  have HS : Hid (Held w []) := fun t ht => by cases ht
  have HB : Hid (Below w.heap.size w w) := Below.refl _ _
  go_enter Tryz.func58, Tryz.ntmps58
  go_wp2_with (first
    | (go_at_call 80; refine (right_yes _ hm0 hm1 _).mono ?_; rintro e w' ⟨rfl, rfl⟩)
    | (go_at_call 81; refine (product_held a b ha1 ha2 hb1 hb2 _ _ HS.out).mono ?_; rw [hX]; rintro e w1 ⟨Ax, nx, cx, rfl, hs, hb⟩; have HN := Lib.hid (below3 HB.out hb); clear HB hb HS; have HB := Lib.hid HN.out; have HS := Lib.hid hs; clear HN hs)
    | (go_at_call 83; refine (mag_ref _ hc1 hc2 _).mono ?_; rw [hD]; rintro e w' ⟨rfl, rfl⟩)
    | (go_at_call 82; refine (limbs_held D hD1 _ _ HS.out).mono ?_; rintro e w2 ⟨Ad, nd', cd, rfl, hs, hb⟩; have HN := Lib.hid (below3 HB.out hb); clear HB hb HS; have HB := Lib.hid HN.out; have HS := Lib.hid hs; clear HN hs))
  go_loopw [12, 13] (fun qv iv wr => ∃ (q j : Nat) (z : Int), qv = .int .u64 (q : Nat) ∧ iv = .int .i64 z ∧ z + 1 = j ∧ j ≤ 64 ∧ Bit (fun t => t * D ≤ X) 18446744073709551616 q j ∧ Held wr [(Ad, nd', D, 4), (Ax, nx, X, 8)] ∧ Below w.heap.size w wr) (fun _ iv _ => (intOf iv + 1).toNat)
  case atStart => exact ⟨0, 64, 63, rfl, rfl, rfl, Nat.le_refl _, ⟨rfl, Nat.le_refl _, by simp, Or.inr rfl⟩, HS.out, HB.out⟩
  case round =>
    clear HS HB
    obtain ⟨q, j, z, rfl, rfl, hz, hj, hbit, hs, hb⟩ := hrel
    have HBit := Lib.hid hbit; clear hbit
    have HS := Lib.hid hs; clear hs
    have HB := Lib.hid hb; clear hb
    by_cases hj0 : j = 0
    · subst hj0
      obtain rfl : z = -1 := by omega
      have hq1 : q < 18446744073709551616 := by have := HBit.out.2.1; omega
      have tok1 : True := trivial
      have tok2 : True := trivial
      have tok3 : True := trivial
      have tok4 : True := trivial
      have tok5 : True := trivial
      have tok6 : True := trivial
      have tok7 : True := trivial
      go_wp2_with (first | (go_at_call 82; clear tok6; refine (limbs_held q hq1 _ _ HS.out).mono ?_; rintro e w2 ⟨A1, n1, c1, rfl, hs, hb⟩; have HN := Lib.hid (below3 HB.out hb); clear HB hb HS; have HB := Lib.hid HN.out; have HS := Lib.hid hs; clear HN hs) | (go_at_call 85; clear tok7; refine (mul_held _ _ HS.out (.head _) (.tail _ (.head _)) (by decide) (by decide)).mono ?_; rintro e w3 ⟨A2, n2, c2, rfl, hs, hb⟩; have HN := Lib.hid (below3 HB.out hb); clear HB hb HS; have HB := Lib.hid HN.out; have HS := Lib.hid hs; clear HN hs) | (go_at_call 86; clear tok1; refine (add_held _ _ HS.out (.tail _ (.tail _ (.tail _ (.head _)))) (.tail _ (.tail _ (.tail _ (.head _)))) (by decide) (by decide)).mono ?_; rintro e w4 ⟨A3, n3, c3, rfl, hs, hb⟩; have HN := Lib.hid (below3 HB.out hb); clear HB hb HS; have HB := Lib.hid HN.out; have HS := Lib.hid hs; clear HN hs) | (go_at_call 86; clear tok2; refine (add_held _ _ HS.out (.tail _ (.head _)) (.tail _ (.head _)) (by decide) (by decide)).mono ?_; rintro e w5 ⟨A4, n4, c4, rfl, hs, hb⟩; have HN := Lib.hid (below3 HB.out hb); clear HB hb HS; have HB := Lib.hid HN.out; have HS := Lib.hid hs; clear HN hs) | (go_at_call 86; clear tok3; refine (add_held _ _ HS.out (.head _) (.tail _ (.tail _ (.tail _ (.tail _ (.head _))))) (by decide) (by decide)).mono ?_; rintro e w6 ⟨A5, n5, c5, rfl, hs, hb⟩; have HN := Lib.hid (below3 HB.out hb); clear HB hb HS; have HB := Lib.hid HN.out; have HS := Lib.hid hs; clear HN hs) | (go_at_call 84; clear tok4; refine (cmp_held _ _ HS.out (.tail _ (.tail _ (.head _))) (.head _) (by decide) (by decide)).mono ?_; rintro e w7 ⟨rfl, hs, hb⟩; have HN := Lib.hid (below3 HB.out hb); clear HB hb HS; have HB := Lib.hid HN.out; have HS := Lib.hid hs; clear HN hs) | (go_at_call 84; clear tok5; refine (cmp_held _ _ HS.out (.tail _ (.tail _ (.tail _ (.tail _ (.tail _ (.tail _ (.head _))))))) (.tail _ (.tail _ (.tail _ (.head _)))) (by decide) (by decide)).mono ?_; rintro e w8 ⟨rfl, hs, hb⟩; have HN := Lib.hid (below3 HB.out hb); clear HB hb HS; have HB := Lib.hid HN.out; have HS := Lib.hid hs; clear HN hs) | (go_at_call 88; refine (sign_ref _ _ _).mono ?_; rintro e w' ⟨rfl, rfl⟩) | (go_at_call 87; refine (rounded_ref _ _ _ _ _ (by omega) (by omega) hm0 hm1 _).mono ?_; rintro e w' ⟨rfl, rfl⟩))
      go_ret2
      exact ⟨ret_md (md_law a b c mode X D q hX hD hD0 HBit.out), HB.out⟩
    · obtain ⟨k, rfl⟩ : ∃ k, j = k + 1 := ⟨j - 1, by omega⟩
      obtain rfl : z = (k : Int) := by omega
      obtain ⟨t, ht⟩ : ∃ t, q + 2 ^ k = t := ⟨_, rfl⟩
      have hor := bit_or' q k t HBit.out.1 (by omega) HBit.out.2.1 ht
      have ht1 : t < 18446744073709551616 := by
        have hle := HBit.out.2.1
        have hp : 2 ^ (k + 1) = 2 ^ k + 2 ^ k := by rw [Nat.pow_succ]; omega
        have hk0 : 0 < 2 ^ k := Nat.pow_pos (by decide)
        omega
      by_cases hT : t * D ≤ X
      · have HB2 := Lib.hid (HBit.out.yes (by rw [ht]; exact hT))
        rw [ht] at HB2
        have hc := cmp_le0 hT
        clear hT ht
        go_wp2_with (first | (go_at_call 82; refine (limbs_held t ht1 _ _ HS.out).mono ?_; rintro e w2 ⟨A1, n1, c1, rfl, hs, hb⟩; have HN := Lib.hid (below3 HB.out hb); clear HB hb HS; have HB := Lib.hid HN.out; have HS := Lib.hid hs; clear HN hs) | (go_at_call 85; refine (mul_held _ _ HS.out (.head _) (.tail _ (.head _)) (by decide) (by decide)).mono ?_; rintro e w3 ⟨A2, n2, c2, rfl, hs, hb⟩; have HN := Lib.hid (below3 HB.out hb); clear HB hb HS; have HB := Lib.hid HN.out; have HS := Lib.hid hs; clear HN hs) | (go_at_call 84; refine (cmp_held _ _ HS.out (.head _) (.tail _ (.tail _ (.tail _ (.head _)))) (by decide) (by decide)).mono ?_; rintro e w4 ⟨rfl, hs, hb⟩; have HN := Lib.hid (below3 HB.out hb); clear HB hb HS; have HB := Lib.hid HN.out; have HS := Lib.hid hs.tail.tail; clear HN hs))
        go_roundw
        case rel => exact ⟨t, k, (k : Int) - 1, rfl, by go_num, by omega, by omega, HB2.out, HS.out, HB.out⟩
        case measure => simp [intOf]
      · have HB2 := Lib.hid (HBit.out.no (by rw [ht]; exact hT))
        have hc := cmp_gt0 hT
        clear hT ht
        go_wp2_with (first | (go_at_call 82; refine (limbs_held t ht1 _ _ HS.out).mono ?_; rintro e w2 ⟨A1, n1, c1, rfl, hs, hb⟩; have HN := Lib.hid (below3 HB.out hb); clear HB hb HS; have HB := Lib.hid HN.out; have HS := Lib.hid hs; clear HN hs) | (go_at_call 85; refine (mul_held _ _ HS.out (.head _) (.tail _ (.head _)) (by decide) (by decide)).mono ?_; rintro e w3 ⟨A2, n2, c2, rfl, hs, hb⟩; have HN := Lib.hid (below3 HB.out hb); clear HB hb HS; have HB := Lib.hid HN.out; have HS := Lib.hid hs; clear HN hs) | (go_at_call 84; refine (cmp_held _ _ HS.out (.head _) (.tail _ (.tail _ (.tail _ (.head _)))) (by decide) (by decide)).mono ?_; rintro e w4 ⟨rfl, hs, hb⟩; have HN := Lib.hid (below3 HB.out hb); clear HB hb HS; have HB := Lib.hid HN.out; have HS := Lib.hid hs.tail.tail; clear HN hs))
        go_roundw
        case rel => exact ⟨q, k, (k : Int) - 1, rfl, by go_num, by omega, by omega, HB2.out, HS.out, HB.out⟩
        case measure => simp [intOf]
end Go.Proofs.YtdipainocdgfgaaGreatDoor
