/- The contracts of root and Root of cncref01, of Sqrt, Round, Fix, Fup of cncref02. Conditions: the integers are ints, the mode is one of the three. -/
import Derived.Test.YtdipainocdgfgaaGreatDoorW
namespace Go.Proofs.YtdipainocdgfgaaGreatDoor
set_option linter.unusedVariables false
set_option linter.unusedSimpArgs false
open Go.RowKit

/-- How the rest of a root compares with a half. -/
def hfR (X q : Nat) : Int := if X ≤ q * (q + 1) then -1 else 1
def RootPost (X : Nat) (w : World) (e : Ending) (w' : World) : Prop :=
  ∃ q : Nat, Bit (fun t => t * t ≤ X) 9223372036854775808 q 0 ∧ e = .returned (.tuple #[.int .u64 (q : Nat), .bool (cmpN (q * q) X == 0), .int .i64 (hfR X q)]) ∧ Below w.heap.size w w'
set_option maxRecDepth 100000 in
set_option maxHeartbeats 800000 in
theorem root_ref (X : Nat) (A : Option Addr) (n c : Nat) (w : World) (hs : Held w [(A, n, X, 8)]) :
    Calls Tryz.prog 108 #[.slice A n c] w (RootPost X w) := by
  have HS := Lib.hid hs; clear hs
  have HB : Hid (Below w.heap.size w w) := Below.refl _ _
  go_enter Tryz.func108, Tryz.ntmps108
  go_wp2
  go_loopw [5, 6] (fun qv iv wr => ∃ (q j : Nat) (z : Int), qv = .int .u64 (q : Nat) ∧ iv = .int .i64 z ∧ z + 1 = j ∧ j ≤ 63 ∧ Bit (fun t => t * t ≤ X) 9223372036854775808 q j ∧ Held wr [(A, n, X, 8)] ∧ Below w.heap.size w wr) (fun _ iv _ => (intOf iv + 1).toNat)
  case atStart => exact ⟨0, 63, 62, rfl, rfl, rfl, Nat.le_refl _, ⟨rfl, Nat.le_refl _, by simp, Or.inr rfl⟩, HS.out, HB.out⟩
  case round =>
    clear HS HB
    obtain ⟨q, j, z, rfl, rfl, hz, hj, hbit, hs, hb⟩ := hrel
    have HBit := Lib.hid hbit; clear hbit
    have HS := Lib.hid hs; clear hs
    have HB := Lib.hid hb; clear hb
    by_cases hj0 : j = 0
    · subst hj0
      obtain rfl : z = -1 := by omega
      have hq1 : q + 1 ≤ 9223372036854775808 := HBit.out.2.1
      have hq2 : q < 18446744073709551616 := by omega
      have hq3 : q + 1 < 18446744073709551616 := by omega
      by_cases hh : X ≤ q * (q + 1)
      · have HF : Hid (hfR X q = -1) := if_pos hh
        have hc : ¬ 0 < cmpN X (q * (q + 1)) := by have := cmp_le0 hh; omega
        clear hh
        have tok1 : True := trivial
        have tok2 : True := trivial
        have tok3 : True := trivial
        have tok4 : True := trivial
        have tok5 : True := trivial
        have tok6 : True := trivial
        have tok7 : True := trivial
        have tok8 : True := trivial
        go_wp2_with (first | (go_at_call 82; clear tok1; refine (limbs_held q hq2 _ _ HS.out).mono ?_; rintro e w2 ⟨A1, n1, c1, rfl, hs, hb⟩; have HN := Lib.hid (below3 HB.out hb); clear HB hb HS; have HB := Lib.hid HN.out; have HS := Lib.hid hs; clear HN hs) | (go_at_call 82; clear tok2; refine (limbs_held (q + 1) hq3 _ _ HS.out).mono ?_; rintro e w3 ⟨A2, n2, c2, rfl, hs, hb⟩; have HN := Lib.hid (below3 HB.out hb); clear HB hb HS; have HB := Lib.hid HN.out; have HS := Lib.hid hs; clear HN hs) | (go_at_call 85; clear tok3; refine (mul_held _ _ HS.out (.tail _ (.head _)) (.head _) (by decide) (by decide)).mono ?_; rintro e w4 ⟨A3, n3, c3, rfl, hs, hb⟩; have HN := Lib.hid (below3 HB.out hb); clear HB hb HS; have HB := Lib.hid HN.out; have HS := Lib.hid hs; clear HN hs) | (go_at_call 84; clear tok4; refine (cmp_held _ _ HS.out (.tail _ (.tail _ (.tail _ (.head _)))) (.head _) (by decide) (by decide)).mono ?_; rintro e w5 ⟨rfl, hs, hb⟩; have HN := Lib.hid (below3 HB.out hb); clear HB hb HS; have HB := Lib.hid HN.out; have HS := Lib.hid hs; clear HN hs) | (go_at_call 82; clear tok5; refine (limbs_held q hq2 _ _ HS.out).mono ?_; rintro e w6 ⟨A4, n4, c4, rfl, hs, hb⟩; have HN := Lib.hid (below3 HB.out hb); clear HB hb HS; have HB := Lib.hid HN.out; have HS := Lib.hid hs; clear HN hs) | (go_at_call 82; clear tok6; refine (limbs_held q hq2 _ _ HS.out).mono ?_; rintro e w7 ⟨A5, n5, c5, rfl, hs, hb⟩; have HN := Lib.hid (below3 HB.out hb); clear HB hb HS; have HB := Lib.hid HN.out; have HS := Lib.hid hs; clear HN hs) | (go_at_call 85; clear tok7; refine (mul_held _ _ HS.out (.tail _ (.head _)) (.head _) (by decide) (by decide)).mono ?_; rintro e w8 ⟨A6, n6, c6, rfl, hs, hb⟩; have HN := Lib.hid (below3 HB.out hb); clear HB hb HS; have HB := Lib.hid HN.out; have HS := Lib.hid hs; clear HN hs) | (go_at_call 84; clear tok8; refine (cmp_held _ _ HS.out (.head _) (.tail _ (.tail _ (.tail _ (.tail _ (.tail _ (.tail _ (.head _))))))) (by decide) (by decide)).mono ?_; rintro e w9 ⟨rfl, hs, hb⟩; have HN := Lib.hid (below3 HB.out hb); clear HB hb HS; have HB := Lib.hid HN.out; have HS := Lib.hid hs; clear HN hs))
        go_ret3
        exact ⟨q, HBit.out, by rw [HF.out]; rfl, HB.out⟩
      · have HF : Hid (hfR X q = 1) := if_neg hh
        have hc : 0 < cmpN X (q * (q + 1)) := by rw [cmpN_gt (by omega)]; decide
        clear hh
        have tok1 : True := trivial
        have tok2 : True := trivial
        have tok3 : True := trivial
        have tok4 : True := trivial
        have tok5 : True := trivial
        have tok6 : True := trivial
        have tok7 : True := trivial
        have tok8 : True := trivial
        go_wp2_with (first | (go_at_call 82; clear tok1; refine (limbs_held q hq2 _ _ HS.out).mono ?_; rintro e w2 ⟨A1, n1, c1, rfl, hs, hb⟩; have HN := Lib.hid (below3 HB.out hb); clear HB hb HS; have HB := Lib.hid HN.out; have HS := Lib.hid hs; clear HN hs) | (go_at_call 82; clear tok2; refine (limbs_held (q + 1) hq3 _ _ HS.out).mono ?_; rintro e w3 ⟨A2, n2, c2, rfl, hs, hb⟩; have HN := Lib.hid (below3 HB.out hb); clear HB hb HS; have HB := Lib.hid HN.out; have HS := Lib.hid hs; clear HN hs) | (go_at_call 85; clear tok3; refine (mul_held _ _ HS.out (.tail _ (.head _)) (.head _) (by decide) (by decide)).mono ?_; rintro e w4 ⟨A3, n3, c3, rfl, hs, hb⟩; have HN := Lib.hid (below3 HB.out hb); clear HB hb HS; have HB := Lib.hid HN.out; have HS := Lib.hid hs; clear HN hs) | (go_at_call 84; clear tok4; refine (cmp_held _ _ HS.out (.tail _ (.tail _ (.tail _ (.head _)))) (.head _) (by decide) (by decide)).mono ?_; rintro e w5 ⟨rfl, hs, hb⟩; have HN := Lib.hid (below3 HB.out hb); clear HB hb HS; have HB := Lib.hid HN.out; have HS := Lib.hid hs; clear HN hs) | (go_at_call 82; clear tok5; refine (limbs_held q hq2 _ _ HS.out).mono ?_; rintro e w6 ⟨A4, n4, c4, rfl, hs, hb⟩; have HN := Lib.hid (below3 HB.out hb); clear HB hb HS; have HB := Lib.hid HN.out; have HS := Lib.hid hs; clear HN hs) | (go_at_call 82; clear tok6; refine (limbs_held q hq2 _ _ HS.out).mono ?_; rintro e w7 ⟨A5, n5, c5, rfl, hs, hb⟩; have HN := Lib.hid (below3 HB.out hb); clear HB hb HS; have HB := Lib.hid HN.out; have HS := Lib.hid hs; clear HN hs) | (go_at_call 85; clear tok7; refine (mul_held _ _ HS.out (.tail _ (.head _)) (.head _) (by decide) (by decide)).mono ?_; rintro e w8 ⟨A6, n6, c6, rfl, hs, hb⟩; have HN := Lib.hid (below3 HB.out hb); clear HB hb HS; have HB := Lib.hid HN.out; have HS := Lib.hid hs; clear HN hs) | (go_at_call 84; clear tok8; refine (cmp_held _ _ HS.out (.head _) (.tail _ (.tail _ (.tail _ (.tail _ (.tail _ (.tail _ (.head _))))))) (by decide) (by decide)).mono ?_; rintro e w9 ⟨rfl, hs, hb⟩; have HN := Lib.hid (below3 HB.out hb); clear HB hb HS; have HB := Lib.hid HN.out; have HS := Lib.hid hs; clear HN hs))
        go_ret3
        exact ⟨q, HBit.out, by rw [HF.out]; rfl, HB.out⟩
    · obtain ⟨k, rfl⟩ : ∃ k, j = k + 1 := ⟨j - 1, by omega⟩
      obtain rfl : z = (k : Int) := by omega
      obtain ⟨t, ht⟩ : ∃ t, q + 2 ^ k = t := ⟨_, rfl⟩
      have hor := bit_or' q k t HBit.out.1 (by omega) (by have := HBit.out.2.1; omega) ht
      have ht1 : t < 18446744073709551616 := by
        have hle := HBit.out.2.1
        have hp : 2 ^ (k + 1) = 2 ^ k + 2 ^ k := by rw [Nat.pow_succ]; omega
        have hk0 : 0 < 2 ^ k := Nat.pow_pos (by decide)
        omega
      by_cases hT : t * t ≤ X
      · have HB2 := Lib.hid (HBit.out.yes (by rw [ht]; exact hT))
        rw [ht] at HB2
        have hc := cmp_le0 hT
        clear hT ht
        have tok1 : True := trivial
        have tok2 : True := trivial
        have tok3 : True := trivial
        go_wp2_with (first | (go_at_call 82; clear tok1; refine (limbs_held t ht1 _ _ HS.out).mono ?_; rintro e w2 ⟨A1, n1, c1, rfl, hs, hb⟩; have HN := Lib.hid (below3 HB.out hb); clear HB hb HS; have HB := Lib.hid HN.out; have HS := Lib.hid hs; clear HN hs) | (go_at_call 85; clear tok2; refine (mul_held _ _ HS.out (.head _) (.head _) (by decide) (by decide)).mono ?_; rintro e w3 ⟨A2, n2, c2, rfl, hs, hb⟩; have HN := Lib.hid (below3 HB.out hb); clear HB hb HS; have HB := Lib.hid HN.out; have HS := Lib.hid hs; clear HN hs) | (go_at_call 84; clear tok3; refine (cmp_held _ _ HS.out (.head _) (.tail _ (.tail _ (.head _))) (by decide) (by decide)).mono ?_; rintro e w4 ⟨rfl, hs, hb⟩; have HN := Lib.hid (below3 HB.out hb); clear HB hb HS; have HB := Lib.hid HN.out; have HS := Lib.hid hs.tail.tail; clear HN hs))
        go_roundw
        case rel => exact ⟨t, k, (k : Int) - 1, rfl, by go_num, by omega, by omega, HB2.out, HS.out, HB.out⟩
        case measure => simp [intOf]
      · have HB2 := Lib.hid (HBit.out.no (by rw [ht]; exact hT))
        have hc := cmp_gt0 hT
        clear hT ht
        have tok1 : True := trivial
        have tok2 : True := trivial
        have tok3 : True := trivial
        go_wp2_with (first | (go_at_call 82; clear tok1; refine (limbs_held t ht1 _ _ HS.out).mono ?_; rintro e w2 ⟨A1, n1, c1, rfl, hs, hb⟩; have HN := Lib.hid (below3 HB.out hb); clear HB hb HS; have HB := Lib.hid HN.out; have HS := Lib.hid hs; clear HN hs) | (go_at_call 85; clear tok2; refine (mul_held _ _ HS.out (.head _) (.head _) (by decide) (by decide)).mono ?_; rintro e w3 ⟨A2, n2, c2, rfl, hs, hb⟩; have HN := Lib.hid (below3 HB.out hb); clear HB hb HS; have HB := Lib.hid HN.out; have HS := Lib.hid hs; clear HN hs) | (go_at_call 84; clear tok3; refine (cmp_held _ _ HS.out (.head _) (.tail _ (.tail _ (.head _))) (by decide) (by decide)).mono ?_; rintro e w4 ⟨rfl, hs, hb⟩; have HN := Lib.hid (below3 HB.out hb); clear HB hb HS; have HB := Lib.hid HN.out; have HS := Lib.hid hs.tail.tail; clear HN hs))
        go_roundw
        case rel => exact ⟨q, k, (k : Int) - 1, rfl, by go_num, by omega, by omega, HB2.out, HS.out, HB.out⟩
        case measure => simp [intOf]
end Go.Proofs.YtdipainocdgfgaaGreatDoor
