/- The walk of the law EvalCircle: it returns true. Conditions: the integer is an int; the table of the arctangents lies in memory. -/
import Derived.Test.YtdipainocdgfgaaDoorSg
import Derived.Test.YtdipainocdgfgaaDoorAw
import Derived.Test.YtdipainocdgfgaaDoorCic
namespace Go.Proofs.YtdipainocdgfgaaDoor
set_option linter.unusedVariables false
set_option linter.unusedSimpArgs false
open Go.RowKit

theorem val_un (op a : Int) (hk : kidsS op = 1) (h0 : op ≠ 0) (h1 : op ≠ 1) (h11 : op ≠ 11) (ha : 0 ≤ a) (ha2 : a < 1000000000000000) : valS (unT op (numT a)) = unS op a := by
  unfold valS EvalS
  rw [if_pos (right_un (m := 15) hk h0 (right_num 14 a ha ha2))]
  unfold unT oneT
  simp [evalS, numT, finS, h0, h1, h11, hk]
theorem ev_sg (V : Int → Int × Int) (n : Int) : evalS V (sgT n) = (n, 0) := by
  unfold sgT
  split
  · unfold unT oneT
    simp [evalS, numT, finS, kidsS, unS]
  · rfl
theorem right_sg (m : Nat) (n : Int) (h1 : -999999999999999 ≤ n) (h2 : n ≤ 999999999999999) : rightS (m + 2) (sgT n) = true := by
  unfold sgT
  split
  · exact right_un (m := m + 1) rfl (by decide) (right_num m (-n) (by omega) (by omega))
  · exact right_num (m + 1) n (by omega) (by omega)
theorem val_dir (s c : Int) (h1 : -2000000 ≤ s) (h2 : s ≤ 2000000) (h3 : -2000000 ≤ c) (h4 : c ≤ 2000000) (hn : c ≠ 0 ∨ s ≠ 0) : valS (twoT 11 (sgT s) (sgT c)) = (angS c s, 0) := by
  unfold valS EvalS
  rw [if_pos (right_two (m := 15) rfl (by decide) (right_sg 13 s (by omega) (by omega)) (right_sg 13 c (by omega) (by omega)))]
  have e : evalS (getS zf) (twoT 11 (sgT s) (sgT c)) = dirS s c := by
    unfold twoT pairT
    simp [evalS, ev_sg, finS]
  rw [e]
  unfold dirS
  rw [if_neg (by omega), hv_end 64 (p := (c, s)) (by unfold big; dsimp only; omega)]
theorem box1 {w w1 : World} {n : Int} {op : Int} (hn : I64 n) (hop : I64 op) (hb : Below w.heap.size w w1) :
    Rd (w1.alloc (.cells #[.int .i64 0, .int .i64 n, .slice none 0 0] 27)) (w1.alloc (.cells #[.int .i64 0, .int .i64 n, .slice none 0 0] 27)).heap.size (unT op (numT n)) (.agg #[.int .i64 op, .int .i64 0, .slice (some ⟨w1.heap.size, 0, none⟩) 1 1]) :=
  Rd.lay1 (newq w1 _) (hltq (newq w1 _)) (Rd.num _ _ _ hn _) hop
set_option maxRecDepth 100000 in
set_option maxHeartbeats 4000000 in
theorem circleLaw_any (angle : Int) (hp1 : -9223372036854775808 ≤ angle) (hp2 : angle ≤ 9223372036854775807) (w : World) (ht : Tab w) :
    Calls Tryd.prog 6 #[.int .i64 angle] w fun e w' => e = .returned (.bool true) ∧ Below w.heap.size w w' := by
  have HT := Lib.hid ht
  have hts := ht.lt
  clear ht
  have a0 := Int.emod_nonneg angle (b := 360000000) (by omega)
  have a1 := Int.emod_lt_of_pos angle (b := 360000000) (by omega)
  obtain ⟨a, ha⟩ : ∃ a, a = angle % 360000000 := ⟨_, rfl⟩
  rw [← ha] at a0 a1
  have HA := Lib.hid ha.symm
  have hc := circ_law a a0 a1
  have hv8 : valS (unT 8 (numT a)) = ((mdS (sinS a).1 1000000 1073741824 2).1, 0) := val_un 8 a rfl (by decide) (by decide) (by decide) a0 (by omega)
  have hv9 : valS (unT 9 (numT a)) = ((mdS (sinS a).2 1000000 1073741824 2).1, 0) := val_un 9 a rfl (by decide) (by decide) (by decide) a0 (by omega)
  generalize (mdS (sinS a).1 1000000 1073741824 2).1 = s at hc hv8
  generalize (mdS (sinS a).2 1000000 1073741824 2).1 = c at hc hv9
  obtain ⟨⟨s1, s2⟩, ⟨c1, c2⟩, ⟨d1, d2⟩, hn, ht⟩ := hc
  have hvd := val_dir s c s1 s2 c1 c2 hn
  have hab := angS_bd c s
  generalize angS c s = b at hvd ht hab
  obtain ⟨b1, b2⟩ := hab
  obtain ⟨t, htt⟩ : ∃ t, t = (b - a + 1000) % 360000000 := ⟨_, rfl⟩
  have t0 := Int.emod_nonneg (b - a + 1000) (b := 360000000) (by omega)
  rw [← htt] at ht t0
  have HTT := Lib.hid htt.symm
  have HV8 := Lib.hid hv8
  have HV9 := Lib.hid hv9
  have HVD := Lib.hid hvd
  have ps := sq_nn s
  have pc := sq_nn c
  have qs := (mul_bd s1 s2 s1 s2).2
  have qc := (mul_bd c1 c2 c1 c2).2
  rw [show (2000000 : Int) * 2000000 = 4000000000000 from rfl] at qs qc
  clear ha hv8 hv9 hvd hn htt
  go_enter Tryd.func6, Tryd.ntmps6
  go_wp2_with (go_at_call 17; refine (mod_any angle 360000000 (by omega) (by omega) (by omega) (by omega) _).mono ?_; rw [HA.out]; rintro e w' ⟨rfl, rfl⟩)
  refine (numx_any _ w).mono ?_
  rintro e w1 ⟨rfl, hb⟩
  have HB1 := Lib.hid hb
  have HR1 := Lib.hid (box1 (op := 8) (n := a) (by unfold I64; omega) (by unfold I64; omega) hb)
  have HB2 := Lib.hid (hb.trans (below_box' (w := w1) (.cells #[.int .i64 0, .int .i64 a, .slice none 0 0] 27) hb.size))
  clear hb
  go_wp2_with fail
  refine (value_any (unT 8 (numT a)) _ _ _ _ _ _ HR1.out (HT.out.below HB2.out hts)).mono ?_
  rw [HV8.out]
  rintro e w3 ⟨rfl, hb⟩
  have HB3 := Lib.hid (HB2.out.trans (hb.mono HB2.out.size))
  clear hb
  go_wp2_with fail
  refine (numx_any _ w3).mono ?_
  rintro e w4 ⟨rfl, hb⟩
  have HR4 := Lib.hid (box1 (op := 9) (n := a) (by unfold I64; omega) (by unfold I64; omega) hb)
  have hb4 := hb.trans (below_box' (w := w4) (.cells #[.int .i64 0, .int .i64 a, .slice none 0 0] 27) hb.size)
  have HB5 := Lib.hid (HB3.out.trans (hb4.mono HB3.out.size))
  clear hb hb4
  go_wp2_with fail
  refine (value_any (unT 9 (numT a)) _ _ _ _ _ _ HR4.out (HT.out.below HB5.out hts)).mono ?_
  rw [HV9.out]
  rintro e w6 ⟨rfl, hb⟩
  have HB6 := Lib.hid (HB5.out.trans (hb.mono HB5.out.size))
  clear hb
  go_wp2_with fail
  refine (awake_any w6 (HT.out.below HB6.out hts)).mono ?_
  rintro e w7 ⟨rfl, hb⟩
  have HB7 := Lib.hid (HB6.out.trans (hb.mono HB6.out.size))
  clear hb
  go_wp2_with fail
  refine (signed_x s (by omega) (by omega) w7).mono ?_
  rintro e w8 ⟨o1, n1, A1, k1, cc1, rfl, hr, hb⟩
  have HR8 := Lib.hid hr
  have HB8 := Lib.hid (HB7.out.trans (hb.mono HB7.out.size))
  clear hr hb
  go_wp2_with fail
  refine (signed_x c (by omega) (by omega) w8).mono ?_
  rintro e w9 ⟨o2, n2, A2, k2, cc2, rfl, hr, hb⟩
  have HR9 := Lib.hid hr
  have HR8' := Lib.hid (HR8.out.below hb hb.size)
  have HB9 := Lib.hid (HB8.out.trans (hb.mono HB8.out.size))
  clear hr hb
  go_wp2_with fail
  refine (two_any 11 _ _ _ _ _ _ _ _ _ _ (sgT s) (sgT c) w9 (by unfold I64; omega) HR8'.out HR9.out).mono ?_
  rintro e w10 ⟨o3, n3, A3, k3, cc3, rfl, hr, hb⟩
  have HR10 := Lib.hid hr
  have HB10 := Lib.hid (HB9.out.trans (hb.mono HB9.out.size))
  clear hr hb
  go_wp2_with fail
  refine (value_any (twoT 11 (sgT s) (sgT c)) _ _ _ _ _ _ HR10.out (HT.out.below HB10.out hts)).mono ?_
  rw [HVD.out]
  rintro e w11 ⟨rfl, hb⟩
  have HB11 := Lib.hid (HB10.out.trans (hb.mono HB10.out.size))
  clear hb
  go_wp2_with (go_at_call 17; refine (mod_any (b - a + 1000) 360000000 (by omega) (by omega) (by omega) (by omega) _).mono ?_; rw [HTT.out]; rintro e w' ⟨rfl, rfl⟩)
  go_ret
  exact ⟨by first | rfl | simp; omega, HB11.out⟩
end Go.Proofs.YtdipainocdgfgaaDoor
