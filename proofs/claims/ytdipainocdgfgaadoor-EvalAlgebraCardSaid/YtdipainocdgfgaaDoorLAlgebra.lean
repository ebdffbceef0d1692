/- The walk of the law EvalAlgebra: it returns true. Conditions: the lists that came in read as integers; the table of the arctangents lies in memory. -/
import Derived.Test.YtdipainocdgfgaaDoorTw
namespace Go.Proofs.YtdipainocdgfgaaDoor
set_option linter.unusedVariables false
set_option linter.unusedSimpArgs false
open Go.RowKit

theorem val_sml (t : Tr) : Sml (valS t).1 := by
  unfold valS EvalS
  split
  · rename_i h; exact eval_sml (getS_sml zf_vf) t 16 h
  · exact zero_sml
set_option maxRecDepth 100000 in
set_option maxHeartbeats 4000000 in
theorem algebraLaw_any (A : Option Addr) (n c : Nat) (A' : Option Addr) (n' c' : Nat) (w : World) (hl : LOK w w.heap.size A n) (hl' : LOK w w.heap.size A' n') (ht : Tab w) :
    Calls Tryd.prog 3 #[.slice A n c, .slice A' n' c'] w fun e w' => e = .returned (.bool true) ∧ Below w.heap.size w w' := by
  have HL := Lib.hid hl
  have HL' := Lib.hid hl'
  have HT := Lib.hid ht
  clear hl hl' ht
  by_cases h1 : n ≤ 120
  case neg =>
    go_enter Tryd.func3, Tryd.ntmps3
    go_wp2_with (first | (go_at_call 9; refine (light_no _ _ _ h1 _).mono ?_; rintro e w' ⟨rfl, rfl⟩) | (go_at_call 10; refine (awake_any _ HT.out).mono ?_; rintro e w1 ⟨rfl, hb⟩; have HB := Lib.hid hb; clear hb))
    go_ret
    exact ⟨rfl, HB.out⟩
  by_cases h2 : n' ≤ 120
  case neg =>
    go_enter Tryd.func3, Tryd.ntmps3
    go_wp2_with (first | (go_at_call 9; with_reducible refine (light_yes A n c h1 _).mono ?_; rintro e w' ⟨rfl, rfl⟩) | (go_at_call 9; refine (light_no A' n' c' h2 _).mono ?_; rintro e w' ⟨rfl, rfl⟩) | (go_at_call 10; refine (awake_any _ HT.out).mono ?_; rintro e w1 ⟨rfl, hb⟩; have HB := Lib.hid hb; clear hb))
    go_ret
    exact ⟨rfl, HB.out⟩
  go_enter Tryd.func3, Tryd.ntmps3
  go_wp2_with (go_at_call 9; (first | with_reducible refine (light_yes A n c h1 _).mono ?_ | with_reducible refine (light_yes A' n' c' h2 _).mono ?_); rintro e w' ⟨rfl, rfl⟩)
  refine (new_any w w.heap.size (Nat.le_refl _) A n c).mono ?_
  rintro e w1 ⟨rfl, rfl⟩
  have hbx := below_box' (w := w) (.cells #[.slice A n c, .int .i64 0] 54) (Nat.le_refl _)
  go_wp2_with fail
  refine (expr_any w.heap.size w.heap.size A n c 4 _ (by omega) (by omega) (HL.out.below hbx) (TapeOK.new w _ (Nat.le_refl _) A n c) hbx.size).mono ?_
  rintro e w2 ⟨s, o1, n1, A1, k1, c1, rfl, hrb, hrt, htp, ho⟩
  have HB2 := Lib.hid (hbx.trans (ho.below (Nat.le_refl _) hbx.size))
  have HR1 := Lib.hid hrb.rd
  have HT1 := Lib.hid hrt
  clear hrb hrt htp ho hbx
  go_wp2_with fail
  refine (new_any w2 w.heap.size HB2.out.size A' n' c').mono ?_
  rintro e w3 ⟨rfl, rfl⟩
  have hbx := below_box' (w := w2) (.cells #[.slice A' n' c', .int .i64 0] 54) (Nat.le_refl _)
  go_wp2_with fail
  refine (expr_any w.heap.size w2.heap.size A' n' c' 4 _ (by omega) (by omega) (HL'.out.below (HB2.out.trans (hbx.mono HB2.out.size))) (TapeOK.new w2 _ HB2.out.size A' n' c') (Nat.le_trans HB2.out.size hbx.size)).mono ?_
  rintro e w4 ⟨t, o2, n2, A2, k2, c2, rfl, hrb, hrt, htp, ho⟩
  have hb24 := hbx.trans (ho.below (Nat.le_refl _) hbx.size)
  have T4 := Lib.hid (Two.make (w0 := w) (HR1.out.below hb24 hb24.size) hrb.rd (HB2.out.trans (hb24.mono HB2.out.size)))
  have HT2 := Lib.hid hrt
  clear hrb hrt htp ho hbx hb24
  obtain ⟨⟨u1, e1⟩, hv1⟩ : ∃ p, p = valS s := ⟨_, rfl⟩
  obtain ⟨⟨u2, e2⟩, hv2⟩ : ∃ p, p = valS t := ⟨_, rfl⟩
  have HV1 := Lib.hid hv1
  have HV2 := Lib.hid hv2
  clear hv1 hv2
  go_wp2_with fail
  refine (value_any s _ _ _ _ _ _ T4.out.rd (tab_two T4.out HT.out)).mono ?_
  rw [← HV1.out]
  rintro e w5 ⟨rfl, hb⟩
  have T5 := Lib.hid (T4.out.next hb)
  clear hb
  obtain ⟨y0, y1, y2⟩ := three T5.out.box'
  go_wp2_with fail
  refine (value_any t _ _ _ _ _ _ T5.out.rd' (tab_two T5.out HT.out)).mono ?_
  rw [← HV2.out]
  rintro e w6 ⟨rfl, hb⟩
  have T6 := Lib.hid (T5.out.next hb)
  clear hb y0 y1 y2
  by_cases he : e1 = 0
  case neg =>
    have he' : (e1 == 0) = false := by simpa using he
    have he'' : (e1 != 0) = true := by simpa using he
    clear he
    have HAW := Lib.hid (awake_any w6 (tab_two T6.out HT.out))
    go_wp2_with (go_at_call 10; refine HAW.out.mono ?_; rintro e w99 ⟨rfl, hb⟩; have HB := Lib.hid hb; clear hb)
    go_ret
    exact ⟨rfl, T6.out.below.trans (HB.out.mono T6.out.below.size)⟩
  by_cases hf : e2 = 0
  case neg =>
    have he' : (e1 == 0) = true := by simpa using he
    have he'' : (e1 != 0) = false := by simpa using he
    have hf' : (e2 == 0) = false := by simpa using hf
    have hf'' : (e2 != 0) = true := by simpa using hf
    clear he hf
    have HAW := Lib.hid (awake_any w6 (tab_two T6.out HT.out))
    go_wp2_with (go_at_call 10; refine HAW.out.mono ?_; rintro e w99 ⟨rfl, hb⟩; have HB := Lib.hid hb; clear hb)
    go_ret
    exact ⟨rfl, T6.out.below.trans (HB.out.mono T6.out.below.size)⟩
  subst he hf
  obtain ⟨⟨q0, r0⟩, hq0⟩ : ∃ p, p = valS (twoT 3 s t) := ⟨_, rfl⟩
  have HQ0 := Lib.hid hq0
  obtain ⟨⟨q1, r1⟩, hq1⟩ : ∃ p, p = valS (twoT 3 t s) := ⟨_, rfl⟩
  have HQ1 := Lib.hid hq1
  obtain ⟨⟨q2, r2⟩, hq2⟩ : ∃ p, p = valS (twoT 5 s t) := ⟨_, rfl⟩
  have HQ2 := Lib.hid hq2
  obtain ⟨⟨q3, r3⟩, hq3⟩ : ∃ p, p = valS (twoT 5 t s) := ⟨_, rfl⟩
  have HQ3 := Lib.hid hq3
  obtain ⟨⟨q4, r4⟩, hq4⟩ : ∃ p, p = valS (twoT 4 s t) := ⟨_, rfl⟩
  have HQ4 := Lib.hid hq4
  obtain ⟨⟨q5, r5⟩, hq5⟩ : ∃ p, p = valS (twoT 3 s (unT 2 t)) := ⟨_, rfl⟩
  have HQ5 := Lib.hid hq5
  obtain ⟨⟨q6, r6⟩, hq6⟩ : ∃ p, p = valS (twoT 21 s t) := ⟨_, rfl⟩
  have HQ6 := Lib.hid hq6
  obtain ⟨⟨q7, r7⟩, hq7⟩ : ∃ p, p = valS (twoT 19 s t) := ⟨_, rfl⟩
  have HQ7 := Lib.hid hq7
  obtain ⟨⟨q8, r8⟩, hq8⟩ : ∃ p, p = valS (twoT 17 s t) := ⟨_, rfl⟩
  have HQ8 := Lib.hid hq8
  obtain ⟨⟨q9, r9⟩, hq9⟩ : ∃ p, p = valS (twoT 20 s t) := ⟨_, rfl⟩
  have HQ9 := Lib.hid hq9
  obtain ⟨⟨q10, r10⟩, hq10⟩ : ∃ p, p = valS (twoT 22 s t) := ⟨_, rfl⟩
  have HQ10 := Lib.hid hq10
  obtain ⟨⟨q11, r11⟩, hq11⟩ : ∃ p, p = valS (twoT 18 s t) := ⟨_, rfl⟩
  have HQ11 := Lib.hid hq11
  have hlw := algebra_law s t HT1.out HT2.out (by rw [← HV1.out]) (by rw [← HV2.out])
  rw [← hq0, ← hq1, ← hq2, ← hq3, ← hq4, ← hq5, ← hq6, ← hq7, ← hq8, ← hq9, ← hq10, ← hq11] at hlw
  dsimp only at hlw
  simp only [Prod.mk.injEq] at hlw
  have HLW := Lib.hid hlw
  clear hlw hq0 hq1 hq2 hq3 hq4 hq5 hq6 hq7 hq8 hq9 hq10 hq11
  obtain ⟨x0, x1, x2⟩ := three T6.out.box
  obtain ⟨y0, y1, y2⟩ := three T6.out.box'
  go_wp2_with fail
  refine (two_any 3 _ _ _ _ _ _ _ _ _ _ s t w6 (by unfold I64; omega) T6.out.rd T6.out.rd').mono ?_
  rintro e w7 ⟨o7, n7, A7, k7, c7, rfl, hr, hb⟩
  have T7 := Lib.hid (T6.out.next hb)
  have HR7 := Lib.hid hr
  clear hb hr x0 x1 x2 y0 y1 y2
  go_wp2_with fail
  refine (value_any (twoT 3 s t) _ _ _ _ _ _ HR7.out (tab_two T7.out HT.out)).mono ?_
  rw [← HQ0.out]
  rintro e w8 ⟨rfl, hb⟩
  have T8 := Lib.hid (T7.out.next hb)
  clear hb
  obtain ⟨x0, x1, x2⟩ := three T8.out.box
  obtain ⟨y0, y1, y2⟩ := three T8.out.box'
  go_wp2_with fail
  refine (two_any 3 _ _ _ _ _ _ _ _ _ _ t s w8 (by unfold I64; omega) T8.out.rd' T8.out.rd).mono ?_
  rintro e w9 ⟨o9, n9, A9, k9, c9, rfl, hr, hb⟩
  have T9 := Lib.hid (T8.out.next hb)
  have HR9 := Lib.hid hr
  clear hb hr x0 x1 x2 y0 y1 y2
  go_wp2_with fail
  refine (value_any (twoT 3 t s) _ _ _ _ _ _ HR9.out (tab_two T9.out HT.out)).mono ?_
  rw [← HQ1.out]
  rintro e w10 ⟨rfl, hb⟩
  have T10 := Lib.hid (T9.out.next hb)
  clear hb
  obtain ⟨x0, x1, x2⟩ := three T10.out.box
  obtain ⟨y0, y1, y2⟩ := three T10.out.box'
  go_wp2_with fail
  refine (two_any 5 _ _ _ _ _ _ _ _ _ _ s t w10 (by unfold I64; omega) T10.out.rd T10.out.rd').mono ?_
  rintro e w11 ⟨o11, n11, A11, k11, c11, rfl, hr, hb⟩
  have T11 := Lib.hid (T10.out.next hb)
  have HR11 := Lib.hid hr
  clear hb hr x0 x1 x2 y0 y1 y2
  go_wp2_with fail
  refine (value_any (twoT 5 s t) _ _ _ _ _ _ HR11.out (tab_two T11.out HT.out)).mono ?_
  rw [← HQ2.out]
  rintro e w12 ⟨rfl, hb⟩
  have T12 := Lib.hid (T11.out.next hb)
  clear hb
  obtain ⟨x0, x1, x2⟩ := three T12.out.box
  obtain ⟨y0, y1, y2⟩ := three T12.out.box'
  go_wp2_with fail
  refine (two_any 5 _ _ _ _ _ _ _ _ _ _ t s w12 (by unfold I64; omega) T12.out.rd' T12.out.rd).mono ?_
  rintro e w13 ⟨o13, n13, A13, k13, c13, rfl, hr, hb⟩
  have T13 := Lib.hid (T12.out.next hb)
  have HR13 := Lib.hid hr
  clear hb hr x0 x1 x2 y0 y1 y2
  go_wp2_with fail
  refine (value_any (twoT 5 t s) _ _ _ _ _ _ HR13.out (tab_two T13.out HT.out)).mono ?_
  rw [← HQ3.out]
  rintro e w14 ⟨rfl, hb⟩
  have T14 := Lib.hid (T13.out.next hb)
  clear hb
  obtain ⟨x0, x1, x2⟩ := three T14.out.box
  obtain ⟨y0, y1, y2⟩ := three T14.out.box'
  go_wp2_with fail
  refine (two_any 4 _ _ _ _ _ _ _ _ _ _ s t w14 (by unfold I64; omega) T14.out.rd T14.out.rd').mono ?_
  rintro e w15 ⟨o15, n15, A15, k15, c15, rfl, hr, hb⟩
  have T15 := Lib.hid (T14.out.next hb)
  have HR15 := Lib.hid hr
  clear hb hr x0 x1 x2 y0 y1 y2
  go_wp2_with fail
  refine (value_any (twoT 4 s t) _ _ _ _ _ _ HR15.out (tab_two T15.out HT.out)).mono ?_
  rw [← HQ4.out]
  rintro e w16 ⟨rfl, hb⟩
  have T16 := Lib.hid (T15.out.next hb)
  clear hb
  obtain ⟨x0, x1, x2⟩ := three T16.out.box
  obtain ⟨y0, y1, y2⟩ := three T16.out.box'
  have hbn := below_box' (w := w16) (.cells #[.int .i64 o2, .int .i64 n2, .slice A2 k2 c2] 27) (Nat.le_refl _)
  have TN := Lib.hid (T16.out.next hbn)
  have HRN := Lib.hid (Rd.lay1 (op := 2) (c' := 1) (newq w16 (.cells #[.int .i64 o2, .int .i64 n2, .slice A2 k2 c2] 27)) (hltq (newq w16 _)) TN.out.rd' (by unfold I64; omega))
  clear hbn
  go_wp2_with fail
  refine (two_any 3 _ _ _ _ _ _ _ _ _ _ s (unT 2 t) _ (by unfold I64; omega) TN.out.rd HRN.out).mono ?_
  rintro e w17 ⟨o17, n17, A17, k17, c17, rfl, hr, hb⟩
  have T17 := Lib.hid (TN.out.next hb)
  have HR17 := Lib.hid hr
  clear hb hr x0 x1 x2 y0 y1 y2
  go_wp2_with fail
  refine (value_any (twoT 3 s (unT 2 t)) _ _ _ _ _ _ HR17.out (tab_two T17.out HT.out)).mono ?_
  rw [← HQ5.out]
  rintro e w18 ⟨rfl, hb⟩
  have T18 := Lib.hid (T17.out.next hb)
  clear hb
  obtain ⟨x0, x1, x2⟩ := three T18.out.box
  obtain ⟨y0, y1, y2⟩ := three T18.out.box'
  go_wp2_with fail
  refine (two_any 21 _ _ _ _ _ _ _ _ _ _ s t w18 (by unfold I64; omega) T18.out.rd T18.out.rd').mono ?_
  rintro e w19 ⟨o19, n19, A19, k19, c19, rfl, hr, hb⟩
  have T19 := Lib.hid (T18.out.next hb)
  have HR19 := Lib.hid hr
  clear hb hr x0 x1 x2 y0 y1 y2
  go_wp2_with fail
  refine (value_any (twoT 21 s t) _ _ _ _ _ _ HR19.out (tab_two T19.out HT.out)).mono ?_
  rw [← HQ6.out]
  rintro e w20 ⟨rfl, hb⟩
  have T20 := Lib.hid (T19.out.next hb)
  clear hb
  obtain ⟨x0, x1, x2⟩ := three T20.out.box
  obtain ⟨y0, y1, y2⟩ := three T20.out.box'
  go_wp2_with fail
  refine (two_any 19 _ _ _ _ _ _ _ _ _ _ s t w20 (by unfold I64; omega) T20.out.rd T20.out.rd').mono ?_
  rintro e w21 ⟨o21, n21, A21, k21, c21, rfl, hr, hb⟩
  have T21 := Lib.hid (T20.out.next hb)
  have HR21 := Lib.hid hr
  clear hb hr x0 x1 x2 y0 y1 y2
  go_wp2_with fail
  refine (value_any (twoT 19 s t) _ _ _ _ _ _ HR21.out (tab_two T21.out HT.out)).mono ?_
  rw [← HQ7.out]
  rintro e w22 ⟨rfl, hb⟩
  have T22 := Lib.hid (T21.out.next hb)
  clear hb
  obtain ⟨x0, x1, x2⟩ := three T22.out.box
  obtain ⟨y0, y1, y2⟩ := three T22.out.box'
  go_wp2_with fail
  refine (two_any 17 _ _ _ _ _ _ _ _ _ _ s t w22 (by unfold I64; omega) T22.out.rd T22.out.rd').mono ?_
  rintro e w23 ⟨o23, n23, A23, k23, c23, rfl, hr, hb⟩
  have T23 := Lib.hid (T22.out.next hb)
  have HR23 := Lib.hid hr
  clear hb hr x0 x1 x2 y0 y1 y2
  go_wp2_with fail
  refine (value_any (twoT 17 s t) _ _ _ _ _ _ HR23.out (tab_two T23.out HT.out)).mono ?_
  rw [← HQ8.out]
  rintro e w24 ⟨rfl, hb⟩
  have T24 := Lib.hid (T23.out.next hb)
  clear hb
  obtain ⟨x0, x1, x2⟩ := three T24.out.box
  obtain ⟨y0, y1, y2⟩ := three T24.out.box'
  go_wp2_with fail
  refine (two_any 20 _ _ _ _ _ _ _ _ _ _ s t w24 (by unfold I64; omega) T24.out.rd T24.out.rd').mono ?_
  rintro e w25 ⟨o25, n25, A25, k25, c25, rfl, hr, hb⟩
  have T25 := Lib.hid (T24.out.next hb)
  have HR25 := Lib.hid hr
  clear hb hr x0 x1 x2 y0 y1 y2
  go_wp2_with fail
  refine (value_any (twoT 20 s t) _ _ _ _ _ _ HR25.out (tab_two T25.out HT.out)).mono ?_
  rw [← HQ9.out]
  rintro e w26 ⟨rfl, hb⟩
  have T26 := Lib.hid (T25.out.next hb)
  clear hb
  obtain ⟨x0, x1, x2⟩ := three T26.out.box
  obtain ⟨y0, y1, y2⟩ := three T26.out.box'
  go_wp2_with fail
  refine (two_any 22 _ _ _ _ _ _ _ _ _ _ s t w26 (by unfold I64; omega) T26.out.rd T26.out.rd').mono ?_
  rintro e w27 ⟨o27, n27, A27, k27, c27, rfl, hr, hb⟩
  have T27 := Lib.hid (T26.out.next hb)
  have HR27 := Lib.hid hr
  clear hb hr x0 x1 x2 y0 y1 y2
  go_wp2_with fail
  refine (value_any (twoT 22 s t) _ _ _ _ _ _ HR27.out (tab_two T27.out HT.out)).mono ?_
  rw [← HQ10.out]
  rintro e w28 ⟨rfl, hb⟩
  have T28 := Lib.hid (T27.out.next hb)
  clear hb
  obtain ⟨x0, x1, x2⟩ := three T28.out.box
  obtain ⟨y0, y1, y2⟩ := three T28.out.box'
  go_wp2_with fail
  refine (two_any 18 _ _ _ _ _ _ _ _ _ _ s t w28 (by unfold I64; omega) T28.out.rd T28.out.rd').mono ?_
  rintro e w29 ⟨o29, n29, A29, k29, c29, rfl, hr, hb⟩
  have T29 := Lib.hid (T28.out.next hb)
  have HR29 := Lib.hid hr
  clear hb hr x0 x1 x2 y0 y1 y2
  go_wp2_with fail
  refine (value_any (twoT 18 s t) _ _ _ _ _ _ HR29.out (tab_two T29.out HT.out)).mono ?_
  rw [← HQ11.out]
  rintro e w30 ⟨rfl, hb⟩
  have T30 := Lib.hid (T29.out.next hb)
  clear hb
  have HAW := Lib.hid (awake_any w30 (tab_two T30.out HT.out))
  have b6 := val_sml (twoT 21 s t)
  have b7 := val_sml (twoT 19 s t)
  have b8 := val_sml (twoT 17 s t)
  rw [← HQ6.out] at b6
  rw [← HQ7.out] at b7
  rw [← HQ8.out] at b8
  unfold Sml at b6 b7 b8
  dsimp only at b6 b7 b8
  obtain ⟨⟨rfl, rfl⟩, ⟨rfl, rfl⟩, ⟨rfl, rfl⟩, hs, rfl, rfl, rfl⟩ := HLW.out
  have hs' : (q6 + q7 + q8 == 1000000) = true := by simpa using hs
  have HS := Lib.hid hs
  clear hs
  go_wp2_with (go_at_call 10; refine HAW.out.mono ?_; rintro e w99 ⟨rfl, hb⟩; have HB := Lib.hid hb; clear hb)
  go_ret
  exact ⟨by first | rfl | simp, T30.out.below.trans (HB.out.mono T30.out.below.size)⟩
end Go.Proofs.YtdipainocdgfgaaDoor
