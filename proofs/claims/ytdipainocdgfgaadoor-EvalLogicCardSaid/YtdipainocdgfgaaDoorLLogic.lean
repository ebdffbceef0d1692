/- The walk of the law EvalLogic: it returns true. Conditions: the lists that came in read as integers; the table of the arctangents lies in memory. -/
import Derived.Test.YtdipainocdgfgaaDoorTw
namespace Go.Proofs.YtdipainocdgfgaaDoor
set_option linter.unusedVariables false
set_option linter.unusedSimpArgs false
open Go.RowKit

set_option maxRecDepth 100000 in
set_option maxHeartbeats 4000000 in
theorem logicLaw_any (A : Option Addr) (n c : Nat) (A' : Option Addr) (n' c' : Nat) (w : World) (hl : LOK w w.heap.size A n) (hl' : LOK w w.heap.size A' n') (ht : Tab w) :
    Calls Tryd.prog 4 #[.slice A n c, .slice A' n' c'] w fun e w' => e = .returned (.bool true) ∧ Below w.heap.size w w' := by
  have HL := Lib.hid hl
  have HL' := Lib.hid hl'
  have HT := Lib.hid ht
  clear hl hl' ht
  by_cases h1 : n ≤ 120
  case neg =>
    go_enter Tryd.func4, Tryd.ntmps4
    go_wp2_with (first | (go_at_call 9; refine (light_no _ _ _ h1 _).mono ?_; rintro e w' ⟨rfl, rfl⟩) | (go_at_call 10; refine (awake_any _ HT.out).mono ?_; rintro e w1 ⟨rfl, hb⟩; have HB := Lib.hid hb; clear hb))
    go_ret
    exact ⟨rfl, HB.out⟩
  by_cases h2 : n' ≤ 120
  case neg =>
    go_enter Tryd.func4, Tryd.ntmps4
    go_wp2_with (first | (go_at_call 9; with_reducible refine (light_yes A n c h1 _).mono ?_; rintro e w' ⟨rfl, rfl⟩) | (go_at_call 9; refine (light_no A' n' c' h2 _).mono ?_; rintro e w' ⟨rfl, rfl⟩) | (go_at_call 10; refine (awake_any _ HT.out).mono ?_; rintro e w1 ⟨rfl, hb⟩; have HB := Lib.hid hb; clear hb))
    go_ret
    exact ⟨rfl, HB.out⟩
  go_enter Tryd.func4, Tryd.ntmps4
  go_wp2_with (go_at_call 9; (first | with_reducible refine (light_yes A n c h1 _).mono ?_ | with_reducible refine (light_yes A' n' c' h2 _).mono ?_); rintro e w' ⟨rfl, rfl⟩)
  refine (new_any w w.heap.size (Nat.le_refl _) A n c).mono ?_
  rintro e w1 ⟨rfl, rfl⟩
  have hbx := below_box' (w := w) (.cells #[.slice A n c, .int .i64 0] 54) (Nat.le_refl _)
  go_wp2_with fail
  refine (expr_any w.heap.size w.heap.size A n c 4 _ (by omega) (by omega) (HL.out.below hbx) (TapeOK.new w _ (Nat.le_refl _) A n c) hbx.size).mono ?_
  rintro e w2 ⟨s, o1, n1, A1, k1, c1, rfl, hrb, hrt, htp, ho⟩
  have HB2 := Lib.hid (hbx.trans (ho.below (Nat.le_refl _) hbx.size))
  have HR1 := Lib.hid hrb.rd
  have HT1 := Lib.hid hrt
  clear hrb hrt htp ho hbx
  go_wp2_with fail
  refine (new_any w2 w.heap.size HB2.out.size A' n' c').mono ?_
  rintro e w3 ⟨rfl, rfl⟩
  have hbx := below_box' (w := w2) (.cells #[.slice A' n' c', .int .i64 0] 54) (Nat.le_refl _)
  go_wp2_with fail
  refine (expr_any w.heap.size w2.heap.size A' n' c' 4 _ (by omega) (by omega) (HL'.out.below (HB2.out.trans (hbx.mono HB2.out.size))) (TapeOK.new w2 _ HB2.out.size A' n' c') (Nat.le_trans HB2.out.size hbx.size)).mono ?_
  rintro e w4 ⟨t, o2, n2, A2, k2, c2, rfl, hrb, hrt, htp, ho⟩
  have hb24 := hbx.trans (ho.below (Nat.le_refl _) hbx.size)
  have T4 := Lib.hid (Two.make (w0 := w) (HR1.out.below hb24 hb24.size) hrb.rd (HB2.out.trans (hb24.mono HB2.out.size)))
  have HT2 := Lib.hid hrt
  clear hrb hrt htp ho hbx hb24
  obtain ⟨⟨u1, e1⟩, hv1⟩ : ∃ p, p = valS s := ⟨_, rfl⟩
  obtain ⟨⟨u2, e2⟩, hv2⟩ : ∃ p, p = valS t := ⟨_, rfl⟩
  have HV1 := Lib.hid hv1
  have HV2 := Lib.hid hv2
  clear hv1 hv2
  go_wp2_with fail
  refine (value_any s _ _ _ _ _ _ T4.out.rd (tab_two T4.out HT.out)).mono ?_
  rw [← HV1.out]
  rintro e w5 ⟨rfl, hb⟩
  have T5 := Lib.hid (T4.out.next hb)
  clear hb
  obtain ⟨y0, y1, y2⟩ := three T5.out.box'
  go_wp2_with fail
  refine (value_any t _ _ _ _ _ _ T5.out.rd' (tab_two T5.out HT.out)).mono ?_
  rw [← HV2.out]
  rintro e w6 ⟨rfl, hb⟩
  have T6 := Lib.hid (T5.out.next hb)
  clear hb y0 y1 y2
  by_cases he : e1 = 0
  case neg =>
    have he' : (e1 == 0) = false := by simpa using he
    have he'' : (e1 != 0) = true := by simpa using he
    clear he
    have HAW := Lib.hid (awake_any w6 (tab_two T6.out HT.out))
    go_wp2_with (go_at_call 10; refine HAW.out.mono ?_; rintro e w99 ⟨rfl, hb⟩; have HB := Lib.hid hb; clear hb)
    go_ret
    exact ⟨rfl, T6.out.below.trans (HB.out.mono T6.out.below.size)⟩
  by_cases hf : e2 = 0
  case neg =>
    have he' : (e1 == 0) = true := by simpa using he
    have he'' : (e1 != 0) = false := by simpa using he
    have hf' : (e2 == 0) = false := by simpa using hf
    have hf'' : (e2 != 0) = true := by simpa using hf
    clear he hf
    have HAW := Lib.hid (awake_any w6 (tab_two T6.out HT.out))
    go_wp2_with (go_at_call 10; refine HAW.out.mono ?_; rintro e w99 ⟨rfl, hb⟩; have HB := Lib.hid hb; clear hb)
    go_ret
    exact ⟨rfl, T6.out.below.trans (HB.out.mono T6.out.below.size)⟩
  subst he hf
  obtain ⟨⟨q0, r0⟩, hq0⟩ : ∃ p, p = valS (twoT 23 s t) := ⟨_, rfl⟩
  have HQ0 := Lib.hid hq0
  obtain ⟨⟨q1, r1⟩, hq1⟩ : ∃ p, p = valS (twoT 24 s t) := ⟨_, rfl⟩
  have HQ1 := Lib.hid hq1
  obtain ⟨⟨q2, r2⟩, hq2⟩ : ∃ p, p = valS (twoT 25 s t) := ⟨_, rfl⟩
  have HQ2 := Lib.hid hq2
  have hlw := logic_law s t HT1.out HT2.out (by rw [← HV1.out]) (by rw [← HV2.out])
  rw [← HV1.out, ← HV2.out, ← hq0, ← hq1, ← hq2] at hlw
  dsimp only at hlw
  have HLW := Lib.hid hlw
  clear hlw hq0 hq1 hq2
  obtain ⟨x0, x1, x2⟩ := three T6.out.box
  obtain ⟨y0, y1, y2⟩ := three T6.out.box'
  go_wp2_with fail
  refine (two_any 23 _ _ _ _ _ _ _ _ _ _ s t w6 (by unfold I64; omega) T6.out.rd T6.out.rd').mono ?_
  rintro e w7 ⟨o7, n7, A7, k7, c7, rfl, hr, hb⟩
  have T7 := Lib.hid (T6.out.next hb)
  have HR7 := Lib.hid hr
  clear hb hr x0 x1 x2 y0 y1 y2
  go_wp2_with fail
  refine (value_any (twoT 23 s t) _ _ _ _ _ _ HR7.out (tab_two T7.out HT.out)).mono ?_
  rw [← HQ0.out]
  rintro e w8 ⟨rfl, hb⟩
  have T8 := Lib.hid (T7.out.next hb)
  clear hb
  obtain ⟨x0, x1, x2⟩ := three T8.out.box
  obtain ⟨y0, y1, y2⟩ := three T8.out.box'
  go_wp2_with fail
  refine (two_any 24 _ _ _ _ _ _ _ _ _ _ s t w8 (by unfold I64; omega) T8.out.rd T8.out.rd').mono ?_
  rintro e w9 ⟨o9, n9, A9, k9, c9, rfl, hr, hb⟩
  have T9 := Lib.hid (T8.out.next hb)
  have HR9 := Lib.hid hr
  clear hb hr x0 x1 x2 y0 y1 y2
  go_wp2_with fail
  refine (value_any (twoT 24 s t) _ _ _ _ _ _ HR9.out (tab_two T9.out HT.out)).mono ?_
  rw [← HQ1.out]
  rintro e w10 ⟨rfl, hb⟩
  have T10 := Lib.hid (T9.out.next hb)
  clear hb
  obtain ⟨x0, x1, x2⟩ := three T10.out.box
  obtain ⟨y0, y1, y2⟩ := three T10.out.box'
  go_wp2_with fail
  refine (two_any 25 _ _ _ _ _ _ _ _ _ _ s t w10 (by unfold I64; omega) T10.out.rd T10.out.rd').mono ?_
  rintro e w11 ⟨o11, n11, A11, k11, c11, rfl, hr, hb⟩
  have T11 := Lib.hid (T10.out.next hb)
  have HR11 := Lib.hid hr
  clear hb hr x0 x1 x2 y0 y1 y2
  go_wp2_with fail
  refine (value_any (twoT 25 s t) _ _ _ _ _ _ HR11.out (tab_two T11.out HT.out)).mono ?_
  rw [← HQ2.out]
  rintro e w12 ⟨rfl, hb⟩
  have T12 := Lib.hid (T11.out.next hb)
  clear hb
  have HAW := Lib.hid (awake_any w12 (tab_two T12.out HT.out))
  obtain ⟨l0, l1, l2⟩ := HLW.out
  by_cases hu : u1 = 0 <;> by_cases hv : u2 = 0
  · have hu2 : (u1 != 0) = false := by simp [hu]
    have hv2 : (u2 != 0) = false := by simp [hv]
    have hu1 : (u1 == 0) = true := by simp [hu]
    have hv1 : (u2 == 0) = true := by simp [hv]
    rw [hu2, hv2] at l0 l1 l2
    have m0 : q0 = 0 := l0
    have m1 : q1 = 0 := l1
    have m2 : q2 = 0 := l2
    subst m0
    subst m1
    subst m2
    have HU := Lib.hid hu2
    have HV := Lib.hid hv2
    clear hu hv l0 l1 l2
    go_wp2_with (first | (go_at_call 15; refine (truth_any _ _).mono ?_; (try rw [HU.out]); (try rw [HV.out]); rintro e w' ⟨rfl, rfl⟩) | (go_at_call 10; refine HAW.out.mono ?_; rintro e w99 ⟨rfl, hb⟩; have HB := Lib.hid hb; clear hb))
    go_ret
    exact ⟨by first | rfl | simp, T12.out.below.trans (HB.out.mono T12.out.below.size)⟩
  · have hu2 : (u1 != 0) = false := by simp [hu]
    have hv2 : (u2 != 0) = true := by simp [hv]
    have hu1 : (u1 == 0) = true := by simp [hu]
    have hv1 : (u2 == 0) = false := by simp [hv]
    rw [hu2, hv2] at l0 l1 l2
    have m0 : q0 = 0 := l0
    have m1 : q1 = 1000000 := l1
    have m2 : q2 = 1000000 := l2
    subst m0
    subst m1
    subst m2
    have HU := Lib.hid hu2
    have HV := Lib.hid hv2
    clear hu hv l0 l1 l2
    go_wp2_with (first | (go_at_call 15; refine (truth_any _ _).mono ?_; (try rw [HU.out]); (try rw [HV.out]); rintro e w' ⟨rfl, rfl⟩) | (go_at_call 10; refine HAW.out.mono ?_; rintro e w99 ⟨rfl, hb⟩; have HB := Lib.hid hb; clear hb))
    go_ret
    exact ⟨by first | rfl | simp, T12.out.below.trans (HB.out.mono T12.out.below.size)⟩
  · have hu2 : (u1 != 0) = true := by simp [hu]
    have hv2 : (u2 != 0) = false := by simp [hv]
    have hu1 : (u1 == 0) = false := by simp [hu]
    have hv1 : (u2 == 0) = true := by simp [hv]
    rw [hu2, hv2] at l0 l1 l2
    have m0 : q0 = 0 := l0
    have m1 : q1 = 1000000 := l1
    have m2 : q2 = 1000000 := l2
    subst m0
    subst m1
    subst m2
    have HU := Lib.hid hu2
    have HV := Lib.hid hv2
    clear hu hv l0 l1 l2
    go_wp2_with (first | (go_at_call 15; refine (truth_any _ _).mono ?_; (try rw [HU.out]); (try rw [HV.out]); rintro e w' ⟨rfl, rfl⟩) | (go_at_call 10; refine HAW.out.mono ?_; rintro e w99 ⟨rfl, hb⟩; have HB := Lib.hid hb; clear hb))
    go_ret
    exact ⟨by first | rfl | simp, T12.out.below.trans (HB.out.mono T12.out.below.size)⟩
  · have hu2 : (u1 != 0) = true := by simp [hu]
    have hv2 : (u2 != 0) = true := by simp [hv]
    have hu1 : (u1 == 0) = false := by simp [hu]
    have hv1 : (u2 == 0) = false := by simp [hv]
    rw [hu2, hv2] at l0 l1 l2
    have m0 : q0 = 1000000 := l0
    have m1 : q1 = 1000000 := l1
    have m2 : q2 = 0 := l2
    subst m0
    subst m1
    subst m2
    have HU := Lib.hid hu2
    have HV := Lib.hid hv2
    clear hu hv l0 l1 l2
    go_wp2_with (first | (go_at_call 15; refine (truth_any _ _).mono ?_; (try rw [HU.out]); (try rw [HV.out]); rintro e w' ⟨rfl, rfl⟩) | (go_at_call 10; refine HAW.out.mono ?_; rintro e w99 ⟨rfl, hb⟩; have HB := Lib.hid hb; clear hb))
    go_ret
    exact ⟨by first | rfl | simp, T12.out.below.trans (HB.out.mono T12.out.below.size)⟩
end Go.Proofs.YtdipainocdgfgaaDoor
