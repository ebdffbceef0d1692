/- The walk of the law EvalErrors: it returns true. Conditions: the lists that came in read as integers; the integer is an int; the table of the arctangents lies in memory. -/
import Derived.Test.YtdipainocdgfgaaDoorTw
namespace Go.Proofs.YtdipainocdgfgaaDoor
set_option linter.unusedVariables false
set_option linter.unusedSimpArgs false
open Go.RowKit

set_option maxRecDepth 100000 in
set_option maxHeartbeats 4000000 in
theorem errorsLaw_any (A : Option Addr) (n c : Nat) (A' : Option Addr) (n' c' : Nat) (op : Int) (hp1 : -9223372036854775808 ≤ op) (hp2 : op ≤ 9223372036854775807) (w : World) (hl : LOK w w.heap.size A n) (hl' : LOK w w.heap.size A' n') (ht : Tab w) :
    Calls Tryd.prog 5 #[.slice A n c, .slice A' n' c', .int .i64 op] w fun e w' => e = .returned (.bool true) ∧ Below w.heap.size w w' := by
  have HL := Lib.hid hl
  have HL' := Lib.hid hl'
  have HT := Lib.hid ht
  clear hl hl' ht
  by_cases h1 : n ≤ 120
  case neg =>
    go_enter Tryd.func5, Tryd.ntmps5
    go_wp2_with (first | (go_at_call 9; refine (light_no _ _ _ h1 _).mono ?_; rintro e w' ⟨rfl, rfl⟩) | (go_at_call 10; refine (awake_any _ HT.out).mono ?_; rintro e w1 ⟨rfl, hb⟩; have HB := Lib.hid hb; clear hb))
    go_ret
    exact ⟨rfl, HB.out⟩
  by_cases h2 : n' ≤ 120
  case neg =>
    go_enter Tryd.func5, Tryd.ntmps5
    go_wp2_with (first | (go_at_call 9; with_reducible refine (light_yes A n c h1 _).mono ?_; rintro e w' ⟨rfl, rfl⟩) | (go_at_call 9; refine (light_no A' n' c' h2 _).mono ?_; rintro e w' ⟨rfl, rfl⟩) | (go_at_call 10; refine (awake_any _ HT.out).mono ?_; rintro e w1 ⟨rfl, hb⟩; have HB := Lib.hid hb; clear hb))
    go_ret
    exact ⟨rfl, HB.out⟩
  go_enter Tryd.func5, Tryd.ntmps5
  go_wp2_with (go_at_call 9; (first | with_reducible refine (light_yes A n c h1 _).mono ?_ | with_reducible refine (light_yes A' n' c' h2 _).mono ?_); rintro e w' ⟨rfl, rfl⟩)
  refine (new_any w w.heap.size (Nat.le_refl _) A n c).mono ?_
  rintro e w1 ⟨rfl, rfl⟩
  have hbx := below_box' (w := w) (.cells #[.slice A n c, .int .i64 0] 54) (Nat.le_refl _)
  go_wp2_with fail
  refine (expr_any w.heap.size w.heap.size A n c 4 _ (by omega) (by omega) (HL.out.below hbx) (TapeOK.new w _ (Nat.le_refl _) A n c) hbx.size).mono ?_
  rintro e w2 ⟨s, o1, n1, A1, k1, c1, rfl, hrb, hrt, htp, ho⟩
  have HB2 := Lib.hid (hbx.trans (ho.below (Nat.le_refl _) hbx.size))
  have HR1 := Lib.hid hrb.rd
  have HT1 := Lib.hid hrt
  clear hrb hrt htp ho hbx
  go_wp2_with fail
  refine (new_any w2 w.heap.size HB2.out.size A' n' c').mono ?_
  rintro e w3 ⟨rfl, rfl⟩
  have hbx := below_box' (w := w2) (.cells #[.slice A' n' c', .int .i64 0] 54) (Nat.le_refl _)
  go_wp2_with fail
  refine (expr_any w.heap.size w2.heap.size A' n' c' 4 _ (by omega) (by omega) (HL'.out.below (HB2.out.trans (hbx.mono HB2.out.size))) (TapeOK.new w2 _ HB2.out.size A' n' c') (Nat.le_trans HB2.out.size hbx.size)).mono ?_
  rintro e w4 ⟨t, o2, n2, A2, k2, c2, rfl, hrb, hrt, htp, ho⟩
  have hb24 := hbx.trans (ho.below (Nat.le_refl _) hbx.size)
  have T4 := Lib.hid (Two.make (w0 := w) (HR1.out.below hb24 hb24.size) hrb.rd (HB2.out.trans (hb24.mono HB2.out.size)))
  have HT2 := Lib.hid hrt
  clear hrb hrt htp ho hbx hb24
  obtain ⟨⟨u1, e1⟩, hv1⟩ : ∃ p, p = valS s := ⟨_, rfl⟩
  obtain ⟨⟨u2, e2⟩, hv2⟩ : ∃ p, p = valS t := ⟨_, rfl⟩
  have HV1 := Lib.hid hv1
  have HV2 := Lib.hid hv2
  clear hv1 hv2
  go_wp2_with fail
  refine (value_any s _ _ _ _ _ _ T4.out.rd (tab_two T4.out HT.out)).mono ?_
  rw [← HV1.out]
  rintro e w5 ⟨rfl, hb⟩
  have T5 := Lib.hid (T4.out.next hb)
  clear hb
  obtain ⟨y0, y1, y2⟩ := three T5.out.box'
  go_wp2_with fail
  refine (value_any t _ _ _ _ _ _ T5.out.rd' (tab_two T5.out HT.out)).mono ?_
  rw [← HV2.out]
  rintro e w6 ⟨rfl, hb⟩
  have T6 := Lib.hid (T5.out.next hb)
  clear hb y0 y1 y2
  obtain ⟨x0, x1, x2⟩ := three T6.out.box
  obtain ⟨y0, y1, y2⟩ := three T6.out.box'
  go_wp2_with fail
  refine (btw_any op 3 7 (by omega) (by omega) (by omega) (by omega) (by omega) _).mono ?_
  rintro e w' ⟨rfl, rfl⟩
  have hp := btw_bd op 3 7 (by omega)
  generalize btw op 3 7 = p at hp
  have HLaw := Lib.hid (errors_law p hp s t HT1.out HT2.out)
  rw [← HV1.out, ← HV2.out] at HLaw
  obtain ⟨hp3, hp7⟩ := hp
  go_wp2_with fail
  refine (two_any p _ _ _ _ _ _ _ _ _ _ s t w6 (by unfold I64; omega) T6.out.rd T6.out.rd').mono ?_
  rintro e w7 ⟨o3, n3, A3, k3, c3, rfl, hr, hb⟩
  have T7 := Lib.hid (T6.out.next hb)
  have HR7 := Lib.hid hr
  clear hb hr x0 x1 x2 y0 y1 y2
  obtain ⟨⟨u3, e3⟩, hv3⟩ : ∃ q, q = valS (twoT p s t) := ⟨_, rfl⟩
  obtain ⟨⟨u4, e4⟩, hv4⟩ : ∃ q, q = valS (unT 13 s) := ⟨_, rfl⟩
  have HV3 := Lib.hid hv3
  have HV4 := Lib.hid hv4
  rw [← hv3, ← hv4] at HLaw
  clear hv3 hv4
  go_wp2_with fail
  refine (value_any (twoT p s t) _ _ _ _ _ _ HR7.out (tab_two T7.out HT.out)).mono ?_
  rw [← HV3.out]
  rintro e w8 ⟨rfl, hb⟩
  have T8 := Lib.hid (T7.out.next hb)
  clear hb
  obtain ⟨x0, x1, x2⟩ := three T8.out.box
  have hb9 := below_box' (w := w8) (.cells #[.int .i64 o1, .int .i64 n1, .slice A1 k1 c1] 27) (Nat.le_refl _)
  have T8a := Lib.hid (T8.out.next hb9)
  have HR8 := Lib.hid (Rd.lay1 (op := 13) (c' := 1) (newq w8 (.cells #[.int .i64 o1, .int .i64 n1, .slice A1 k1 c1] 27)) (hltq (newq w8 _)) T8a.out.rd (by unfold I64; omega))
  clear hb9
  go_wp2_with fail
  refine (value_any (unT 13 s) _ _ _ _ _ _ HR8.out (tab_two T8a.out HT.out)).mono ?_
  rw [← HV4.out]
  rintro e w9 ⟨rfl, hb⟩
  have T9 := Lib.hid (T8a.out.next hb)
  clear hb x0 x1 x2
  have HAW := Lib.hid (awake_any w9 (tab_two T9.out HT.out))
  by_cases he : e1 = 0
  · have he' : (e1 == 0) = true := by simpa using he
    have he'' : (e1 != 0) = false := by simpa using he
    by_cases hf : e2 = 0
    · have hf' : (e2 == 0) = true := by simpa using hf
      have hf'' : (e2 != 0) = false := by simpa using hf
      obtain ⟨l1, l2⟩ := HLaw.out.2.2 he
      (try dsimp only at l1)
      (try dsimp only at l2)
      subst l1
      clear he hf
      go_wp2_with (go_at_call 10; refine HAW.out.mono ?_; rintro e w10 ⟨rfl, hb⟩; have HB := Lib.hid hb; clear hb)
      go_ret
      exact ⟨by first | rfl | simp, T9.out.below.trans (HB.out.mono T9.out.below.size)⟩
    · have hf' : (e2 == 0) = false := by simpa using hf
      have hf'' : (e2 != 0) = true := by simpa using hf
      have l1 := HLaw.out.2.1 he hf
      simp only [Prod.mk.injEq] at l1
      obtain ⟨rfl, rfl⟩ := l1
      clear he hf
      go_wp2_with (go_at_call 10; refine HAW.out.mono ?_; rintro e w10 ⟨rfl, hb⟩; have HB := Lib.hid hb; clear hb)
      go_ret
      exact ⟨by first | rfl | simp, T9.out.below.trans (HB.out.mono T9.out.below.size)⟩
  · have he' : (e1 == 0) = false := by simpa using he
    have he'' : (e1 != 0) = true := by simpa using he
    obtain ⟨l1, l2⟩ := HLaw.out.1 he
    simp only [Prod.mk.injEq] at l1 l2
    obtain ⟨rfl, rfl⟩ := l1
    obtain ⟨rfl, rfl⟩ := l2
    clear he
    go_wp2_with (go_at_call 10; refine HAW.out.mono ?_; rintro e w10 ⟨rfl, hb⟩; have HB := Lib.hid hb; clear hb)
    go_ret
    exact ⟨by first | rfl | simp, T9.out.below.trans (HB.out.mono T9.out.below.size)⟩
end Go.Proofs.YtdipainocdgfgaaDoor
