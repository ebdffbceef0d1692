/- The walk of the law EvalTells: it returns true. Conditions: the expression that came in reads as a tree, the lists as integers; the table of the arctangents lies in memory. -/
import Derived.Test.YtdipainocdgfgaaGreatDoorEwr
import Derived.Test.YtdipainocdgfgaaGreatDoorAw
import Derived.Test.YtdipainocdgfgaaGreatDoorEp
import Derived.Test.YtdipainocdgfgaaGreatDoorSs
import Derived.Test.YtdipainocdgfgaaGreatDoorLi
namespace Go.Proofs.YtdipainocdgfgaaGreatDoor
set_option linter.unusedVariables false
set_option linter.unusedSimpArgs false
open Go.RowKit

theorem LOK.up {w : World} {B B' : Nat} {A : Option Addr} {n : Nat} (h : LOK w B A n) (hB : B ≤ B') : LOK w B' A n :=
  ⟨h.1, fun hp => by
    obtain ⟨ab, off, e, hl, hc⟩ := h.2 hp
    exact ⟨ab, off, e, by omega, hc⟩⟩
set_option maxRecDepth 100000 in
set_option maxHeartbeats 4000000 in
theorem tellsLaw_any (t : Tr) (xo xn : Int) (xA : Option Addr) (xk xc : Nat) (A : Option Addr) (n c : Nat) (A' : Option Addr) (n' c' : Nat) (w : World) (hx : Rd w w.heap.size t (.agg #[.int .i64 xo, .int .i64 xn, .slice xA xk xc])) (hl : LOK w w.heap.size A n) (hl' : LOK w w.heap.size A' n') (ht : Tab w) :
    Calls Tryz.prog 4 #[.agg #[.int .i64 xo, .int .i64 xn, .slice xA xk xc], .slice A n c, .slice A' n' c'] w fun e w' => e = .returned (.bool true) ∧ Below w.heap.size w w' := by
  have HL := Lib.hid hl
  have HL' := Lib.hid hl'
  have HT := Lib.hid ht
  have hts := ht.lt
  have hb0 := below_box' (w := w) (.cells #[.int .i64 xo, .int .i64 xn, .slice xA xk xc] 25) (Nat.le_refl _)
  have HX0 := Lib.hid (newq w (.cells #[.int .i64 xo, .int .i64 xn, .slice xA xk xc] 25))
  have HD0 := Lib.hid (hx.below hb0 hb0.size)
  have HB0 := Lib.hid hb0
  have HLI := Lib.hid (light_x 6 t _ _ (by omega) HD0.out)
  clear hl hl' ht hx hb0
  rcases hli : lightS 6 t with _ | _
  · rw [hli] at HLI
    clear hli
    go_enter Tryz.func4, Tryz.ntmps4
    go_wp2_with (first | (go_at_call 12; refine HLI.out.mono ?_; rintro e w1 ⟨rfl, hb⟩; have HB1 := Lib.hid (HB0.out.trans (hb.mono HB0.out.size)); clear hb) | (go_at_call 11; refine (awake_any _ (HT.out.below HB1.out hts)).mono ?_; rintro e w2 ⟨rfl, hb⟩; have HB := Lib.hid (HB1.out.trans (hb.mono HB1.out.size)); clear hb))
    go_ret
    exact ⟨rfl, HB.out⟩
  rw [hli] at HLI
  clear hli
  by_cases h1 : n ≤ 120
  case neg =>
    go_enter Tryz.func4, Tryz.ntmps4
    go_wp2_with (first | (go_at_call 12; refine HLI.out.mono ?_; rintro e w1 ⟨rfl, hb⟩; have HB1 := Lib.hid (HB0.out.trans (hb.mono HB0.out.size)); clear hb) | (go_at_call 13; refine (light_no _ _ _ h1 _).mono ?_; rintro e w' ⟨rfl, rfl⟩) | (go_at_call 11; refine (awake_any _ (HT.out.below HB1.out hts)).mono ?_; rintro e w2 ⟨rfl, hb⟩; have HB := Lib.hid (HB1.out.trans (hb.mono HB1.out.size)); clear hb))
    go_ret
    exact ⟨rfl, HB.out⟩
  by_cases h2 : n' ≤ 120
  case neg =>
    go_enter Tryz.func4, Tryz.ntmps4
    go_wp2_with (first | (go_at_call 12; refine HLI.out.mono ?_; rintro e w1 ⟨rfl, hb⟩; have HB1 := Lib.hid (HB0.out.trans (hb.mono HB0.out.size)); clear hb) | (go_at_call 13; with_reducible refine (light_yes A n c h1 _).mono ?_; rintro e w' ⟨rfl, rfl⟩) | (go_at_call 13; refine (light_no A' n' c' h2 _).mono ?_; rintro e w' ⟨rfl, rfl⟩) | (go_at_call 11; refine (awake_any _ (HT.out.below HB1.out hts)).mono ?_; rintro e w2 ⟨rfl, hb⟩; have HB := Lib.hid (HB1.out.trans (hb.mono HB1.out.size)); clear hb))
    go_ret
    exact ⟨rfl, HB.out⟩
  go_enter Tryz.func4, Tryz.ntmps4
  go_wp2_with fail
  refine HLI.out.mono ?_
  rintro e w1 ⟨rfl, hb⟩
  have HX1 := Lib.hid ((hb.block _ (hltq HX0.out)).trans HX0.out)
  have HD1 := Lib.hid (HD0.out.below hb hb.size)
  have HB1 := Lib.hid (HB0.out.trans (hb.mono HB0.out.size))
  clear hb
  go_wp2_with (go_at_call 13; (first | with_reducible refine (light_yes A n c h1 _).mono ?_ | with_reducible refine (light_yes A' n' c' h2 _).mono ?_); rintro e w' ⟨rfl, rfl⟩)
  refine (stores_any A' n' c' w1 (LOK.up (LOK.below HL'.out HB1.out) HB1.out.size)).mono ?_
  rintro e w2 ⟨f, B2, rfl, hB2, hvf, hs, hr, hb⟩
  have HV := Lib.hid hvf
  have HS2 := Lib.hid hs
  have HR2 := Lib.hid hr
  have HX2 := Lib.hid ((hb.block _ (hltq HX1.out)).trans HX1.out)
  have HD2 := Lib.hid (HD1.out.below hb hb.size)
  have HB2 := Lib.hid (HB1.out.trans (hb.mono HB1.out.size))
  clear hvf hs hr hb
  go_wp2_with fail
  refine (awake_any w2 (HT.out.below HB2.out hts)).mono ?_
  rintro e w3 ⟨rfl, hb⟩
  have HS3 := Lib.hid (HS2.out.below hb HS2.out.lt)
  have HR3 := Lib.hid (HR2.out.below hb HR2.out.lt)
  have HX3 := Lib.hid ((hb.block _ (hltq HX2.out)).trans HX2.out)
  have HD3 := Lib.hid (HD2.out.below hb hb.size)
  have HB3 := Lib.hid (HB2.out.trans (hb.mono HB2.out.size))
  clear hb
  go_wp2_with fail
  refine (new_any w3 w.heap.size HB3.out.size A n c).mono ?_
  rintro e w4 ⟨rfl, rfl⟩
  have hbx := below_box' (w := w3) (.cells #[.slice A n c, .int .i64 0] 60) (Nat.le_refl _)
  go_wp2_with fail
  refine (expr_any w.heap.size w3.heap.size A n c 6 _ (by omega) (by omega) (HL.out.below (HB3.out.trans (hbx.mono HB3.out.size))) (TapeOK.new w3 _ HB3.out.size A n c) (Nat.le_trans HB3.out.size hbx.size)).mono ?_
  rintro e w5 ⟨t2, o, m, A2, k2, c2, rfl, hrb, hrt, htp, ho⟩
  have hb5 := below_box' (w := w5) (.cells #[.int .i64 o, .int .i64 m, .slice A2 k2 c2] 25) (Nat.le_refl _)
  have hb35 := hbx.trans (ho.below (Nat.le_refl _) hbx.size)
  have hb36 := hb35.trans (hb5.mono hb35.size)
  have HY6 := Lib.hid (newq w5 (.cells #[.int .i64 o, .int .i64 m, .slice A2 k2 c2] 25))
  have HE6 := Lib.hid (hrb.rd.below hb5 hb5.size)
  have HS6 := Lib.hid (HS3.out.below hb36 HS3.out.lt)
  have HR6 := Lib.hid (HR3.out.below hb36 HR3.out.lt)
  have HX6 := Lib.hid ((hb36.block _ (hltq HX3.out)).trans HX3.out)
  have HD6 := Lib.hid (HD3.out.below hb36 hb36.size)
  have HB6 := Lib.hid (HB3.out.trans (hb36.mono HB3.out.size))
  clear hrb hrt htp ho hbx hb35 hb36 hb5
  obtain ⟨x0, x1, x2⟩ := three HX6.out
  obtain ⟨⟨u1, e1⟩, hv1⟩ : ∃ p, p = EvalS (getS f) t := ⟨_, rfl⟩
  obtain ⟨⟨u2, e2⟩, hv2⟩ : ∃ p, p = EvalS (getS f) t2 := ⟨_, rfl⟩
  have HV1 := Lib.hid hv1
  have HV2 := Lib.hid hv2
  clear hv1 hv2
  go_wp2_with fail
  refine (Eval_any _ _ f HV.out t _ _ HD6.out (HT.out.below HB6.out hts) HS6.out).mono ?_
  rw [← HV1.out]
  rintro e w7 ⟨rfl, hb⟩
  have HY7 := Lib.hid ((hb.block _ (hltq HY6.out)).trans HY6.out)
  have HE7 := Lib.hid (HE6.out.below hb hb.size)
  have HS7 := Lib.hid (HS6.out.below hb HS6.out.lt)
  have HR7 := Lib.hid (HR6.out.below hb HR6.out.lt)
  have HX7 := Lib.hid ((hb.block _ (hltq HX6.out)).trans HX6.out)
  have HD7 := Lib.hid (HD6.out.below hb hb.size)
  have HB7 := Lib.hid (HB6.out.trans (hb.mono HB6.out.size))
  clear hb x0 x1 x2
  obtain ⟨x0, x1, x2⟩ := three HX7.out
  go_wp2_with fail
  refine (Eval_ref _ _ f HV.out t _ _ HD7.out HR7.out).mono ?_
  rw [← HV1.out]
  rintro e w8 ⟨rfl, hb⟩
  have HY8 := Lib.hid ((hb.block _ (hltq HY7.out)).trans HY7.out)
  have HE8 := Lib.hid (HE7.out.below hb hb.size)
  have HS8 := Lib.hid (HS7.out.below hb HS7.out.lt)
  have HR8 := Lib.hid (HR7.out.below hb HR7.out.lt)
  have HB8 := Lib.hid (HB7.out.trans (hb.mono HB7.out.size))
  clear hb x0 x1 x2
  obtain ⟨y0, y1, y2⟩ := three HY8.out
  go_wp2_with fail
  refine (Eval_any _ _ f HV.out t2 _ _ HE8.out (HT.out.below HB8.out hts) HS8.out).mono ?_
  rw [← HV2.out]
  rintro e w9 ⟨rfl, hb⟩
  have HY9 := Lib.hid ((hb.block _ (hltq HY8.out)).trans HY8.out)
  have HE9 := Lib.hid (HE8.out.below hb hb.size)
  have HR9 := Lib.hid (HR8.out.below hb HR8.out.lt)
  have HB9 := Lib.hid (HB8.out.trans (hb.mono HB8.out.size))
  clear hb y0 y1 y2
  obtain ⟨y0, y1, y2⟩ := three HY9.out
  go_wp2_with fail
  refine (Eval_ref _ _ f HV.out t2 _ _ HE9.out HR9.out).mono ?_
  rw [← HV2.out]
  rintro e w10 ⟨rfl, hb⟩
  have HB10 := Lib.hid (HB9.out.trans (hb.mono HB9.out.size))
  clear hb y0 y1 y2
  go_wp2_with fail
  go_ret
  exact ⟨by first | rfl | simp, HB10.out⟩
end Go.Proofs.YtdipainocdgfgaaGreatDoor
