/- The walk of the law EvalKeeps: it returns true. Conditions: the lists that came in read as integers; the table of the arctangents lies in memory. -/
import Derived.Test.YtdipainocdgfgaaDoorTw
import Derived.Test.YtdipainocdgfgaaDoorSs
import Derived.Test.YtdipainocdgfgaaDoorAw
namespace Go.Proofs.YtdipainocdgfgaaDoor
set_option linter.unusedVariables false
set_option linter.unusedSimpArgs false
open Go.RowKit

/-- What the loop of EvalKeeps keeps. -/
def KeepRel (w0 : World) (b B2 : Nat) (f : Int → Int) (i : Value) (w : World) : Prop := ∃ j : Nat, j ≤ 110 ∧ i = .int .i64 (1 + (j : Int)) ∧ St w w0.heap.size b f ∧ Sr w B2 (B2 + 1) f ∧ Below w0.heap.size w0 w
set_option maxRecDepth 100000 in
set_option maxHeartbeats 4000000 in
theorem keepsLaw_any (A : Option Addr) (n c : Nat) (A' : Option Addr) (n' c' : Nat) (w : World) (hl : LOK w w.heap.size A n) (hl' : LOK w w.heap.size A' n') (ht : Tab w) :
    Calls Tryd.prog 8 #[.slice A n c, .slice A' n' c'] w fun e w' => e = .returned (.bool true) ∧ Below w.heap.size w w' := by
  have HL := Lib.hid hl
  have HL' := Lib.hid hl'
  have HT := Lib.hid ht
  have hts := ht.lt
  clear hl hl' ht
  by_cases h1 : n ≤ 120
  case neg =>
    go_enter Tryd.func8, Tryd.ntmps8
    go_wp2_with (first | (go_at_call 9; refine (light_no _ _ _ h1 _).mono ?_; rintro e w' ⟨rfl, rfl⟩) | (go_at_call 10; refine (awake_any _ HT.out).mono ?_; rintro e w1 ⟨rfl, hb⟩; have HB := Lib.hid hb; clear hb))
    go_ret
    exact ⟨rfl, HB.out⟩
  by_cases h2 : n' ≤ 120
  case neg =>
    go_enter Tryd.func8, Tryd.ntmps8
    go_wp2_with (first | (go_at_call 9; with_reducible refine (light_yes A n c h1 _).mono ?_; rintro e w' ⟨rfl, rfl⟩) | (go_at_call 9; refine (light_no A' n' c' h2 _).mono ?_; rintro e w' ⟨rfl, rfl⟩) | (go_at_call 10; refine (awake_any _ HT.out).mono ?_; rintro e w1 ⟨rfl, hb⟩; have HB := Lib.hid hb; clear hb))
    go_ret
    exact ⟨rfl, HB.out⟩
  go_enter Tryd.func8, Tryd.ntmps8
  go_wp2_with (go_at_call 9; (first | with_reducible refine (light_yes A n c h1 _).mono ?_ | with_reducible refine (light_yes A' n' c' h2 _).mono ?_); rintro e w' ⟨rfl, rfl⟩)
  refine (stores_any A' n' c' w HL'.out).mono ?_
  rintro e w1 ⟨f, B2, rfl, hB2, hvf, hs, hr, hb⟩
  have HV := Lib.hid hvf
  have HS1 := Lib.hid hs
  have HR1 := Lib.hid hr
  have HB1 := Lib.hid hb
  have z1 := hr.lt
  clear hvf hs hr hb
  go_wp2_with fail
  refine (awake_any w1 (HT.out.below HB1.out hts)).mono ?_
  rintro e w2 ⟨rfl, hb⟩
  have HS2 := Lib.hid (HS1.out.below hb (by omega))
  have HR2 := Lib.hid (HR1.out.below hb z1)
  have HB2 := Lib.hid (HB1.out.trans (hb.mono HB1.out.size))
  have z2 := hb.size
  clear hb
  go_wp2_with fail
  refine (new_any w2 w.heap.size HB2.out.size A n c).mono ?_
  rintro e w3 ⟨rfl, rfl⟩
  have hbx := below_box' (w := w2) (.cells #[.slice A n c, .int .i64 0] 54) (Nat.le_refl _)
  go_wp2_with fail
  refine (expr_any w.heap.size w2.heap.size A n c 5 _ (by omega) (by omega) (HL.out.below (HB2.out.trans (hbx.mono HB2.out.size))) (TapeOK.new w2 _ HB2.out.size A n c) (Nat.le_trans HB2.out.size hbx.size)).mono ?_
  rintro e w4 ⟨t, o, m, A2, k2, c2, rfl, hrb, hrt, htp, ho⟩
  have hb24 := hbx.trans (ho.below (Nat.le_refl _) hbx.size)
  have HS4 := Lib.hid (HS2.out.below hb24 (by omega))
  have HR4 := Lib.hid (HR2.out.below hb24 (by omega))
  have HB4 := Lib.hid (HB2.out.trans (hb24.mono HB2.out.size))
  have hb5 := below_box' (w := w4) (.cells #[.int .i64 o, .int .i64 m, .slice A2 k2 c2] 27) (Nat.le_refl _)
  have HX5 := Lib.hid (newq w4 (.cells #[.int .i64 o, .int .i64 m, .slice A2 k2 c2] 27))
  have HD5 := Lib.hid (hrb.rd.below hb5 hb5.size)
  have HS5 := Lib.hid (HS4.out.below hb5 HS4.out.lt)
  have HR5 := Lib.hid (HR4.out.below hb5 HR4.out.lt)
  have HB5 := Lib.hid (HB4.out.trans (hb5.mono HB4.out.size))
  clear hrb hrt htp ho hbx hb24 hb5
  obtain ⟨⟨u1, e1⟩, hv1⟩ : ∃ p, p = EvalS (getS f) t := ⟨_, rfl⟩
  have HV1 := Lib.hid hv1
  clear hv1
  go_wp2_with fail
  refine (Eval_any _ _ f HV.out t _ _ HD5.out (HT.out.below HB5.out hts) HS5.out).mono ?_
  rw [← HV1.out]
  rintro e w6 ⟨rfl, hb⟩
  have HX6 := Lib.hid ((hb.block _ (hltq HX5.out)).trans HX5.out)
  have HD6 := Lib.hid (HD5.out.below hb hb.size)
  have HS6 := Lib.hid (HS5.out.below hb HS5.out.lt)
  have HR6 := Lib.hid (HR5.out.below hb HR5.out.lt)
  have HB6 := Lib.hid (HB5.out.trans (hb.mono HB5.out.size))
  obtain ⟨y0, y1, y2⟩ := three HX6.out
  clear hb
  go_wp2_with fail
  refine (Eval_any _ _ f HV.out t _ _ HD6.out (HT.out.below HB6.out hts) HS6.out).mono ?_
  rw [← HV1.out]
  rintro e w7 ⟨rfl, hb⟩
  have HS7 := Lib.hid (HS6.out.below hb HS6.out.lt)
  have HR7 := Lib.hid (HR6.out.below hb HR6.out.lt)
  have HB7 := Lib.hid (HB6.out.trans (hb.mono HB6.out.size))
  clear hb y0 y1 y2
  go_wp2_with fail
  go_loopw [12] (KeepRel w (w.heap.size + 1) B2 f) (fun i _ => 120 - (intOf i).toNat)
  case atStart => exact ⟨0, by omega, rfl, HS7.out, HR7.out, HB7.out⟩
  case round =>
    obtain ⟨j, hj, rfl, hs, hr, hb⟩ := hrel
    have HS8 := Lib.hid hs
    have HR8 := Lib.hid hr
    have HB8 := Lib.hid hb
    clear hs hr hb
    by_cases hlt : j < 110
    · go_wp2_with fail
      refine (get_any wr _ _ f _ HS8.out).mono ?_
      rintro e w9 ⟨rfl, k, rfl⟩
      go_wp2_with fail
      refine (getR_any (wr.drewN k) _ _ f _ (HR8.out.keep fun _ _ _ => rfl)).mono ?_
      rintro e w10 ⟨rfl, k', rfl⟩
      go_wp2_with fail
      exact ⟨⟨j + 1, by omega, by go_num, HS8.out.keep fun _ _ _ => rfl, HR8.out.keep fun _ _ _ => rfl, ⟨HB8.out.os, HB8.out.tape, HB8.out.output, HB8.out.size, HB8.out.block⟩⟩, by simp [intOf]; omega⟩
    · go_wp2_with (go_at_call 26; refine (level_any _ _ _ f HS8.out).mono ?_; rintro e w9 ⟨rfl, rfl⟩)
      go_ret
      exact ⟨by first | rfl | simp, HB8.out⟩
end Go.Proofs.YtdipainocdgfgaaDoor
