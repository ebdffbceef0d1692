/- The walk of the law EvalOperators: it returns true. Conditions: the integers are ints; the table of the arctangents lies in memory. -/
import Derived.Test.YtdipainocdgfgaaGreatDoorEwr
import Derived.Test.YtdipainocdgfgaaGreatDoorAw
import Derived.Test.YtdipainocdgfgaaGreatDoorEp
namespace Go.Proofs.YtdipainocdgfgaaGreatDoor
set_option linter.unusedVariables false
set_option linter.unusedSimpArgs false
open Go.RowKit

/-- The tree of a number that may be negative. -/
def sgT (n : Int) : Tr := if n < 0 then unT 2 (numT (-n)) else numT n
theorem size_set (w : World) (p : Addr) (v : Value) : (w.setCell p v).heap.size = w.heap.size := by simp [World.setCell]
theorem below_set3 {B : Nat} {a w : World} (h : Below B a w) {g : Nat} (hg : B ≤ g) (x y z : Value) : Below B a (((w.setCell ⟨g, 0, none⟩ x).setCell ⟨g, 1, none⟩ y).setCell ⟨g, 2, none⟩ z) :=
  ((h.setCell (p := ⟨g, 0, none⟩) hg x).setCell (p := ⟨g, 1, none⟩) hg y).setCell (p := ⟨g, 2, none⟩) hg z
theorem signed_neg {n : Int} {w w1 : World} (h1 : -999999999999999 ≤ n) (h2 : n ≤ 999999999999999) (hlt : w.heap.size < w1.heap.size) (hb : Below w.heap.size w w1) (x y z : Value) :
    ExPost (unT 2 (numT (-n))) w (.returned (.agg #[.int .i64 2, .int .i64 0, .slice (some ⟨w1.heap.size, 0, none⟩) 1 1])) ((((w1.alloc (.cells #[.int .i64 0, .int .i64 (-n), .slice none 0 0] 25)).setCell ⟨w.heap.size, 0, none⟩ x).setCell ⟨w.heap.size, 1, none⟩ y).setCell ⟨w.heap.size, 2, none⟩ z) :=
  ⟨2, 0, some ⟨w1.heap.size, 0, none⟩, 1, 1, rfl, Rd.lay1 ((heap_res _ _ _ _ _ _ (by omega)).trans (newq w1 _)) (by rw [size_set, size_set, size_set, size1e]; omega) (Rd.num _ _ _ (by unfold I64; omega) _) (by unfold I64; omega), below_set3 (hb.trans (below_box' _ hb.size)) (Nat.le_refl _) _ _ _⟩
theorem signed_pos {n : Int} {w w1 : World} (h1 : -999999999999999 ≤ n) (h2 : n ≤ 999999999999999) (hb : Below w.heap.size w w1) (x y z : Value) :
    ExPost (numT n) w (.returned (.agg #[.int .i64 0, .int .i64 n, .slice none 0 0])) (((w1.setCell ⟨w.heap.size, 0, none⟩ x).setCell ⟨w.heap.size, 1, none⟩ y).setCell ⟨w.heap.size, 2, none⟩ z) :=
  ⟨0, n, none, 0, 0, rfl, Rd.num _ _ _ (by unfold I64; omega) _, below_set3 hb (Nat.le_refl _) _ _ _⟩
set_option maxRecDepth 100000 in
theorem signed_x (n : Int) (h1 : -999999999999999 ≤ n) (h2 : n ≤ 999999999999999) (w : World) :
    Calls Tryz.prog 6 #[.int .i64 n] w (ExPost (sgT n) w) := by
  rcases Int.lt_or_le n 0 with hn | hn
  · have HS : Hid (sgT n = unT 2 (numT (-n))) := if_pos hn
    rw [HS.out]
    have hb0 := below_box' (B := w.heap.size) (w := w) (.cells #[.int .i64 0, .int .i64 0, .slice none 0 0] 25) (Nat.le_refl _)
    have HB0 := Lib.hid hb0
    clear hb0
    go_enter Tryz.func6, Tryz.ntmps6
    go_wp2_with fail
    refine (numx_any _ _).mono ?_
    rintro e w1 ⟨rfl, hb⟩
    have R1 := Lib.hid ((hb.block w.heap.size (by rw [size1e]; omega)).trans (newq w _))
    have HB1 := Lib.hid (HB0.out.trans (hb.mono (by rw [size1e]; omega)))
    have HLT := Lib.hid (hltq R1.out)
    obtain ⟨c0, c1, c2⟩ := three (oldq R1.out (.cells #[.int .i64 0, .int .i64 (-n), .slice none 0 0] 25))
    have f0 := froz (oldq R1.out (.cells #[.int .i64 0, .int .i64 (-n), .slice none 0 0] 25))
    clear hb
    go_wp2_with fail
    exact bodyPost_ret (results_cell_row Tryz.results6 _ _ w.heap.size _ _ _ _ rfl (set_res (oldq R1.out _)) Tryz.underlying25 rfl (by kernel_rfl)) rfl
      (signed_neg (by omega) (by omega) HLT.out HB1.out _ _ _)
  · have HS : Hid (sgT n = numT n) := if_neg (by omega)
    rw [HS.out]
    have hb0 := below_box' (B := w.heap.size) (w := w) (.cells #[.int .i64 0, .int .i64 0, .slice none 0 0] 25) (Nat.le_refl _)
    have HB0 := Lib.hid hb0
    clear hb0
    go_enter Tryz.func6, Tryz.ntmps6
    go_wp2_with fail
    refine (numx_any _ _).mono ?_
    rintro e w1 ⟨rfl, hb⟩
    have R1 := Lib.hid ((hb.block w.heap.size (by rw [size1e]; omega)).trans (newq w _))
    have HB1 := Lib.hid (HB0.out.trans (hb.mono (by rw [size1e]; omega)))
    obtain ⟨c0, c1, c2⟩ := three R1.out
    have f0 := froz R1.out
    clear hb
    go_wp2_with fail
    exact bodyPost_ret (results_cell_row Tryz.results6 _ _ w.heap.size _ _ _ _ rfl (set_res R1.out) Tryz.underlying25 rfl (by kernel_rfl)) rfl
      (signed_pos (by omega) (by omega) HB1.out _ _ _)
/-- The first part of two alone. -/
theorem Rd.cut1 {w : World} {B g : Nat} {op o n : Int} {A : Option Addr} {k c c' : Nat} {T : TypeId} {r : List Value} {kid : Nat → Tr} (hg : w.heap[g]? = some (.cells ⟨.int .i64 o :: .int .i64 n :: .slice A k c :: r⟩ T (0, 0))) (hB : g < B) (h : Rd w B (kid 0) (.agg #[.int .i64 o, .int .i64 n, .slice A k c])) (hop : I64 op) :
    Rd w B (.mk op 0 1 kid) (.agg #[.int .i64 op, .int .i64 0, .slice (some ⟨g, 0, none⟩) 1 c']) :=
  Rd.shut hop (by unfold I64; omega) (by unfold maxLen; omega) fun _ => ⟨g, 0, rfl, hB, fun i hi => by
    obtain rfl : i = 0 := by omega
    exact ⟨o, n, A, k, c, cell_of_row w g 0 _ _ _ hg, cell_of_row w g 1 _ _ _ hg, cell_of_row w g 2 _ _ _ hg, h⟩⟩
set_option maxRecDepth 100000 in
set_option maxHeartbeats 4000000 in
theorem operators_tail (op a b : Int) (ho1 : 2 ≤ op) (ho2 : op ≤ 25) (ha1 : -999999999999999 ≤ a) (ha2 : a ≤ 999999999999999) (hb1 : -999999999999999 ≤ b) (hb2 : b ≤ 999999999999999) : True := trivial
set_option maxRecDepth 100000 in
set_option maxHeartbeats 4000000 in
theorem operatorsLaw_any (op a b : Int) (near : Bool) (hp1 : -9223372036854775808 ≤ op) (hp2 : op ≤ 9223372036854775807) (ha1 : -9223372036854775808 ≤ a) (ha2 : a ≤ 9223372036854775807) (hb1 : -9223372036854775808 ≤ b) (hb2 : b ≤ 9223372036854775807) (w : World) (ht : Tab w) :
    Calls Tryz.prog 3 #[.int .i64 op, .int .i64 a, .int .i64 b, .bool near] w fun e w' => e = .returned (.bool true) ∧ Below w.heap.size w w' := by
  have HT := Lib.hid ht
  have hts := ht.lt
  clear ht
  have q1 := btw_bd a (-999999999999999) 999999999999999 (by omega)
  have q2 := btw_bd b (-999999999999999) 999999999999999 (by omega)
  obtain ⟨x, hx⟩ : ∃ x, x = btw a (-999999999999999) 999999999999999 := ⟨_, rfl⟩
  obtain ⟨y, hy⟩ : ∃ y, y = btw b (-999999999999999) 999999999999999 := ⟨_, rfl⟩
  have HX := Lib.hid hx.symm
  have HY := Lib.hid hy.symm
  rw [← hx] at q1
  rw [← hy] at q2
  have q3 := btw_bd x (-400) 400 (by omega)
  have q4 := btw_bd y (-4) 4 (by omega)
  obtain ⟨u, hu⟩ : ∃ u, u = btw x (-400) 400 := ⟨_, rfl⟩
  obtain ⟨v, hv⟩ : ∃ v, v = btw y (-4) 4 := ⟨_, rfl⟩
  have HU := Lib.hid hu.symm
  have HV := Lib.hid hv.symm
  rw [← hu] at q3
  rw [← hv] at q4
  have q5 := btw_bd op 2 25 (by omega)
  obtain ⟨p, hp⟩ : ∃ p, p = btw op 2 25 := ⟨_, rfl⟩
  have HP := Lib.hid hp.symm
  rw [← hp] at q5
  clear hx hy hu hv hp
  obtain ⟨x1, x2⟩ := q1
  obtain ⟨y1, y2⟩ := q2
  obtain ⟨u1, u2⟩ := q3
  obtain ⟨v1, v2⟩ := q4
  obtain ⟨p1, p2⟩ := q5
  rcases near with _ | _
  case' false => obtain ⟨X, Y, hX, hY, X1, X2, Y1, Y2⟩ : ∃ X Y : Int, X = x ∧ Y = y ∧ -999999999999999 ≤ X ∧ X ≤ 999999999999999 ∧ -999999999999999 ≤ Y ∧ Y ≤ 999999999999999 := ⟨x, y, rfl, rfl, x1, x2, y1, y2⟩
  case' true => obtain ⟨X, Y, hX, hY, X1, X2, Y1, Y2⟩ : ∃ X Y : Int, X = u * 500000 ∧ Y = v * 1000000 ∧ -999999999999999 ≤ X ∧ X ≤ 999999999999999 ∧ -999999999999999 ≤ Y ∧ Y ≤ 999999999999999 := ⟨u * 500000, v * 1000000, rfl, rfl, by omega, by omega, by omega, by omega⟩
  all_goals
    have HXX := Lib.hid hX.symm
    have HYY := Lib.hid hY.symm
    clear hX hY
    go_enter Tryz.func3, Tryz.ntmps3
    go_wp2_with (go_at_call 5; refine (btw_any _ _ _ (by omega) (by omega) (by omega) (by omega) (by omega) _).mono ?_; (first | rw [HX.out] | rw [HY.out] | rw [HU.out] | rw [HV.out] | rw [HP.out]); rintro e w' ⟨rfl, rfl⟩)
    (try rw [HXX.out])
    (try rw [HYY.out])
    refine (signed_x _ (by omega) (by omega) w).mono ?_
    rintro e w1 ⟨o1, n1, A1, k1, c1, rfl, hr, hb⟩
    have HR1 := Lib.hid hr
    have HB1 := Lib.hid hb
    clear hr hb
    go_wp2_with fail
    (try rw [HYY.out])
    refine (signed_x _ (by omega) (by omega) w1).mono ?_
    rintro e w2 ⟨o2, n2, A2, k2, c2, rfl, hr, hb⟩
    have HR2 := Lib.hid hr
    have HR1' := Lib.hid (HR1.out.below hb hb.size)
    have HB2 := Lib.hid (HB1.out.trans (hb.mono HB1.out.size))
    clear hr hb
    go_wp2_with fail
    have hbx := below_box' (w := w2) (.cells #[.int .i64 o1, .int .i64 n1, .slice A1 k1 c1, .int .i64 o2, .int .i64 n2, .slice A2 k2 c2] 25) (Nat.le_refl _)
    have hby := below_box' (w := w2.alloc (.cells #[.int .i64 o1, .int .i64 n1, .slice A1 k1 c1, .int .i64 o2, .int .i64 n2, .slice A2 k2 c2] 25)) (.cells #[.int .i64 p, .int .i64 0, .slice (some ⟨w2.heap.size, 0, none⟩) 2 2] 25) (B := w2.heap.size) (by rw [size1e]; omega)
    have hbz := hbx.trans hby
    have k3 := newq (w2.alloc (.cells #[.int .i64 o1, .int .i64 n1, .slice A1 k1 c1, .int .i64 o2, .int .i64 n2, .slice A2 k2 c2] 25)) (.cells #[.int .i64 p, .int .i64 0, .slice (some ⟨w2.heap.size, 0, none⟩) 2 2] 25)
    rw [size1e] at k3
    have j3 := oldq (newq w2 (.cells #[.int .i64 o1, .int .i64 n1, .slice A1 k1 c1, .int .i64 o2, .int .i64 n2, .slice A2 k2 c2] 25)) (.cells #[.int .i64 p, .int .i64 0, .slice (some ⟨w2.heap.size, 0, none⟩) 2 2] 25)
    have d1 := HR1'.out.below hbz hbz.size
    have d2 := HR2.out.below hbz hbz.size
    have d3 := Rd.lay2 (op := p) (c2 := 2) j3 (hltq j3) d1 d2 (by unfold I64; omega)
    have HB3 := Lib.hid (HB2.out.trans (hbz.mono HB2.out.size))
    refine (Right_ref _ _ _ d3).mono ?_
    rintro e w4 ⟨rfl, hb⟩
    have HB4 := Lib.hid (HB3.out.trans (hb.mono HB3.out.size))
    have HJ4 := Lib.hid ((hb.block _ (hltq j3)).trans j3)
    have HK4 := Lib.hid ((hb.block _ (hltq k3)).trans k3)
    have HBK := Lib.hid (hbz.trans (hb.mono hbz.size))
    have HD3 := Lib.hid (d3.below hb hb.size)
    clear hbx hby hbz k3 j3 d1 d2 d3 hb
    rcases hrt : rightS 16 (twoT p (sgT X) (sgT Y)) with _ | _
    · obtain ⟨x0, x1, x2⟩ := three HK4.out
      have xf := froz HK4.out
      go_upto_region 8 with (fail)
      obtain ⟨w5, hw5⟩ : ∃ W : World, W = w4.setCell ⟨w2.heap.size + 1, 2, none⟩ (.slice (some ⟨w2.heap.size, 0, none⟩) 1 2) := ⟨_, rfl⟩
      rw [← hw5]
      have hne : w2.heap.size ≠ w2.heap.size + 1 := by omega
      have HJ5 : Hid (w5.heap[w2.heap.size]? = some (.cells #[.int .i64 o1, .int .i64 n1, .slice A1 k1 c1, .int .i64 o2, .int .i64 n2, .slice A2 k2 c2] 25 (0, 0))) := by rw [hw5]; exact (Below.heap_setCell _ _ _ _ hne).trans HJ4.out
      have HX5 : Hid (w5.heap[w2.heap.size + 1]? = some (.cells #[.int .i64 p, .int .i64 0, .slice (some ⟨w2.heap.size, 0, none⟩) 1 2] 25 (0, 0))) := by rw [hw5]; exact heap_set HK4.out
      have HB5 : Hid (Below w.heap.size w w5) := by
        rw [hw5]; exact HB4.out.setCell (by show w.heap.size ≤ w2.heap.size + 1; have := HB2.out.size; omega) _
      have hsz : w5.heap.size = w4.heap.size := by rw [hw5, size_set]
      have hbk : Below w2.heap.size w2 w5 := by rw [hw5]; exact HBK.out.setCell (by show w2.heap.size ≤ w2.heap.size + 1; omega) _
      have HD1' := Lib.hid (HR1'.out.below hbk hbk.size)
      have HD5 := Lib.hid (Rd.cut1 (op := p) (c' := 2) (kid := pairT (sgT X) (sgT Y)) HJ5.out (by rw [hsz]; exact hltq HJ4.out) HD1'.out (by unfold I64; omega))
      clear x0 x1 x2 xf hw5 hne hsz hbk
      obtain ⟨TT, hTT⟩ : ∃ TT, TT = Tr.mk p 0 1 (pairT (sgT X) (sgT Y)) := ⟨_, rfl⟩
      rw [← hTT] at HD5
      obtain ⟨⟨r1, r2⟩, hv⟩ : ∃ q, q = EvalS (getS zf) TT := ⟨_, rfl⟩
      have HV1 : Hid (valS TT = (r1, r2)) := hv.symm
      have HV2 := Lib.hid hv.symm
      clear hTT hv hrt
      go_wp2_with fail
      refine (newStore_anyR _).mono ?_
      rintro e w6 ⟨rfl, hs, hb⟩
      have HS6 : Hid (Sr w6 _ _ zf) := hs
      have HX6 := Lib.hid ((hb.block _ (hltq HX5.out)).trans HX5.out)
      have HD6 := Lib.hid (HD5.out.below hb hb.size)
      have HB6 := Lib.hid (HB5.out.trans (hb.mono HB5.out.size))
      obtain ⟨x0, x1, x2⟩ := three HX6.out
      clear hs hb
      go_wp2_with fail
      refine (value_any TT _ _ _ _ _ _ HD6.out (HT.out.below HB6.out hts)).mono ?_
      rw [HV1.out]
      rintro e w7 ⟨rfl, hb⟩
      have HS7 := Lib.hid (HS6.out.below hb HS6.out.lt)
      have HX7 := Lib.hid ((hb.block _ (hltq HX6.out)).trans HX6.out)
      have HD7 := Lib.hid (HD6.out.below hb hb.size)
      have HB7 := Lib.hid (HB6.out.trans (hb.mono HB6.out.size))
      clear hb x0 x1 x2
      obtain ⟨x0, x1, x2⟩ := three HX7.out
      go_wp2_with fail
      refine (Eval_ref _ _ zf zf_vf TT _ _ HD7.out HS7.out).mono ?_
      rw [HV2.out]
      rintro e w8 ⟨rfl, hb⟩
      have HB8 := Lib.hid (HB7.out.trans (hb.mono HB7.out.size))
      clear hb x0 x1 x2
      go_wp2_with (go_at_call 11; refine (awake_any _ (HT.out.below HB8.out hts)).mono ?_; rintro e w9 ⟨rfl, hb⟩; have HB9 := Lib.hid (HB8.out.trans (hb.mono HB8.out.size)); clear hb)
      go_ret
      exact ⟨by first | rfl | simp, HB9.out⟩
    · have HX5 := Lib.hid HK4.out
      have HD5 := Lib.hid HD3.out
      have HB5 := Lib.hid HB4.out
      obtain ⟨TT, hTT⟩ : ∃ TT, TT = twoT p (sgT X) (sgT Y) := ⟨_, rfl⟩
      rw [← hTT] at HD5
      obtain ⟨⟨r1, r2⟩, hv⟩ : ∃ q, q = EvalS (getS zf) TT := ⟨_, rfl⟩
      have HV1 : Hid (valS TT = (r1, r2)) := hv.symm
      have HV2 := Lib.hid hv.symm
      clear hTT hv hrt
      go_wp2_with fail
      refine (newStore_anyR _).mono ?_
      rintro e w6 ⟨rfl, hs, hb⟩
      have HS6 : Hid (Sr w6 _ _ zf) := hs
      have HX6 := Lib.hid ((hb.block _ (hltq HX5.out)).trans HX5.out)
      have HD6 := Lib.hid (HD5.out.below hb hb.size)
      have HB6 := Lib.hid (HB5.out.trans (hb.mono HB5.out.size))
      obtain ⟨x0, x1, x2⟩ := three HX6.out
      clear hs hb
      go_wp2_with fail
      refine (value_any TT _ _ _ _ _ _ HD6.out (HT.out.below HB6.out hts)).mono ?_
      rw [HV1.out]
      rintro e w7 ⟨rfl, hb⟩
      have HS7 := Lib.hid (HS6.out.below hb HS6.out.lt)
      have HX7 := Lib.hid ((hb.block _ (hltq HX6.out)).trans HX6.out)
      have HD7 := Lib.hid (HD6.out.below hb hb.size)
      have HB7 := Lib.hid (HB6.out.trans (hb.mono HB6.out.size))
      clear hb x0 x1 x2
      obtain ⟨x0, x1, x2⟩ := three HX7.out
      go_wp2_with fail
      refine (Eval_ref _ _ zf zf_vf TT _ _ HD7.out HS7.out).mono ?_
      rw [HV2.out]
      rintro e w8 ⟨rfl, hb⟩
      have HB8 := Lib.hid (HB7.out.trans (hb.mono HB7.out.size))
      clear hb x0 x1 x2
      go_wp2_with (go_at_call 11; refine (awake_any _ (HT.out.below HB8.out hts)).mono ?_; rintro e w9 ⟨rfl, hb⟩; have HB9 := Lib.hid (HB8.out.trans (hb.mono HB8.out.size)); clear hb)
      go_ret
      exact ⟨by first | rfl | simp, HB9.out⟩
end Go.Proofs.YtdipainocdgfgaaGreatDoor
