/- The walk of the law EvalVariables: it returns true. Conditions: the integers are ints; the table of the arctangents lies in memory. -/
import Derived.Test.YtdipainocdgfgaaDoorAw
namespace Go.Proofs.YtdipainocdgfgaaDoor
open Go.RowKit
set_option linter.unusedVariables false

/-- The tree of a variable whose number is n millionths. -/
def varT (n : Int) : Tr := unT 1 (numT n)
theorem whole_at (n : Int) (h1 : 0 ≤ n) (h2 : n ≤ 10000) : wholeS (n * 1000000) = (n, true) := by
  unfold wholeS
  rw [if_pos ⟨vld_mk (by omega) (by omega), by omega⟩]
  rw [show n * 1000000 / 1000000 = n by omega]
theorem whole_off (n : Int) : (wholeS (n * 1000000 + 1)).2 = false := by
  unfold wholeS
  rw [if_neg (by omega)]
theorem right_num (m : Nat) (n : Int) (h1 : 0 ≤ n) (h2 : n < 1000000000000000) : rightS (m + 1) (numT n) = true :=
  rightS_mk rfl (by unfold numS; rw [if_pos rfl]; exact decide_eq_true ⟨h1, h2⟩) fun i hi => absurd hi (by omega)
theorem right_un {m : Nat} {op : Int} {t : Tr} (h : kidsS op = 1) (h0 : op ≠ 0) (ht : rightS m t = true) : rightS (m + 1) (unT op t) = true :=
  rightS_mk (by rw [h]; rfl) (by unfold numS; rw [if_neg h0]; rfl) fun _ _ => ht
theorem eval_num (V : Int → Int × Int) (n : Int) : evalS V (numT n) = (n, 0) := rfl
theorem eval_var (V : Int → Int × Int) (t : Tr) (h : (evalS V t).2 = 0) : evalS V (unT 1 t) = if (wholeS (evalS V t).1).2 then V (wholeS (evalS V t).1).1 else (0, 6) := by
  unfold unT oneT
  simp [evalS, h, finS]
/-- What the three evaluations give. -/
theorem vars_law (f : Int → Int) (n m v : Int) (hn1 : 1 ≤ n) (hn2 : n ≤ 33) (hm1 : 100 ≤ m) (hm2 : m ≤ 199) (h1 : f n = v) (h2 : f m = n * 1000000) :
    EvalS (getS f) (varT (n * 1000000)) = (v, 0) ∧ EvalS (getS f) (unT 1 (varT (m * 1000000))) = (v, 0) ∧ (EvalS (getS f) (varT (n * 1000000 + 1))).2 = 6 := by
  have gn : getS f n = (v, 0) := by unfold getS; rw [if_pos (by simp [isV]; omega), h1]
  have gm : getS f m = (n * 1000000, 0) := by unfold getS; rw [if_pos (by simp [isV]; omega), h2]
  have e1 : ∀ q, (evalS (getS f) (numT q)) = (q, 0) := fun q => eval_num _ q
  have e2 : ∀ q, evalS (getS f) (varT q) = if (wholeS q).2 then getS f (wholeS q).1 else (0, 6) := fun q => by
    unfold varT
    rw [eval_var _ _ (by rw [e1]), e1]
  have x1 : evalS (getS f) (varT (n * 1000000)) = (v, 0) := by rw [e2, whole_at n (by omega) (by omega), if_pos rfl, gn]
  have x2 : evalS (getS f) (varT (m * 1000000)) = (n * 1000000, 0) := by rw [e2, whole_at m (by omega) (by omega), if_pos rfl, gm]
  have r1 : rightS 16 (varT (n * 1000000)) = true := right_un (m := 15) rfl (by decide) (right_num 14 (n * 1000000) (by omega) (by omega))
  have r2 : rightS 16 (unT 1 (varT (m * 1000000))) = true := right_un (m := 15) rfl (by decide) (right_un (m := 14) rfl (by decide) (right_num 13 (m * 1000000) (by omega) (by omega)))
  have r3 : rightS 16 (varT (n * 1000000 + 1)) = true := right_un (m := 15) rfl (by decide) (right_num 14 (n * 1000000 + 1) (by omega) (by omega))
  refine ⟨?_, ?_, ?_⟩
  · unfold EvalS
    rw [if_pos r1, x1]
  · unfold EvalS
    rw [if_pos r2, eval_var _ _ (by rw [x2]), x2, whole_at n (by omega) (by omega), if_pos rfl, gn]
  · unfold EvalS
    rw [if_pos r3, e2, whole_off]
    rfl
theorem bcell {W w1 : World} (hb : Below W.heap.size W w1) : (∀ b o, b < W.heap.size → w1.cell? ⟨b, o, none⟩ = W.cell? ⟨b, o, none⟩) ∧ (∀ b o, b < W.heap.size → w1.frozen? ⟨b, o, none⟩ = W.frozen? ⟨b, o, none⟩) :=
  ⟨fun b o h => hb.cell (p := ⟨b, o, none⟩) h, fun b o h => hb.frozen (p := ⟨b, o, none⟩) h⟩
theorem new2 (w : World) (o1 o2 : Obj) : ((w.alloc o1).alloc o2).heap[w.heap.size]? = some o1 := (Below.heap_alloc _ _ _ (by simp)).trans (heap_alloc_new w _)
theorem below2a (w : World) (o1 o2 : Obj) : Below w.heap.size w ((w.alloc o1).alloc o2) := ((Below.refl _ _).alloc (Nat.le_refl _) _).alloc (by simp) _
theorem size1 (w : World) (o : Obj) : (w.alloc o).heap.size = w.heap.size + 1 := by simp
theorem new2' (w : World) (o1 o2 : Obj) : ((w.alloc o1).alloc o2).heap[w.heap.size + 1]? = some o2 := by
  have h := heap_alloc_new (w.alloc o1) o2
  rw [size1] at h
  exact h
theorem cell_past2 {w : World} {g i : Nat} {v : Value} (h : g < w.heap.size) (hc : w.cell? ⟨g, i, none⟩ = some v) (o o' : Obj) : ((w.alloc o).alloc o').cell? ⟨g, i, none⟩ = some v :=
  (World.cell?_alloc_lt _ _ _ (by rw [size1]; show g < _; omega)).trans ((World.cell?_alloc_lt _ _ _ h).trans hc)
theorem kept_b1 {w w1 : World} {o1 o2 : Obj} (hb : Below ((w.alloc o1).alloc o2).heap.size ((w.alloc o1).alloc o2) w1) : w1.heap[w.heap.size + 1]? = some o2 ∧ w1.heap[w.heap.size]? = some o1 ∧ w.heap.size + 1 < w1.heap.size := by
  have hs := hb.size
  rw [size1, size1] at hs
  exact ⟨(hb.block _ (by rw [size1, size1]; omega)).trans (new2' w o1 o2), (hb.block _ (by rw [size1, size1]; omega)).trans (new2 w o1 o2), by omega⟩
theorem kept_b2 {w w1 : World} {o1 o2 o3 : Obj} (hb : Below (((w.alloc o1).alloc o2).alloc o3).heap.size (((w.alloc o1).alloc o2).alloc o3) w1) : w1.heap[w.heap.size + 1 + 1]? = some o3 ∧ w1.heap[w.heap.size + 1]? = some o2 ∧ w1.heap[w.heap.size]? = some o1 ∧ w.heap.size + 1 + 1 < w1.heap.size := by
  have h1 := heap_alloc_new ((w.alloc o1).alloc o2) o3
  have hs := hb.size
  rw [size1, size1] at h1
  rw [size1, size1, size1] at hs
  exact ⟨(hb.block _ (by rw [size1, size1, size1]; omega)).trans h1, (hb.block _ (by rw [size1, size1, size1]; omega)).trans ((Below.heap_alloc _ _ _ (by rw [size1, size1]; omega)).trans (new2' w o1 o2)), (hb.block _ (by rw [size1, size1, size1]; omega)).trans ((Below.heap_alloc _ _ _ (by rw [size1, size1]; omega)).trans (new2 w o1 o2)), by omega⟩
theorem past_b1 {w w1 : World} {o1 o2 x : Obj} {g : Nat} (hb : Below ((w.alloc o1).alloc o2).heap.size ((w.alloc o1).alloc o2) w1) (h : w.heap[g]? = some x) : w1.heap[g]? = some x := by
  have hl : g < w.heap.size := (Array.getElem?_eq_some_iff.1 h).1
  exact (hb.block _ (by simp; omega)).trans ((below2a w o1 o2).block g hl |>.trans h)
theorem past_b2 {w w1 : World} {o1 o2 o3 x : Obj} {g : Nat} (hb : Below (((w.alloc o1).alloc o2).alloc o3).heap.size (((w.alloc o1).alloc o2).alloc o3) w1) (h : w.heap[g]? = some x) : w1.heap[g]? = some x := by
  have hl : g < w.heap.size := (Array.getElem?_eq_some_iff.1 h).1
  exact (hb.block _ (by simp; omega)).trans ((Below.heap_alloc _ _ _ (by simp; omega)).trans ((below2a w o1 o2).block g hl |>.trans h))
theorem past_bb {w w1 : World} {x : Obj} {g : Nat} (hb : Below w.heap.size w w1) (h : w.heap[g]? = some x) : w1.heap[g]? = some x := (hb.block _ (Array.getElem?_eq_some_iff.1 h).1).trans h
theorem ch_b1 {a w w1 : World} {o o' : Obj} {B : Nat} (h : Below B a w) (hB : B ≤ w.heap.size) (hb : Below ((w.alloc o).alloc o').heap.size ((w.alloc o).alloc o') w1) : Below B a w1 := (h.trans ((below2a w o o').mono hB)).trans (hb.mono (by rw [size1, size1]; omega))
theorem ch_b2 {a w w1 : World} {o o' o2 : Obj} {B : Nat} (h : Below B a w) (hB : B ≤ w.heap.size) (hb : Below (((w.alloc o).alloc o').alloc o2).heap.size (((w.alloc o).alloc o').alloc o2) w1) : Below B a w1 :=
  ((h.trans ((below2a w o o').mono hB)).trans (below_box' o2 (by rw [size1, size1]; omega))).trans (hb.mono (by rw [size1, size1, size1]; omega))
theorem rd_var {w : World} {B g : Nat} {n : Int} {T : TypeId} {c : Nat} (hg : w.heap[g]? = some (.cells #[.int .i64 0, .int .i64 n, .slice none 0 0] T (0, 0))) (hB : g < B) (hn : I64 n) : Rd w B (varT n) (.agg #[.int .i64 1, .int .i64 0, .slice (some ⟨g, 0, none⟩) 1 c]) :=
  Rd.lay1 hg hB (Rd.num w B n hn 0) (by unfold I64; omega)
theorem hlt {w : World} {g : Nat} {x : Obj} (h : w.heap[g]? = some x) : g < w.heap.size := (Array.getElem?_eq_some_iff.1 h).1
theorem st_b1 {w : World} {o1 o2 x : Obj} {g : Nat} (h : w.heap[g]? = some x) : ((w.alloc o1).alloc o2).heap[g]? = some x := ((below2a w o1 o2).block g (hlt h)).trans h
/-- The three cells of an expression in a block of its own. -/
theorem three {w : World} {g : Nat} {x y z : Value} {T : TypeId} (h : w.heap[g]? = some (.cells #[x, y, z] T (0, 0))) : w.cell? ⟨g, 0, none⟩ = some x ∧ w.cell? ⟨g, 1, none⟩ = some y ∧ w.cell? ⟨g, 2, none⟩ = some z :=
  ⟨cell_of_row w g 0 _ _ _ h, cell_of_row w g 1 _ _ _ h, cell_of_row w g 2 _ _ _ h⟩
theorem variablesLaw_any (n m v : Int) (ha1 : -9223372036854775808 ≤ n) (ha2 : n ≤ 9223372036854775807) (hb1 : -9223372036854775808 ≤ m) (hb2 : m ≤ 9223372036854775807) (hc1 : -9223372036854775808 ≤ v) (hc2 : v ≤ 9223372036854775807) (w : World) (ht : Tab w) :
    Calls Tryd.prog 7 #[.int .i64 n, .int .i64 m, .int .i64 v] w fun e w' => e = .returned (.bool true) ∧ Below w.heap.size w w' := by
  have HT := Lib.hid ht
  have hts := ht.lt
  clear ht
  obtain ⟨q, hq⟩ : ∃ q, q = n % 33 := ⟨_, rfl⟩
  obtain ⟨r, hr⟩ : ∃ r, r = m % 100 := ⟨_, rfl⟩
  obtain ⟨x, hx⟩ : ∃ x, x = btw v (-1000000000000000) 1000000000000000 := ⟨_, rfl⟩
  have q0 : 0 ≤ q ∧ q ≤ 32 := by omega
  have r0 : 0 ≤ r ∧ r ≤ 99 := by omega
  have x0 : -1000000000000000 ≤ x ∧ x ≤ 1000000000000000 := by rw [hx]; exact btw_bd v _ _ (by omega)
  obtain ⟨q1, q2⟩ := q0
  obtain ⟨r1, r2⟩ := r0
  obtain ⟨x1, x2⟩ := x0
  have HQ := Lib.hid hq.symm
  have HR := Lib.hid hr.symm
  have HX := Lib.hid hx.symm
  clear hq hr hx
  have E1 : Hid (setS (1 + q) x = 0) := by
    unfold Hid setS
    rw [if_pos (by simp [isV]; omega), if_neg (by omega), vld_mk x1 x2]; rfl
  have E2 : Hid (setS (100 + r) ((1 + q) * 1000000) = 0) := by
    unfold Hid setS
    rw [if_pos (by simp [isV]; omega), if_neg (by omega), vld_mk (by omega) (by omega)]; rfl
  obtain ⟨F, hF⟩ : ∃ F, F = setF (setF zf (1 + q) x) (100 + r) ((1 + q) * 1000000) := ⟨_, rfl⟩
  have hFe : F = upd (upd zf (1 + q) x) (100 + r) ((1 + q) * 1000000) := by
    rw [hF]; unfold setF; rw [if_pos E2.out, if_pos E1.out]
  have HV : Hid (Vf F) := fun k => by
    rw [hFe]; unfold upd zf
    split
    · omega
    split <;> omega
  have hl := vars_law F (1 + q) (100 + r) x (by omega) (by omega) (by omega) (by omega) (by rw [hFe]; unfold upd; rw [if_neg (by omega), if_pos rfl]) (by rw [hFe]; unfold upd; rw [if_pos rfl])
  have L1 := Lib.hid hl.1
  have L2 := Lib.hid hl.2.1
  have L3 := Lib.hid hl.2.2
  have HF := Lib.hid hF.symm
  clear hl hF hFe
  have tok1 : True := trivial
  have tok2 : True := trivial
  have tok3 : True := trivial
  have tok4 : True := trivial
  have tok5 : True := trivial
  have tok6 : True := trivial
  have tok7 : True := trivial
  have tok8 : True := trivial
  go_enter Tryd.func7, Tryd.ntmps7
  go_wp2_with (first
    | (go_at_call 17; refine (mod_any _ _ (by omega) (by omega) (by omega) (by omega) _).mono ?_; (first | rw [HQ.out] | rw [HR.out]); rintro e w' ⟨rfl, rfl⟩)
    | (go_at_call 16; refine (btw_any _ _ _ (by omega) (by omega) (by omega) (by omega) (by omega) _).mono ?_; rw [HX.out]; rintro e w' ⟨rfl, rfl⟩)
    | (go_at_call 20; refine (newStore_any _).mono ?_; rintro e w1 ⟨rfl, hs, hb⟩; have HS := Lib.hid hs; have HB := Lib.hid hb; have hz := Lib.hid hs.lt; clear hb hs)
    | (go_at_call 10; refine (awake_any _ (HT.out.below HB.out hts)).mono ?_; rintro e w2 ⟨rfl, hb⟩; have HS2 := Lib.hid (HS.out.below hb hz.out); have HB2 := Lib.hid (HB.out.trans (hb.mono HB.out.size)); clear HB hz hb)
    | (go_at_call 21; clear tok1; refine (set_any _ _ _ zf _ _ HS2.out).mono ?_; rintro e w3 ⟨he, hs, hb, hz, hk⟩; rw [E1.out] at he; subst he; have HS3 := Lib.hid hs; have HB3 := Lib.hid (HB2.out.trans hb); clear hs hb hz hk)
    | (go_at_call 21; clear tok2; refine (set_any _ _ _ (setF zf (1 + q) x) _ _ HS3.out).mono ?_; rintro e w4 ⟨he, hs, hb, hz, hk⟩; rw [E2.out] at he; rw [HF.out] at hs; subst he; have HS4 := Lib.hid hs; have HB4 := Lib.hid (HB3.out.trans hb); have hz4 := Lib.hid hs.lt; clear hs hb hz hk)
    | (go_at_call 18; clear tok3; refine (numx_any _ _).mono ?_; rintro e w5 ⟨rfl, hb⟩; have A5 := Lib.hid (HB4.out.trans (hb.mono HB4.out.size)); have S5 := Lib.hid (HS4.out.below hb hz4.out); clear hb)
    | (go_at_call 18; clear tok4; refine (numx_any _ _).mono ?_; rintro e w6 ⟨rfl, hb⟩; have A6 := Lib.hid (ch_b1 A5.out A5.out.size hb); have S6 := Lib.hid (S5.out.below (ch_b1 (Below.refl _ _) (Nat.le_refl _) hb) S5.out.lt); have K6 := Lib.hid (kept_b1 hb); clear hb)
    | (go_at_call 18; clear tok5; refine (numx_any _ _).mono ?_; rintro e w7 ⟨rfl, hb⟩; have A7 := Lib.hid (ch_b2 A6.out A6.out.size hb); have S7 := Lib.hid (S6.out.below (ch_b2 (Below.refl _ _) (Nat.le_refl _) hb) S6.out.lt); have K7 := Lib.hid (kept_b2 hb); have X7 := Lib.hid (past_b2 hb K6.out.1); have X7a := Lib.hid (past_b2 hb K6.out.2.1); obtain ⟨x70, x71, x72⟩ := three X7.out; have x7s := hlt X7.out; have x70a := cell_past2 x7s x70; have x71a := cell_past2 x7s x71; have x72a := cell_past2 x7s x72; clear hb)
    | (go_at_call 22; clear tok6; refine (Eval_any _ _ F HV.out (varT ((1 + q) * 1000000)) _ _ (rd_var (st_b1 X7a.out) (hlt (st_b1 X7a.out)) (by unfold I64; omega)) (HT.out.below (A7.out.trans ((below2a _ _ _).mono A7.out.size)) hts) (S7.out.below (below2a _ _ _) S7.out.lt)).mono ?_; rw [L1.out]; rintro e w8 ⟨rfl, hb⟩; have A8 := Lib.hid (ch_b1 A7.out A7.out.size hb); have S8 := Lib.hid (S7.out.below (ch_b1 (Below.refl _ _) (Nat.le_refl _) hb) S7.out.lt); have Y8a := Lib.hid (past_b1 hb K7.out.2.2.1); have Y8b := Lib.hid (past_b1 hb K7.out.2.1); have Y8c := Lib.hid (past_b1 hb K7.out.1); have Z8a := Lib.hid (kept_b1 hb).2.1; have Z8b := Lib.hid (kept_b1 hb).1; obtain ⟨y0, y1, y2⟩ := three Y8c.out; clear hb x70a x71a x72a x70 x71 x72)
    | (go_at_call 22; clear tok7; refine (Eval_any _ _ F HV.out (unT 1 (varT ((100 + r) * 1000000))) _ _ (Rd.lay1 Y8b.out (hlt Y8b.out) (rd_var Y8a.out (hlt Y8a.out) (by unfold I64; omega)) (by unfold I64; omega)) (HT.out.below A8.out hts) S8.out).mono ?_; rw [L2.out]; rintro e w9 ⟨rfl, hb⟩; have A9 := Lib.hid (A8.out.trans (hb.mono A8.out.size)); have S9 := Lib.hid (S8.out.below hb S8.out.lt); have Z9a := Lib.hid (past_bb hb Z8a.out); have Z9b := Lib.hid (past_bb hb Z8b.out); obtain ⟨z0, z1, z2⟩ := three Z9b.out; clear hb)
    | (go_at_call 22; clear tok8; refine (Eval_any _ _ F HV.out (varT ((1 + q) * 1000000 + 1)) _ _ (rd_var Z9a.out (hlt Z9a.out) (by unfold I64; omega)) (HT.out.below A9.out hts) S9.out).mono ?_; rw [L3.out]; rintro e w10 ⟨rfl, hb⟩; have A10 := Lib.hid (A9.out.trans (hb.mono A9.out.size)); clear hb))
  go_ret
  exact ⟨rfl, A10.out⟩
end Go.Proofs.YtdipainocdgfgaaDoor
