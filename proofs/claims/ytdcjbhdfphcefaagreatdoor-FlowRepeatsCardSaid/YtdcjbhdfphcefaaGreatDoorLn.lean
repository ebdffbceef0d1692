/- The contract of Line of cncref06, given that of content at the line's tokens. Conditions: those that line_of names. -/
import Derived.Test.YtdcjbhdfphcefaaGreatDoorCt
import Derived.Test.YtdcjbhdfphcefaaGreatDoorTz
import Derived.Test.YtdcjbhdfphcefaaGreatDoorDp
import Derived.Test.YtdcjbhdfphcefaaGreatDoorWm
namespace Go.Proofs.YtdcjbhdfphcefaaGreatDoor
set_option linter.unusedVariables false
set_option linter.unusedSimpArgs false
open Go.RowKit

/-- What Line leaves of a line that is a block. -/
def LnPost (b : Bk) (n : Int) (w : World) (e : Ending) (w' : World) : Prop :=
  ∃ (A : Option Addr) (k c : Nat) (l0 l1 l2 x0 x1 x2 : Value), e = .returned (.tuple #[.agg ⟨cellsB b A k c l0 l1 l2 x0 x1 x2⟩, .int .i64 n, .int .i64 0]) ∧ Bz w' (fun g => w.heap.size ≤ g) b A k l0 l1 l2 x0 x1 x2 ∧ Below w.heap.size w w'
theorem results_bii {fn : Func} {p u v : Tmp} {ty : TypeId} (h : fn.results = #[.cell p ty, .tmp u, .tmp v]) (tmps : Array Value) (w : World) (g : Nat) (t : TypeId) (cs : Array Value) (fr : Nat × Nat) (fs : Array Field)
    (hp : tmps.getD p undef = .pointer (some ⟨g, 0, none⟩)) (hg : w.heap[g]? = some (.cells cs t fr))
    (hu : Tryz.prog.underlying ty = some (.struct fs)) (hi : (Tryz.prog.info? ty).map (·.size) = some cs.size) :
    (results fn tmps).run Tryz.prog w = .ok (.tuple #[.agg cs, tmps.getD u undef, tmps.getD v undef]) w := by
  have hp' : tmps[p]?.getD undef = .pointer (some ⟨g, 0, none⟩) := by simpa using hp
  simp [results, h, hp', asAddr, run_loadVar_row w g t ty cs fr (.struct fs) hg hu rfl hi]
def set11 (w : World) (g : Nat) (v0 v1 v2 v3 v4 v5 v6 v7 v8 v9 v10 : Value) : World := (((((((((((w.setCell ⟨g, 0, none⟩ v0).setCell ⟨g, 1, none⟩ v1).setCell ⟨g, 2, none⟩ v2).setCell ⟨g, 3, none⟩ v3).setCell ⟨g, 4, none⟩ v4).setCell ⟨g, 5, none⟩ v5).setCell ⟨g, 6, none⟩ v6).setCell ⟨g, 7, none⟩ v7).setCell ⟨g, 8, none⟩ v8).setCell ⟨g, 9, none⟩ v9).setCell ⟨g, 10, none⟩ v10)
theorem set11_ne (w : World) (g q : Nat) (v0 v1 v2 v3 v4 v5 v6 v7 v8 v9 v10 : Value) (h : q ≠ g) : (set11 w g v0 v1 v2 v3 v4 v5 v6 v7 v8 v9 v10).heap[q]? = w.heap[q]? := by
  unfold set11
  repeat rw [Below.heap_setCell _ _ _ q h]
theorem set11_size (w : World) (g : Nat) (v0 v1 v2 v3 v4 v5 v6 v7 v8 v9 v10 : Value) : (set11 w g v0 v1 v2 v3 v4 v5 v6 v7 v8 v9 v10).heap.size = w.heap.size := by
  have q : ∀ (w : World) (p : Addr) (v : Value), (w.setCell p v).heap.size = w.heap.size := fun w p v => by simp [World.setCell]
  unfold set11
  simp only [q]
theorem below_set11 {B : Nat} {w w' : World} (h : Below B w w') {g : Nat} (hg : B ≤ g) (v0 v1 v2 v3 v4 v5 v6 v7 v8 v9 v10 : Value) : Below B w (set11 w' g v0 v1 v2 v3 v4 v5 v6 v7 v8 v9 v10) := by
  exact (((((((((((h.setCell (p := ⟨g, 0, none⟩) hg v0).setCell (p := ⟨g, 1, none⟩) hg v1).setCell (p := ⟨g, 2, none⟩) hg v2).setCell (p := ⟨g, 3, none⟩) hg v3).setCell (p := ⟨g, 4, none⟩) hg v4).setCell (p := ⟨g, 5, none⟩) hg v5).setCell (p := ⟨g, 6, none⟩) hg v6).setCell (p := ⟨g, 7, none⟩) hg v7).setCell (p := ⟨g, 8, none⟩) hg v8).setCell (p := ⟨g, 9, none⟩) hg v9).setCell (p := ⟨g, 10, none⟩) hg v10)
theorem set11_blk {w : World} {g : Nat} {T : TypeId} {u0 u1 u2 u3 u4 u5 u6 u7 u8 u9 u10 v0 v1 v2 v3 v4 v5 v6 v7 v8 v9 v10 : Value} (h : w.heap[g]? = some (.cells ⟨[u0, u1, u2, u3, u4, u5, u6, u7, u8, u9, u10]⟩ T (0, 0))) : (set11 w g v0 v1 v2 v3 v4 v5 v6 v7 v8 v9 v10).heap[g]? = some (.cells ⟨[v0, v1, v2, v3, v4, v5, v6, v7, v8, v9, v10]⟩ T (0, 0)) := by
  have h0 := heap_set (i := 0) (u := v0) h
  have h1 := heap_set (i := 1) (u := v1) h0
  have h2 := heap_set (i := 2) (u := v2) h1
  have h3 := heap_set (i := 3) (u := v3) h2
  have h4 := heap_set (i := 4) (u := v4) h3
  have h5 := heap_set (i := 5) (u := v5) h4
  have h6 := heap_set (i := 6) (u := v6) h5
  have h7 := heap_set (i := 7) (u := v7) h6
  have h8 := heap_set (i := 8) (u := v8) h7
  have h9 := heap_set (i := 9) (u := v9) h8
  have h10 := heap_set (i := 10) (u := v10) h9
  simpa [set11] using h10
set_option maxRecDepth 100000 in
set_option maxHeartbeats 16000000 in
theorem line_of (s : ByteArray) (hs : s.size ≤ 65536) (l : List Tk) (n0 : Int) (htk : tokS s = (l, n0, 0)) (h1 : isA l (0, -1) ⟨#[47]⟩ = false) (h2 : letA l (0, -1) 78 = false) (b : Bk) (r2 : Rs) (hr2 : r2.2 = -1) (hbw : b.words.length ≤ 24)
    (hd1 : depthS 17 b.left ≤ 16) (hd2 : depthS 17 b.x ≤ 16) (hd3 : ∀ p ∈ b.words, depthS 17 p.2 ≤ 16)
    (HCT : ∀ (W : World) (B rb bb : Nat) (A : Option Addr) (c : Nat), RX W B rb A c l (0, -1) → W.heap[bb]? = some (.cells (cells0 false 0) 54 (0, 0)) → bb ≠ rb → B ≤ bb → Calls Tryz.prog 101 #[.pointer (some ⟨rb, 0, none⟩), .pointer (some ⟨bb, 0, none⟩)] W (CtPost B rb bb A c l b r2 W))
    (w : World) : Calls Tryz.prog 67 #[.string s] w (LnPost b (s.size : Int) w) := by
  have HCC := Lib.hid HCT
  have HD3 := Lib.hid hd3
  clear HCT hd3
  obtain ⟨W0, hW0⟩ : ∃ W0, W0 = w.alloc (.cells (cells0 false 0) 54) := ⟨_, rfl⟩
  have HB0 : Hid (Below w.heap.size w W0) := by unfold Hid; rw [hW0]; exact (Below.refl _ _).alloc (Nat.le_refl _) _
  have H0 : Hid (W0.heap[w.heap.size]? = some (.cells (cells0 false 0) 54 (0, 0))) := by unfold Hid; rw [hW0]; exact heap_alloc_new w _
  have hs0 := hlS H0.out
  have HTK := Lib.hid (tokens_any s (by omega) W0)
  have g0 : decide ((s.size : Int) > 65536) = false := decide_eq_false (by omega)
  have HTE := Lib.hid htk
  unfold cells0 at hW0
  clear htk
  have tok1 : True := trivial
  have tok2 : True := trivial
  go_enter Tryz.func67, Tryz.ntmps67
  go_wp2_with (first
    | (rw [← hW0]; clear hW0; go_at_call 97; (refine HTK.out.mono ?_); rintro e w1 ⟨O, cO, he, hrt, hb⟩; rw [HTE.out] at he hrt; dsimp only at he hrt; subst he; have HRT := Lib.hid hrt; have HB1 := Lib.hid hb; clear hrt hb)
    | (go_at_call 98; (obtain ⟨rb, hrb⟩ : ∃ rb, rb = w1.heap.size := ⟨_, rfl⟩); (obtain ⟨W2, hW2⟩ : ∃ W2, W2 = (w1.alloc (.cells #[.slice O l.length cO, .int .i64 0, .int .i64 (-1)] 153)).alloc (.cells (cells0 false 0) 54) := ⟨_, rfl⟩); have hW2' := hW2; unfold cells0 at hW2'; rw [← hrb, ← hW2']; clear hW2'; have HB2 : Hid (Below w1.heap.size w1 W2) := (by { unfold Hid; rw [hW2]; exact ((Below.refl _ _).alloc (Nat.le_refl _) _).alloc (by simp) _ }); have HX2 : Hid (RX W2 rb rb O cO l (0, -1)) := (by { refine ⟨Nat.le_refl _, ?_, ?_, Nat.zero_le _, by omega, by omega⟩; · { rw [hW2, hrb]; exact (Below.heap_alloc _ _ _ (by simp)).trans (heap_alloc_new w1 _) }; · { rw [hrb]; exact HRT.out.keep (fun p hp => HB2.out.cell hp) (Nat.le_refl _) } }); have HBK2 : Hid (W2.heap[rb + 1]? = some (.cells (cells0 false 0) 54 (0, 0))) := (by { have q := heap_alloc_new (w1.alloc (.cells #[.slice O l.length cO, .int .i64 0, .int .i64 (-1)] 153)) (.cells (cells0 false 0) 54); unfold Hid; rw [hW2, hrb]; simpa using q }); have hw0 : w.heap.size < rb := (by { rw [hrb]; exact Nat.lt_of_lt_of_le hs0 HB1.out.size }); have HB02 : Hid (Below W0.heap.size W0 W2) := HB1.out.trans (HB2.out.mono HB1.out.size); have hr0 : W0.heap.size ≤ rb := (by { rw [hrb]; exact HB1.out.size }); clear hW2 hrb; (refine (take_no h1 HX2.out).mono ?_); rintro e w2 ⟨rfl, hrp⟩; have HX3 := Lib.hid hrp.1; have HO3 := Lib.hid hrp.2; have HBK3 := Lib.hid ((hrp.2.2.2.2.2 _ (hlS HBK2.out) (by omega)).trans HBK2.out); have d2 : w2.cell? ⟨rb + 1, 2, none⟩ = some (.bool false) := cell_of_row w2 _ 2 _ _ _ HBK3.out; have df : ∀ i, w2.frozen? ⟨rb + 1, i, none⟩ = false := (fun i => by simp [World.frozen?, HBK3.out]); clear hrp)
    | (go_at_call 99; (obtain ⟨W3, hW3⟩ : ∃ W3, W3 = w2.setCell ⟨rb + 1, 2, none⟩ (.bool false) := ⟨_, rfl⟩); rw [← hW3]; have HX4 : Hid (RX W3 rb rb O cO l (0, -1)) := (by { unfold Hid; rw [hW3]; exact HX3.out.put (by omega) (by omega) 2 _ }); have HC4 : Hid (Chg (fun g => g = rb ∨ g = rb + 1) W2 W3) := (by { unfold Hid; rw [hW3]; exact (chg_of_only HO3.out).trans (chg_set _ (rb + 1) 2 _ _ (.inr rfl)) }); have HBK4 : Hid (W3.heap[rb + 1]? = some (.cells (cells0 false 0) 54 (0, 0))) := (by { unfold Hid; rw [hW3]; have q := heap_set (i := 2) (u := .bool false) HBK3.out; simpa [cells0] using q }); clear hW3 d2 df; (refine (letter_is h2 HX4.out).mono ?_); rintro e w4 ⟨rfl, hb⟩; have HX5 := Lib.hid (HX4.out.below hb); have HC5 := Lib.hid (HC4.out.trans (Chg.of_below (O := fun g => g = rb ∨ g = rb + 1) hb)); have HBK5 := Lib.hid ((hb.block _ (hlS HBK4.out)).trans HBK4.out); clear hb)
    | (go_at_call 101; (refine (HCC.out w4 rb rb (rb + 1) O cO HX5.out HBK5.out (by omega) (by omega)).mono ?_); rintro e w5 ⟨rfl, hx6, hc6, A6, k6, c6, l0, l1, l2, x0, x1, x2, hbk6, hbz6⟩; have HX6 := Lib.hid hx6; obtain ⟨m0, m1, m2, mf⟩ := hx6.cells; rw [hr2] at m2; have HC6 := Lib.hid (HC5.out.trans hc6); have HS5 := Lib.hid HC5.out.size; have HBK6 := Lib.hid hbk6; have HBZ6 := Lib.hid hbz6; (obtain ⟨lo, ln, lA, lk, lc, rfl, rfl, rfl⟩ := hbz6.left.form); (obtain ⟨xo, xn, xA, xk, xc, rfl, rfl, rfl⟩ := hbz6.x.form); have hk6 := hbz6.words.1; subst hk6; have HCL : Hid (∀ W, Below w5.heap.size w5 W → W.cell? ⟨rb + 1, 3, none⟩ = some (.slice A6 b.words.length c6) ∧ W.cell? ⟨rb + 1, 4, none⟩ = some (.int .i64 lo) ∧ W.cell? ⟨rb + 1, 5, none⟩ = some (.int .i64 ln) ∧ W.cell? ⟨rb + 1, 6, none⟩ = some (.slice lA lk lc) ∧ W.cell? ⟨rb + 1, 7, none⟩ = some (.int .i64 xo) ∧ W.cell? ⟨rb + 1, 8, none⟩ = some (.int .i64 xn) ∧ W.cell? ⟨rb + 1, 9, none⟩ = some (.slice xA xk xc)) := (fun W hW => by { have q := (hW.block _ (hlS hbk6)).trans hbk6; exact ⟨cell_of_row W _ 3 _ _ _ q, cell_of_row W _ 4 _ _ _ q, cell_of_row W _ 5 _ _ _ q, cell_of_row W _ 6 _ _ _ q, cell_of_row W _ 7 _ _ _ q, cell_of_row W _ 8 _ _ _ q, cell_of_row W _ 9 _ _ _ q⟩ }); (obtain ⟨y3, y4, y5, y6, y7, y8, y9⟩ := HCL.out w5 (Below.refl _ _)); clear hx6 hc6 hbk6 hbz6)
    | (clear tok1; go_at_call 102; (refine (Depth_any6 b.left w5 _ _ HBZ6.out.left.rd (Nat.le_refl _)).mono ?_); rintro e w6 ⟨rfl, hb⟩; have HB6 := Lib.hid hb; clear y3 y4 y5 y6 y7 y8 y9; (obtain ⟨y3, y4, y5, y6, y7, y8, y9⟩ := HCL.out w6 hb); have gd1 : decide ((depthS 17 b.left : Int) > 16) = false := decide_eq_false (by omega); clear hb)
    | (clear tok2; go_at_call 102; (refine (Depth_any6 b.x w6 _ _ (HBZ6.out.x.below HB6.out).rd (Nat.le_refl _)).mono ?_); rintro e w7 ⟨rfl, hb⟩; have HB7 := Lib.hid (HB6.out.trans (hb.mono HB6.out.size)); clear y3 y4 y5 y6 y7 y8 y9; have gd2 : decide ((depthS 17 b.x : Int) > 16) = false := decide_eq_false (by omega); clear hb))
  clear gd1 gd2
  go_loopw [10] (fun i W => ∃ j : Nat, j ≤ b.words.length ∧ i = .int .i64 (j : Int) ∧ Below w7.heap.size w7 W) (fun i _ => b.words.length - (intOf i).toNat)
  case atStart => exact ⟨0, by omega, rfl, Below.refl _ _⟩
  case round =>
    obtain ⟨j, hj, rfl, hbj⟩ := hrel
    have HBJ := Lib.hid (HB7.out.trans (hbj.mono HB7.out.size))
    obtain ⟨y3, y4, y5, y6, y7, y8, y9⟩ := HCL.out wr HBJ.out
    have HBJ7 := Lib.hid hbj
    clear hbj
    by_cases hjl : j < b.words.length
    · have hlt : decide ((j : Int) < (b.words.length : Int)) = true := decide_eq_true (by omega)
      rcases HBZ6.out.words.2.2.2 with ⟨_, q⟩ | ⟨g, hgA, _, hgl, hgc⟩
      · omega
      subst hgA
      obtain ⟨⟨cc, t⟩, hx⟩ : ∃ x, b.words[j]? = some x := ⟨_, List.getElem?_eq_getElem hjl⟩
      obtain ⟨v0, x, y, z, v1, v2, v3, hr⟩ := hgc j cc t hx
      obtain ⟨to_, tn, tA, tk, tc, rfl, rfl, rfl⟩ := hr.form
      have z1 := (HBJ.out.cell (p := ⟨g, j * 4 + 1, none⟩) hgl).trans v1
      have z2 := (HBJ.out.cell (p := ⟨g, j * 4 + 2, none⟩) hgl).trans v2
      have z3 := (HBJ.out.cell (p := ⟨g, j * 4 + 3, none⟩) hgl).trans v3
      have hdt := HD3.out _ (List.mem_of_getElem? hx)
      have HDC := Lib.hid (Depth_any6 t wr _ _ (hr.below HBJ.out).rd (Nat.le_refl _))
      have j1 : (0 : Int) ≤ (j : Int) := by omega
      have j2 : (j : Int) < (b.words.length : Int) := by omega
      dsimp only at hdt
      clear hgc v0 v1 v2 v3 hr hx
      generalize depthS 17 t = d at HDC hdt
      have gd3 : decide ((d : Int) > 16) = false := decide_eq_false (by omega)
      go_wp2_with (go_at_call 102; (refine HDC.out.mono ?_); rintro e w8 ⟨rfl, hb⟩; have HB8 := Lib.hid (HBJ7.out.trans (hb.mono HBJ7.out.size)); clear hb)
      exact ⟨⟨j + 1, by omega, by go_num, HB8.out⟩, by simp only [intOf]; omega⟩
    · have hlt : decide ((j : Int) < (b.words.length : Int)) = false := decide_eq_false (by omega)
      have qb := (HBJ.out.block _ (hlS HBK6.out)).trans HBK6.out
      have y0 : wr.cell? ⟨rb + 1, 0, none⟩ = some (.int .i64 b.kind) := cell_of_row wr _ 0 _ _ _ qb
      have y1 : wr.cell? ⟨rb + 1, 1, none⟩ = some (.int .i64 b.label) := cell_of_row wr _ 1 _ _ _ qb
      have y2 : wr.cell? ⟨rb + 1, 2, none⟩ = some (.bool b.skip) := cell_of_row wr _ 2 _ _ _ qb
      have y10 : wr.cell? ⟨rb + 1, 10, none⟩ = some (.int .i64 b.n) := cell_of_row wr _ 10 _ _ _ qb
      have q0 : wr.heap[w.heap.size]? = some (.cells (cells0 false 0) 54 (0, 0)) := by
        have e1 := HB02.out.block _ hs0
        have hs2 := HB02.out.size
        have e2 := HC6.out.block w.heap.size (by omega) (by omega)
        have hs6 := HC6.out.size
        have e3 := HBJ.out.block w.heap.size (by omega)
        exact e3.trans (e2.trans (e1.trans H0.out))
      have HQ0 := Lib.hid q0
      have n0' : wr.cell? ⟨w.heap.size, 0, none⟩ = some (.int .i64 0) := cell_of_row wr _ 0 _ _ _ q0
      have n1' : wr.cell? ⟨w.heap.size, 1, none⟩ = some (.int .i64 0) := cell_of_row wr _ 1 _ _ _ q0
      have n2' : wr.cell? ⟨w.heap.size, 2, none⟩ = some (.bool false) := cell_of_row wr _ 2 _ _ _ q0
      have n3' : wr.cell? ⟨w.heap.size, 3, none⟩ = some (.slice none 0 0) := cell_of_row wr _ 3 _ _ _ q0
      have n4' : wr.cell? ⟨w.heap.size, 4, none⟩ = some (.int .i64 0) := cell_of_row wr _ 4 _ _ _ q0
      have n5' : wr.cell? ⟨w.heap.size, 5, none⟩ = some (.int .i64 0) := cell_of_row wr _ 5 _ _ _ q0
      have n6' : wr.cell? ⟨w.heap.size, 6, none⟩ = some (.slice none 0 0) := cell_of_row wr _ 6 _ _ _ q0
      have n7' : wr.cell? ⟨w.heap.size, 7, none⟩ = some (.int .i64 0) := cell_of_row wr _ 7 _ _ _ q0
      have n8' : wr.cell? ⟨w.heap.size, 8, none⟩ = some (.int .i64 0) := cell_of_row wr _ 8 _ _ _ q0
      have n9' : wr.cell? ⟨w.heap.size, 9, none⟩ = some (.slice none 0 0) := cell_of_row wr _ 9 _ _ _ q0
      have n10' : wr.cell? ⟨w.heap.size, 10, none⟩ = some (.int .i64 0) := cell_of_row wr _ 10 _ _ _ q0
      have nf : ∀ i, wr.frozen? ⟨w.heap.size, i, none⟩ = false := fun i => by simp [World.frozen?, q0]
      have hne : ¬ (rb + 1 = w.heap.size) := by omega
      clear q0 qb
      go_wp2_with fail
      have hs5 := HS5.out
      have hsW2 : rb + 1 < W2.heap.size := hlS HBK2.out
      refine bodyPost_ret (results_bii Tryz.results67 _ _ w.heap.size _ _ _ _ rfl (set11_blk HQ0.out) Tryz.underlying54 (by kernel_rfl)) rfl ⟨A6, b.words.length, c6, _, _, _, _, _, _, rfl, ?_, ?_⟩
      · refine Bz.keep (w := wr) (Nat.le_of_eq (set11_size _ _ _ _ _ _ _ _ _ _ _ _ _).symm) (fun g _ hg => ?_) (fun g _ hg => ?_) (Bz.keep HBJ.out.size (fun _ _ h => h) (fun g hg _ => HBJ.out.block g hg) HBZ6.out)
        · have q : w4.heap.size ≤ g := hg
          show w.heap.size ≤ g
          omega
        · have q : w4.heap.size ≤ g := hg
          exact set11_ne _ _ _ _ _ _ _ _ _ _ _ _ _ _ (by omega)
      · refine below_set11 ?_ (Nat.le_refl _) _ _ _ _ _ _ _ _ _ _ _
        have q1 := HB0.out.trans (HB02.out.mono HB0.out.size)
        have q2 : Below w.heap.size W2 w5 := ⟨HC6.out.os, HC6.out.tape, HC6.out.output, HC6.out.size, fun g hg => HC6.out.block g (by have := q1.size; omega) (by omega)⟩
        exact (q1.trans q2).trans (HBJ.out.mono (Nat.le_trans q1.size q2.size))
end Go.Proofs.YtdcjbhdfphcefaaGreatDoor
