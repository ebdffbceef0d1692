/- The contract of flow's execute, at blocks that are left out, at words, at the end of a loop. Conditions: see MX; the block reads as plain data. -/
import Derived.Test.YtdcjbhdfphcefaaGreatDoorWm
namespace Go.Proofs.YtdcjbhdfphcefaaGreatDoor
set_option linter.unusedVariables false
set_option linter.unusedSimpArgs false
open Go.RowKit

theorem mate_bd {L : Lb} (h : L.fine) (p : Int) : -1 ≤ mateS L p ∧ mateS L p ≤ 100000 := by
  unfold mateS
  split
  · rw [List.getD_eq_getElem?_getD]
    rcases e : L.mt[p.toNat]? with _ | x
    · simp
    · exact h.mt x (List.mem_of_getElem? e)
  · omega
theorem MP.below2 {w W w' : World} {B : Nat} {F : Fp} {L : Lb} {sk : Bool} {m' : MS} (hb : Below w.heap.size w W) (k : MP B F L sk m' W w') : MP B F L sk m' w w' := MP.then (Chg.of_below hb) k
/-- What a block makes that is not left out. -/
def exeT (L : Lb) (m : MS) (b : Bk) : MS × Option (List (Int × Int)) × Int :=
  if b.kind = 1 then ((setM m b).1, none, (setM m b).2)
  else if b.kind = 2 then ((jumpM L m b.x).1, none, (jumpM L m b.x).2)
  else if b.kind = 3 ∨ b.kind = 4 then
    let e := EvalS (getS m.sto.f) b.x
    if e.2 ≠ 0 then (m, none, e.2)
    else if b.kind = 3 ∧ e.1 ≠ 0 then ((jumpM L m b.left).1, none, (jumpM L m b.left).2)
    else if b.kind = 4 ∧ e.1 = 0 then ({ m with pos := mateS L m.pos + 1 }, none, 0)
    else ({ m with pos := m.pos + 1 }, none, 0)
  else if b.kind = 5 then ({ m with pos := mateS L m.pos }, none, 0)
  else if b.kind = 0 ∧ b.words ≠ [] then wordsM L m b.words
  else ({ m with pos := m.pos + 1 }, none, 0)
set_option maxRecDepth 100000 in
set_option maxHeartbeats 4000000 in
theorem exe_skip (w : World) (B : Nat) (F : Fp) (L : Lb) (sk : Bool) (m : MS) (b : Bk) (A : Option Addr) (k c : Nat) (l0 l1 l2 x0 x1 x2 : Value) (h : MX w B F L sk m) (hr : RdB w B b A k l0 l1 l2 x0 x1 x2) (hp : 0 ≤ m.pos ∧ m.pos ≤ 1000000) (hwl : b.words.length ≤ 1000) (hsk : (b.skip && sk) = true) :
    Calls Tryz.prog 39 #[.pointer (some ⟨F.mb, 0, none⟩), .agg ⟨cellsB b A k c l0 l1 l2 x0 x1 x2⟩] w (WoPost B F L sk m (exeM L sk m b) w) := by
  have HX := Lib.hid h
  have HR := Lib.hid hr
  have hBle := h.Ble
  have hmb := h.lt
  obtain ⟨A1, A2, A3, AC, c1, c2, c3, capc, xs, ⟨-, -, -, d3, -, d5, -, d7, -, -, -⟩, -, -, -, -, hfr⟩ := h.cells
  obtain ⟨W1, hW1⟩ : ∃ W1, W1 = ((w.alloc (.cells ⟨cellsB b A k c l0 l1 l2 x0 x1 x2⟩ 54)).alloc (.cells stepZ 40)).alloc (.cells stepZ 40) := ⟨_, rfl⟩
  have HB1 : Hid (Below w.heap.size w W1) := by unfold Hid; rw [hW1]; exact (((Below.refl _ _).alloc (Nat.le_refl _) _).alloc (by simp) _).alloc (by simp; omega) _
  have h0 : W1.heap[w.heap.size]? = some (.cells ⟨cellsB b A k c l0 l1 l2 x0 x1 x2⟩ 54 (0, 0)) := by rw [hW1]; exact (Below.heap_alloc _ _ _ (by simp; omega)).trans ((Below.heap_alloc _ _ _ (by simp)).trans (heap_alloc_new w _))
  have h1 : W1.heap[w.heap.size + 1]? = some (.cells stepZ 40 (0, 0)) := by
    rw [hW1]
    refine (Below.heap_alloc _ _ _ (by simp)).trans ?_
    have := heap_alloc_new (w.alloc (.cells ⟨cellsB b A k c l0 l1 l2 x0 x1 x2⟩ 54)) (.cells stepZ 40)
    simpa using this
  have h2 : W1.heap[w.heap.size + 2]? = some (.cells stepZ 40 (0, 0)) := by
    rw [hW1]
    have := heap_alloc_new ((w.alloc (.cells ⟨cellsB b A k c l0 l1 l2 x0 x1 x2⟩ 54)).alloc (.cells stepZ 40)) (.cells stepZ 40)
    simpa using this
  have H0 := Lib.hid h0; have H1 := Lib.hid h1; have H2 := Lib.hid h2
  have hsz : w.heap.size + 2 < W1.heap.size := hlS h2
  have q := fun j => cell_of_row W1 w.heap.size j _ _ _ h0
  have b0 : W1.cell? ⟨w.heap.size, 0, none⟩ = some (.int .i64 b.kind) := (q 0).trans rfl
  have b1 : W1.cell? ⟨w.heap.size, 1, none⟩ = some (.int .i64 b.label) := (q 1).trans rfl
  have b2 : W1.cell? ⟨w.heap.size, 2, none⟩ = some (.bool b.skip) := (q 2).trans rfl
  have b3 : W1.cell? ⟨w.heap.size, 3, none⟩ = some (.slice A k c) := (q 3).trans rfl
  have b4 : W1.cell? ⟨w.heap.size, 4, none⟩ = some l0 := (q 4).trans rfl
  have b5 : W1.cell? ⟨w.heap.size, 5, none⟩ = some l1 := (q 5).trans rfl
  have b6 : W1.cell? ⟨w.heap.size, 6, none⟩ = some l2 := (q 6).trans rfl
  have b7 : W1.cell? ⟨w.heap.size, 7, none⟩ = some x0 := (q 7).trans rfl
  have b8 : W1.cell? ⟨w.heap.size, 8, none⟩ = some x1 := (q 8).trans rfl
  have b9 : W1.cell? ⟨w.heap.size, 9, none⟩ = some x2 := (q 9).trans rfl
  have b10 : W1.cell? ⟨w.heap.size, 10, none⟩ = some (.int .i64 b.n) := (q 10).trans rfl
  have s0 : W1.cell? ⟨w.heap.size + 1, 0, none⟩ = some (.int .i64 0) := cell_of_row W1 _ 0 _ _ _ h1
  have s1 : W1.cell? ⟨w.heap.size + 1, 1, none⟩ = some (.int .i64 0) := cell_of_row W1 _ 1 _ _ _ h1
  have s2 : W1.cell? ⟨w.heap.size + 1, 2, none⟩ = some (.slice none 0 0) := cell_of_row W1 _ 2 _ _ _ h1
  have sf : ∀ i, W1.frozen? ⟨w.heap.size + 1, i, none⟩ = false := fun i => by simp [World.frozen?, h1]
  have z0 : W1.cell? ⟨w.heap.size + 2, 0, none⟩ = some (.int .i64 0) := cell_of_row W1 _ 0 _ _ _ h2
  have z1 : W1.cell? ⟨w.heap.size + 2, 1, none⟩ = some (.int .i64 0) := cell_of_row W1 _ 1 _ _ _ h2
  have z2 : W1.cell? ⟨w.heap.size + 2, 2, none⟩ = some (.slice none 0 0) := cell_of_row W1 _ 2 _ _ _ h2
  have e3 := (HB1.out.cell (p := ⟨F.mb, 3, none⟩) hmb).trans d3
  have e5 := (HB1.out.cell (p := ⟨F.mb, 5, none⟩) hmb).trans d5
  have e7 := (HB1.out.cell (p := ⟨F.mb, 7, none⟩) hmb).trans d7
  have ef5 : W1.frozen? ⟨F.mb, 5, none⟩ = false := (World.frozen?_of_block (a := ⟨F.mb, 5, none⟩) (HB1.out.block _ hmb)).trans (hfr 5)
  have HX1 := Lib.hid (h.hide (s := w.heap.size + 1) HB1.out (by omega) (by omega))
  have hmb1 : F.mb < W1.heap.size := Nat.lt_of_lt_of_le hmb HB1.out.size
  have HRW : Hid (∀ W, Below W1.heap.size W1 W → RdB W B b A k l0 l1 l2 x0 x1 x2) := fun W hb => hr.keep (fun p hq => (hb.cell (by omega)).trans (HB1.out.cell (by omega))) (Nat.le_refl _)
  have HNO : Hid (∀ g, w.heap.size ≤ g → g < W1.heap.size → ¬ ({ F with av := (w.heap.size + 1) :: F.av } : Fp).own g) := fun g h1 h2 ho => by
    have : F.own g := ho
    have := (HX.out.own_ge g this).2
    omega
  have HSP : Hid (I64 (m.pos + 1)) := by unfold Hid I64; omega
  have HW1 : Hid (W1 = ((w.alloc (.cells ⟨cellsB b A k c l0 l1 l2 x0 x1 x2⟩ 54)).alloc (.cells #[.int .i64 0, .int .i64 0, .slice none 0 0] 40)).alloc (.cells #[.int .i64 0, .int .i64 0, .slice none 0 0] 40)) := hW1
  have HSZ := Lib.hid hsz
  clear hW1 h0 h1 h2 q h hr hfr d3 d5 d7
  obtain ⟨bk, bl, bs, bw, blf, bx, bn⟩ := b
  dsimp only at b0 b1 b2 b10 hwl
  have HKL : Hid (k = bw.length) := (HRW.out W1 (Below.refl _ _)).words.1
  have hsz := HSZ.out
  try dsimp only at hsk
  have EJ : Hid (exeM L sk m ⟨bk, bl, bs, bw, blf, bx, bn⟩ = ({ m with pos := m.pos + 1 }, none, 0)) := by unfold Hid exeM; dsimp only; rw [hsk]; rfl
  simp only [Bool.and_eq_true] at hsk
  obtain ⟨hs1, hs2⟩ := hsk
  subst hs1
  subst hs2
  go_enter Tryz.func39, Tryz.ntmps39
  go_upto_region 2 with (fail)
  rw [← HW1.out]
  go_wp2_with fail
  refine bodyPost_ret (results_cell3 rfl _ _ (w.heap.size + 1) _ _ _ _ rfl (step_put ((Below.heap_setCell _ _ _ _ (by show w.heap.size + 1 ≠ F.mb; omega)).trans H1.out)) Tryz.underlying40 infoStep) rfl ?_
  exact WoPost.no EJ.out (MP.around HX.out HB1.out (by omega) (by have := HSZ.out; omega) (MP.of (HX1.out.set_pos HSP.out) (chg_set _ _ _ _ _ (.inl rfl))) (chg_put _ _ _))
set_option maxRecDepth 100000 in
set_option maxHeartbeats 4000000 in
theorem exe_other (w : World) (B : Nat) (F : Fp) (L : Lb) (sk : Bool) (m : MS) (b : Bk) (A : Option Addr) (k c : Nat) (l0 l1 l2 x0 x1 x2 : Value) (h : MX w B F L sk m) (hr : RdB w B b A k l0 l1 l2 x0 x1 x2) (hp : 0 ≤ m.pos ∧ m.pos ≤ 1000000) (hwl : b.words.length ≤ 1000) (hsk : (b.skip && sk) = false) (c1 : b.kind ≠ 1) (c2 : b.kind ≠ 2) (c3 : b.kind ≠ 3) (c4 : b.kind ≠ 4) :
    Calls Tryz.prog 39 #[.pointer (some ⟨F.mb, 0, none⟩), .agg ⟨cellsB b A k c l0 l1 l2 x0 x1 x2⟩] w (WoPost B F L sk m (exeM L sk m b) w) := by
  have HX := Lib.hid h
  have HR := Lib.hid hr
  have hBle := h.Ble
  have hmb := h.lt
  obtain ⟨A1, A2, A3, AC, c1, c2, c3, capc, xs, ⟨-, -, -, d3, -, d5, -, d7, -, -, -⟩, -, -, -, -, hfr⟩ := h.cells
  obtain ⟨W1, hW1⟩ : ∃ W1, W1 = ((w.alloc (.cells ⟨cellsB b A k c l0 l1 l2 x0 x1 x2⟩ 54)).alloc (.cells stepZ 40)).alloc (.cells stepZ 40) := ⟨_, rfl⟩
  have HB1 : Hid (Below w.heap.size w W1) := by unfold Hid; rw [hW1]; exact (((Below.refl _ _).alloc (Nat.le_refl _) _).alloc (by simp) _).alloc (by simp; omega) _
  have h0 : W1.heap[w.heap.size]? = some (.cells ⟨cellsB b A k c l0 l1 l2 x0 x1 x2⟩ 54 (0, 0)) := by rw [hW1]; exact (Below.heap_alloc _ _ _ (by simp; omega)).trans ((Below.heap_alloc _ _ _ (by simp)).trans (heap_alloc_new w _))
  have h1 : W1.heap[w.heap.size + 1]? = some (.cells stepZ 40 (0, 0)) := by
    rw [hW1]
    refine (Below.heap_alloc _ _ _ (by simp)).trans ?_
    have := heap_alloc_new (w.alloc (.cells ⟨cellsB b A k c l0 l1 l2 x0 x1 x2⟩ 54)) (.cells stepZ 40)
    simpa using this
  have h2 : W1.heap[w.heap.size + 2]? = some (.cells stepZ 40 (0, 0)) := by
    rw [hW1]
    have := heap_alloc_new ((w.alloc (.cells ⟨cellsB b A k c l0 l1 l2 x0 x1 x2⟩ 54)).alloc (.cells stepZ 40)) (.cells stepZ 40)
    simpa using this
  have H0 := Lib.hid h0; have H1 := Lib.hid h1; have H2 := Lib.hid h2
  have hsz : w.heap.size + 2 < W1.heap.size := hlS h2
  have q := fun j => cell_of_row W1 w.heap.size j _ _ _ h0
  have b0 : W1.cell? ⟨w.heap.size, 0, none⟩ = some (.int .i64 b.kind) := (q 0).trans rfl
  have b1 : W1.cell? ⟨w.heap.size, 1, none⟩ = some (.int .i64 b.label) := (q 1).trans rfl
  have b2 : W1.cell? ⟨w.heap.size, 2, none⟩ = some (.bool b.skip) := (q 2).trans rfl
  have b3 : W1.cell? ⟨w.heap.size, 3, none⟩ = some (.slice A k c) := (q 3).trans rfl
  have b4 : W1.cell? ⟨w.heap.size, 4, none⟩ = some l0 := (q 4).trans rfl
  have b5 : W1.cell? ⟨w.heap.size, 5, none⟩ = some l1 := (q 5).trans rfl
  have b6 : W1.cell? ⟨w.heap.size, 6, none⟩ = some l2 := (q 6).trans rfl
  have b7 : W1.cell? ⟨w.heap.size, 7, none⟩ = some x0 := (q 7).trans rfl
  have b8 : W1.cell? ⟨w.heap.size, 8, none⟩ = some x1 := (q 8).trans rfl
  have b9 : W1.cell? ⟨w.heap.size, 9, none⟩ = some x2 := (q 9).trans rfl
  have b10 : W1.cell? ⟨w.heap.size, 10, none⟩ = some (.int .i64 b.n) := (q 10).trans rfl
  have s0 : W1.cell? ⟨w.heap.size + 1, 0, none⟩ = some (.int .i64 0) := cell_of_row W1 _ 0 _ _ _ h1
  have s1 : W1.cell? ⟨w.heap.size + 1, 1, none⟩ = some (.int .i64 0) := cell_of_row W1 _ 1 _ _ _ h1
  have s2 : W1.cell? ⟨w.heap.size + 1, 2, none⟩ = some (.slice none 0 0) := cell_of_row W1 _ 2 _ _ _ h1
  have sf : ∀ i, W1.frozen? ⟨w.heap.size + 1, i, none⟩ = false := fun i => by simp [World.frozen?, h1]
  have z0 : W1.cell? ⟨w.heap.size + 2, 0, none⟩ = some (.int .i64 0) := cell_of_row W1 _ 0 _ _ _ h2
  have z1 : W1.cell? ⟨w.heap.size + 2, 1, none⟩ = some (.int .i64 0) := cell_of_row W1 _ 1 _ _ _ h2
  have z2 : W1.cell? ⟨w.heap.size + 2, 2, none⟩ = some (.slice none 0 0) := cell_of_row W1 _ 2 _ _ _ h2
  have e3 := (HB1.out.cell (p := ⟨F.mb, 3, none⟩) hmb).trans d3
  have e5 := (HB1.out.cell (p := ⟨F.mb, 5, none⟩) hmb).trans d5
  have e7 := (HB1.out.cell (p := ⟨F.mb, 7, none⟩) hmb).trans d7
  have ef5 : W1.frozen? ⟨F.mb, 5, none⟩ = false := (World.frozen?_of_block (a := ⟨F.mb, 5, none⟩) (HB1.out.block _ hmb)).trans (hfr 5)
  have HX1 := Lib.hid (h.hide (s := w.heap.size + 1) HB1.out (by omega) (by omega))
  have hmb1 : F.mb < W1.heap.size := Nat.lt_of_lt_of_le hmb HB1.out.size
  have HRW : Hid (∀ W, Below W1.heap.size W1 W → RdB W B b A k l0 l1 l2 x0 x1 x2) := fun W hb => hr.keep (fun p hq => (hb.cell (by omega)).trans (HB1.out.cell (by omega))) (Nat.le_refl _)
  have HNO : Hid (∀ g, w.heap.size ≤ g → g < W1.heap.size → ¬ ({ F with av := (w.heap.size + 1) :: F.av } : Fp).own g) := fun g h1 h2 ho => by
    have : F.own g := ho
    have := (HX.out.own_ge g this).2
    omega
  have HSP : Hid (I64 (m.pos + 1)) := by unfold Hid I64; omega
  have HW1 : Hid (W1 = ((w.alloc (.cells ⟨cellsB b A k c l0 l1 l2 x0 x1 x2⟩ 54)).alloc (.cells #[.int .i64 0, .int .i64 0, .slice none 0 0] 40)).alloc (.cells #[.int .i64 0, .int .i64 0, .slice none 0 0] 40)) := hW1
  have HSZ := Lib.hid hsz
  clear hW1 h0 h1 h2 q h hr hfr d3 d5 d7
  obtain ⟨bk, bl, bs, bw, blf, bx, bn⟩ := b
  dsimp only at b0 b1 b2 b10 hwl
  have HKL : Hid (k = bw.length) := (HRW.out W1 (Below.refl _ _)).words.1
  have hsz := HSZ.out
  try dsimp only at hsk c0 c1 c2 c3 c4
  have EX : Hid (exeM L sk m ⟨bk, bl, bs, bw, blf, bx, bn⟩ = exeT L m ⟨bk, bl, bs, bw, blf, bx, bn⟩) := by unfold Hid exeM exeT; dsimp only; rw [hsk]; rfl
  have HMB1 : Hid (F.mb < W1.heap.size) := hmb1
  have HS1 : Hid (w.heap.size < W1.heap.size) := by unfold Hid; omega
  have HMTB : Hid (I64 (mateS L m.pos)) := by have := mate_bd HX.out.fine m.pos; unfold Hid I64; omega
  have HMTC : Hid (I64 (mateS L m.pos + 1)) := by have := mate_bd HX.out.fine m.pos; unfold Hid I64; omega
  have hmtb := mate_bd HX.out.fine m.pos
  by_cases c5 : bk = 5
  · subst c5
    have EJ : Hid (exeM L sk m ⟨5, bl, bs, bw, blf, bx, bn⟩ = ({ m with pos := mateS L m.pos }, none, 0)) := EX.out
    have HMT : Hid (Calls Tryz.prog 64 #[.pointer (some ⟨F.mb, 0, none⟩)] W1 fun e w' => e = .returned (.int .i64 (mateS L m.pos)) ∧ w'.heap = W1.heap ∧ Below W1.heap.size W1 w') := mate_any W1 B { F with av := (w.heap.size + 1) :: F.av } L _ m HX1.out hp.1
    rcases bs with _ | _
    · go_enter Tryz.func39, Tryz.ntmps39
      go_upto_region 2 with (fail)
      rw [← HW1.out]
      go_wp2_with (first | (go_at_call 64; refine HMT.out.mono ?_; rintro e w3 ⟨rfl, hhp, hb3⟩; have HB3 := Lib.hid hb3; have p5 := (World.cell?_of_block (a := ⟨F.mb, 5, none⟩) (congrArg (fun h => h[F.mb]?) hhp)).trans e5; have p5f := (World.frozen?_of_block (a := ⟨F.mb, 5, none⟩) (congrArg (fun h => h[F.mb]?) hhp)).trans ef5; have hh1 : w3.heap[w.heap.size + 1]? = some (.cells stepZ 40 (0, 0)) := (congrArg (fun h => h[w.heap.size + 1]?) hhp).trans H1.out; have hh2 : w3.heap[w.heap.size + 2]? = some (.cells stepZ 40 (0, 0)) := (congrArg (fun h => h[w.heap.size + 2]?) hhp).trans H2.out; have HH1 := Lib.hid hh1; have t0 : w3.cell? ⟨w.heap.size + 1, 0, none⟩ = some (.int .i64 0) := cell_of_row w3 _ 0 _ _ _ hh1; have t1 : w3.cell? ⟨w.heap.size + 1, 1, none⟩ = some (.int .i64 0) := cell_of_row w3 _ 1 _ _ _ hh1; have t2 : w3.cell? ⟨w.heap.size + 1, 2, none⟩ = some (.slice none 0 0) := cell_of_row w3 _ 2 _ _ _ hh1; have tf : (∀ i, w3.frozen? ⟨w.heap.size + 1, i, none⟩ = false) := (fun i => by simp [World.frozen?, hh1]); have y0 : w3.cell? ⟨w.heap.size + 2, 0, none⟩ = some (.int .i64 0) := cell_of_row w3 _ 0 _ _ _ hh2; have y1 : w3.cell? ⟨w.heap.size + 2, 1, none⟩ = some (.int .i64 0) := cell_of_row w3 _ 1 _ _ _ hh2; have y2 : w3.cell? ⟨w.heap.size + 2, 2, none⟩ = some (.slice none 0 0) := cell_of_row w3 _ 2 _ _ _ hh2; have v0 : w3.cell? ⟨w.heap.size + 1 + 1, 0, none⟩ = some (.int .i64 0) := y0; have v1 : w3.cell? ⟨w.heap.size + 1 + 1, 1, none⟩ = some (.int .i64 0) := y1; have v2 : w3.cell? ⟨w.heap.size + 1 + 1, 2, none⟩ = some (.slice none 0 0) := y2; clear hh1 hh2; clear hhp hb3))
      refine bodyPost_ret (results_cell3 rfl _ _ (w.heap.size + 1) _ _ _ _ rfl (step_put ((Below.heap_setCell _ _ _ _ (by show w.heap.size + 1 ≠ F.mb; omega)).trans HH1.out)) Tryz.underlying40 infoStep) rfl ?_
      exact WoPost.no EJ.out (MP.around HX.out HB1.out (by omega) (by have := HSZ.out; omega) (MP.below2 HB3.out (MP.of ((HX1.out.below HB3.out).set_pos HMTB.out) (chg_set _ _ _ _ _ (.inl rfl)))) (chg_put _ _ _))
    · have hs2 : sk = false := by simpa using hsk
      subst hs2
      go_enter Tryz.func39, Tryz.ntmps39
      go_upto_region 2 with (fail)
      rw [← HW1.out]
      go_wp2_with (first | (go_at_call 64; refine HMT.out.mono ?_; rintro e w3 ⟨rfl, hhp, hb3⟩; have HB3 := Lib.hid hb3; have p5 := (World.cell?_of_block (a := ⟨F.mb, 5, none⟩) (congrArg (fun h => h[F.mb]?) hhp)).trans e5; have p5f := (World.frozen?_of_block (a := ⟨F.mb, 5, none⟩) (congrArg (fun h => h[F.mb]?) hhp)).trans ef5; have hh1 : w3.heap[w.heap.size + 1]? = some (.cells stepZ 40 (0, 0)) := (congrArg (fun h => h[w.heap.size + 1]?) hhp).trans H1.out; have hh2 : w3.heap[w.heap.size + 2]? = some (.cells stepZ 40 (0, 0)) := (congrArg (fun h => h[w.heap.size + 2]?) hhp).trans H2.out; have HH1 := Lib.hid hh1; have t0 : w3.cell? ⟨w.heap.size + 1, 0, none⟩ = some (.int .i64 0) := cell_of_row w3 _ 0 _ _ _ hh1; have t1 : w3.cell? ⟨w.heap.size + 1, 1, none⟩ = some (.int .i64 0) := cell_of_row w3 _ 1 _ _ _ hh1; have t2 : w3.cell? ⟨w.heap.size + 1, 2, none⟩ = some (.slice none 0 0) := cell_of_row w3 _ 2 _ _ _ hh1; have tf : (∀ i, w3.frozen? ⟨w.heap.size + 1, i, none⟩ = false) := (fun i => by simp [World.frozen?, hh1]); have y0 : w3.cell? ⟨w.heap.size + 2, 0, none⟩ = some (.int .i64 0) := cell_of_row w3 _ 0 _ _ _ hh2; have y1 : w3.cell? ⟨w.heap.size + 2, 1, none⟩ = some (.int .i64 0) := cell_of_row w3 _ 1 _ _ _ hh2; have y2 : w3.cell? ⟨w.heap.size + 2, 2, none⟩ = some (.slice none 0 0) := cell_of_row w3 _ 2 _ _ _ hh2; have v0 : w3.cell? ⟨w.heap.size + 1 + 1, 0, none⟩ = some (.int .i64 0) := y0; have v1 : w3.cell? ⟨w.heap.size + 1 + 1, 1, none⟩ = some (.int .i64 0) := y1; have v2 : w3.cell? ⟨w.heap.size + 1 + 1, 2, none⟩ = some (.slice none 0 0) := y2; clear hh1 hh2; clear hhp hb3))
      refine bodyPost_ret (results_cell3 rfl _ _ (w.heap.size + 1) _ _ _ _ rfl (step_put ((Below.heap_setCell _ _ _ _ (by show w.heap.size + 1 ≠ F.mb; omega)).trans HH1.out)) Tryz.underlying40 infoStep) rfl ?_
      exact WoPost.no EJ.out (MP.around HX.out HB1.out (by omega) (by have := HSZ.out; omega) (MP.below2 HB3.out (MP.of ((HX1.out.below HB3.out).set_pos HMTB.out) (chg_set _ _ _ _ _ (.inl rfl)))) (chg_put _ _ _))
  by_cases c0 : bk = 0
  · subst c0
    by_cases hw : bw.length = 0
    · have EJ : Hid (exeM L sk m ⟨0, bl, bs, bw, blf, bx, bn⟩ = ({ m with pos := m.pos + 1 }, none, 0)) := by
        unfold Hid; rw [EX.out]; unfold exeT
        have : bw = [] := List.eq_nil_of_length_eq_zero hw
        simp [this]
      have hkz : k = 0 := HKL.out.trans hw
      subst hkz
      clear hw
      rcases bs with _ | _
      · go_enter Tryz.func39, Tryz.ntmps39
        go_upto_region 2 with (fail)
        rw [← HW1.out]
        go_wp2_with fail
        refine bodyPost_ret (results_cell3 rfl _ _ (w.heap.size + 1) _ _ _ _ rfl (step_put ((Below.heap_setCell _ _ _ _ (by show w.heap.size + 1 ≠ F.mb; omega)).trans H1.out)) Tryz.underlying40 infoStep) rfl ?_
        exact WoPost.no EJ.out (MP.around HX.out HB1.out (by omega) (by have := HSZ.out; omega) (MP.of (HX1.out.set_pos HSP.out) (chg_set _ _ _ _ _ (.inl rfl))) (chg_put _ _ _))
      · have hs2 : sk = false := by simpa using hsk
        subst hs2
        go_enter Tryz.func39, Tryz.ntmps39
        go_upto_region 2 with (fail)
        rw [← HW1.out]
        go_wp2_with fail
        refine bodyPost_ret (results_cell3 rfl _ _ (w.heap.size + 1) _ _ _ _ rfl (step_put ((Below.heap_setCell _ _ _ _ (by show w.heap.size + 1 ≠ F.mb; omega)).trans H1.out)) Tryz.underlying40 infoStep) rfl ?_
        exact WoPost.no EJ.out (MP.around HX.out HB1.out (by omega) (by have := HSZ.out; omega) (MP.of (HX1.out.set_pos HSP.out) (chg_set _ _ _ _ _ (.inl rfl))) (chg_put _ _ _))
    have hkp : 0 < k := by have := HKL.out; omega
    have hkp2 : decide (0 < k) = true := decide_eq_true hkp
    have hne : bw ≠ [] := fun e => hw (by rw [e]; rfl)
    have HC : Hid (Calls Tryz.prog 65 #[.pointer (some ⟨F.mb, 0, none⟩), .slice A k c] W1 (WoPost B { F with av := (w.heap.size + 1) :: F.av } L sk m (wordsM L m bw) W1)) :=
      words_any W1 B _ L sk m A k c bw HX1.out (HRW.out W1 (Below.refl _ _)).words hp hwl
    have EJ : Hid (exeM L sk m ⟨0, bl, bs, bw, blf, bx, bn⟩ = wordsM L m bw) := by unfold Hid; rw [EX.out]; unfold exeT; simp [hne]
    clear hne hw
    generalize wordsM L m bw = r at HC EJ
    obtain ⟨m', o, er⟩ := r
    rcases o with _ | l
    · rcases bs with _ | _
      · go_enter Tryz.func39, Tryz.ntmps39
        go_upto_region 2 with (fail)
        rw [← HW1.out]
        go_wp2_with (first | (go_at_call 65; refine HC.out.mono ?_; rintro e w3 ⟨v, rfl, hv, hmp⟩; obtain rfl : v = .agg #[.int .i64 0, .int .i64 0, .slice none 0 0] := hv; have KB2 : Hid (∀ g, w.heap.size ≤ g → g < W1.heap.size → w3.heap[g]? = W1.heap[g]?) := (by obtain ⟨F', k1, k2, k3⟩ := hmp; exact fun g h1 h2 => k3.block g (Nat.lt_of_lt_of_le h2 (Nat.le_refl _)) (HNO.out g h1 h2)); have hh1 := (KB2.out (w.heap.size + 1) (by omega) (by omega)).trans H1.out; have hh2 := (KB2.out (w.heap.size + 2) (by omega) (by omega)).trans H2.out; have HH1 := Lib.hid hh1; have t0 : w3.cell? ⟨w.heap.size + 1, 0, none⟩ = some (.int .i64 0) := cell_of_row w3 _ 0 _ _ _ hh1; have t1 : w3.cell? ⟨w.heap.size + 1, 1, none⟩ = some (.int .i64 0) := cell_of_row w3 _ 1 _ _ _ hh1; have t2 : w3.cell? ⟨w.heap.size + 1, 2, none⟩ = some (.slice none 0 0) := cell_of_row w3 _ 2 _ _ _ hh1; have tf : (∀ i, w3.frozen? ⟨w.heap.size + 1, i, none⟩ = false) := (fun i => by simp [World.frozen?, hh1]); have y0 : w3.cell? ⟨w.heap.size + 2, 0, none⟩ = some (.int .i64 0) := cell_of_row w3 _ 0 _ _ _ hh2; have y1 : w3.cell? ⟨w.heap.size + 2, 1, none⟩ = some (.int .i64 0) := cell_of_row w3 _ 1 _ _ _ hh2; have y2 : w3.cell? ⟨w.heap.size + 2, 2, none⟩ = some (.slice none 0 0) := cell_of_row w3 _ 2 _ _ _ hh2; have v0 : w3.cell? ⟨w.heap.size + 1 + 1, 0, none⟩ = some (.int .i64 0) := y0; have v1 : w3.cell? ⟨w.heap.size + 1 + 1, 1, none⟩ = some (.int .i64 0) := y1; have v2 : w3.cell? ⟨w.heap.size + 1 + 1, 2, none⟩ = some (.slice none 0 0) := y2; have HMP := Lib.hid hmp; clear hh1 hh2 hmp))
        refine bodyPost_ret (results_cell3 rfl _ _ (w.heap.size + 1) _ _ _ _ rfl (step_put HH1.out) Tryz.underlying40 infoStep) rfl ?_
        exact WoPost.no EJ.out (MP.around HX.out HB1.out (by omega) (by have := HSZ.out; omega) HMP.out (chg_put _ _ _))
      · have hs2 : sk = false := by simpa using hsk
        subst hs2
        go_enter Tryz.func39, Tryz.ntmps39
        go_upto_region 2 with (fail)
        rw [← HW1.out]
        go_wp2_with (first | (go_at_call 65; refine HC.out.mono ?_; rintro e w3 ⟨v, rfl, hv, hmp⟩; obtain rfl : v = .agg #[.int .i64 0, .int .i64 0, .slice none 0 0] := hv; have KB2 : Hid (∀ g, w.heap.size ≤ g → g < W1.heap.size → w3.heap[g]? = W1.heap[g]?) := (by obtain ⟨F', k1, k2, k3⟩ := hmp; exact fun g h1 h2 => k3.block g (Nat.lt_of_lt_of_le h2 (Nat.le_refl _)) (HNO.out g h1 h2)); have hh1 := (KB2.out (w.heap.size + 1) (by omega) (by omega)).trans H1.out; have hh2 := (KB2.out (w.heap.size + 2) (by omega) (by omega)).trans H2.out; have HH1 := Lib.hid hh1; have t0 : w3.cell? ⟨w.heap.size + 1, 0, none⟩ = some (.int .i64 0) := cell_of_row w3 _ 0 _ _ _ hh1; have t1 : w3.cell? ⟨w.heap.size + 1, 1, none⟩ = some (.int .i64 0) := cell_of_row w3 _ 1 _ _ _ hh1; have t2 : w3.cell? ⟨w.heap.size + 1, 2, none⟩ = some (.slice none 0 0) := cell_of_row w3 _ 2 _ _ _ hh1; have tf : (∀ i, w3.frozen? ⟨w.heap.size + 1, i, none⟩ = false) := (fun i => by simp [World.frozen?, hh1]); have y0 : w3.cell? ⟨w.heap.size + 2, 0, none⟩ = some (.int .i64 0) := cell_of_row w3 _ 0 _ _ _ hh2; have y1 : w3.cell? ⟨w.heap.size + 2, 1, none⟩ = some (.int .i64 0) := cell_of_row w3 _ 1 _ _ _ hh2; have y2 : w3.cell? ⟨w.heap.size + 2, 2, none⟩ = some (.slice none 0 0) := cell_of_row w3 _ 2 _ _ _ hh2; have v0 : w3.cell? ⟨w.heap.size + 1 + 1, 0, none⟩ = some (.int .i64 0) := y0; have v1 : w3.cell? ⟨w.heap.size + 1 + 1, 1, none⟩ = some (.int .i64 0) := y1; have v2 : w3.cell? ⟨w.heap.size + 1 + 1, 2, none⟩ = some (.slice none 0 0) := y2; have HMP := Lib.hid hmp; clear hh1 hh2 hmp))
        refine bodyPost_ret (results_cell3 rfl _ _ (w.heap.size + 1) _ _ _ _ rfl (step_put HH1.out) Tryz.underlying40 infoStep) rfl ?_
        exact WoPost.no EJ.out (MP.around HX.out HB1.out (by omega) (by have := HSZ.out; omega) HMP.out (chg_put _ _ _))
    · rcases bs with _ | _
      · go_enter Tryz.func39, Tryz.ntmps39
        go_upto_region 2 with (fail)
        rw [← HW1.out]
        go_wp2_with (first | (go_at_call 65; refine HC.out.mono ?_; rintro e w3 ⟨v, rfl, hv, hmp⟩; obtain ⟨C, cp, hve, hrv, hll⟩ : ∃ (C : Option Addr) (cp : Nat), v = .agg #[.int .i64 1, .int .i64 m.pos, .slice C l.length cp] ∧ RdV w3 (fun g => W1.heap.size ≤ g) C l.length l ∧ l.length ≤ 1000 := hv; subst hve; have HRV := Lib.hid hrv; have HLL := Lib.hid hll; clear hrv hll; have KB2 : Hid (∀ g, w.heap.size ≤ g → g < W1.heap.size → w3.heap[g]? = W1.heap[g]?) := (by obtain ⟨F', k1, k2, k3⟩ := hmp; exact fun g h1 h2 => k3.block g (Nat.lt_of_lt_of_le h2 (Nat.le_refl _)) (HNO.out g h1 h2)); have hh1 := (KB2.out (w.heap.size + 1) (by omega) (by omega)).trans H1.out; have hh2 := (KB2.out (w.heap.size + 2) (by omega) (by omega)).trans H2.out; have HH1 := Lib.hid hh1; have t0 : w3.cell? ⟨w.heap.size + 1, 0, none⟩ = some (.int .i64 0) := cell_of_row w3 _ 0 _ _ _ hh1; have t1 : w3.cell? ⟨w.heap.size + 1, 1, none⟩ = some (.int .i64 0) := cell_of_row w3 _ 1 _ _ _ hh1; have t2 : w3.cell? ⟨w.heap.size + 1, 2, none⟩ = some (.slice none 0 0) := cell_of_row w3 _ 2 _ _ _ hh1; have tf : (∀ i, w3.frozen? ⟨w.heap.size + 1, i, none⟩ = false) := (fun i => by simp [World.frozen?, hh1]); have y0 : w3.cell? ⟨w.heap.size + 2, 0, none⟩ = some (.int .i64 0) := cell_of_row w3 _ 0 _ _ _ hh2; have y1 : w3.cell? ⟨w.heap.size + 2, 1, none⟩ = some (.int .i64 0) := cell_of_row w3 _ 1 _ _ _ hh2; have y2 : w3.cell? ⟨w.heap.size + 2, 2, none⟩ = some (.slice none 0 0) := cell_of_row w3 _ 2 _ _ _ hh2; have v0 : w3.cell? ⟨w.heap.size + 1 + 1, 0, none⟩ = some (.int .i64 0) := y0; have v1 : w3.cell? ⟨w.heap.size + 1 + 1, 1, none⟩ = some (.int .i64 0) := y1; have v2 : w3.cell? ⟨w.heap.size + 1 + 1, 2, none⟩ = some (.slice none 0 0) := y2; have HMP := Lib.hid hmp; clear hh1 hh2 hmp))
        refine bodyPost_ret (results_cell3 rfl _ _ (w.heap.size + 1) _ _ _ _ rfl (step_put HH1.out) Tryz.underlying40 infoStep) rfl ?_
        refine ⟨_, by rw [EJ.out]; rfl, ?_, ?_⟩
        · rw [EJ.out]
          refine ⟨C, cp, rfl, HRV.out.keep (by simp [World.setCell]) (fun g _ q => by have := HSZ.out; omega) (fun g hg hI => (chg_put _ _ _).block g hg (by have := HSZ.out; omega)), HLL.out⟩
        · rw [EJ.out]
          exact MP.around HX.out HB1.out (by omega) (by have := HSZ.out; omega) HMP.out (chg_put _ _ _)
      · have hs2 : sk = false := by simpa using hsk
        subst hs2
        go_enter Tryz.func39, Tryz.ntmps39
        go_upto_region 2 with (fail)
        rw [← HW1.out]
        go_wp2_with (first | (go_at_call 65; refine HC.out.mono ?_; rintro e w3 ⟨v, rfl, hv, hmp⟩; obtain ⟨C, cp, hve, hrv, hll⟩ : ∃ (C : Option Addr) (cp : Nat), v = .agg #[.int .i64 1, .int .i64 m.pos, .slice C l.length cp] ∧ RdV w3 (fun g => W1.heap.size ≤ g) C l.length l ∧ l.length ≤ 1000 := hv; subst hve; have HRV := Lib.hid hrv; have HLL := Lib.hid hll; clear hrv hll; have KB2 : Hid (∀ g, w.heap.size ≤ g → g < W1.heap.size → w3.heap[g]? = W1.heap[g]?) := (by obtain ⟨F', k1, k2, k3⟩ := hmp; exact fun g h1 h2 => k3.block g (Nat.lt_of_lt_of_le h2 (Nat.le_refl _)) (HNO.out g h1 h2)); have hh1 := (KB2.out (w.heap.size + 1) (by omega) (by omega)).trans H1.out; have hh2 := (KB2.out (w.heap.size + 2) (by omega) (by omega)).trans H2.out; have HH1 := Lib.hid hh1; have t0 : w3.cell? ⟨w.heap.size + 1, 0, none⟩ = some (.int .i64 0) := cell_of_row w3 _ 0 _ _ _ hh1; have t1 : w3.cell? ⟨w.heap.size + 1, 1, none⟩ = some (.int .i64 0) := cell_of_row w3 _ 1 _ _ _ hh1; have t2 : w3.cell? ⟨w.heap.size + 1, 2, none⟩ = some (.slice none 0 0) := cell_of_row w3 _ 2 _ _ _ hh1; have tf : (∀ i, w3.frozen? ⟨w.heap.size + 1, i, none⟩ = false) := (fun i => by simp [World.frozen?, hh1]); have y0 : w3.cell? ⟨w.heap.size + 2, 0, none⟩ = some (.int .i64 0) := cell_of_row w3 _ 0 _ _ _ hh2; have y1 : w3.cell? ⟨w.heap.size + 2, 1, none⟩ = some (.int .i64 0) := cell_of_row w3 _ 1 _ _ _ hh2; have y2 : w3.cell? ⟨w.heap.size + 2, 2, none⟩ = some (.slice none 0 0) := cell_of_row w3 _ 2 _ _ _ hh2; have v0 : w3.cell? ⟨w.heap.size + 1 + 1, 0, none⟩ = some (.int .i64 0) := y0; have v1 : w3.cell? ⟨w.heap.size + 1 + 1, 1, none⟩ = some (.int .i64 0) := y1; have v2 : w3.cell? ⟨w.heap.size + 1 + 1, 2, none⟩ = some (.slice none 0 0) := y2; have HMP := Lib.hid hmp; clear hh1 hh2 hmp))
        refine bodyPost_ret (results_cell3 rfl _ _ (w.heap.size + 1) _ _ _ _ rfl (step_put HH1.out) Tryz.underlying40 infoStep) rfl ?_
        refine ⟨_, by rw [EJ.out]; rfl, ?_, ?_⟩
        · rw [EJ.out]
          refine ⟨C, cp, rfl, HRV.out.keep (by simp [World.setCell]) (fun g _ q => by have := HSZ.out; omega) (fun g hg hI => (chg_put _ _ _).block g hg (by have := HSZ.out; omega)), HLL.out⟩
        · rw [EJ.out]
          exact MP.around HX.out HB1.out (by omega) (by have := HSZ.out; omega) HMP.out (chg_put _ _ _)
  have EJ : Hid (exeM L sk m ⟨bk, bl, bs, bw, blf, bx, bn⟩ = ({ m with pos := m.pos + 1 }, none, 0)) := by
    unfold Hid; rw [EX.out]; unfold exeT; simp [c0, c1, c2, c3, c4, c5]
  have k0 : (bk == 0) = false := by simpa using c0
  have k1 : (bk == 1) = false := by simpa using c1
  have k2 : (bk == 2) = false := by simpa using c2
  have k3 : (bk == 3) = false := by simpa using c3
  have k4 : (bk == 4) = false := by simpa using c4
  have k5 : (bk == 5) = false := by simpa using c5
  clear c0 c1 c2 c3 c4 c5
  rcases bs with _ | _
  · go_enter Tryz.func39, Tryz.ntmps39
    go_upto_region 2 with (fail)
    rw [← HW1.out]
    go_wp2_with fail
    refine bodyPost_ret (results_cell3 rfl _ _ (w.heap.size + 1) _ _ _ _ rfl (step_put ((Below.heap_setCell _ _ _ _ (by show w.heap.size + 1 ≠ F.mb; omega)).trans H1.out)) Tryz.underlying40 infoStep) rfl ?_
    exact WoPost.no EJ.out (MP.around HX.out HB1.out (by omega) (by have := HSZ.out; omega) (MP.of (HX1.out.set_pos HSP.out) (chg_set _ _ _ _ _ (.inl rfl))) (chg_put _ _ _))
  · have hs2 : sk = false := by simpa using hsk
    subst hs2
    go_enter Tryz.func39, Tryz.ntmps39
    go_upto_region 2 with (fail)
    rw [← HW1.out]
    go_wp2_with fail
    refine bodyPost_ret (results_cell3 rfl _ _ (w.heap.size + 1) _ _ _ _ rfl (step_put ((Below.heap_setCell _ _ _ _ (by show w.heap.size + 1 ≠ F.mb; omega)).trans H1.out)) Tryz.underlying40 infoStep) rfl ?_
    exact WoPost.no EJ.out (MP.around HX.out HB1.out (by omega) (by have := HSZ.out; omega) (MP.of (HX1.out.set_pos HSP.out) (chg_set _ _ _ _ _ (.inl rfl))) (chg_put _ _ _))
end Go.Proofs.YtdcjbhdfphcefaaGreatDoor
