/- The contract of flow's execute, at conditional jumps. Conditions: see MX; the block reads as plain data. -/
import Derived.Test.YtdcjbhdfphcefaaGreatDoorXma
namespace Go.Proofs.YtdcjbhdfphcefaaGreatDoor
set_option linter.unusedVariables false
set_option linter.unusedSimpArgs false
open Go.RowKit

set_option maxRecDepth 100000 in
set_option maxHeartbeats 4000000 in
theorem exe_if (w : World) (B : Nat) (F : Fp) (L : Lb) (sk : Bool) (m : MS) (b : Bk) (A : Option Addr) (k c : Nat) (l0 l1 l2 x0 x1 x2 : Value) (h : MX w B F L sk m) (hr : RdB w B b A k l0 l1 l2 x0 x1 x2) (hp : 0 ≤ m.pos ∧ m.pos ≤ 1000000) (hwl : b.words.length ≤ 1000) (hsk : (b.skip && sk) = false) (c3 : b.kind = 3) :
    Calls Tryz.prog 39 #[.pointer (some ⟨F.mb, 0, none⟩), .agg ⟨cellsB b A k c l0 l1 l2 x0 x1 x2⟩] w (WoPost B F L sk m (exeM L sk m b) w) := by
  have HX := Lib.hid h
  have HR := Lib.hid hr
  have hBle := h.Ble
  have hmb := h.lt
  obtain ⟨A1, A2, A3, AC, c1, c2, c3, capc, xs, ⟨-, -, -, d3, -, d5, -, d7, -, -, -⟩, -, -, -, -, hfr⟩ := h.cells
  obtain ⟨W1, hW1⟩ : ∃ W1, W1 = ((w.alloc (.cells ⟨cellsB b A k c l0 l1 l2 x0 x1 x2⟩ 54)).alloc (.cells stepZ 40)).alloc (.cells stepZ 40) := ⟨_, rfl⟩
  have HB1 : Hid (Below w.heap.size w W1) := by unfold Hid; rw [hW1]; exact (((Below.refl _ _).alloc (Nat.le_refl _) _).alloc (by simp) _).alloc (by simp; omega) _
  have h0 : W1.heap[w.heap.size]? = some (.cells ⟨cellsB b A k c l0 l1 l2 x0 x1 x2⟩ 54 (0, 0)) := by rw [hW1]; exact (Below.heap_alloc _ _ _ (by simp; omega)).trans ((Below.heap_alloc _ _ _ (by simp)).trans (heap_alloc_new w _))
  have h1 : W1.heap[w.heap.size + 1]? = some (.cells stepZ 40 (0, 0)) := by
    rw [hW1]
    refine (Below.heap_alloc _ _ _ (by simp)).trans ?_
    have := heap_alloc_new (w.alloc (.cells ⟨cellsB b A k c l0 l1 l2 x0 x1 x2⟩ 54)) (.cells stepZ 40)
    simpa using this
  have h2 : W1.heap[w.heap.size + 2]? = some (.cells stepZ 40 (0, 0)) := by
    rw [hW1]
    have := heap_alloc_new ((w.alloc (.cells ⟨cellsB b A k c l0 l1 l2 x0 x1 x2⟩ 54)).alloc (.cells stepZ 40)) (.cells stepZ 40)
    simpa using this
  have H0 := Lib.hid h0; have H1 := Lib.hid h1; have H2 := Lib.hid h2
  have hsz : w.heap.size + 2 < W1.heap.size := hlS h2
  have q := fun j => cell_of_row W1 w.heap.size j _ _ _ h0
  have b0 : W1.cell? ⟨w.heap.size, 0, none⟩ = some (.int .i64 b.kind) := (q 0).trans rfl
  have b1 : W1.cell? ⟨w.heap.size, 1, none⟩ = some (.int .i64 b.label) := (q 1).trans rfl
  have b2 : W1.cell? ⟨w.heap.size, 2, none⟩ = some (.bool b.skip) := (q 2).trans rfl
  have b3 : W1.cell? ⟨w.heap.size, 3, none⟩ = some (.slice A k c) := (q 3).trans rfl
  have b4 : W1.cell? ⟨w.heap.size, 4, none⟩ = some l0 := (q 4).trans rfl
  have b5 : W1.cell? ⟨w.heap.size, 5, none⟩ = some l1 := (q 5).trans rfl
  have b6 : W1.cell? ⟨w.heap.size, 6, none⟩ = some l2 := (q 6).trans rfl
  have b7 : W1.cell? ⟨w.heap.size, 7, none⟩ = some x0 := (q 7).trans rfl
  have b8 : W1.cell? ⟨w.heap.size, 8, none⟩ = some x1 := (q 8).trans rfl
  have b9 : W1.cell? ⟨w.heap.size, 9, none⟩ = some x2 := (q 9).trans rfl
  have b10 : W1.cell? ⟨w.heap.size, 10, none⟩ = some (.int .i64 b.n) := (q 10).trans rfl
  have s0 : W1.cell? ⟨w.heap.size + 1, 0, none⟩ = some (.int .i64 0) := cell_of_row W1 _ 0 _ _ _ h1
  have s1 : W1.cell? ⟨w.heap.size + 1, 1, none⟩ = some (.int .i64 0) := cell_of_row W1 _ 1 _ _ _ h1
  have s2 : W1.cell? ⟨w.heap.size + 1, 2, none⟩ = some (.slice none 0 0) := cell_of_row W1 _ 2 _ _ _ h1
  have sf : ∀ i, W1.frozen? ⟨w.heap.size + 1, i, none⟩ = false := fun i => by simp [World.frozen?, h1]
  have z0 : W1.cell? ⟨w.heap.size + 2, 0, none⟩ = some (.int .i64 0) := cell_of_row W1 _ 0 _ _ _ h2
  have z1 : W1.cell? ⟨w.heap.size + 2, 1, none⟩ = some (.int .i64 0) := cell_of_row W1 _ 1 _ _ _ h2
  have z2 : W1.cell? ⟨w.heap.size + 2, 2, none⟩ = some (.slice none 0 0) := cell_of_row W1 _ 2 _ _ _ h2
  have e3 := (HB1.out.cell (p := ⟨F.mb, 3, none⟩) hmb).trans d3
  have e5 := (HB1.out.cell (p := ⟨F.mb, 5, none⟩) hmb).trans d5
  have e7 := (HB1.out.cell (p := ⟨F.mb, 7, none⟩) hmb).trans d7
  have ef5 : W1.frozen? ⟨F.mb, 5, none⟩ = false := (World.frozen?_of_block (a := ⟨F.mb, 5, none⟩) (HB1.out.block _ hmb)).trans (hfr 5)
  have HX1 := Lib.hid (h.hide (s := w.heap.size + 1) HB1.out (by omega) (by omega))
  have hmb1 : F.mb < W1.heap.size := Nat.lt_of_lt_of_le hmb HB1.out.size
  have HRW : Hid (∀ W, Below W1.heap.size W1 W → RdB W B b A k l0 l1 l2 x0 x1 x2) := fun W hb => hr.keep (fun p hq => (hb.cell (by omega)).trans (HB1.out.cell (by omega))) (Nat.le_refl _)
  have HNO : Hid (∀ g, w.heap.size ≤ g → g < W1.heap.size → ¬ ({ F with av := (w.heap.size + 1) :: F.av } : Fp).own g) := fun g h1 h2 ho => by
    have : F.own g := ho
    have := (HX.out.own_ge g this).2
    omega
  have HSP : Hid (I64 (m.pos + 1)) := by unfold Hid I64; omega
  have HW1 : Hid (W1 = ((w.alloc (.cells ⟨cellsB b A k c l0 l1 l2 x0 x1 x2⟩ 54)).alloc (.cells #[.int .i64 0, .int .i64 0, .slice none 0 0] 40)).alloc (.cells #[.int .i64 0, .int .i64 0, .slice none 0 0] 40)) := hW1
  have HSZ := Lib.hid hsz
  clear hW1 h0 h1 h2 q h hr hfr d3 d5 d7
  obtain ⟨bk, bl, bs, bw, blf, bx, bn⟩ := b
  dsimp only at b0 b1 b2 b10 hwl
  have HKL : Hid (k = bw.length) := (HRW.out W1 (Below.refl _ _)).words.1
  have hsz := HSZ.out
  try dsimp only at hsk c0 c1 c2 c3 c4
  have EX : Hid (exeM L sk m ⟨bk, bl, bs, bw, blf, bx, bn⟩ = exeT L m ⟨bk, bl, bs, bw, blf, bx, bn⟩) := by unfold Hid exeM exeT; dsimp only; rw [hsk]; rfl
  have HMB1 : Hid (F.mb < W1.heap.size) := hmb1
  have HS1 : Hid (w.heap.size < W1.heap.size) := by unfold Hid; omega
  have HMTB : Hid (I64 (mateS L m.pos)) := by have := mate_bd HX.out.fine m.pos; unfold Hid I64; omega
  have HMTC : Hid (I64 (mateS L m.pos + 1)) := by have := mate_bd HX.out.fine m.pos; unfold Hid I64; omega
  have hmtb := mate_bd HX.out.fine m.pos
  have HEV : Hid (∀ W, Below W1.heap.size W1 W → Calls Tryz.prog 62 #[.agg #[x0, x1, x2], .pointer (some ⟨F.sb, 0, none⟩)] W fun e w' => e = .returned (.tuple #[.int .i64 (EvalS (getS m.sto.f) bx).1, .int .i64 (EvalS (getS m.sto.f) bx).2]) ∧ Below W.heap.size W w') :=
    fun W hb => HX1.out.eval bx _ (HRW.out W1 (Below.refl _ _)).x W hb
  generalize hE : EvalS (getS m.sto.f) bx = ev at HEV
  obtain ⟨nv, er⟩ := ev
  have HE := Lib.hid hE
  clear hE
  subst c3
  have EX2 : Hid (exeM L sk m ⟨3, bl, bs, bw, blf, bx, bn⟩ = (if er ≠ 0 then (m, none, er) else if nv ≠ 0 then ((jumpM L m blf).1, none, (jumpM L m blf).2) else ({ m with pos := m.pos + 1 }, none, 0))) := by
    unfold Hid; rw [EX.out]; unfold exeT; simp [HE.out]
  by_cases he : er = 0
  case neg =>
    have he' : (er != 0) = true := by simpa using he
    have EJ : Hid (exeM L sk m ⟨3, bl, bs, bw, blf, bx, bn⟩ = (m, none, er)) := by unfold Hid; rw [EX2.out, if_pos he]
    clear he
    rcases bs with _ | _
    · go_enter Tryz.func39, Tryz.ntmps39
      go_upto_region 2 with (fail)
      rw [← HW1.out]
      go_wp2_with fail
      go_region_held3 (fun W => W.cell? ⟨w.heap.size, 7, none⟩ = some x0 ∧ W.cell? ⟨w.heap.size, 8, none⟩ = some x1 ∧ W.cell? ⟨w.heap.size, 9, none⟩ = some x2 ∧ W.cell? ⟨F.mb, 7, none⟩ = some (.pointer (some ⟨F.sb, 0, none⟩))) (first | exact ⟨b7, b8, b9, e7⟩ | exact ⟨(HN.out.cell (p := ⟨w.heap.size, 7, none⟩) HS1.out).trans b7, (HN.out.cell (p := ⟨w.heap.size, 8, none⟩) HS1.out).trans b8, (HN.out.cell (p := ⟨w.heap.size, 9, none⟩) HS1.out).trans b9, (HN.out.cell (p := ⟨F.mb, 7, none⟩) HMB1.out).trans e7⟩ | fail) (first | (go_at_call 62; refine (HEV.out _ (below_dn (Below.refl _ _) 1)).mono ?_; rintro e w2 ⟨rfl, hb2⟩; have HN : Hid (Below W1.heap.size W1 w2) := ⟨hb2.os, hb2.tape, hb2.output, hb2.size, hb2.block⟩; clear hb2))
      have HB2 := Lib.hid (HB1.out.trans (HN.out.mono HB1.out.size))
      have HSZ2' : W1.heap.size ≤ w2.heap.size := HN.out.size
      have hh1 := (HN.out.block _ (show w.heap.size + 1 < W1.heap.size by omega)).trans H1.out
      have hh2 := (HN.out.block _ hsz).trans H2.out
      have b0' := (HN.out.cell (p := ⟨w.heap.size, 0, none⟩) HS1.out).trans b0
      have b4' := (HN.out.cell (p := ⟨w.heap.size, 4, none⟩) HS1.out).trans b4
      have b5' := (HN.out.cell (p := ⟨w.heap.size, 5, none⟩) HS1.out).trans b5
      have b6' := (HN.out.cell (p := ⟨w.heap.size, 6, none⟩) HS1.out).trans b6
      have e5' := (HN.out.cell (p := ⟨F.mb, 5, none⟩) HMB1.out).trans e5
      have ef5' := (World.frozen?_of_block (a := ⟨F.mb, 5, none⟩) (HN.out.block _ HMB1.out)).trans ef5
      have s0' : w2.cell? ⟨w.heap.size + 1, 0, none⟩ = some (.int .i64 0) := cell_of_row w2 _ 0 _ _ _ hh1
      have s1' : w2.cell? ⟨w.heap.size + 1, 1, none⟩ = some (.int .i64 0) := cell_of_row w2 _ 1 _ _ _ hh1
      have s2' : w2.cell? ⟨w.heap.size + 1, 2, none⟩ = some (.slice none 0 0) := cell_of_row w2 _ 2 _ _ _ hh1
      have sf' : ∀ i, w2.frozen? ⟨w.heap.size + 1, i, none⟩ = false := fun i => by simp [World.frozen?, hh1]
      have z0' : w2.cell? ⟨w.heap.size + 2, 0, none⟩ = some (.int .i64 0) := cell_of_row w2 _ 0 _ _ _ hh2
      have z1' : w2.cell? ⟨w.heap.size + 2, 1, none⟩ = some (.int .i64 0) := cell_of_row w2 _ 1 _ _ _ hh2
      have z2' : w2.cell? ⟨w.heap.size + 2, 2, none⟩ = some (.slice none 0 0) := cell_of_row w2 _ 2 _ _ _ hh2
      have v0' : w2.cell? ⟨w.heap.size + 1 + 1, 0, none⟩ = some (.int .i64 0) := z0'
      have v1' : w2.cell? ⟨w.heap.size + 1 + 1, 1, none⟩ = some (.int .i64 0) := z1'
      have v2' : w2.cell? ⟨w.heap.size + 1 + 1, 2, none⟩ = some (.slice none 0 0) := z2'
      have G1 := Lib.hid hh1
      have G2 := Lib.hid hh2
      have HX2 := Lib.hid (HX1.out.below HN.out)
      have hmb2 : F.mb < w2.heap.size := Nat.lt_of_lt_of_le hmb1 HN.out.size
      clear hh1 hh2 b0 b1 b2 b3 b4 b5 b6 b7 b8 b9 b10 s0 s1 s2 sf z0 z1 z2 e3 e5 e7 ef5
      go_wp2_with fail
      refine bodyPost_ret (results_cell3 rfl _ _ (w.heap.size + 1) _ _ _ _ rfl (step_put G1.out) Tryz.underlying40 infoStep) rfl ?_
      exact WoPost.no EJ.out (MP.around HX.out HB2.out (by omega) (by have := HSZ.out; omega) (MP.below HX2.out (Below.refl _ _)) (chg_put _ _ _))
    · have hs2 : sk = false := by simpa using hsk
      subst hs2
      go_enter Tryz.func39, Tryz.ntmps39
      go_upto_region 2 with (fail)
      rw [← HW1.out]
      go_wp2_with fail
      go_region_held3 (fun W => W.cell? ⟨w.heap.size, 7, none⟩ = some x0 ∧ W.cell? ⟨w.heap.size, 8, none⟩ = some x1 ∧ W.cell? ⟨w.heap.size, 9, none⟩ = some x2 ∧ W.cell? ⟨F.mb, 7, none⟩ = some (.pointer (some ⟨F.sb, 0, none⟩))) (first | exact ⟨b7, b8, b9, e7⟩ | exact ⟨(HN.out.cell (p := ⟨w.heap.size, 7, none⟩) HS1.out).trans b7, (HN.out.cell (p := ⟨w.heap.size, 8, none⟩) HS1.out).trans b8, (HN.out.cell (p := ⟨w.heap.size, 9, none⟩) HS1.out).trans b9, (HN.out.cell (p := ⟨F.mb, 7, none⟩) HMB1.out).trans e7⟩ | fail) (first | (go_at_call 62; refine (HEV.out _ (below_dn (Below.refl _ _) 1)).mono ?_; rintro e w2 ⟨rfl, hb2⟩; have HN : Hid (Below W1.heap.size W1 w2) := ⟨hb2.os, hb2.tape, hb2.output, hb2.size, hb2.block⟩; clear hb2))
      have HB2 := Lib.hid (HB1.out.trans (HN.out.mono HB1.out.size))
      have HSZ2' : W1.heap.size ≤ w2.heap.size := HN.out.size
      have hh1 := (HN.out.block _ (show w.heap.size + 1 < W1.heap.size by omega)).trans H1.out
      have hh2 := (HN.out.block _ hsz).trans H2.out
      have b0' := (HN.out.cell (p := ⟨w.heap.size, 0, none⟩) HS1.out).trans b0
      have b4' := (HN.out.cell (p := ⟨w.heap.size, 4, none⟩) HS1.out).trans b4
      have b5' := (HN.out.cell (p := ⟨w.heap.size, 5, none⟩) HS1.out).trans b5
      have b6' := (HN.out.cell (p := ⟨w.heap.size, 6, none⟩) HS1.out).trans b6
      have e5' := (HN.out.cell (p := ⟨F.mb, 5, none⟩) HMB1.out).trans e5
      have ef5' := (World.frozen?_of_block (a := ⟨F.mb, 5, none⟩) (HN.out.block _ HMB1.out)).trans ef5
      have s0' : w2.cell? ⟨w.heap.size + 1, 0, none⟩ = some (.int .i64 0) := cell_of_row w2 _ 0 _ _ _ hh1
      have s1' : w2.cell? ⟨w.heap.size + 1, 1, none⟩ = some (.int .i64 0) := cell_of_row w2 _ 1 _ _ _ hh1
      have s2' : w2.cell? ⟨w.heap.size + 1, 2, none⟩ = some (.slice none 0 0) := cell_of_row w2 _ 2 _ _ _ hh1
      have sf' : ∀ i, w2.frozen? ⟨w.heap.size + 1, i, none⟩ = false := fun i => by simp [World.frozen?, hh1]
      have z0' : w2.cell? ⟨w.heap.size + 2, 0, none⟩ = some (.int .i64 0) := cell_of_row w2 _ 0 _ _ _ hh2
      have z1' : w2.cell? ⟨w.heap.size + 2, 1, none⟩ = some (.int .i64 0) := cell_of_row w2 _ 1 _ _ _ hh2
      have z2' : w2.cell? ⟨w.heap.size + 2, 2, none⟩ = some (.slice none 0 0) := cell_of_row w2 _ 2 _ _ _ hh2
      have v0' : w2.cell? ⟨w.heap.size + 1 + 1, 0, none⟩ = some (.int .i64 0) := z0'
      have v1' : w2.cell? ⟨w.heap.size + 1 + 1, 1, none⟩ = some (.int .i64 0) := z1'
      have v2' : w2.cell? ⟨w.heap.size + 1 + 1, 2, none⟩ = some (.slice none 0 0) := z2'
      have G1 := Lib.hid hh1
      have G2 := Lib.hid hh2
      have HX2 := Lib.hid (HX1.out.below HN.out)
      have hmb2 : F.mb < w2.heap.size := Nat.lt_of_lt_of_le hmb1 HN.out.size
      clear hh1 hh2 b0 b1 b2 b3 b4 b5 b6 b7 b8 b9 b10 s0 s1 s2 sf z0 z1 z2 e3 e5 e7 ef5
      go_wp2_with fail
      refine bodyPost_ret (results_cell3 rfl _ _ (w.heap.size + 1) _ _ _ _ rfl (step_put G1.out) Tryz.underlying40 infoStep) rfl ?_
      exact WoPost.no EJ.out (MP.around HX.out HB2.out (by omega) (by have := HSZ.out; omega) (MP.below HX2.out (Below.refl _ _)) (chg_put _ _ _))
  have he' : (er != 0) = false := by simpa using he
  subst he
  by_cases hn : nv = 0
  · have hn' : (nv != 0) = false := by simpa using hn
    have EJ : Hid (exeM L sk m ⟨3, bl, bs, bw, blf, bx, bn⟩ = ({ m with pos := m.pos + 1 }, none, 0)) := by unfold Hid; rw [EX2.out, if_neg (by omega), if_neg (by omega)]
    clear hn
    rcases bs with _ | _
    · go_enter Tryz.func39, Tryz.ntmps39
      go_upto_region 2 with (fail)
      rw [← HW1.out]
      go_wp2_with fail
      go_region_held3 (fun W => W.cell? ⟨w.heap.size, 7, none⟩ = some x0 ∧ W.cell? ⟨w.heap.size, 8, none⟩ = some x1 ∧ W.cell? ⟨w.heap.size, 9, none⟩ = some x2 ∧ W.cell? ⟨F.mb, 7, none⟩ = some (.pointer (some ⟨F.sb, 0, none⟩))) (first | exact ⟨b7, b8, b9, e7⟩ | exact ⟨(HN.out.cell (p := ⟨w.heap.size, 7, none⟩) HS1.out).trans b7, (HN.out.cell (p := ⟨w.heap.size, 8, none⟩) HS1.out).trans b8, (HN.out.cell (p := ⟨w.heap.size, 9, none⟩) HS1.out).trans b9, (HN.out.cell (p := ⟨F.mb, 7, none⟩) HMB1.out).trans e7⟩ | fail) (first | (go_at_call 62; refine (HEV.out _ (below_dn (Below.refl _ _) 1)).mono ?_; rintro e w2 ⟨rfl, hb2⟩; have HN : Hid (Below W1.heap.size W1 w2) := ⟨hb2.os, hb2.tape, hb2.output, hb2.size, hb2.block⟩; clear hb2))
      have HB2 := Lib.hid (HB1.out.trans (HN.out.mono HB1.out.size))
      have HSZ2' : W1.heap.size ≤ w2.heap.size := HN.out.size
      have hh1 := (HN.out.block _ (show w.heap.size + 1 < W1.heap.size by omega)).trans H1.out
      have hh2 := (HN.out.block _ hsz).trans H2.out
      have b0' := (HN.out.cell (p := ⟨w.heap.size, 0, none⟩) HS1.out).trans b0
      have b4' := (HN.out.cell (p := ⟨w.heap.size, 4, none⟩) HS1.out).trans b4
      have b5' := (HN.out.cell (p := ⟨w.heap.size, 5, none⟩) HS1.out).trans b5
      have b6' := (HN.out.cell (p := ⟨w.heap.size, 6, none⟩) HS1.out).trans b6
      have e5' := (HN.out.cell (p := ⟨F.mb, 5, none⟩) HMB1.out).trans e5
      have ef5' := (World.frozen?_of_block (a := ⟨F.mb, 5, none⟩) (HN.out.block _ HMB1.out)).trans ef5
      have s0' : w2.cell? ⟨w.heap.size + 1, 0, none⟩ = some (.int .i64 0) := cell_of_row w2 _ 0 _ _ _ hh1
      have s1' : w2.cell? ⟨w.heap.size + 1, 1, none⟩ = some (.int .i64 0) := cell_of_row w2 _ 1 _ _ _ hh1
      have s2' : w2.cell? ⟨w.heap.size + 1, 2, none⟩ = some (.slice none 0 0) := cell_of_row w2 _ 2 _ _ _ hh1
      have sf' : ∀ i, w2.frozen? ⟨w.heap.size + 1, i, none⟩ = false := fun i => by simp [World.frozen?, hh1]
      have z0' : w2.cell? ⟨w.heap.size + 2, 0, none⟩ = some (.int .i64 0) := cell_of_row w2 _ 0 _ _ _ hh2
      have z1' : w2.cell? ⟨w.heap.size + 2, 1, none⟩ = some (.int .i64 0) := cell_of_row w2 _ 1 _ _ _ hh2
      have z2' : w2.cell? ⟨w.heap.size + 2, 2, none⟩ = some (.slice none 0 0) := cell_of_row w2 _ 2 _ _ _ hh2
      have v0' : w2.cell? ⟨w.heap.size + 1 + 1, 0, none⟩ = some (.int .i64 0) := z0'
      have v1' : w2.cell? ⟨w.heap.size + 1 + 1, 1, none⟩ = some (.int .i64 0) := z1'
      have v2' : w2.cell? ⟨w.heap.size + 1 + 1, 2, none⟩ = some (.slice none 0 0) := z2'
      have G1 := Lib.hid hh1
      have G2 := Lib.hid hh2
      have HX2 := Lib.hid (HX1.out.below HN.out)
      have hmb2 : F.mb < w2.heap.size := Nat.lt_of_lt_of_le hmb1 HN.out.size
      clear hh1 hh2 b0 b1 b2 b3 b4 b5 b6 b7 b8 b9 b10 s0 s1 s2 sf z0 z1 z2 e3 e5 e7 ef5
      go_wp2_with (go_at_call 63; refine (truth_any _ _).mono ?_; rintro e w' ⟨rfl, rfl⟩)
      refine bodyPost_ret (results_cell3 rfl _ _ (w.heap.size + 1) _ _ _ _ rfl (step_put ((Below.heap_setCell _ _ _ _ (by show w.heap.size + 1 ≠ F.mb; omega)).trans G1.out)) Tryz.underlying40 infoStep) rfl ?_
      exact WoPost.no EJ.out (MP.around HX.out HB2.out (by omega) (by have := HSZ.out; omega) (MP.of (HX2.out.set_pos HSP.out) (chg_set _ _ _ _ _ (.inl rfl))) (chg_put _ _ _))
    · have hs2 : sk = false := by simpa using hsk
      subst hs2
      go_enter Tryz.func39, Tryz.ntmps39
      go_upto_region 2 with (fail)
      rw [← HW1.out]
      go_wp2_with fail
      go_region_held3 (fun W => W.cell? ⟨w.heap.size, 7, none⟩ = some x0 ∧ W.cell? ⟨w.heap.size, 8, none⟩ = some x1 ∧ W.cell? ⟨w.heap.size, 9, none⟩ = some x2 ∧ W.cell? ⟨F.mb, 7, none⟩ = some (.pointer (some ⟨F.sb, 0, none⟩))) (first | exact ⟨b7, b8, b9, e7⟩ | exact ⟨(HN.out.cell (p := ⟨w.heap.size, 7, none⟩) HS1.out).trans b7, (HN.out.cell (p := ⟨w.heap.size, 8, none⟩) HS1.out).trans b8, (HN.out.cell (p := ⟨w.heap.size, 9, none⟩) HS1.out).trans b9, (HN.out.cell (p := ⟨F.mb, 7, none⟩) HMB1.out).trans e7⟩ | fail) (first | (go_at_call 62; refine (HEV.out _ (below_dn (Below.refl _ _) 1)).mono ?_; rintro e w2 ⟨rfl, hb2⟩; have HN : Hid (Below W1.heap.size W1 w2) := ⟨hb2.os, hb2.tape, hb2.output, hb2.size, hb2.block⟩; clear hb2))
      have HB2 := Lib.hid (HB1.out.trans (HN.out.mono HB1.out.size))
      have HSZ2' : W1.heap.size ≤ w2.heap.size := HN.out.size
      have hh1 := (HN.out.block _ (show w.heap.size + 1 < W1.heap.size by omega)).trans H1.out
      have hh2 := (HN.out.block _ hsz).trans H2.out
      have b0' := (HN.out.cell (p := ⟨w.heap.size, 0, none⟩) HS1.out).trans b0
      have b4' := (HN.out.cell (p := ⟨w.heap.size, 4, none⟩) HS1.out).trans b4
      have b5' := (HN.out.cell (p := ⟨w.heap.size, 5, none⟩) HS1.out).trans b5
      have b6' := (HN.out.cell (p := ⟨w.heap.size, 6, none⟩) HS1.out).trans b6
      have e5' := (HN.out.cell (p := ⟨F.mb, 5, none⟩) HMB1.out).trans e5
      have ef5' := (World.frozen?_of_block (a := ⟨F.mb, 5, none⟩) (HN.out.block _ HMB1.out)).trans ef5
      have s0' : w2.cell? ⟨w.heap.size + 1, 0, none⟩ = some (.int .i64 0) := cell_of_row w2 _ 0 _ _ _ hh1
      have s1' : w2.cell? ⟨w.heap.size + 1, 1, none⟩ = some (.int .i64 0) := cell_of_row w2 _ 1 _ _ _ hh1
      have s2' : w2.cell? ⟨w.heap.size + 1, 2, none⟩ = some (.slice none 0 0) := cell_of_row w2 _ 2 _ _ _ hh1
      have sf' : ∀ i, w2.frozen? ⟨w.heap.size + 1, i, none⟩ = false := fun i => by simp [World.frozen?, hh1]
      have z0' : w2.cell? ⟨w.heap.size + 2, 0, none⟩ = some (.int .i64 0) := cell_of_row w2 _ 0 _ _ _ hh2
      have z1' : w2.cell? ⟨w.heap.size + 2, 1, none⟩ = some (.int .i64 0) := cell_of_row w2 _ 1 _ _ _ hh2
      have z2' : w2.cell? ⟨w.heap.size + 2, 2, none⟩ = some (.slice none 0 0) := cell_of_row w2 _ 2 _ _ _ hh2
      have v0' : w2.cell? ⟨w.heap.size + 1 + 1, 0, none⟩ = some (.int .i64 0) := z0'
      have v1' : w2.cell? ⟨w.heap.size + 1 + 1, 1, none⟩ = some (.int .i64 0) := z1'
      have v2' : w2.cell? ⟨w.heap.size + 1 + 1, 2, none⟩ = some (.slice none 0 0) := z2'
      have G1 := Lib.hid hh1
      have G2 := Lib.hid hh2
      have HX2 := Lib.hid (HX1.out.below HN.out)
      have hmb2 : F.mb < w2.heap.size := Nat.lt_of_lt_of_le hmb1 HN.out.size
      clear hh1 hh2 b0 b1 b2 b3 b4 b5 b6 b7 b8 b9 b10 s0 s1 s2 sf z0 z1 z2 e3 e5 e7 ef5
      go_wp2_with (go_at_call 63; refine (truth_any _ _).mono ?_; rintro e w' ⟨rfl, rfl⟩)
      refine bodyPost_ret (results_cell3 rfl _ _ (w.heap.size + 1) _ _ _ _ rfl (step_put ((Below.heap_setCell _ _ _ _ (by show w.heap.size + 1 ≠ F.mb; omega)).trans G1.out)) Tryz.underlying40 infoStep) rfl ?_
      exact WoPost.no EJ.out (MP.around HX.out HB2.out (by omega) (by have := HSZ.out; omega) (MP.of (HX2.out.set_pos HSP.out) (chg_set _ _ _ _ _ (.inl rfl))) (chg_put _ _ _))
  · have hn' : (nv != 0) = true := by simpa using hn
    have EJ : Hid (exeM L sk m ⟨3, bl, bs, bw, blf, bx, bn⟩ = ((jumpM L m blf).1, none, (jumpM L m blf).2)) := by unfold Hid; rw [EX2.out, if_neg (by omega), if_pos hn]
    have HC : Hid (∀ W, Below W1.heap.size W1 W → Calls Tryz.prog 61 #[.pointer (some ⟨F.mb, 0, none⟩), .agg #[l0, l1, l2]] W (JmPost B { F with av := (w.heap.size + 1) :: F.av } L sk m blf W)) :=
      fun W hb => jump_any W B _ L sk m blf _ (HX1.out.below hb) (HRW.out W hb).left
    clear hn
    rcases bs with _ | _
    · go_enter Tryz.func39, Tryz.ntmps39
      go_upto_region 2 with (fail)
      rw [← HW1.out]
      go_wp2_with fail
      go_region_held3 (fun W => W.cell? ⟨w.heap.size, 7, none⟩ = some x0 ∧ W.cell? ⟨w.heap.size, 8, none⟩ = some x1 ∧ W.cell? ⟨w.heap.size, 9, none⟩ = some x2 ∧ W.cell? ⟨F.mb, 7, none⟩ = some (.pointer (some ⟨F.sb, 0, none⟩))) (first | exact ⟨b7, b8, b9, e7⟩ | exact ⟨(HN.out.cell (p := ⟨w.heap.size, 7, none⟩) HS1.out).trans b7, (HN.out.cell (p := ⟨w.heap.size, 8, none⟩) HS1.out).trans b8, (HN.out.cell (p := ⟨w.heap.size, 9, none⟩) HS1.out).trans b9, (HN.out.cell (p := ⟨F.mb, 7, none⟩) HMB1.out).trans e7⟩ | fail) (first | (go_at_call 62; refine (HEV.out _ (below_dn (Below.refl _ _) 1)).mono ?_; rintro e w2 ⟨rfl, hb2⟩; have HN : Hid (Below W1.heap.size W1 w2) := ⟨hb2.os, hb2.tape, hb2.output, hb2.size, hb2.block⟩; clear hb2))
      have HB2 := Lib.hid (HB1.out.trans (HN.out.mono HB1.out.size))
      have HSZ2' : W1.heap.size ≤ w2.heap.size := HN.out.size
      have hh1 := (HN.out.block _ (show w.heap.size + 1 < W1.heap.size by omega)).trans H1.out
      have hh2 := (HN.out.block _ hsz).trans H2.out
      have b0' := (HN.out.cell (p := ⟨w.heap.size, 0, none⟩) HS1.out).trans b0
      have b4' := (HN.out.cell (p := ⟨w.heap.size, 4, none⟩) HS1.out).trans b4
      have b5' := (HN.out.cell (p := ⟨w.heap.size, 5, none⟩) HS1.out).trans b5
      have b6' := (HN.out.cell (p := ⟨w.heap.size, 6, none⟩) HS1.out).trans b6
      have e5' := (HN.out.cell (p := ⟨F.mb, 5, none⟩) HMB1.out).trans e5
      have ef5' := (World.frozen?_of_block (a := ⟨F.mb, 5, none⟩) (HN.out.block _ HMB1.out)).trans ef5
      have s0' : w2.cell? ⟨w.heap.size + 1, 0, none⟩ = some (.int .i64 0) := cell_of_row w2 _ 0 _ _ _ hh1
      have s1' : w2.cell? ⟨w.heap.size + 1, 1, none⟩ = some (.int .i64 0) := cell_of_row w2 _ 1 _ _ _ hh1
      have s2' : w2.cell? ⟨w.heap.size + 1, 2, none⟩ = some (.slice none 0 0) := cell_of_row w2 _ 2 _ _ _ hh1
      have sf' : ∀ i, w2.frozen? ⟨w.heap.size + 1, i, none⟩ = false := fun i => by simp [World.frozen?, hh1]
      have z0' : w2.cell? ⟨w.heap.size + 2, 0, none⟩ = some (.int .i64 0) := cell_of_row w2 _ 0 _ _ _ hh2
      have z1' : w2.cell? ⟨w.heap.size + 2, 1, none⟩ = some (.int .i64 0) := cell_of_row w2 _ 1 _ _ _ hh2
      have z2' : w2.cell? ⟨w.heap.size + 2, 2, none⟩ = some (.slice none 0 0) := cell_of_row w2 _ 2 _ _ _ hh2
      have v0' : w2.cell? ⟨w.heap.size + 1 + 1, 0, none⟩ = some (.int .i64 0) := z0'
      have v1' : w2.cell? ⟨w.heap.size + 1 + 1, 1, none⟩ = some (.int .i64 0) := z1'
      have v2' : w2.cell? ⟨w.heap.size + 1 + 1, 2, none⟩ = some (.slice none 0 0) := z2'
      have G1 := Lib.hid hh1
      have G2 := Lib.hid hh2
      have HX2 := Lib.hid (HX1.out.below HN.out)
      have hmb2 : F.mb < w2.heap.size := Nat.lt_of_lt_of_le hmb1 HN.out.size
      clear hh1 hh2 b0 b1 b2 b3 b4 b5 b6 b7 b8 b9 b10 s0 s1 s2 sf z0 z1 z2 e3 e5 e7 ef5
      go_wp2_with (go_at_call 63; refine (truth_any _ _).mono ?_; rintro e w' ⟨rfl, rfl⟩)
      go_region_with (go_at_call 61; refine (HC.out _ (below_dn HN.out 1)).mono ?_; rintro e w3 ⟨rfl, hmp⟩; have KB2 : Hid (∀ g, w.heap.size ≤ g → g < W1.heap.size → w3.heap[g]? = w2.heap[g]?) := (by obtain ⟨F', k1, k2, k3⟩ := hmp; exact fun g h1 h2 => k3.block g (Nat.lt_of_lt_of_le h2 HSZ2') (HNO.out g h1 h2)); have hh1 := (KB2.out (w.heap.size + 1) (by omega) (by omega)).trans G1.out; have hh2 := (KB2.out (w.heap.size + 2) (by omega) (by omega)).trans G2.out; have HH1 := Lib.hid hh1; have t0 : w3.cell? ⟨w.heap.size + 1, 0, none⟩ = some (.int .i64 0) := cell_of_row w3 _ 0 _ _ _ hh1; have t1 : w3.cell? ⟨w.heap.size + 1, 1, none⟩ = some (.int .i64 0) := cell_of_row w3 _ 1 _ _ _ hh1; have t2 : w3.cell? ⟨w.heap.size + 1, 2, none⟩ = some (.slice none 0 0) := cell_of_row w3 _ 2 _ _ _ hh1; have tf : (∀ i, w3.frozen? ⟨w.heap.size + 1, i, none⟩ = false) := (fun i => by simp [World.frozen?, hh1]); have y0 : w3.cell? ⟨w.heap.size + 2, 0, none⟩ = some (.int .i64 0) := cell_of_row w3 _ 0 _ _ _ hh2; have y1 : w3.cell? ⟨w.heap.size + 2, 1, none⟩ = some (.int .i64 0) := cell_of_row w3 _ 1 _ _ _ hh2; have y2 : w3.cell? ⟨w.heap.size + 2, 2, none⟩ = some (.slice none 0 0) := cell_of_row w3 _ 2 _ _ _ hh2; have v0 : w3.cell? ⟨w.heap.size + 1 + 1, 0, none⟩ = some (.int .i64 0) := y0; have v1 : w3.cell? ⟨w.heap.size + 1 + 1, 1, none⟩ = some (.int .i64 0) := y1; have v2 : w3.cell? ⟨w.heap.size + 1 + 1, 2, none⟩ = some (.slice none 0 0) := y2; have HMP := Lib.hid hmp; clear hh1 hh2 hmp)
      all_goals
        go_wp2_with fail
        refine bodyPost_ret (results_cell3 rfl _ _ (w.heap.size + 1) _ _ _ _ rfl (step_put HH1.out) Tryz.underlying40 infoStep) rfl ?_
        exact WoPost.no EJ.out (MP.around HX.out HB2.out (by omega) (by have := HSZ.out; omega) (MP.below2 (below_dn (Below.refl _ _) 1) HMP.out) (chg_put _ _ _))
    · have hs2 : sk = false := by simpa using hsk
      subst hs2
      go_enter Tryz.func39, Tryz.ntmps39
      go_upto_region 2 with (fail)
      rw [← HW1.out]
      go_wp2_with fail
      go_region_held3 (fun W => W.cell? ⟨w.heap.size, 7, none⟩ = some x0 ∧ W.cell? ⟨w.heap.size, 8, none⟩ = some x1 ∧ W.cell? ⟨w.heap.size, 9, none⟩ = some x2 ∧ W.cell? ⟨F.mb, 7, none⟩ = some (.pointer (some ⟨F.sb, 0, none⟩))) (first | exact ⟨b7, b8, b9, e7⟩ | exact ⟨(HN.out.cell (p := ⟨w.heap.size, 7, none⟩) HS1.out).trans b7, (HN.out.cell (p := ⟨w.heap.size, 8, none⟩) HS1.out).trans b8, (HN.out.cell (p := ⟨w.heap.size, 9, none⟩) HS1.out).trans b9, (HN.out.cell (p := ⟨F.mb, 7, none⟩) HMB1.out).trans e7⟩ | fail) (first | (go_at_call 62; refine (HEV.out _ (below_dn (Below.refl _ _) 1)).mono ?_; rintro e w2 ⟨rfl, hb2⟩; have HN : Hid (Below W1.heap.size W1 w2) := ⟨hb2.os, hb2.tape, hb2.output, hb2.size, hb2.block⟩; clear hb2))
      have HB2 := Lib.hid (HB1.out.trans (HN.out.mono HB1.out.size))
      have HSZ2' : W1.heap.size ≤ w2.heap.size := HN.out.size
      have hh1 := (HN.out.block _ (show w.heap.size + 1 < W1.heap.size by omega)).trans H1.out
      have hh2 := (HN.out.block _ hsz).trans H2.out
      have b0' := (HN.out.cell (p := ⟨w.heap.size, 0, none⟩) HS1.out).trans b0
      have b4' := (HN.out.cell (p := ⟨w.heap.size, 4, none⟩) HS1.out).trans b4
      have b5' := (HN.out.cell (p := ⟨w.heap.size, 5, none⟩) HS1.out).trans b5
      have b6' := (HN.out.cell (p := ⟨w.heap.size, 6, none⟩) HS1.out).trans b6
      have e5' := (HN.out.cell (p := ⟨F.mb, 5, none⟩) HMB1.out).trans e5
      have ef5' := (World.frozen?_of_block (a := ⟨F.mb, 5, none⟩) (HN.out.block _ HMB1.out)).trans ef5
      have s0' : w2.cell? ⟨w.heap.size + 1, 0, none⟩ = some (.int .i64 0) := cell_of_row w2 _ 0 _ _ _ hh1
      have s1' : w2.cell? ⟨w.heap.size + 1, 1, none⟩ = some (.int .i64 0) := cell_of_row w2 _ 1 _ _ _ hh1
      have s2' : w2.cell? ⟨w.heap.size + 1, 2, none⟩ = some (.slice none 0 0) := cell_of_row w2 _ 2 _ _ _ hh1
      have sf' : ∀ i, w2.frozen? ⟨w.heap.size + 1, i, none⟩ = false := fun i => by simp [World.frozen?, hh1]
      have z0' : w2.cell? ⟨w.heap.size + 2, 0, none⟩ = some (.int .i64 0) := cell_of_row w2 _ 0 _ _ _ hh2
      have z1' : w2.cell? ⟨w.heap.size + 2, 1, none⟩ = some (.int .i64 0) := cell_of_row w2 _ 1 _ _ _ hh2
      have z2' : w2.cell? ⟨w.heap.size + 2, 2, none⟩ = some (.slice none 0 0) := cell_of_row w2 _ 2 _ _ _ hh2
      have v0' : w2.cell? ⟨w.heap.size + 1 + 1, 0, none⟩ = some (.int .i64 0) := z0'
      have v1' : w2.cell? ⟨w.heap.size + 1 + 1, 1, none⟩ = some (.int .i64 0) := z1'
      have v2' : w2.cell? ⟨w.heap.size + 1 + 1, 2, none⟩ = some (.slice none 0 0) := z2'
      have G1 := Lib.hid hh1
      have G2 := Lib.hid hh2
      have HX2 := Lib.hid (HX1.out.below HN.out)
      have hmb2 : F.mb < w2.heap.size := Nat.lt_of_lt_of_le hmb1 HN.out.size
      clear hh1 hh2 b0 b1 b2 b3 b4 b5 b6 b7 b8 b9 b10 s0 s1 s2 sf z0 z1 z2 e3 e5 e7 ef5
      go_wp2_with (go_at_call 63; refine (truth_any _ _).mono ?_; rintro e w' ⟨rfl, rfl⟩)
      go_region_with (go_at_call 61; refine (HC.out _ (below_dn HN.out 1)).mono ?_; rintro e w3 ⟨rfl, hmp⟩; have KB2 : Hid (∀ g, w.heap.size ≤ g → g < W1.heap.size → w3.heap[g]? = w2.heap[g]?) := (by obtain ⟨F', k1, k2, k3⟩ := hmp; exact fun g h1 h2 => k3.block g (Nat.lt_of_lt_of_le h2 HSZ2') (HNO.out g h1 h2)); have hh1 := (KB2.out (w.heap.size + 1) (by omega) (by omega)).trans G1.out; have hh2 := (KB2.out (w.heap.size + 2) (by omega) (by omega)).trans G2.out; have HH1 := Lib.hid hh1; have t0 : w3.cell? ⟨w.heap.size + 1, 0, none⟩ = some (.int .i64 0) := cell_of_row w3 _ 0 _ _ _ hh1; have t1 : w3.cell? ⟨w.heap.size + 1, 1, none⟩ = some (.int .i64 0) := cell_of_row w3 _ 1 _ _ _ hh1; have t2 : w3.cell? ⟨w.heap.size + 1, 2, none⟩ = some (.slice none 0 0) := cell_of_row w3 _ 2 _ _ _ hh1; have tf : (∀ i, w3.frozen? ⟨w.heap.size + 1, i, none⟩ = false) := (fun i => by simp [World.frozen?, hh1]); have y0 : w3.cell? ⟨w.heap.size + 2, 0, none⟩ = some (.int .i64 0) := cell_of_row w3 _ 0 _ _ _ hh2; have y1 : w3.cell? ⟨w.heap.size + 2, 1, none⟩ = some (.int .i64 0) := cell_of_row w3 _ 1 _ _ _ hh2; have y2 : w3.cell? ⟨w.heap.size + 2, 2, none⟩ = some (.slice none 0 0) := cell_of_row w3 _ 2 _ _ _ hh2; have v0 : w3.cell? ⟨w.heap.size + 1 + 1, 0, none⟩ = some (.int .i64 0) := y0; have v1 : w3.cell? ⟨w.heap.size + 1 + 1, 1, none⟩ = some (.int .i64 0) := y1; have v2 : w3.cell? ⟨w.heap.size + 1 + 1, 2, none⟩ = some (.slice none 0 0) := y2; have HMP := Lib.hid hmp; clear hh1 hh2 hmp)
      all_goals
        go_wp2_with fail
        refine bodyPost_ret (results_cell3 rfl _ _ (w.heap.size + 1) _ _ _ _ rfl (step_put HH1.out) Tryz.underlying40 infoStep) rfl ?_
        exact WoPost.no EJ.out (MP.around HX.out HB2.out (by omega) (by have := HSZ.out; omega) (MP.below2 (below_dn (Below.refl _ _) 1) HMP.out) (chg_put _ _ _))
end Go.Proofs.YtdcjbhdfphcefaaGreatDoor
