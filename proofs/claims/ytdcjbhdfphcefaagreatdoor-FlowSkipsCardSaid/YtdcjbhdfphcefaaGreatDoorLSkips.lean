/- The walk of the law FlowSkips: it returns true. Conditions: the list that came in reads as integers; the two tables of the program are laid. -/
import Derived.Test.YtdcjbhdfphcefaaGreatDoorLk
namespace Go.Proofs.YtdcjbhdfphcefaaGreatDoor
set_option linter.unusedVariables false
set_option linter.unusedSimpArgs false
open Go.RowKit

/-- Between the rounds that make the blocks. -/
structure SkI (w : World) (A : Option Addr) (n c : Nat) (sk : Bool) (fl : Nat → Bool) (k : Nat) (C : Option Addr) (cp : Nat) (xs : List Value) (D : Option Addr) (dp : Nat) (W : World) : Prop where
  tp : TapeOK W w.heap.size w.heap.size A n c
  bel : Below w.heap.size w W
  bk : BkS W (w.heap.size + 1) (fun g => w.heap.size < g ∧ some g ≠ (Value.slice D (wantL fl sk k).length dp).ownBlock) C cp (skBs fl k) xs
  wt : W.ownsRow (w.heap.size + 1) 3 1 (.slice D (wantL fl sk k).length dp) (wantL fl sk k).length (ints (wantL fl sk k))
/-- In a round, the block made. -/
structure SkM (w : World) (A : Option Addr) (n c : Nat) (lst : List Int) (bl : List Bk) (C : Option Addr) (cp : Nat) (xs : List Value) (D0 : Option Nat) (D : Option Addr) (dp : Nat) (wr : World) (b : Bk) (C2 : Option Addr) (n2 : Nat) (l0 l1 l2 x0 x1 x2 : Value) (W : World) : Prop where
  tp : TapeOK W w.heap.size w.heap.size A n c
  bel : Below w.heap.size w W
  bk : BkS wr (w.heap.size + 1) (fun g => w.heap.size < g ∧ some g ≠ D0) C cp bl xs
  wlt : w.heap.size < wr.heap.size
  hs : wr.heap.size ≤ W.heap.size
  kb : ∀ q, q < wr.heap.size → w.heap.size < q → some q ≠ D0 → W.heap[q]? = wr.heap[q]?
  d : (Value.slice D lst.length dp).ownBlock = D0 ∨ ∃ g, (Value.slice D lst.length dp).ownBlock = some g ∧ wr.heap.size ≤ g
  wt : W.ownsRow (w.heap.size + 1) 3 1 (.slice D lst.length dp) lst.length (ints lst)
  bz : Bz W (fun g => wr.heap.size ≤ g ∧ some g ≠ (Value.slice D lst.length dp).ownBlock) b C2 n2 l0 l1 l2 x0 x1 x2
section
variable {w : World} {A : Option Addr} {n c : Nat} {lst : List Int} {bl : List Bk} {C : Option Addr} {cp : Nat} {xs : List Value} {D0 : Option Nat} {D : Option Addr} {dp : Nat} {wr : World} {b : Bk} {C2 : Option Addr} {n2 : Nat} {l0 l1 l2 x0 x1 x2 : Value} {W W3 w1 : World} {g cap : Nat}
theorem SkM.ownC (h : SkM w A n c lst bl C cp xs D0 D dp wr b C2 n2 l0 l1 l2 x0 x1 x2 W) : W.ownsRow (w.heap.size + 1) 54 11 (.slice C bl.length cp) bl.length xs :=
  owns_keep h.bk.own fun q hq hv => h.kb q hq (by have := (own_blk h.bk.own hv).1; omega) (h.bk.ownI q hv).2
theorem SkM.want (h : SkM w A n c lst bl C cp xs D0 D dp wr b C2 n2 l0 l1 l2 x0 x1 x2 W) {x : Int} (hb : Below W.heap.size W W3) (ho : w1.ownsRow (w.heap.size + 1) 3 1 (.slice (some ⟨g, 0, none⟩) (lst.length + 1) cap) (lst.length + 1) (ints lst ++ [.int .i64 x])) (hg : W3.grownBy w1 (Value.slice D lst.length dp).ownBlock) (hl : (Value.slice D lst.length dp).ownBlock = some g ∨ g = W3.heap.size) :
    SkM w A n c (lst ++ [x]) bl C cp xs D0 (some ⟨g, 0, none⟩) cap wr b C2 n2 l0 l1 l2 x0 x1 x2 w1 := by
  have k := grown_keep hb hg
  have hs := hb.size
  have hgs := hg.size
  have hhs := h.hs
  have hwl := h.wlt
  have hge : ∀ q, (Value.slice D lst.length dp).ownBlock = some q → w.heap.size + 1 ≤ q := fun q hq => (own_blk h.wt hq).1
  have hd : ∀ q, q < wr.heap.size → some q ≠ D0 → (Value.slice D lst.length dp).ownBlock ≠ some q := fun q hq hn e => by
    rcases h.d with e2 | ⟨g, e2, e3⟩
    · exact hn (by rw [← e2, e])
    · rw [e2] at e; cases e; omega
  refine ⟨h.tp.keep (k _ (by omega) fun e => by have := hge _ e; omega), grown_bel h.bel hb hg (fun q e => by have := hge q e; omega) (Nat.le_refl _), h.bk, hwl, by omega, fun q h1 h2 h3 => (k q (by omega) (hd q h1 h3)).trans (h.kb q h1 h2 h3), ?_, ?_, ?_⟩
  · rcases hl with e | e
    · rcases h.d with e2 | ⟨g', e2, e3⟩
      · left; rw [← e2, e]; rfl
      · right; rw [e2] at e; cases e; exact ⟨g, rfl, e3⟩
    · right; exact ⟨g, rfl, by omega⟩
  · have e : ints (lst ++ [x]) = ints lst ++ [.int .i64 x] := by simp [ints]
    rw [e]
    simpa using ho
  · refine h.bz.keep (by omega) (fun q hq hi => ⟨hi.1, fun e => ?_⟩) fun q hq hi => k q hq fun e => hi.2 e.symm
    simp only [Value.ownBlock, Option.some.injEq] at e
    subst e
    rcases hl with e | e
    · exact hi.2 e.symm
    · omega
theorem SkM.fin (h : SkM w A n c lst bl C cp xs D0 D dp wr b C2 n2 l0 l1 l2 x0 x1 x2 W) {cw : Nat} (hb : Below W.heap.size W W3) (ho : w1.ownsRow (w.heap.size + 1) 54 11 (.slice (some ⟨g, 0, none⟩) (bl.length + 1) cap) (bl.length + 1) (xs ++ cellsB b C2 n2 cw l0 l1 l2 x0 x1 x2)) (hg : W3.grownBy w1 (Value.slice C bl.length cp).ownBlock) (hl : (Value.slice C bl.length cp).ownBlock = some g ∨ g = W3.heap.size) :
    TapeOK w1 w.heap.size w.heap.size A n c ∧ Below w.heap.size w w1 ∧ BkS w1 (w.heap.size + 1) (fun g => w.heap.size < g ∧ some g ≠ (Value.slice D lst.length dp).ownBlock) (some ⟨g, 0, none⟩) cap (bl ++ [b]) (xs ++ cellsB b C2 n2 cw l0 l1 l2 x0 x1 x2) ∧ w1.ownsRow (w.heap.size + 1) 3 1 (.slice D lst.length dp) lst.length (ints lst) := by
  have k := grown_keep hb hg
  have hs := hb.size
  have hgs := hg.size
  have hhs := h.hs
  have hwl := h.wlt
  have hge : ∀ q, (Value.slice C bl.length cp).ownBlock = some q → w.heap.size + 1 ≤ q ∧ q < wr.heap.size := fun q hq => own_blk h.bk.own hq
  have hCI : ∀ q, (Value.slice C bl.length cp).ownBlock = some q → some q ≠ D0 := fun q hq => (h.bk.ownI q hq).2
  have hne : ∀ q, (Value.slice D lst.length dp).ownBlock = some q → (Value.slice C bl.length cp).ownBlock ≠ some q := fun q hq e => by
    rcases h.d with e2 | ⟨g, e2, e3⟩
    · exact hCI q e (by rw [← e2, hq])
    · rw [e2] at hq; cases hq; have := hge _ e; omega
  have hb1 : BkS W (w.heap.size + 1) (fun g => w.heap.size < g ∧ some g ≠ (Value.slice D lst.length dp).ownBlock) C cp bl xs := by
    have q1 := h.bk.mono (I' := fun g => w.heap.size < g ∧ g < wr.heap.size ∧ some g ≠ D0) fun g hg hi => ⟨hi.1, hg, hi.2⟩
    have q2 := q1.keep hhs fun g hg hi => h.kb g hg hi.1 hi.2.2
    refine q2.mono fun g hg hi => ⟨hi.1, fun e => ?_⟩
    rcases h.d with e2 | ⟨g', e2, e3⟩
    · exact hi.2.2 (by rw [e, e2])
    · rw [e2] at e; cases e; have := hi.2.1; omega
  refine ⟨h.tp.keep (k _ (by omega) fun e => by have := hge _ e; omega), grown_bel h.bel hb hg (fun q e => by have := hge q e; omega) (Nat.le_refl _), ?_, owns_keep h.wt fun q hq hv => k q hq (hne q hv)⟩
  refine hb1.pushJ h.bz (fun q hq hi => ⟨⟨by have := hi.1; omega, hi.2⟩, fun e => by have := hge q e.symm; have := hi.1; omega⟩) ⟨by omega, fun e => ?_⟩ hs (fun q hq => hb.block q hq) ho hg hl
  have := (own_blk h.wt e.symm).2
  omega
end
def SkRel (w : World) (A : Option Addr) (n c : Nat) (sk : Bool) (o q i : Value) (W : World) : Prop :=
  ∃ (fl : Nat → Bool) (k : Nat) (C : Option Addr) (cp : Nat) (xs : List Value) (D : Option Addr) (dp : Nat), k ≤ 12 ∧ o = .slice C k cp ∧ q = .slice D (wantL fl sk k).length dp ∧ i = .int .i64 (k : Int) ∧ SkI w A n c sk fl k C cp xs D dp W
/-- Between the rounds of the machine. -/
def SkR2 (w : World) (B : Nat) (F : Fp) (fl : Nat → Bool) (sk : Bool) (D : Option Addr) (dp : Nat) (i : Value) (W : World) : Prop :=
  ∃ (k j : Nat) (F' : Fp), k ≤ (wantL fl sk 12).length ∧ j ≤ 12 ∧ i = .int .i64 (k : Int) ∧ F'.mb = F.mb ∧ (wantL fl sk 12).drop k = wantF fl sk (12 - j) j ∧ MX W B F' (skL fl) sk (atM j) ∧ Below w.heap.size w W ∧
    W.ownsRow (w.heap.size + 1) 3 1 (.slice D (wantL fl sk 12).length dp) (wantL fl sk 12).length (ints (wantL fl sk 12))
set_option maxRecDepth 100000 in
set_option maxHeartbeats 16000000 in
theorem skipsLaw_any (A : Option Addr) (n c : Nat) (sk : Bool) (w : World) (hl : LOK w w.heap.size A n) (ht : Tab w) (htn : Tn w) :
    Calls Tryz.prog 6 #[.slice A n c, .bool sk] w fun e w' => e = .returned (.bool true) ∧ Below w.heap.size w w' := by
  have HL := Lib.hid hl
  have HT := Lib.hid ht
  have HTN := Lib.hid htn
  have hts := ht.lt
  have htns := htn.lt
  clear hl ht htn
  by_cases h1 : n ≤ 120
  case neg =>
    go_enter Tryz.func6, Tryz.ntmps6
    go_wp2_with (first | (go_at_call 12; refine (light_no _ _ _ h1 _).mono ?_; rintro e w' ⟨rfl, rfl⟩) | (go_at_call 13; refine (awake_any10 _ HT.out HTN.out).mono ?_; rintro e w2 ⟨rfl, hb⟩; have HB := Lib.hid hb; clear hb))
    go_ret
    exact ⟨rfl, HB.out⟩
  go_enter Tryz.func6, Tryz.ntmps6
  go_wp2_with (first | (go_at_call 12; refine (light_yes _ _ _ h1 _).mono ?_; rintro e w' ⟨rfl, rfl⟩) | (go_at_call 17; refine (new_any w w.heap.size (Nat.le_refl _) A n c).mono ?_; rintro e w1 ⟨rfl, hw1⟩; have HB1 : Hid (Below w.heap.size w w1) := (by { unfold Hid; rw [hw1]; exact (Below.refl _ _).alloc (Nat.le_refl _) _ }); have HTP1 : Hid (TapeOK w1 w.heap.size w.heap.size A n c) := (by { unfold Hid; rw [hw1]; exact TapeOK.new w _ (Nat.le_refl _) A n c }); clear hw1))
  obtain ⟨iI, zI, hiI, hI0, hI1, hI2, hIs⟩ := infoIn_parts
  obtain ⟨iB, zB, hiB, hB0, hB1, hB2, hBs⟩ := infoBl_parts
  have HII := Lib.hid hiI
  have HZI := Lib.hid hI0
  have HIB := Lib.hid hiB
  have HZB := Lib.hid hB0
  clear hiI hI0 hiB hB0
  have HR0 : Hid (SkRel w A n c sk (.slice none 0 0) (.slice none 0 0) (.int .i64 0) w1) := ⟨fun _ => false, 0, none, 0, [], none, 0, by omega, rfl, rfl, rfl, HTP1.out, HB1.out, BkS.nil _ _ _, World.ownsRow_nil _ _ _ _⟩
  go_loopw [6, 7, 8] (SkRel w A n c sk) (fun _ _ i _ => 12 - (intOf i).toNat)
  case atStart => exact HR0.out
  case round =>
    obtain ⟨fl, k, C, cp, xs, D, dp, hk, rfl, rfl, rfl, hI⟩ := hrel
    have HI := Lib.hid hI
    clear hI HR0
    by_cases hlt : k < 12
    · have g0 : decide ((k : Int) < 12) = true := decide_eq_true (by omega)
      have htl := HI.out.tp.lt
      obtain ⟨WA, hWA⟩ : ∃ WA, WA = wr.alloc (.cells #[.int .i64 88, .int .i64 (k : Int)] 3) := ⟨_, rfl⟩
      have HBA : Hid (Below wr.heap.size wr WA) := by unfold Hid; rw [hWA]; exact (Below.refl _ _).alloc (Nat.le_refl _) _
      have q0 : WA.heap[wr.heap.size]? = some (.cells #[.int .i64 88, .int .i64 (k : Int)] 3 (0, 0)) := by rw [hWA]; exact heap_alloc_new _ _
      have HWC := Lib.hid (words_any_st WA wr.heap.size 0 2 [(88, (k : Int))] 2 rfl (fun i c m h => by
        rcases i with _ | i
        · simp at h
          obtain ⟨rfl, rfl⟩ := h
          exact ⟨cell_of_row WA _ 0 _ _ _ q0, cell_of_row WA _ 1 _ _ _ q0, by unfold I64; omega, by omega, by omega⟩
        · simp at h) (hlS q0) (by simp))
      clear q0
      go_wp2_with fail
      rw [← hWA]
      clear hWA
      refine HWC.out.mono ?_
      rintro e w2 ⟨C2, cw, l0, l1, l2, x0, x1, x2, rfl, hz, hb⟩
      obtain ⟨lo, ln, lA, lk, lc, rfl, rfl, rfl⟩ := hz.left.form
      obtain ⟨xo, xn, xA, xk, xc, rfl, rfl, rfl⟩ := hz.x.form
      have HZ := Lib.hid hz
      have HB2 := Lib.hid (HBA.out.trans (hb.mono HBA.out.size))
      obtain ⟨W3, hW3⟩ : ∃ W3, W3 = w2.alloc (.cells #[.int .i64 0, .int .i64 0, .bool false, .slice C2 1 cw, .int .i64 lo, .int .i64 ln, .slice lA lk lc, .int .i64 xo, .int .i64 xn, .slice xA xk xc, .int .i64 0] 54) := ⟨_, rfl⟩
      have HB3 : Hid (Below w2.heap.size w2 W3) := by unfold Hid; rw [hW3]; exact (Below.refl _ _).alloc (Nat.le_refl _) _
      have HBK3 : Hid (W3.heap[w2.heap.size]? = some (.cells #[.int .i64 0, .int .i64 0, .bool false, .slice C2 1 cw, .int .i64 lo, .int .i64 ln, .slice lA lk lc, .int .i64 xo, .int .i64 xn, .slice xA xk xc, .int .i64 0] 54 (0, 0))) := by unfold Hid; rw [hW3]; exact heap_alloc_new _ _
      have hs2 := HB2.out.size
      have hs3 := HB3.out.size
      have HBW3 := Lib.hid (HB2.out.trans (HB3.out.mono hs2))
      have HTP3 := Lib.hid (HI.out.tp.below HBW3.out)
      have HNC := Lib.hid (nexto_any w.heap.size w.heap.size A n c 2 W3 (HL.out.below (HI.out.bel.trans (HBW3.out.mono HI.out.bel.size))) HTP3.out (by omega) (by omega))
      clear hz hb
      have hl1 : [((88 : Int), (k : Int))].length = 1 := rfl
      rw [hl1]
      go_wp2_with fail
      rw [← hW3]
      clear hW3
      refine HNC.out.mono ?_
      rintro e w4 ⟨r, rfl, r0, r1, htp4, ho4⟩
      have hbb : w2.heap.size < W3.heap.size := hlS HBK3.out
      have hne : w2.heap.size ≠ w.heap.size := by omega
      have hbk4 := (ho4.2.2.2.2 _ hbb hne).trans HBK3.out
      have HBK4 := Lib.hid hbk4
      have HTP4 := Lib.hid htp4
      have HO4 := Lib.hid ho4
      have d2 : w4.cell? ⟨w2.heap.size, 2, none⟩ = some (.bool false) := cell_of_row w4 _ 2 _ _ _ hbk4
      have df : ∀ i, w4.frozen? ⟨w2.heap.size, i, none⟩ = false := fun i => by simp [World.frozen?, hbk4]
      clear htp4 ho4 hbk4
      obtain ⟨v, hv⟩ : ∃ v : Bool, v = (r == 0) := ⟨_, rfl⟩
      go_upto_region 11 with (fail)
      rw [← hv]
      clear hv
      obtain ⟨W5, hW5⟩ : ∃ W5, W5 = w4.setCell ⟨w2.heap.size, 2, none⟩ (.bool v) := ⟨_, rfl⟩
      rw [← hW5]
      have k5 : ∀ q, q ≠ w2.heap.size → W5.heap[q]? = w4.heap[q]? := fun q hq => by rw [hW5]; exact Below.heap_setCell _ _ _ q hq
      have hs5 : W5.heap.size = w4.heap.size := by rw [hW5]; simp [World.setCell]
      have hs4 := HO4.out.size
      have HBK5 : Hid (W5.heap[w2.heap.size]? = some (.cells #[.int .i64 0, .int .i64 0, .bool v, .slice C2 1 cw, .int .i64 lo, .int .i64 ln, .slice lA lk lc, .int .i64 xo, .int .i64 xn, .slice xA xk xc, .int .i64 0] 54 (0, 0))) := by
        unfold Hid
        rw [hW5]
        have q := heap_set (i := 2) (u := .bool v) HBK4.out
        simpa using q
      have hkb : ∀ q, q < wr.heap.size → w.heap.size < q → W5.heap[q]? = wr.heap[q]? := fun q h1 h2 => (k5 q (by omega)).trans ((HO4.out.2.2.2.2 q (by omega) (by omega)).trans (HBW3.out.block q h1))
      have hwl : (wantL fl sk k).length ≤ k := wantL_len _ _ _
      have hwk : W5.ownsRow (w.heap.size + 1) 3 1 (.slice D (wantL fl sk k).length dp) (wantL fl sk k).length (ints (wantL fl sk k)) := owns_keep HI.out.wt fun q hq hv => hkb q hq (by have := (own_blk HI.out.wt hv).1; omega)
      have hE : (wordsB [(88, (k : Int))]).words = (wordB v 0 88 (k : Int)).words := by simp [wordsB, wordB, wordT_pos]
      have HM5 : Hid (SkM w A n c (wantL fl sk k) (skBs fl k) C cp xs (Value.slice D (wantL fl sk k).length dp).ownBlock D dp wr (wordB v 0 88 (k : Int)) C2 1 (.int .i64 lo) (.int .i64 ln) (.slice lA lk lc) (.int .i64 xo) (.int .i64 xn) (.slice xA xk xc) W5) := by
        have hkz : ∀ g, g < w2.heap.size → WA.heap.size ≤ g → W5.heap[g]? = w2.heap[g]? := fun g h1 h2 => (k5 g (by omega)).trans ((HO4.out.2.2.2.2 g (by omega) (by have := HBA.out.size; omega)).trans (HB3.out.block g h1))
        have hiz : ∀ g, g < w2.heap.size → WA.heap.size ≤ g → wr.heap.size ≤ g ∧ some g ≠ (Value.slice D (wantL fl sk k).length dp).ownBlock := fun g _ h2 => ⟨Nat.le_trans HBA.out.size h2, fun e => by have := (own_blk HI.out.wt e.symm).2; have := HBA.out.size; omega⟩
        have hw := HZ.out.words.keep (by omega) hiz hkz
        rw [hE] at hw
        refine ⟨HTP4.out.keep (k5 _ (by omega)), ?_, HI.out.bk, htl, by omega, fun q h1 h2 _ => hkb q h1 h2, .inl rfl, hwk, ⟨by show I64 0; unfold I64; omega, by show I64 0; unfold I64; omega, by show I64 0; unfold I64; omega, hw, HZ.out.left.keep (by omega) hiz hkz, HZ.out.x.keep (by omega) hiz hkz⟩⟩
        rw [hW5]
        exact ((HI.out.bel.trans (HBW3.out.mono HI.out.bel.size)).trans (HO4.out.below (Nat.le_refl _) (by omega))).setCell (p := ⟨w2.heap.size, 2, none⟩) (by show w.heap.size ≤ w2.heap.size; omega) _
      have HOC5 : Hid (W5.ownsRow (w.heap.size + 1) 54 11 (.slice C k cp) k xs) := by have q := HM5.out.ownC; rw [skBs_len] at q; exact q
      have HDN : Hid ((Value.slice D (wantL fl sk k).length dp).ownBlock ≠ some w2.heap.size) := fun e => by have := (own_blk HI.out.wt e).2; omega
      obtain ⟨N, hN⟩ : ∃ N, N = (wantL fl sk k).length := ⟨_, rfl⟩
      rw [← hN] at hwk hwl HDN ⊢
      have HN := Lib.hid hN.symm
      have HWT := Lib.hid hwk
      have m0 : W5.cell? ⟨w2.heap.size, 0, none⟩ = some (.int .i64 0) := cell_of_row W5 _ 0 _ _ _ HBK5.out
      have m1 : W5.cell? ⟨w2.heap.size, 1, none⟩ = some (.int .i64 0) := cell_of_row W5 _ 1 _ _ _ HBK5.out
      have m2 : W5.cell? ⟨w2.heap.size, 2, none⟩ = some (.bool v) := cell_of_row W5 _ 2 _ _ _ HBK5.out
      have m3 : W5.cell? ⟨w2.heap.size, 3, none⟩ = some (.slice C2 1 cw) := cell_of_row W5 _ 3 _ _ _ HBK5.out
      have m4 : W5.cell? ⟨w2.heap.size, 4, none⟩ = some (.int .i64 lo) := cell_of_row W5 _ 4 _ _ _ HBK5.out
      have m5 : W5.cell? ⟨w2.heap.size, 5, none⟩ = some (.int .i64 ln) := cell_of_row W5 _ 5 _ _ _ HBK5.out
      have m6 : W5.cell? ⟨w2.heap.size, 6, none⟩ = some (.slice lA lk lc) := cell_of_row W5 _ 6 _ _ _ HBK5.out
      have m7 : W5.cell? ⟨w2.heap.size, 7, none⟩ = some (.int .i64 xo) := cell_of_row W5 _ 7 _ _ _ HBK5.out
      have m8 : W5.cell? ⟨w2.heap.size, 8, none⟩ = some (.int .i64 xn) := cell_of_row W5 _ 8 _ _ _ HBK5.out
      have m9 : W5.cell? ⟨w2.heap.size, 9, none⟩ = some (.slice xA xk xc) := cell_of_row W5 _ 9 _ _ _ HBK5.out
      have m10 : W5.cell? ⟨w2.heap.size, 10, none⟩ = some (.int .i64 0) := cell_of_row W5 _ 10 _ _ _ HBK5.out
      have hb5 : w2.heap.size < W5.heap.size := by omega
      clear hW5 k5 hkb hwk hE hN hs5
      cases v <;> cases sk
      · go_wp2_with (first | (at_builtin; refine wpList_append_lies _ rfl (.tmp 41) (.tmp 43) 22 rfl (w.heap.size + 1) 3 iI zI 1 8 Tryz.underlying22 HII.out HZI.out hI1 hI2 hIs (by omega) (.slice D N dp) N (ints (wantL fl false k)) rfl (HWT.out.alloc _) ⟨W5.heap.size, 0, none⟩ 1 1 [.int .i64 (k : Int)] rfl rfl (World.news_of_block (heap_alloc_new W5 _)) (by intro u hu; simp only [List.mem_singleton] at hu; rw [hu]; rfl) (by omega) (by unfold maxLen; omega) (by omega) (by simp; omega) _ rfl ?_; intro g9 c9 w9 ho9 hg9 hl9 hlt9; have HM9 := Lib.hid (HM5.out.want (x := (k : Int)) ((Below.refl _ _).alloc (Nat.le_refl _) _) (by rw [HN.out]; exact ho9) (by rw [HN.out]; exact hg9) (by rw [HN.out]; exact hl9)); have HOC9 : Hid (w9.ownsRow (w.heap.size + 1) 54 11 (.slice C k cp) k xs) := (by { have q := HM9.out.ownC; rw [skBs_len] at q; exact q }); have hbk9 := (grown_keep ((Below.refl _ _).alloc (Nat.le_refl _) _) hg9 _ (hlS HBK5.out) (HDN.out)).trans HBK5.out; clear m0 m1 m2 m3 m4 m5 m6 m7 m8 m9 m10; have m0 : w9.cell? ⟨w2.heap.size, 0, none⟩ = some (.int .i64 0) := cell_of_row w9 _ 0 _ _ _ hbk9; have m1 : w9.cell? ⟨w2.heap.size, 1, none⟩ = some (.int .i64 0) := cell_of_row w9 _ 1 _ _ _ hbk9; have m2 : w9.cell? ⟨w2.heap.size, 2, none⟩ = some (.bool false) := cell_of_row w9 _ 2 _ _ _ hbk9; have m3 : w9.cell? ⟨w2.heap.size, 3, none⟩ = some (.slice C2 1 cw) := cell_of_row w9 _ 3 _ _ _ hbk9; have m4 : w9.cell? ⟨w2.heap.size, 4, none⟩ = some (.int .i64 lo) := cell_of_row w9 _ 4 _ _ _ hbk9; have m5 : w9.cell? ⟨w2.heap.size, 5, none⟩ = some (.int .i64 ln) := cell_of_row w9 _ 5 _ _ _ hbk9; have m6 : w9.cell? ⟨w2.heap.size, 6, none⟩ = some (.slice lA lk lc) := cell_of_row w9 _ 6 _ _ _ hbk9; have m7 : w9.cell? ⟨w2.heap.size, 7, none⟩ = some (.int .i64 xo) := cell_of_row w9 _ 7 _ _ _ hbk9; have m8 : w9.cell? ⟨w2.heap.size, 8, none⟩ = some (.int .i64 xn) := cell_of_row w9 _ 8 _ _ _ hbk9; have m9 : w9.cell? ⟨w2.heap.size, 9, none⟩ = some (.slice xA xk xc) := cell_of_row w9 _ 9 _ _ _ hbk9; have m10 : w9.cell? ⟨w2.heap.size, 10, none⟩ = some (.int .i64 0) := cell_of_row w9 _ 10 _ _ _ hbk9; have hs9 := HM9.out.bel.size; clear ho9 hg9 hl9 hlt9 hbk9) | (at_builtin; refine wpList_append_lies _ rfl (.tmp 45) (.tmp 47) 29 rfl (w.heap.size + 1) 54 iB zB 11 136 Tryz.underlying29 HIB.out HZB.out hB1 hB2 hBs (by omega) (.slice C k cp) k xs rfl (HOC9.out.alloc _) ⟨w9.heap.size, 0, none⟩ 1 1 [.int .i64 0, .int .i64 0, .bool false, .slice C2 1 cw, .int .i64 lo, .int .i64 ln, .slice lA lk lc, .int .i64 xo, .int .i64 xn, .slice xA xk xc, .int .i64 0] rfl rfl (World.news_of_block (heap_alloc_new w9 _)) (by intro u hu; simp only [List.mem_cons, List.not_mem_nil, or_false] at hu; rcases hu with rfl | rfl | rfl | rfl | rfl | rfl | rfl | rfl | rfl | rfl | rfl <;> rfl) (by omega) (by unfold maxLen; omega) (by omega) (by simp; omega) _ rfl ?_; intro g10 c10 w10 ho10 hg10 hl10 hlt10; have HF := Lib.hid (HM9.out.fin (cw := cw) ((Below.refl _ _).alloc (Nat.le_refl _) _) (by rw [skBs_len]; exact ho10) (by rw [skBs_len]; exact hg10) (by rw [skBs_len]; exact hl10)); clear ho10 hg10 hl10 hlt10))
        have E1 : wantL (updF fl k false) false (k + 1) = wantL fl false k ++ [(k : Int)] := by rw [wantL_succ, wantL_upd]; simp [updF]
        have E2 : skBs (updF fl k false) (k + 1) = skBs fl k ++ [wordB false 0 88 (k : Int)] := by rw [skBs_succ, skBs_upd]; simp [skB, updF]
        have hsi : SkI w A n c false (updF fl k false) (k + 1) (some ⟨g10, 0, none⟩) c10 (xs ++ cellsB (wordB false 0 88 (k : Int)) C2 1 cw (.int .i64 lo) (.int .i64 ln) (.slice lA lk lc) (.int .i64 xo) (.int .i64 xn) (.slice xA xk xc)) (some ⟨g9, 0, none⟩) c9 w10 := by
          obtain ⟨f1, f2, f3, f4⟩ := HF.out
          refine ⟨f1, f2, ?_, ?_⟩
          · rw [E1, E2]; exact f3
          · rw [E1]; exact f4
        exact ⟨⟨updF fl k false, k + 1, _, _, _, _, _, by omega, rfl, by rw [E1, List.length_append, HN.out]; rfl, by go_num, hsi⟩, by simp only [intOf]; omega⟩
      · go_wp2_with (first | (at_builtin; refine wpList_append_lies _ rfl (.tmp 41) (.tmp 43) 22 rfl (w.heap.size + 1) 3 iI zI 1 8 Tryz.underlying22 HII.out HZI.out hI1 hI2 hIs (by omega) (.slice D N dp) N (ints (wantL fl true k)) rfl (HWT.out.alloc _) ⟨W5.heap.size, 0, none⟩ 1 1 [.int .i64 (k : Int)] rfl rfl (World.news_of_block (heap_alloc_new W5 _)) (by intro u hu; simp only [List.mem_singleton] at hu; rw [hu]; rfl) (by omega) (by unfold maxLen; omega) (by omega) (by simp; omega) _ rfl ?_; intro g9 c9 w9 ho9 hg9 hl9 hlt9; have HM9 := Lib.hid (HM5.out.want (x := (k : Int)) ((Below.refl _ _).alloc (Nat.le_refl _) _) (by rw [HN.out]; exact ho9) (by rw [HN.out]; exact hg9) (by rw [HN.out]; exact hl9)); have HOC9 : Hid (w9.ownsRow (w.heap.size + 1) 54 11 (.slice C k cp) k xs) := (by { have q := HM9.out.ownC; rw [skBs_len] at q; exact q }); have hbk9 := (grown_keep ((Below.refl _ _).alloc (Nat.le_refl _) _) hg9 _ (hlS HBK5.out) (HDN.out)).trans HBK5.out; clear m0 m1 m2 m3 m4 m5 m6 m7 m8 m9 m10; have m0 : w9.cell? ⟨w2.heap.size, 0, none⟩ = some (.int .i64 0) := cell_of_row w9 _ 0 _ _ _ hbk9; have m1 : w9.cell? ⟨w2.heap.size, 1, none⟩ = some (.int .i64 0) := cell_of_row w9 _ 1 _ _ _ hbk9; have m2 : w9.cell? ⟨w2.heap.size, 2, none⟩ = some (.bool false) := cell_of_row w9 _ 2 _ _ _ hbk9; have m3 : w9.cell? ⟨w2.heap.size, 3, none⟩ = some (.slice C2 1 cw) := cell_of_row w9 _ 3 _ _ _ hbk9; have m4 : w9.cell? ⟨w2.heap.size, 4, none⟩ = some (.int .i64 lo) := cell_of_row w9 _ 4 _ _ _ hbk9; have m5 : w9.cell? ⟨w2.heap.size, 5, none⟩ = some (.int .i64 ln) := cell_of_row w9 _ 5 _ _ _ hbk9; have m6 : w9.cell? ⟨w2.heap.size, 6, none⟩ = some (.slice lA lk lc) := cell_of_row w9 _ 6 _ _ _ hbk9; have m7 : w9.cell? ⟨w2.heap.size, 7, none⟩ = some (.int .i64 xo) := cell_of_row w9 _ 7 _ _ _ hbk9; have m8 : w9.cell? ⟨w2.heap.size, 8, none⟩ = some (.int .i64 xn) := cell_of_row w9 _ 8 _ _ _ hbk9; have m9 : w9.cell? ⟨w2.heap.size, 9, none⟩ = some (.slice xA xk xc) := cell_of_row w9 _ 9 _ _ _ hbk9; have m10 : w9.cell? ⟨w2.heap.size, 10, none⟩ = some (.int .i64 0) := cell_of_row w9 _ 10 _ _ _ hbk9; have hs9 := HM9.out.bel.size; clear ho9 hg9 hl9 hlt9 hbk9) | (at_builtin; refine wpList_append_lies _ rfl (.tmp 45) (.tmp 47) 29 rfl (w.heap.size + 1) 54 iB zB 11 136 Tryz.underlying29 HIB.out HZB.out hB1 hB2 hBs (by omega) (.slice C k cp) k xs rfl (HOC9.out.alloc _) ⟨w9.heap.size, 0, none⟩ 1 1 [.int .i64 0, .int .i64 0, .bool false, .slice C2 1 cw, .int .i64 lo, .int .i64 ln, .slice lA lk lc, .int .i64 xo, .int .i64 xn, .slice xA xk xc, .int .i64 0] rfl rfl (World.news_of_block (heap_alloc_new w9 _)) (by intro u hu; simp only [List.mem_cons, List.not_mem_nil, or_false] at hu; rcases hu with rfl | rfl | rfl | rfl | rfl | rfl | rfl | rfl | rfl | rfl | rfl <;> rfl) (by omega) (by unfold maxLen; omega) (by omega) (by simp; omega) _ rfl ?_; intro g10 c10 w10 ho10 hg10 hl10 hlt10; have HF := Lib.hid (HM9.out.fin (cw := cw) ((Below.refl _ _).alloc (Nat.le_refl _) _) (by rw [skBs_len]; exact ho10) (by rw [skBs_len]; exact hg10) (by rw [skBs_len]; exact hl10)); clear ho10 hg10 hl10 hlt10))
        have E1 : wantL (updF fl k false) true (k + 1) = wantL fl true k ++ [(k : Int)] := by rw [wantL_succ, wantL_upd]; simp [updF]
        have E2 : skBs (updF fl k false) (k + 1) = skBs fl k ++ [wordB false 0 88 (k : Int)] := by rw [skBs_succ, skBs_upd]; simp [skB, updF]
        have hsi : SkI w A n c true (updF fl k false) (k + 1) (some ⟨g10, 0, none⟩) c10 (xs ++ cellsB (wordB false 0 88 (k : Int)) C2 1 cw (.int .i64 lo) (.int .i64 ln) (.slice lA lk lc) (.int .i64 xo) (.int .i64 xn) (.slice xA xk xc)) (some ⟨g9, 0, none⟩) c9 w10 := by
          obtain ⟨f1, f2, f3, f4⟩ := HF.out
          refine ⟨f1, f2, ?_, ?_⟩
          · rw [E1, E2]; exact f3
          · rw [E1]; exact f4
        exact ⟨⟨updF fl k false, k + 1, _, _, _, _, _, by omega, rfl, by rw [E1, List.length_append, HN.out]; rfl, by go_num, hsi⟩, by simp only [intOf]; omega⟩
      · go_wp2_with (first | (at_builtin; refine wpList_append_lies _ rfl (.tmp 41) (.tmp 43) 22 rfl (w.heap.size + 1) 3 iI zI 1 8 Tryz.underlying22 HII.out HZI.out hI1 hI2 hIs (by omega) (.slice D N dp) N (ints (wantL fl false k)) rfl (HWT.out.alloc _) ⟨W5.heap.size, 0, none⟩ 1 1 [.int .i64 (k : Int)] rfl rfl (World.news_of_block (heap_alloc_new W5 _)) (by intro u hu; simp only [List.mem_singleton] at hu; rw [hu]; rfl) (by omega) (by unfold maxLen; omega) (by omega) (by simp; omega) _ rfl ?_; intro g9 c9 w9 ho9 hg9 hl9 hlt9; have HM9 := Lib.hid (HM5.out.want (x := (k : Int)) ((Below.refl _ _).alloc (Nat.le_refl _) _) (by rw [HN.out]; exact ho9) (by rw [HN.out]; exact hg9) (by rw [HN.out]; exact hl9)); have HOC9 : Hid (w9.ownsRow (w.heap.size + 1) 54 11 (.slice C k cp) k xs) := (by { have q := HM9.out.ownC; rw [skBs_len] at q; exact q }); have hbk9 := (grown_keep ((Below.refl _ _).alloc (Nat.le_refl _) _) hg9 _ (hlS HBK5.out) (HDN.out)).trans HBK5.out; clear m0 m1 m2 m3 m4 m5 m6 m7 m8 m9 m10; have m0 : w9.cell? ⟨w2.heap.size, 0, none⟩ = some (.int .i64 0) := cell_of_row w9 _ 0 _ _ _ hbk9; have m1 : w9.cell? ⟨w2.heap.size, 1, none⟩ = some (.int .i64 0) := cell_of_row w9 _ 1 _ _ _ hbk9; have m2 : w9.cell? ⟨w2.heap.size, 2, none⟩ = some (.bool true) := cell_of_row w9 _ 2 _ _ _ hbk9; have m3 : w9.cell? ⟨w2.heap.size, 3, none⟩ = some (.slice C2 1 cw) := cell_of_row w9 _ 3 _ _ _ hbk9; have m4 : w9.cell? ⟨w2.heap.size, 4, none⟩ = some (.int .i64 lo) := cell_of_row w9 _ 4 _ _ _ hbk9; have m5 : w9.cell? ⟨w2.heap.size, 5, none⟩ = some (.int .i64 ln) := cell_of_row w9 _ 5 _ _ _ hbk9; have m6 : w9.cell? ⟨w2.heap.size, 6, none⟩ = some (.slice lA lk lc) := cell_of_row w9 _ 6 _ _ _ hbk9; have m7 : w9.cell? ⟨w2.heap.size, 7, none⟩ = some (.int .i64 xo) := cell_of_row w9 _ 7 _ _ _ hbk9; have m8 : w9.cell? ⟨w2.heap.size, 8, none⟩ = some (.int .i64 xn) := cell_of_row w9 _ 8 _ _ _ hbk9; have m9 : w9.cell? ⟨w2.heap.size, 9, none⟩ = some (.slice xA xk xc) := cell_of_row w9 _ 9 _ _ _ hbk9; have m10 : w9.cell? ⟨w2.heap.size, 10, none⟩ = some (.int .i64 0) := cell_of_row w9 _ 10 _ _ _ hbk9; have hs9 := HM9.out.bel.size; clear ho9 hg9 hl9 hlt9 hbk9) | (at_builtin; refine wpList_append_lies _ rfl (.tmp 45) (.tmp 47) 29 rfl (w.heap.size + 1) 54 iB zB 11 136 Tryz.underlying29 HIB.out HZB.out hB1 hB2 hBs (by omega) (.slice C k cp) k xs rfl (HOC9.out.alloc _) ⟨w9.heap.size, 0, none⟩ 1 1 [.int .i64 0, .int .i64 0, .bool true, .slice C2 1 cw, .int .i64 lo, .int .i64 ln, .slice lA lk lc, .int .i64 xo, .int .i64 xn, .slice xA xk xc, .int .i64 0] rfl rfl (World.news_of_block (heap_alloc_new w9 _)) (by intro u hu; simp only [List.mem_cons, List.not_mem_nil, or_false] at hu; rcases hu with rfl | rfl | rfl | rfl | rfl | rfl | rfl | rfl | rfl | rfl | rfl <;> rfl) (by omega) (by unfold maxLen; omega) (by omega) (by simp; omega) _ rfl ?_; intro g10 c10 w10 ho10 hg10 hl10 hlt10; have HF := Lib.hid (HM9.out.fin (cw := cw) ((Below.refl _ _).alloc (Nat.le_refl _) _) (by rw [skBs_len]; exact ho10) (by rw [skBs_len]; exact hg10) (by rw [skBs_len]; exact hl10)); clear ho10 hg10 hl10 hlt10))
        have E1 : wantL (updF fl k true) false (k + 1) = wantL fl false k ++ [(k : Int)] := by rw [wantL_succ, wantL_upd]; simp [updF]
        have E2 : skBs (updF fl k true) (k + 1) = skBs fl k ++ [wordB true 0 88 (k : Int)] := by rw [skBs_succ, skBs_upd]; simp [skB, updF]
        have hsi : SkI w A n c false (updF fl k true) (k + 1) (some ⟨g10, 0, none⟩) c10 (xs ++ cellsB (wordB true 0 88 (k : Int)) C2 1 cw (.int .i64 lo) (.int .i64 ln) (.slice lA lk lc) (.int .i64 xo) (.int .i64 xn) (.slice xA xk xc)) (some ⟨g9, 0, none⟩) c9 w10 := by
          obtain ⟨f1, f2, f3, f4⟩ := HF.out
          refine ⟨f1, f2, ?_, ?_⟩
          · rw [E1, E2]; exact f3
          · rw [E1]; exact f4
        exact ⟨⟨updF fl k true, k + 1, _, _, _, _, _, by omega, rfl, by rw [E1, List.length_append, HN.out]; rfl, by go_num, hsi⟩, by simp only [intOf]; omega⟩
      · go_wp2_with (at_builtin; refine wpList_append_lies _ rfl (.tmp 45) (.tmp 47) 29 rfl (w.heap.size + 1) 54 iB zB 11 136 Tryz.underlying29 HIB.out HZB.out hB1 hB2 hBs (by omega) (.slice C k cp) k xs rfl (HOC5.out.alloc _) ⟨W5.heap.size, 0, none⟩ 1 1 [.int .i64 0, .int .i64 0, .bool true, .slice C2 1 cw, .int .i64 lo, .int .i64 ln, .slice lA lk lc, .int .i64 xo, .int .i64 xn, .slice xA xk xc, .int .i64 0] rfl rfl (World.news_of_block (heap_alloc_new W5 _)) (by intro u hu; simp only [List.mem_cons, List.not_mem_nil, or_false] at hu; rcases hu with rfl | rfl | rfl | rfl | rfl | rfl | rfl | rfl | rfl | rfl | rfl <;> rfl) (by omega) (by unfold maxLen; omega) (by omega) (by simp; omega) _ rfl ?_; intro g10 c10 w10 ho10 hg10 hl10 hlt10; have HF := Lib.hid (HM5.out.fin (cw := cw) ((Below.refl _ _).alloc (Nat.le_refl _) _) (by rw [skBs_len]; exact ho10) (by rw [skBs_len]; exact hg10) (by rw [skBs_len]; exact hl10)); clear ho10 hg10 hl10 hlt10)
        have E1 : wantL (updF fl k true) true (k + 1) = wantL fl true k := by rw [wantL_succ, wantL_upd]; simp [updF]
        have E2 : skBs (updF fl k true) (k + 1) = skBs fl k ++ [wordB true 0 88 (k : Int)] := by rw [skBs_succ, skBs_upd]; simp [skB, updF]
        have hsi : SkI w A n c true (updF fl k true) (k + 1) (some ⟨g10, 0, none⟩) c10 (xs ++ cellsB (wordB true 0 88 (k : Int)) C2 1 cw (.int .i64 lo) (.int .i64 ln) (.slice lA lk lc) (.int .i64 xo) (.int .i64 xn) (.slice xA xk xc)) D dp w10 := by
          obtain ⟨f1, f2, f3, f4⟩ := HF.out
          refine ⟨f1, f2, ?_, ?_⟩
          · rw [E1, E2]; exact f3
          · rw [E1]; exact f4
        exact ⟨⟨updF fl k true, k + 1, _, _, _, _, _, by omega, rfl, by rw [E1, HN.out], by go_num, hsi⟩, by simp only [intOf]; omega⟩
    · have hke : k = 12 := by omega
      subst hke
      have hlb := lib_any wr wr.heap.size C cp (skBs fl 12) (HI.out.bk.rd (by rw [skBs_len]; unfold maxLen; omega)) (Nat.le_refl _)
      rw [skBs_len, sk_build] at hlb
      have HLB := Lib.hid hlb
      have hbw := HI.out.bel.size
      have hwl : (wantL fl sk 12).length ≤ 12 := wantL_len _ _ _
      have HWA : Hid (wantL fl sk 12 = wantF fl sk 12 0) := wantL_all fl sk
      have HBE := Lib.hid HI.out.bel
      have HWT := Lib.hid HI.out.wt
      clear hlb HI
      go_wp2_with fail
      refine HLB.out.mono ?_
      rintro e w5 ⟨A1, A2, A3, c1, c2, c3, rfl, hz, hb⟩
      have HZ := Lib.hid hz
      have HBE5 := Lib.hid (HBE.out.trans (hb.mono hbw))
      have HWT5 : Hid (w5.ownsRow (w.heap.size + 1) 3 1 (.slice D (wantL fl sk 12).length dp) (wantL fl sk 12).length (ints (wantL fl sk 12))) := owns_keep HWT.out fun q hq _ => hb.block q hq
      clear hz hb HBE HWT HLB
      go_wp2_with fail
      refine (new_ofS (sk_new fl) sk w5 _ A1 A2 A3 c1 c2 c3 HZ.out (HT.out.below HBE5.out hts) (HTN.out.below HBE5.out htns)).mono ?_
      rintro e w6 ⟨hb, B, F, rfl, hx⟩
      have HBE6 := Lib.hid (HBE5.out.trans (hb.mono HBE5.out.size))
      have HX6 := Lib.hid hx.1
      have HBg := Lib.hid hx.2.1
      have hs56 := hb.size
      have HWT6 : Hid (w6.ownsRow (w.heap.size + 1) 3 1 (.slice D (wantL fl sk 12).length dp) (wantL fl sk 12).length (ints (wantL fl sk 12))) := owns_keep HWT5.out fun q hq _ => hb.block q hq
      have HDl : Hid (∀ q, (Value.slice D (wantL fl sk 12).length dp).ownBlock = some q → q < B) := fun q hq => Nat.lt_of_lt_of_le (own_blk HWT5.out hq).2 hx.2.1
      have HWB : Hid (w.heap.size ≤ B) := Nat.le_trans HBE5.out.size hx.2.1
      clear hx hb HBE5 HWT5 HZ
      go_wp2_with fail
      refine (awake_any10 w6 HX6.out.tab HX6.out.tn).mono ?_
      rintro e w7 ⟨rfl, hb⟩
      have HBE7 := Lib.hid (HBE6.out.trans (hb.mono HBE6.out.size))
      have HX7 := Lib.hid (HX6.out.below hb)
      have HWT7 : Hid (w7.ownsRow (w.heap.size + 1) 3 1 (.slice D (wantL fl sk 12).length dp) (wantL fl sk 12).length (ints (wantL fl sk 12))) := owns_keep HWT6.out fun q hq _ => hb.block q hq
      clear hb HBE6 HX6 HWT6
      have HR7 : Hid (SkR2 w B F fl sk D dp (.int .i64 0) w7) := ⟨0, 0, F, by omega, by omega, rfl, rfl, by rw [HWA.out]; rfl, HX7.out, HBE7.out, HWT7.out⟩
      clear HBE7 HX7 HWT7
      go_wp2_with fail
      go_loopw [12] (SkR2 w B F fl sk D dp) (fun i _ => 12 - (intOf i).toNat)
      case atStart => exact HR7.out
      case round =>
        obtain ⟨k, j, F', hk, hj, rfl, hmb, hdr, hx, hbe, hwt⟩ := hrel
        have HX := Lib.hid hx
        have HBE := Lib.hid hbe
        have HWT := Lib.hid hwt
        have HMB := Lib.hid hmb
        clear hx hbe hwt HR7
        by_cases hlt : k < (wantL fl sk 12).length
        · obtain ⟨gD, hgD, q1, q2, q3, q4, _⟩ := own_some HWT.out (by omega)
          subst hgD
          rcases sk_nextS fl sk j hj with ⟨e1, _⟩ | ⟨j2, j3, j4, e1, e2⟩
          · rw [e1] at hdr
            have := List.drop_eq_nil_iff.1 hdr
            omega
          have hd := hdr.trans e1
          have hk1 : (wantL fl sk 12)[k]? = some (j2 : Int) := by
            have q := congrArg (fun l => l[0]?) hd
            simpa using q
          have hk2 : (wantL fl sk 12).drop (k + 1) = wantF fl sk (12 - (j2 + 1)) (j2 + 1) := by
            have q := congrArg List.tail hd
            simpa using q
          have HK2 := Lib.hid hk2
          have cD : wr.cell? ⟨gD, k, none⟩ = some (.int .i64 (j2 : Int)) := by
            rw [HWT.out.cellAt k (by omega)]
            unfold ints
            rw [List.getElem?_map, hk1]
            rfl
          have hnc := next_of e2 HX.out
          rw [hmb] at hnc
          have HNC := Lib.hid hnc
          have hgB := HDl.out gD rfl
          have i0 : (0 : Int) ≤ (k : Int) := by omega
          have i1 : (k : Int) < ((wantL fl sk 12).length : Int) := by omega
          clear hnc e1 e2 hd hk1 hk2 hdr hmb
          go_wp2_with fail
          refine HNC.out.mono ?_
          rintro e w8 ⟨A5, c5, rfl, _, F5, hmv, hmx, hch⟩
          have HB8 : Hid (Below w.heap.size w w8) := HBE.out.trans (MP.bel HX.out ⟨F5, hmv, hmx, hch⟩ HWB.out)
          have HWT8 : Hid (w8.ownsRow (w.heap.size + 1) 3 1 (.slice (some ⟨gD, 0, none⟩) (wantL fl sk 12).length dp) (wantL fl sk 12).length (ints (wantL fl sk 12))) := owns_keep HWT.out fun q hq hv => hch.block q hq fun ho => by have := HDl.out q hv; have := (HX.out.own_ge q ho).1; omega
          have cD8 : w8.cell? ⟨gD, k, none⟩ = some (.int .i64 (j2 : Int)) := (cell_hp (hch.block gD q2 fun ho => by have := (HX.out.own_ge gD ho).1; omega)).trans cD
          have HX8 := Lib.hid hmx
          have HMB8 : Hid (F5.mb = F.mb) := hmv.mb.trans HMB.out
          have hs8 := hch.size
          clear hmv hmx hch cD
          obtain ⟨W9, hW9⟩ : ∃ W9, W9 = w8.alloc (.cells #[.int .i64 1, .int .i64 (j2 : Int), .slice A5 1 c5] 40) := ⟨_, rfl⟩
          have HB9 : Hid (Below w8.heap.size w8 W9) := by unfold Hid; rw [hW9]; exact (Below.refl _ _).alloc (Nat.le_refl _) _
          have s1 : W9.cell? ⟨w8.heap.size, 1, none⟩ = some (.int .i64 (j2 : Int)) := by
            have q := heap_alloc_new w8 (.cells #[.int .i64 1, .int .i64 (j2 : Int), .slice A5 1 c5] 40)
            rw [← hW9] at q
            exact cell_of_row W9 _ 1 _ _ _ q
          have cD9 : W9.cell? ⟨gD, k, none⟩ = some (.int .i64 (j2 : Int)) := (HB9.out.cell (p := ⟨gD, k, none⟩) (by dsimp only; omega)).trans cD8
          clear cD8
          have hl1 : [((88 : Int), (j2 : Int))].length = 1 := rfl
          rw [hl1]
          clear hl1
          go_upto_region 21 with (fail)
          rw [← hW9]
          clear hW9
          go_quiet (fail)
          go_wp2_with fail
          exact ⟨⟨k + 1, j2 + 1, F5, by omega, by omega, by go_num, HMB8.out, HK2.out, HX8.out.below (below_dn HB9.out nq), below_dn (HB8.out.trans (HB9.out.mono HB8.out.size)) nq, owns_keep HWT8.out fun q hq _ => (below_dn HB9.out nq).block q hq⟩, by simp only [intOf]; omega⟩
        · have hke : k = (wantL fl sk 12).length := by omega
          rcases sk_nextS fl sk j hj with ⟨_, e2⟩ | ⟨j2, j3, j4, e1, e2⟩
          case inr =>
            rw [hke, List.drop_length, e1] at hdr
            cases hdr
          have hnc := next_of e2 HX.out
          rw [hmb] at hnc
          have HNC := Lib.hid hnc
          clear hnc e2 hdr hmb
          go_wp2_with fail
          refine HNC.out.mono ?_
          rintro e w8 ⟨A5, c5, rfl, _, F5, hmv, hmx, hch⟩
          have HB8 : Hid (Below w.heap.size w w8) := HBE.out.trans (MP.bel HX.out ⟨F5, hmv, hmx, hch⟩ HWB.out)
          have HX8 := Lib.hid hmx
          have HMB8 : Hid (F5.mb = F.mb) := hmv.mb.trans HMB.out
          have hs8 := hch.size
          clear hmv hmx hch
          obtain ⟨W9, hW9⟩ : ∃ W9, W9 = w8.alloc (.cells #[.int .i64 2, .int .i64 0, .slice A5 0 c5] 40) := ⟨_, rfl⟩
          have HB9 : Hid (Below w8.heap.size w8 W9) := by unfold Hid; rw [hW9]; exact (Below.refl _ _).alloc (Nat.le_refl _) _
          have s0 : W9.cell? ⟨w8.heap.size, 0, none⟩ = some (.int .i64 2) := by
            have q := heap_alloc_new w8 (.cells #[.int .i64 2, .int .i64 0, .slice A5 0 c5] 40)
            rw [← hW9] at q
            exact cell_of_row W9 _ 0 _ _ _ q
          have hst := (HX8.out.below HB9.out).steps_at
          rw [HMB8.out] at hst
          have HST := Lib.hid hst
          have hl0 : ([] : List (Int × Int)).length = 0 := rfl
          dsimp only
          rw [hl0]
          clear hl0 hst
          go_upto_region 24 with (fail)
          rw [← hW9]
          clear hW9
          go_wp2_with (go_at_call 18; refine (steps_cell HST.out).mono ?_; rintro e w10 ⟨rfl, rfl⟩)
          go_ret
          exact ⟨rfl, HB8.out.trans (HB9.out.mono HB8.out.size)⟩
end Go.Proofs.YtdcjbhdfphcefaaGreatDoor
