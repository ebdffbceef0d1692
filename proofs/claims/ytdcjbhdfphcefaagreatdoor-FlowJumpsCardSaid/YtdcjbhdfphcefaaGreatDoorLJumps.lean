/- The walk of the law FlowJumps: it returns true. Conditions: the integers are ints; the two tables of the program are laid. -/
import Derived.Test.YtdcjbhdfphcefaaGreatDoorBl
import Derived.Test.YtdcjbhdfphcefaaGreatDoorJl
namespace Go.Proofs.YtdcjbhdfphcefaaGreatDoor
set_option linter.unusedVariables false
set_option linter.unusedSimpArgs false
open Go.RowKit

/-- The nine blocks. -/
def jFs : List Fb := [⟨0, 1, 0, 0, 0⟩, ⟨4, 2, 0, 1000000, 1⟩, ⟨0, 3, 0, 0, 0⟩, ⟨4, 4, 0, 1000000, 2⟩, ⟨0, 5, 0, 0, 0⟩, ⟨5, 6, 0, 0, 2⟩, ⟨0, 7, 0, 0, 0⟩, ⟨5, 8, 0, 0, 1⟩, ⟨0, 9, 0, 0, 0⟩]
theorem jFs_bl : jFs.map fb = jBs := rfl
theorem jFs_ok : ∀ f ∈ jFs, fok f := by
  intro f hf
  simp only [jFs, List.mem_cons, List.not_mem_nil, or_false] at hf
  rcases hf with rfl | rfl | rfl | rfl | rfl | rfl | rfl | rfl | rfl <;> (unfold fok I64; dsimp only; omega)
theorem new_at_1 (w : World) (o1 o2 : Obj) : ((w.alloc o1).alloc o2).heap[w.heap.size + 1]? = some o2 ∧ Below w.heap.size w ((w.alloc o1).alloc o2) ∧ ((w.alloc o1).alloc o2).heap.size = w.heap.size + 2 := by
  have q2 := heap_alloc_new (w.alloc o1) o2
  have s1 : (w.alloc o1).heap.size = w.heap.size + 1 := by simp
  rw [s1] at q2
  exact ⟨q2, ((Below.refl _ _).alloc (Nat.le_refl _) _).alloc (by omega) _, by simp⟩
theorem own_zero (W : World) (e : TypeId) (sz : Nat) : (W.alloc (.cells #[] e)).ownsRow W.heap.size e sz (.slice (some ⟨W.heap.size, 0, none⟩) 0 0) 0 [] :=
  ⟨by simp, .inr ⟨W.heap.size, 0, #[], rfl, Nat.le_refl _, heap_alloc_new _ _, Nat.le_refl _, Nat.zero_le _, by simp, by simp⟩⟩
theorem own_froz {W : World} {base g n cap sz : Nat} {e : TypeId} {xs : List Value} (h : W.ownsRow base e sz (.slice (some ⟨g, 0, none⟩) n cap) n xs) : ∀ j, W.frozen? ⟨g, j, none⟩ = false := by
  intro j
  rcases h.2 with ⟨e1, _⟩ | ⟨g', cap', cur, e1, _, e3, _⟩
  · cases e1
  · simp only [Value.slice.injEq, Option.some.injEq, Addr.mk.injEq, and_true, true_and] at e1
    obtain ⟨rfl, rfl⟩ := e1
    simp [World.frozen?, e3]
theorem setL_froz (g j : Nat) : ∀ (l : List Value) (W : World) (o : Nat), W.frozen? ⟨g, j, none⟩ = false → (setL W g o l).frozen? ⟨g, j, none⟩ = false := by
  intro l
  induction l with
  | nil => intro W o h; exact h
  | cons v r ih => intro W o h; rw [setL]; exact ih _ _ ((World.frozen?_setCell _ _ _ _).trans h)
theorem jFs_one : ∀ u ∈ jFs.flatMap fc, u.oneCell' = true := by decide +kernel
theorem wp_world {P : Program} {c : Code} {Q : Exit → Act → World → Prop} {a : Act} {W0 : World} (h : ∀ W, W = W0 → Code.wp P c Q a W) : Code.wp P c Q a W0 := h _ rfl
set_option maxRecDepth 100000 in
set_option maxHeartbeats 16000000 in
theorem jumpsLaw_any (a b : Int) (ha1 : -9223372036854775808 ≤ a) (ha2 : a ≤ 9223372036854775807) (hb1 : -9223372036854775808 ≤ b) (hb2 : b ≤ 9223372036854775807) (w : World) (ht : Tab w) (htn : Tn w) :
    Calls Tryz.prog 7 #[.int .i64 a, .int .i64 b] w fun e w' => e = .returned (.bool true) ∧ Below w.heap.size w w' := by
  have HT := Lib.hid ht
  have HTN := Lib.hid htn
  have hts := ht.lt
  have htns := htn.lt
  clear ht htn
  obtain ⟨m, hm⟩ : ∃ m : Nat, a % 5 = (m : Int) := ⟨(a % 5).toNat, by omega⟩
  obtain ⟨k, hk⟩ : ∃ k : Nat, b % 9 = (k : Int) := ⟨(b % 9).toNat, by omega⟩
  have hm5 : m < 5 := by omega
  have hk9 : k < 9 := by omega
  have HM := Lib.hid hm
  have HK := Lib.hid hk
  clear hm hk
  have h5 : ∀ W : World, Calls Tryz.prog 22 #[.int .i64 a, .int .i64 5] W fun e w' => e = .returned (.int .i64 (m : Int)) ∧ W = w' := fun W => by
    have q := mod_any a 5 (by omega) (by omega) ha1 ha2 W
    rw [HM.out] at q
    exact q
  have h9 : ∀ W : World, Calls Tryz.prog 22 #[.int .i64 b, .int .i64 9] W fun e w' => e = .returned (.int .i64 (k : Int)) ∧ W = w' := fun W => by
    have q := mod_any b 9 (by omega) (by omega) hb1 hb2 W
    rw [HK.out] at q
    exact q
  have H5 := Lib.hid h5
  have H9 := Lib.hid h9
  clear h5 h9
  go_enter Tryz.func7, Tryz.ntmps7
  go_upto_region 2 with (fail)
  go_cut [6] from 18 to 29 (fun s6 W => s6 = .slice (some ⟨w.heap.size + 1, 0, none⟩) 9 9 ∧ W.heap[w.heap.size + 1]? = some (.cells ⟨jFs.flatMap fc⟩ 54 (0, 0)) ∧ Below w.heap.size w W ∧ W.heap.size = w.heap.size + 2)
  case first =>
    go_wp2_with fail
    go_meet
    exact ⟨rfl, (new_at_1 w _ _).1, (new_at_1 w _ _).2.1, (new_at_1 w _ _).2.2⟩
  case rest =>
  obtain ⟨rfl, e2, eb, es⟩ := hcut
  have E2 := Lib.hid e2
  have EB := Lib.hid eb
  have ES := Lib.hid es
  clear e2 eb es
  go_upto_region 5 with (fail)
  refine wp_world fun W1 hW1 => ?_
  obtain ⟨e3, e4, eb, es⟩ : W1.heap[wc.heap.size]? = some (.cells #[.int .i64 0, .int .i64 0, .int .i64 1, .int .i64 1, .int .i64 2, .int .i64 2, .int .i64 1, .int .i64 1, .int .i64 0] 3 (0, 0)) ∧ W1.heap[wc.heap.size + 1]? = some (.cells #[.int .i64 0, .int .i64 2, .int .i64 4, .int .i64 6, .int .i64 8] 3 (0, 0)) ∧ Below wc.heap.size wc W1 ∧ W1.heap.size = wc.heap.size + 2 := by
    rw [hW1]
    exact ⟨(Below.heap_alloc _ _ _ (by simp)).trans (heap_alloc_new wc _), (new_at_1 wc _ _).1, (new_at_1 wc _ _).2.1, (new_at_1 wc _ _).2.2⟩
  clear hW1
  have E3 := Lib.hid e3
  have EB1 := Lib.hid eb
  have ES1 := Lib.hid es
  have cF : W1.cell? ⟨wc.heap.size + 1, m, none⟩ = some (.int .i64 ((2 * m : Nat) : Int)) := by
    refine (cell_of_row W1 _ m _ _ _ e4).trans ?_
    have : m = 0 ∨ m = 1 ∨ m = 2 ∨ m = 3 ∨ m = 4 := by omega
    rcases this with rfl | rfl | rfl | rfl | rfl <;> rfl
  obtain ⟨q, hq⟩ : ∃ q, q = 2 * m := ⟨_, rfl⟩
  rw [← hq] at cF
  have HQ := Lib.hid hq
  have i0 : (0 : Int) ≤ (m : Int) := by omega
  have i1 : (m : Int) < 5 := by omega
  have hq8 : q ≤ 8 := by omega
  clear e3 e4 eb es hq
  go_quiet ((go_at_call 22; first | with_reducible exact quiet_add_left (H5.out _) | with_reducible exact quiet_left (H5.out _) | with_reducible exact quiet_add_left (H9.out _) | with_reducible exact quiet_left (H9.out _)))
  go_upto_if 42 with (fail)
  go_cut [9] (fun s9 W => ∃ i : Nat, (i = 0 ∨ i = 2 ∨ i = 4) ∧ s9 = .int .i64 (i : Int) ∧ W = W1.drewN nq)
  case first =>
    have hq := HQ.out
    by_cases hm2 : q ≤ 4
    · have g0 : decide ((q : Int) > 4) = false := decide_eq_false (by omega)
      go_wp2_with fail
      go_meet
      exact ⟨q, by omega, rfl, rfl⟩
    · have g0 : decide ((q : Int) > 4) = true := decide_eq_true (by omega)
      go_wp2_with fail
      go_meet
      exact ⟨0, by omega, rfl, rfl⟩
  case rest =>
  obtain ⟨i, hi, rfl, rfl⟩ := hcut
  obtain ⟨W2, hW2⟩ : ∃ W2, W2 = W1.drewN nq := ⟨_, rfl⟩
  rw [← hW2]
  have hbd : Below wc.heap.size wc W2 := by rw [hW2]; exact below_dn EB1.out nq
  have hs2 : W2.heap.size = wc.heap.size + 2 := by rw [hW2]; exact ES1.out
  have D3 : Hid (W2.heap[wc.heap.size]? = some (.cells #[.int .i64 0, .int .i64 0, .int .i64 1, .int .i64 1, .int .i64 2, .int .i64 2, .int .i64 1, .int .i64 1, .int .i64 0] 3 (0, 0))) := by unfold Hid; rw [hW2]; exact E3.out
  have hsc : wc.heap.size = w.heap.size + 2 := ES.out
  have D2 : Hid (W2.heap[w.heap.size + 1]? = some (.cells ⟨jFs.flatMap fc⟩ 54 (0, 0))) := (hbd.block _ (by omega)).trans E2.out
  have DB := Lib.hid (EB.out.trans (hbd.mono EB.out.size))
  have hg1 : w.heap.size + 1 < W2.heap.size := by omega
  have hgd : wc.heap.size < W2.heap.size := by omega
  have hwc : w.heap.size + 1 < wc.heap.size := by omega
  clear hW2 hbd hs2 hsc E3 EB1 ES1 E2 EB ES cF
  clear i0 i1 hq8
  generalize wc.heap.size = gd at D3 hgd hwc ⊢
  obtain ⟨iB, zB, hiB, hB0, hB1, hB2, hBs⟩ := infoBl_parts
  have HIB := Lib.hid hiB
  have HZB := Lib.hid hB0
  clear hiB hB0
  have hi4 : i ≤ 4 := by omega
  have HI := Lib.hid hi
  clear hi
  go_upto_region 9 with ((at_builtin; refine wpList_append_lies _ rfl (.tmp 43) (.tmp 44) 29 rfl W2.heap.size 54 iB zB 11 136 Tryz.underlying29 HIB.out HZB.out hB1 hB2 hBs (by omega) (.slice (some ⟨W2.heap.size, 0, none⟩) 0 0) 0 [] rfl (own_zero W2 54 11) ⟨w.heap.size + 1, 0, none⟩ 9 9 (jFs.flatMap fc) rfl rfl (World.news_of_block (cs := ⟨jFs.flatMap fc⟩) ((Below.heap_alloc _ _ _ hg1).trans D2.out)) jFs_one (by omega) (by unfold maxLen; omega) (by omega) (by simp) _ rfl ?_; intro g9 c9 w9 ho9 hg9 hl9 hlt9; have HO9 : Hid (w9.ownsRow W2.heap.size 54 11 (.slice (some ⟨g9, 0, none⟩) 9 c9) 9 (jFs.flatMap fc)) := ho9; have HB9 : Hid (Below W2.heap.size W2 w9) := grown_bel (Below.refl _ _) ((Below.refl _ _).alloc (Nat.le_refl _) _) hg9 (fun q e => by simp [Value.ownBlock] at e; omega) (Nat.le_refl _); have hgg : W2.heap.size ≤ g9 := (own_blk HO9.out rfl).1; have hgl : g9 < w9.heap.size := hlt9; clear ho9 hg9 hl9 hlt9))
  have HL9 : Hid (Lz w9 (fun q => W2.heap.size ≤ q) (some ⟨g9, 0, none⟩) 9 jBs) := lz_flat HO9.out rfl (by unfold maxLen; omega) hgg jFs_ok
  have hzz : ∀ j, j < 11 → ∃ u, w9.cell? ⟨g9, i * 11 + j, none⟩ = some u := fun j hj => by
    have q := HO9.out.cellAt (i * 11 + j) (by omega)
    have hl : (jFs.flatMap fc).length = 99 := rfl
    rw [List.getElem?_eq_getElem (by omega)] at q
    exact ⟨_, q⟩
  obtain ⟨v0, z0⟩ : ∃ u, w9.cell? ⟨g9, i * 11, none⟩ = some u := hzz 0 (by omega)
  obtain ⟨v1, z1⟩ := hzz 1 (by omega)
  obtain ⟨v2, z2⟩ := hzz 2 (by omega)
  obtain ⟨v3, z3⟩ := hzz 3 (by omega)
  obtain ⟨v4, z4⟩ := hzz 4 (by omega)
  obtain ⟨v5, z5⟩ := hzz 5 (by omega)
  obtain ⟨v6, z6⟩ := hzz 6 (by omega)
  obtain ⟨v7, z7⟩ := hzz 7 (by omega)
  obtain ⟨v8, z8⟩ := hzz 8 (by omega)
  obtain ⟨v9, z9⟩ := hzz 9 (by omega)
  obtain ⟨v10, z10⟩ := hzz 10 (by omega)
  have i0 : (0 : Int) ≤ (i : Int) := by omega
  have i1 : (i : Int) < 9 := by omega
  have w1 : IntKind.i64.wrap ((i : Int) + 1) = (i : Int) + 1 := IntWalk.i64_in _ (by omega)
  have w2 : IntKind.i64.wrap ((k : Int) + 1) = (k : Int) + 1 := IntWalk.i64_in _ (by omega)
  have w3 : IntKind.i64.wrap (((k : Int) + 1) * 1000000) = ((k : Int) + 1) * 1000000 := IntWalk.i64_in _ (by omega)
  have zf : ∀ j, w9.frozen? ⟨g9, j, none⟩ = false := own_froz HO9.out
  clear hzz
  go_upto_region 10 with (fail)
  refine wp_world fun W3 hW3 => ?_
  have hW3' : W3 = setL w9 g9 (i * 11) (cellsB (goB ((i : Int) + 1) ((k : Int) + 1)) none 0 0 (.int .i64 0) (.int .i64 0) (.slice none 0 0) (.int .i64 0) (.int .i64 (((k : Int) + 1) * 1000000)) (.slice none 0 0)) := hW3
  have HL3 : Hid (Lz W3 (fun q => W2.heap.size ≤ q) (some ⟨g9, 0, none⟩) 9 (jG i k)) := by
    have hb : Bz w9 (fun j => W2.heap.size ≤ j ∧ j ≠ g9) (goB ((i : Int) + 1) ((k : Int) + 1)) none 0 (.int .i64 0) (.int .i64 0) (.slice none 0 0) (.int .i64 0) (.int .i64 (((k : Int) + 1) * 1000000)) (.slice none 0 0) :=
      ⟨by show I64 2; unfold I64; omega, by show I64 ((i : Int) + 1); unfold I64; omega, by show I64 0; unfold I64; omega, wz_nil _ _, rz_num _ _ _ (by unfold I64; omega), rz_num _ _ _ (by unfold I64; omega)⟩
    have q := Lz.set (l := jBs) (i := i) (c := 0) HL9.out (by show i < 9; omega) hb
    rw [← hW3'] at q
    have e : (jBs.set i (goB ((i : Int) + 1) ((k : Int) + 1))).length = 9 := by rw [List.length_set]; rfl
    rw [e] at q
    exact q
  have HB3 : Hid (Below W2.heap.size W2 W3) := by unfold Hid; rw [hW3']; exact setL_below HB9.out hgg _ _
  have hgl3 : g9 < W3.heap.size := by rw [hW3', setL_size]; exact hgl
  have HFZ : Hid (∀ W6 : World, Below W2.heap.size W2 W6 → (∀ q, q < W3.heap.size → W6.heap[q]? = W3.heap[q]?) → ∀ j, W6.frozen? ⟨g9, j, none⟩ = false) := by
    intro W6 _ hk j
    have e1 : W6.frozen? ⟨g9, j, none⟩ = W3.frozen? ⟨g9, j, none⟩ := World.frozen?_of_block (a := ⟨g9, j, none⟩) (hk g9 hgl3)
    rw [e1, hW3']
    exact setL_froz g9 j _ _ _ (zf j)
  clear hW3 hW3' z0 z1 z2 z3 z4 z5 z6 z7 z8 z9 z10 zf HL9 HO9 HB9 hgl w3
  go_upto_if 58 with (fail)
  go_cut [] (fun W => Lz W (fun q => W2.heap.size ≤ q) (some ⟨g9, 0, none⟩) 9 (jT i k) ∧ Below W2.heap.size W2 W)
  case first =>
    by_cases hki : k = i
    · have g58 : ((k : Int) != (i : Int)) = false := by simp [hki]
      go_wp2_with fail
      go_meet
      have e : jT i k = jG i k := by unfold jT; rw [if_neg (fun h => h.1 hki)]
      rw [e]
      exact ⟨HL3.out, HB3.out⟩
    · have g58 : ((k : Int) != (i : Int)) = true := by
        have : (k : Int) ≠ (i : Int) := by omega
        simp [this]
      have hk0 : (jG i k)[k]? = some ((jG i k).getD k noneB) := by
        have hl : (jG i k).length = 9 := by unfold jG; rw [List.length_set]; rfl
        rw [List.getD_eq_getElem?_getD, List.getElem?_eq_getElem (by omega)]
        rfl
      obtain ⟨kd, hkd⟩ : ∃ kd, kd = ((jG i k).getD k noneB).kind := ⟨_, rfl⟩
      have ckd := HL3.out.kind_at hk0
      rw [← hkd] at ckd
      have HKD := Lib.hid hkd
      obtain ⟨WA, hWA⟩ : ∃ WA, WA = W3.alloc (.cells #[.int .i64 88, .int .i64 (k : Int)] 3) := ⟨_, rfl⟩
      have HBA : Hid (Below W3.heap.size W3 WA) := by unfold Hid; rw [hWA]; exact (Below.refl _ _).alloc (Nat.le_refl _) _
      have q0 : WA.heap[W3.heap.size]? = some (.cells #[.int .i64 88, .int .i64 (k : Int)] 3 (0, 0)) := by rw [hWA]; exact heap_alloc_new _ _
      have HWC := Lib.hid (words_any_st WA W3.heap.size 0 2 [(88, (k : Int))] 2 rfl (fun i c m h => by
        rcases i with _ | i
        · simp at h
          obtain ⟨rfl, rfl⟩ := h
          exact ⟨cell_of_row WA _ 0 _ _ _ q0, cell_of_row WA _ 1 _ _ _ q0, by unfold I64; omega, by omega, by omega⟩
        · simp at h) (hlS q0) (by simp))
      clear q0 hkd hk0
      go_wp2_with fail
      rw [← hWA]
      clear hWA
      refine HWC.out.mono ?_
      rintro e w4 ⟨C2, cw, l0, l1, l2, x0, x1, x2, rfl, hz, hb⟩
      obtain ⟨lo, ln, lA, lk, lc, rfl, rfl, rfl⟩ := hz.left.form
      obtain ⟨xo, xn, xA, xk, xc, rfl, rfl, rfl⟩ := hz.x.form
      have HZ := Lib.hid hz
      have HB4 := Lib.hid (HBA.out.trans (hb.mono HBA.out.size))
      obtain ⟨W5, hW5⟩ : ∃ W5, W5 = w4.alloc (.cells #[.int .i64 0, .int .i64 0, .bool false, .slice C2 1 cw, .int .i64 lo, .int .i64 ln, .slice lA lk lc, .int .i64 xo, .int .i64 xn, .slice xA xk xc, .int .i64 0] 54) := ⟨_, rfl⟩
      have HB5 : Hid (Below w4.heap.size w4 W5) := by unfold Hid; rw [hW5]; exact (Below.refl _ _).alloc (Nat.le_refl _) _
      have hbk5 : W5.heap[w4.heap.size]? = some (.cells #[.int .i64 0, .int .i64 0, .bool false, .slice C2 1 cw, .int .i64 lo, .int .i64 ln, .slice lA lk lc, .int .i64 xo, .int .i64 xn, .slice xA xk xc, .int .i64 0] 54 (0, 0)) := by rw [hW5]; exact heap_alloc_new _ _
      have HBK5 := Lib.hid hbk5
      have hs4 := HB4.out.size
      have hs5 := HB5.out.size
      have hlt5 : w4.heap.size < W5.heap.size := hlS hbk5
      have d1 : W5.cell? ⟨w4.heap.size, 1, none⟩ = some (.int .i64 0) := cell_of_row W5 _ 1 _ _ _ hbk5
      have df : ∀ i, W5.frozen? ⟨w4.heap.size, i, none⟩ = false := fun i => by simp [World.frozen?, hbk5]
      have hl1 : [((88 : Int), (k : Int))].length = 1 := rfl
      rw [hl1]
      clear hz hb hbk5 hl1
      go_upto_region 12 with (fail)
      rw [← hW5]
      clear hW5
      go_upto_region 13 with (fail)
      refine wp_world fun W6 hW6 => ?_
      have k6 : ∀ q, q ≠ w4.heap.size → W6.heap[q]? = W5.heap[q]? := fun q hq => by rw [hW6]; exact Below.heap_setCell _ _ _ q hq
      have hs6 : W6.heap.size = W5.heap.size := by rw [hW6]; simp [World.setCell]
      have HBK6 : Hid (W6.heap[w4.heap.size]? = some (.cells #[.int .i64 0, .int .i64 ((k : Int) + 1), .bool false, .slice C2 1 cw, .int .i64 lo, .int .i64 ln, .slice lA lk lc, .int .i64 xo, .int .i64 xn, .slice xA xk xc, .int .i64 0] 54 (0, 0))) := by
        unfold Hid
        rw [hW6]
        have q := heap_set (i := 1) (u := .int .i64 ((k : Int) + 1)) HBK5.out
        simpa using q
      have hk36 : ∀ q, q < W3.heap.size → W6.heap[q]? = W3.heap[q]? := fun q hq => (k6 q (by omega)).trans ((HB5.out.block q (by omega)).trans (HB4.out.block q hq))
      have HK36 := Lib.hid hk36
      have ckd6 : W6.cell? ⟨g9, k * 11, none⟩ = some (.int .i64 kd) := (cell_hp (hk36 g9 hgl3)).trans ckd
      have HL6 : Hid (Lz W6 (fun q => W2.heap.size ≤ q) (some ⟨g9, 0, none⟩) 9 (jG i k)) := HL3.out.keep (by omega) (fun _ _ h => h) fun q hq _ => hk36 q hq
      have HB6 : Hid (Below W2.heap.size W2 W6) := ⟨by rw [hW6]; exact HB5.out.os.trans (HB4.out.os.trans HB3.out.os), by rw [hW6]; exact HB5.out.tape.trans (HB4.out.tape.trans HB3.out.tape), by rw [hW6]; exact HB5.out.output.trans (HB4.out.output.trans HB3.out.output), by have := HB3.out.size; omega, fun q hq => (hk36 q (by have := HB3.out.size; omega)).trans (HB3.out.block q hq)⟩
      have hE : (wordsB [(88, (k : Int))]).words = (wordB false ((k : Int) + 1) 88 (k : Int)).words := by simp [wordsB, wordB, wordT_pos]
      have HZ6 : Hid (Bz W6 (fun j => W2.heap.size ≤ j ∧ j ≠ g9) (wordB false ((k : Int) + 1) 88 (k : Int)) C2 1 (.int .i64 lo) (.int .i64 ln) (.slice lA lk lc) (.int .i64 xo) (.int .i64 xn) (.slice xA xk xc)) := by
        have hiz : ∀ g, g < w4.heap.size → WA.heap.size ≤ g → W2.heap.size ≤ g ∧ g ≠ g9 := fun g _ h2 => by have := HBA.out.size; have := HB3.out.size; omega
        have hkz : ∀ g, g < w4.heap.size → WA.heap.size ≤ g → W6.heap[g]? = w4.heap[g]? := fun g h1 _ => (k6 g (by omega)).trans (HB5.out.block g h1)
        have hw := HZ.out.words.keep (by omega) hiz hkz
        rw [hE] at hw
        exact ⟨by show I64 0; unfold I64; omega, by show I64 ((k : Int) + 1); unfold I64; omega, by show I64 0; unfold I64; omega, hw, HZ.out.left.keep (by omega) hiz hkz, HZ.out.x.keep (by omega) hiz hkz⟩
      clear hW6 k6 hs6 hk36 hE ckd d1 df
      have j0 : (0 : Int) ≤ (k : Int) := by omega
      have j1 : (k : Int) < 9 := by omega
      by_cases hkd0 : kd = 0
      · have g70 : (kd == 0) = true := by simp [hkd0]
        have hjT : jT i k = (jG i k).set k (wordB false ((k : Int) + 1) 88 (k : Int)) := by unfold jT; rw [if_pos ⟨hki, by rw [← HKD.out]; exact hkd0⟩]
        have HJT := Lib.hid hjT
        have hlen : ((jG i k).set k (wordB false ((k : Int) + 1) 88 (k : Int))).length = 9 := by rw [List.length_set]; unfold jG; rw [List.length_set]; rfl
        have hlen2 : (jG i k).length = 9 := by unfold jG; rw [List.length_set]; rfl
        have HLN := Lib.hid hlen
        have HLN2 := Lib.hid hlen2
        have hzz : ∀ j, j < 11 → ∃ u, W6.cell? ⟨g9, k * 11 + j, none⟩ = some u := fun j hj => by
          obtain ⟨_, _, h4⟩ := HL6.out
          rcases h4 with ⟨h4, _⟩ | ⟨g', e, _, _, hr⟩
          · cases h4
          injection e with e
          injection e with e
          subst e
          obtain ⟨A', n', c', m0, m1, m2, y0, y1, y2, hc, _⟩ := hr k ((jG i k)[k]'(by omega)) (List.getElem?_eq_getElem _)
          exact ⟨_, hc j _ (List.getElem?_eq_getElem (by simpa [cellsB] using hj))⟩
        obtain ⟨v0, z0⟩ : ∃ u, W6.cell? ⟨g9, k * 11, none⟩ = some u := hzz 0 (by omega)
        obtain ⟨v1, z1⟩ : ∃ u, W6.cell? ⟨g9, k * 11 + 1, none⟩ = some u := hzz 1 (by omega)
        obtain ⟨v2, z2⟩ : ∃ u, W6.cell? ⟨g9, k * 11 + 2, none⟩ = some u := hzz 2 (by omega)
        obtain ⟨v3, z3⟩ : ∃ u, W6.cell? ⟨g9, k * 11 + 3, none⟩ = some u := hzz 3 (by omega)
        obtain ⟨v4, z4⟩ : ∃ u, W6.cell? ⟨g9, k * 11 + 4, none⟩ = some u := hzz 4 (by omega)
        obtain ⟨v5, z5⟩ : ∃ u, W6.cell? ⟨g9, k * 11 + 5, none⟩ = some u := hzz 5 (by omega)
        obtain ⟨v6, z6⟩ : ∃ u, W6.cell? ⟨g9, k * 11 + 6, none⟩ = some u := hzz 6 (by omega)
        obtain ⟨v7, z7⟩ : ∃ u, W6.cell? ⟨g9, k * 11 + 7, none⟩ = some u := hzz 7 (by omega)
        obtain ⟨v8, z8⟩ : ∃ u, W6.cell? ⟨g9, k * 11 + 8, none⟩ = some u := hzz 8 (by omega)
        obtain ⟨v9, z9⟩ : ∃ u, W6.cell? ⟨g9, k * 11 + 9, none⟩ = some u := hzz 9 (by omega)
        obtain ⟨v10, z10⟩ : ∃ u, W6.cell? ⟨g9, k * 11 + 10, none⟩ = some u := hzz 10 (by omega)
        have m0 : W6.cell? ⟨w4.heap.size, 0, none⟩ = some (.int .i64 0) := cell_of_row W6 _ 0 _ _ _ HBK6.out
        have m1 : W6.cell? ⟨w4.heap.size, 1, none⟩ = some (.int .i64 ((k : Int) + 1)) := cell_of_row W6 _ 1 _ _ _ HBK6.out
        have m2 : W6.cell? ⟨w4.heap.size, 2, none⟩ = some (.bool false) := cell_of_row W6 _ 2 _ _ _ HBK6.out
        have m3 : W6.cell? ⟨w4.heap.size, 3, none⟩ = some (.slice C2 1 cw) := cell_of_row W6 _ 3 _ _ _ HBK6.out
        have m4 : W6.cell? ⟨w4.heap.size, 4, none⟩ = some (.int .i64 lo) := cell_of_row W6 _ 4 _ _ _ HBK6.out
        have m5 : W6.cell? ⟨w4.heap.size, 5, none⟩ = some (.int .i64 ln) := cell_of_row W6 _ 5 _ _ _ HBK6.out
        have m6 : W6.cell? ⟨w4.heap.size, 6, none⟩ = some (.slice lA lk lc) := cell_of_row W6 _ 6 _ _ _ HBK6.out
        have m7 : W6.cell? ⟨w4.heap.size, 7, none⟩ = some (.int .i64 xo) := cell_of_row W6 _ 7 _ _ _ HBK6.out
        have m8 : W6.cell? ⟨w4.heap.size, 8, none⟩ = some (.int .i64 xn) := cell_of_row W6 _ 8 _ _ _ HBK6.out
        have m9 : W6.cell? ⟨w4.heap.size, 9, none⟩ = some (.slice xA xk xc) := cell_of_row W6 _ 9 _ _ _ HBK6.out
        have m10 : W6.cell? ⟨w4.heap.size, 10, none⟩ = some (.int .i64 0) := cell_of_row W6 _ 10 _ _ _ HBK6.out
        have zf : ∀ j, W6.frozen? ⟨g9, j, none⟩ = false := HFZ.out W6 HB6.out HK36.out
        clear hjT hlen hlen2 hzz
        go_wp2_with fail
        go_meet
        have q := Lz.set (l := jG i k) (i := k) (c := cw) (by rw [HLN2.out]; exact HL6.out) (by rw [HLN2.out]; exact hk9) HZ6.out
        rw [HLN.out] at q
        rw [HJT.out]
        exact ⟨q, setL_below HB6.out hgg (cellsB (wordB false ((k : Int) + 1) 88 (k : Int)) C2 1 cw (.int .i64 lo) (.int .i64 ln) (.slice lA lk lc) (.int .i64 xo) (.int .i64 xn) (.slice xA xk xc)) (k * 11)⟩
      · have g70 : (kd == 0) = false := by simp [hkd0]
        have hjT : jT i k = jG i k := by unfold jT; rw [if_neg (fun h => hkd0 (by rw [HKD.out]; exact h.2))]
        have HJT := Lib.hid hjT
        clear hjT
        go_wp2_with fail
        go_meet
        rw [HJT.out]
        exact ⟨HL6.out, HB6.out⟩
  case rest =>
    obtain ⟨hl, hb⟩ := hcut
    have hln : (jT i k).length = 9 := hl.1.symm
    obtain ⟨jb, jn, jx⟩ := jl_law i k HI.out hk9
    have hlb := lib_any wc wc.heap.size (some ⟨g9, 0, none⟩) c9 (jT i k) (by rw [hln]; exact hl.rd) (Nat.le_refl _)
    rw [hln, jb] at hlb
    have HLB := Lib.hid hlb
    have HBE := Lib.hid (DB.out.trans (hb.mono DB.out.size))
    have HDP : Hid (wc.heap[gd]? = some (.cells #[.int .i64 0, .int .i64 0, .int .i64 1, .int .i64 1, .int .i64 2, .int .i64 2, .int .i64 1, .int .i64 1, .int .i64 0] 3 (0, 0))) := (hb.block _ hgd).trans D3.out
    have HJN : Hid (newS (jL i k) = some (jm 0 0)) := jn
    have HJX : Hid (jLaw i k (nextS (jL i k) false (jm 0 0)).2 = true) := jx
    have HKI := Lib.hid (hl.kind_at (k := k) (b := (jT i k).getD k noneB) (by rw [List.getD_eq_getElem?_getD, List.getElem?_eq_getElem (by omega)]; rfl))
    have hgw : gd < wc.heap.size := Nat.lt_of_lt_of_le hgd hb.size
    have hg9w : g9 < wc.heap.size := by
      obtain ⟨_, _, h4⟩ := hl
      rcases h4 with ⟨h4, _⟩ | ⟨g', e, _, q, _⟩
      · cases h4
      injection e with e
      injection e with e
      rw [e]; exact q
    clear hl hb hlb jb jn jx hln
    go_wp2_with fail
    refine HLB.out.mono ?_
    rintro e w5 ⟨A1, A2, A3, c1, c2, c3, rfl, hz, hb⟩
    have HZ := Lib.hid hz
    have HBE5 := Lib.hid (HBE.out.trans (hb.mono HBE.out.size))
    have HBL5 := Lib.hid hb
    clear hz hb HLB
    go_wp2_with fail
    refine (new_ofS HJN.out false w5 _ A1 A2 A3 c1 c2 c3 HZ.out (HT.out.below HBE5.out hts) (HTN.out.below HBE5.out htns)).mono ?_
    rintro e w6 ⟨hb, B, F, rfl, hx⟩
    have HBE6 := Lib.hid (HBE5.out.trans (hb.mono HBE5.out.size))
    have HBL6 := Lib.hid (HBL5.out.trans (hb.mono HBL5.out.size))
    have HX6 := Lib.hid hx.1
    have HBg := Lib.hid hx.2.1
    have HWB : Hid (w.heap.size ≤ B) := Nat.le_trans HBE5.out.size hx.2.1
    have HWC : Hid (wc.heap.size ≤ B) := Nat.le_trans HBL5.out.size hx.2.1
    clear hx hb HZ
    go_wp2_with fail
    refine (awake_any10 w6 HX6.out.tab HX6.out.tn).mono ?_
    rintro e w7 ⟨rfl, hb⟩
    have HBE7 := Lib.hid (HBE6.out.trans (hb.mono HBE6.out.size))
    have HBL7 := Lib.hid (HBL6.out.trans (hb.mono HBL6.out.size))
    have HX7 := Lib.hid (HX6.out.below hb)
    clear hb
    obtain ⟨⟨m', t, er⟩, hn⟩ : ∃ r, r = nextS (jL i k) false (jm 0 0) := ⟨_, rfl⟩
    have HJL : Hid (jLaw i k (t, er) = true) := by have q := HJX.out; rw [← hn] at q; exact q
    have HNC := Lib.hid (next_of hn.symm HX7.out)
    clear hn
    go_wp2_with fail
    refine HNC.out.mono ?_
    rintro e w8 ⟨A5, c5, rfl, _, F5, hmv, hmx, hch⟩
    have HB8 : Hid (Below w.heap.size w w8) := HBE7.out.trans (MP.bel HX7.out ⟨F5, hmv, hmx, hch⟩ HWB.out)
    have HBL8 : Hid (Below wc.heap.size wc w8) := HBL7.out.trans (MP.bel HX7.out ⟨F5, hmv, hmx, hch⟩ HWC.out)
    clear hmv hmx hch
    go_upto_region 19 with (fail)
    refine wp_world fun W9 hW9 => ?_
    have hb9 : Below w8.heap.size w8 W9 := by rw [hW9]; exact (Below.refl _ _).alloc (Nat.le_refl _) _
    have hbw := HBL8.out.trans (hb9.mono HBL8.out.size)
    have HB9 := Lib.hid (HB8.out.trans (hb9.mono HB8.out.size))
    have jd : ∀ j, j < 9 → W9.cell? ⟨gd, j, none⟩ = some (.int .i64 (jD j)) := fun j hj => by
      refine (cell_of_row W9 gd j _ _ _ ((hbw.block gd hgw).trans HDP.out)).trans ?_
      have : j = 0 ∨ j = 1 ∨ j = 2 ∨ j = 3 ∨ j = 4 ∨ j = 5 ∨ j = 6 ∨ j = 7 ∨ j = 8 := by omega
      rcases this with rfl | rfl | rfl | rfl | rfl | rfl | rfl | rfl | rfl <;> rfl
    have ck := jd k hk9
    have ci := jd i (by omega)
    have cz : W9.cell? ⟨g9, k * 11, none⟩ = some (.int .i64 ((jT i k).getD k noneB).kind) := (hbw.cell (p := ⟨g9, k * 11, none⟩) hg9w).trans HKI.out
    have s1 : W9.cell? ⟨w8.heap.size, 1, none⟩ = some (.int .i64 t.2.1) := by
      have q := heap_alloc_new w8 (.cells #[.int .i64 t.1, .int .i64 t.2.1, .slice A5 t.2.2.length c5] 40)
      rw [← hW9] at q
      exact cell_of_row W9 _ 1 _ _ _ q
    have j0 : (0 : Int) ≤ (k : Int) := by omega
    have j1 : (k : Int) < 9 := by omega
    have j2 : (0 : Int) ≤ (i : Int) := by omega
    have j3 : (i : Int) < 9 := by omega
    have hj := HJL.out
    unfold jLaw at hj
    generalize jD k = x at hj ck
    generalize jD i = y at hj ci
    generalize ((jT i k).getD k noneB).kind = z at hj cz
    clear jd hb9 hbw hW9
    by_cases h1 : x > y
    · rw [if_pos h1] at hj
      have he : er = 11 := by simpa using hj
      subst he
      have g1 : decide (x > y) = true := decide_eq_true h1
      clear hj
      go_quiet (fail)
      go_wp2_with fail
      go_ret
      exact ⟨rfl, below_dn HB9.out nq⟩
    · rw [if_neg h1] at hj
      have g1 : decide (x > y) = false := decide_eq_false h1
      by_cases h2 : z ≠ 0
      · rw [if_pos h2] at hj
        have g2 : (z != 0) = true := by simpa using h2
        have g3 : (er == 11) = false := by simpa using hj
        have g4 : (er != 11) = true := hj
        clear hj
        go_quiet (fail)
        go_wp2_with fail
        go_ret
        exact ⟨by first | rfl | simp [g4], below_dn HB9.out nq⟩
      · rw [if_neg h2] at hj
        have hz0 : z = 0 := by omega
        subst hz0
        have he : er = 0 ∧ t.2.1 = (k : Int) := by simpa using hj
        obtain ⟨rfl, h4⟩ := he
        rw [h4] at s1
        clear hj
        go_quiet (fail)
        go_wp2_with fail
        go_ret
        exact ⟨by first | rfl | simp, below_dn HB9.out nq⟩
end Go.Proofs.YtdcjbhdfphcefaaGreatDoor
