/- The store of the variables of cncref07: New, Get, Set. The store reads as one function of the number. Conditions: the integers are ints. -/
import Derived.Test.YtdipainocdgfgaaGreatDoorSt
import Derived.StillTailTactics
namespace Go.Proofs.YtdipainocdgfgaaGreatDoor
set_option linter.unusedVariables false
set_option linter.unusedSimpArgs false
open Go.RowKit

/-- The cells of a new store over a slice of levels. -/
theorem zc_stR : Tryz.zeroCells52 = ⟨.slice none 0 0 :: zeros 1100⟩ := by kernel_rfl
theorem stC_0R (v : Value) : (Tryz.zeroCells52.setIfInBounds 0 v)[0]? = some v := by
  rw [zc_stR, Array.getElem?_setIfInBounds, if_pos rfl, if_pos (arr_size _ _)]
theorem stC_succR (v : Value) (i : Nat) (h : i < 1100) : (Tryz.zeroCells52.setIfInBounds 0 v)[i + 1]? = some (.int .i64 0) := by
  rw [zc_stR, Array.getElem?_setIfInBounds, if_neg (by omega)]
  exact arr_succ _ _ _ _ (zeros_at h)
theorem made_lvR : ((Tryz.prog.info? 75).bind fun i => i.zero.map fun z => (madeCells z.cells (1 * i.size), decide (i.bytes ≤ 1000))) = some (lvC, true) := by kernel_rfl
theorem run_lvR (w : World) : (Instr.makeSlice 48 (.int .i64 1) (.int .i64 1)).run Tryz.prog w = .ok (.slice (some ⟨w.heap.size, 0, none⟩) 1 1) (w.alloc (.cells lvC 75)) := by
  have h := made_lvR
  rcases hi : Tryz.prog.info? 75 with _ | i
  · rw [hi] at h; cases h
  rw [hi] at h
  rcases hz : i.zero with _ | z
  · simp only [Option.bind_some, hz, Option.map_none] at h; cases h
  simp only [Option.bind_some, hz, Option.map_some, Option.some.injEq, Prod.mk.injEq, decide_eq_true_eq] at h
  have hr := run_make (P := Tryz.prog) w 48 75 i z Tryz.underlying48 hi hz .i64 .i64 1 1 (by omega) (by omega) (by omega) (by omega)
  rw [← h.1]
  exact hr

/-- A store in block b that reads as f: f n is the value of the variable n. -/
def Sr (w : World) (B b : Nat) (f : Int → Int) : Prop :=
  ∃ (lb : Nat) (cs ls : Array Value), B ≤ lb ∧ lb < b ∧ w.heap[b]? = some (.cells cs 52 (0, 0)) ∧ w.heap[lb]? = some (.cells ls 75 (0, 0)) ∧ cs[0]? = some (.slice (some ⟨lb, 0, none⟩) 1 1) ∧
    (∀ i : Nat, i < 33 → ls[i]? = some (.int .i64 (f (1 + i)))) ∧ (∀ i : Nat, i < 100 → cs[1 + i]? = some (.int .i64 (f (100 + i)))) ∧ (∀ i : Nat, i < 1000 → cs[101 + i]? = some (.int .i64 (f (5000 + i))))
theorem Sr.lt {w : World} {B b : Nat} {f : Int → Int} (h : Sr w B b f) : b < w.heap.size := by
  obtain ⟨lb, cs, ls, g1, g2, h1, _⟩ := h
  exact (Array.getElem?_eq_some_iff.1 h1).1
theorem Sr.ge {w : World} {B b : Nat} {f : Int → Int} (h : Sr w B b f) : B < b := by
  obtain ⟨lb, cs, ls, g1, g2, h1, _⟩ := h
  omega
theorem Sr.keep {w w' : World} {B b : Nat} {f : Int → Int} (h : Sr w B b f) (hk : ∀ g, B ≤ g → g ≤ b → w'.heap[g]? = w.heap[g]?) : Sr w' B b f := by
  obtain ⟨lb, cs, ls, g1, g2, h1, h2, h3⟩ := h
  exact ⟨lb, cs, ls, g1, g2, (hk b (by omega) (by omega)).trans h1, (hk lb (by omega) (by omega)).trans h2, h3⟩
theorem Sr.below {w w' : World} {B b C : Nat} {f : Int → Int} (h : Sr w B b f) (hb : Below C w w') (hC : b < C) : Sr w' B b f := h.keep fun g _ hg => hb.block g (by omega)
theorem Sr.lay (w : World) (cs ls : Array Value) (f : Int → Int) (h0 : cs[0]? = some (.slice (some ⟨w.heap.size, 0, none⟩) 1 1)) (h1 : ∀ i : Nat, i < 33 → ls[i]? = some (.int .i64 (f (1 + i)))) (h2 : ∀ i : Nat, i < 100 → cs[1 + i]? = some (.int .i64 (f (100 + i)))) (h3 : ∀ i : Nat, i < 1000 → cs[101 + i]? = some (.int .i64 (f (5000 + i)))) :
    Sr ((w.alloc (.cells ls 75)).alloc (.cells cs 52)) w.heap.size (w.heap.size + 1) f :=
  ⟨w.heap.size, cs, ls, by omega, by omega, by have := heap_alloc_new (w.alloc (.cells ls 75)) (.cells cs 52); simpa using this,
    (Below.heap_alloc _ _ _ (by simp)).trans (heap_alloc_new w _), h0, h1, h2, h3⟩
theorem newStore_anyR (w : World) :
    Calls Tryz.prog 8 #[] w fun e w' => e = .returned (.pointer (some ⟨w.heap.size + 1, 0, none⟩)) ∧ Sr w' w.heap.size (w.heap.size + 1) (fun _ => 0) ∧ Below w.heap.size w w' := by
  have r1 := run_lvR
  go_enter Tryz.func8, Tryz.ntmps8
  go_wp2
  go_ret
  exact ⟨rfl, Sr.lay w _ lvC (fun _ => 0) (stC_0R _) (fun i hi => lvC_at i hi) (fun i hi => by rw [Nat.add_comm]; exact stC_succR _ i (by omega)) (fun i hi => by rw [show 101 + i = (i + 100) + 1 by omega]; exact stC_succR _ (i + 100) (by omega)), ((Below.refl _ _).alloc (Nat.le_refl _) _).alloc (by simp) _⟩


theorem local_ref (n : Int) (w : World) : Calls Tryz.prog 47 #[.int .i64 n] w fun e w' => e = .returned (.bool (decide (1 ≤ n ∧ n ≤ 33))) ∧ w = w' := by
  by_cases h1 : 1 ≤ n <;> by_cases h2 : n ≤ 33
  all_goals
    go_enter Tryz.func47, Tryz.ntmps47
    go_wp2
    go_ret
    exact ⟨congrArg (fun q => Ending.returned (.bool q)) (by simp; omega), rfl⟩
theorem common_ref (n : Int) (w : World) : Calls Tryz.prog 48 #[.int .i64 n] w fun e w' => e = .returned (.bool (decide (100 ≤ n ∧ n ≤ 199))) ∧ w = w' := by
  by_cases h1 : 100 ≤ n <;> by_cases h2 : n ≤ 199
  all_goals
    go_enter Tryz.func48, Tryz.ntmps48
    go_wp2
    go_ret
    exact ⟨congrArg (fun q => Ending.returned (.bool q)) (by simp; omega), rfl⟩
theorem system_ref (n : Int) (w : World) : Calls Tryz.prog 46 #[.int .i64 n] w fun e w' => e = .returned (.bool (decide (5000 ≤ n ∧ n ≤ 5999))) ∧ w = w' := by
  by_cases h1 : 5000 ≤ n <;> by_cases h2 : n ≤ 5999
  all_goals
    go_enter Tryz.func46, Tryz.ntmps46
    go_wp2
    go_ret
    exact ⟨congrArg (fun q => Ending.returned (.bool q)) (by simp; omega), rfl⟩
theorem not_in {n lo hi : Int} (h : ¬ (lo ≤ n ∧ n ≤ hi)) : decide (lo ≤ n ∧ n ≤ hi) = false := decide_eq_false h
theorem getR_any (w : World) (B b : Nat) (f : Int → Int) (n : Int) (h : Sr w B b f) :
    Calls Tryz.prog 34 #[.pointer (some ⟨b, 0, none⟩), .int .i64 n] w fun e w' => e = .returned (.tuple #[.int .i64 (getS f n).1, .int .i64 (getS f n).2]) ∧ ∃ k, w' = w.drewN k := by
  obtain ⟨lb, cs, ls, hne1, hne2, h1, h2, h0, k1, k2, k3⟩ := h
  have e : getS f n = if isV n then (f n, 0) else (0, 6) := rfl
  have HL := Lib.hid (fun W => local_ref n W)
  have HC := Lib.hid (fun W => common_ref n W)
  have HS := Lib.hid (fun W => system_ref n W)
  by_cases c1 : 1 ≤ n ∧ n ≤ 33
  · rw [e, if_pos (by simp [isV]; omega)]
    rw [decide_eq_true c1] at HL
    obtain ⟨c1, c2⟩ := c1
    have c0 : w.cell? ⟨b, 0, none⟩ = some (.slice (some ⟨lb, 0, none⟩) 1 1) := (cell_of_row w b 0 _ _ _ h1).trans h0
    have hc : w.cell? ⟨lb, n.toNat - 1, none⟩ = some (.int .i64 (f n)) := by
      have := k1 (n.toNat - 1) (by omega)
      rw [show (1 : Int) + ((n.toNat - 1 : Nat) : Int) = n by omega] at this
      exact (cell_of_row w lb _ _ _ _ h2).trans this
    clear k1 k2 k3 h1 h2 h0 e
    go_enter Tryz.func34, Tryz.ntmps34
    go_wp2_with (go_at_call 47; refine (HL.out _).mono ?_; rintro e w' ⟨rfl, rfl⟩)
    go_quiet (fail)
    go_wp2
    go_ret2
    exact ⟨rfl, _, rfl⟩
  by_cases c2 : 100 ≤ n ∧ n ≤ 199
  · rw [e, if_pos (by simp [isV]; omega)]
    rw [not_in c1] at HL
    rw [decide_eq_true c2] at HC
    obtain ⟨c2, c3⟩ := c2
    have hc : w.cell? ⟨b, 1 + (n - 100).toNat, none⟩ = some (.int .i64 (f n)) := by
      have := k2 (n - 100).toNat (by omega)
      rw [show (100 : Int) + ((n - 100).toNat : Int) = n by omega] at this
      exact (cell_of_row w b _ _ _ _ h1).trans this
    clear k1 k2 k3 h1 h2 h0 e c1
    go_enter Tryz.func34, Tryz.ntmps34
    go_wp2_with (first | (go_at_call 47; refine (HL.out _).mono ?_; rintro e w' ⟨rfl, rfl⟩) | (go_at_call 48; refine (HC.out _).mono ?_; rintro e w' ⟨rfl, rfl⟩))
    go_ret2
    exact ⟨rfl, 0, rfl⟩
  by_cases c3 : 5000 ≤ n ∧ n ≤ 5999
  · rw [e, if_pos (by simp [isV]; omega)]
    rw [not_in c1] at HL
    rw [not_in c2] at HC
    rw [decide_eq_true c3] at HS
    obtain ⟨c3, c4⟩ := c3
    have hc : w.cell? ⟨b, 101 + (n - 5000).toNat, none⟩ = some (.int .i64 (f n)) := by
      have := k3 (n - 5000).toNat (by omega)
      rw [show (5000 : Int) + ((n - 5000).toNat : Int) = n by omega] at this
      exact (cell_of_row w b _ _ _ _ h1).trans this
    clear k1 k2 k3 h1 h2 h0 e c1 c2
    go_enter Tryz.func34, Tryz.ntmps34
    go_wp2_with (first | (go_at_call 47; refine (HL.out _).mono ?_; rintro e w' ⟨rfl, rfl⟩) | (go_at_call 48; refine (HC.out _).mono ?_; rintro e w' ⟨rfl, rfl⟩) | (go_at_call 46; refine (HS.out _).mono ?_; rintro e w' ⟨rfl, rfl⟩))
    go_ret2
    exact ⟨rfl, 0, rfl⟩
  · rw [e, if_neg (by simp [isV]; omega)]
    rw [not_in c1] at HL
    rw [not_in c2] at HC
    rw [not_in c3] at HS
    clear k1 k2 k3 h1 h2 h0 e c1 c2 c3
    go_enter Tryz.func34, Tryz.ntmps34
    go_wp2_with (first | (go_at_call 47; refine (HL.out _).mono ?_; rintro e w' ⟨rfl, rfl⟩) | (go_at_call 48; refine (HC.out _).mono ?_; rintro e w' ⟨rfl, rfl⟩) | (go_at_call 46; refine (HS.out _).mono ?_; rintro e w' ⟨rfl, rfl⟩))
    go_ret2
    exact ⟨rfl, 0, rfl⟩
theorem Sr.set_loc {w : World} {B b lb : Nat} {cs ls : Array Value} {f : Int → Int} {n v : Int} (g1 : B ≤ lb) (g2 : lb < b) (h1 : w.heap[b]? = some (.cells cs 52 (0, 0))) (h2 : w.heap[lb]? = some (.cells ls 75 (0, 0)))
    (h0 : cs[0]? = some (.slice (some ⟨lb, 0, none⟩) 1 1)) (k1 : ∀ i : Nat, i < 33 → ls[i]? = some (.int .i64 (f (1 + i)))) (k2 : ∀ i : Nat, i < 100 → cs[1 + i]? = some (.int .i64 (f (100 + i)))) (k3 : ∀ i : Nat, i < 1000 → cs[101 + i]? = some (.int .i64 (f (5000 + i))))
    (hn1 : 1 ≤ n) (hn2 : n ≤ 33) : Sr (w.setCell ⟨lb, n.toNat - 1, none⟩ (.int .i64 v)) B b (upd f n v) :=
  ⟨lb, cs, ls.setIfInBounds (n.toNat - 1) (.int .i64 v), g1, g2, (Below.heap_setCell _ _ _ b (by show b ≠ lb; omega)).trans h1, heap_set h2, h0,
    fun i hi => (at_set (k1 i hi)).trans (congrArg some (upd_at (by omega))),
    fun i hi => by rw [k2 i hi]; unfold upd; rw [if_neg (by omega)],
    fun i hi => by rw [k3 i hi]; unfold upd; rw [if_neg (by omega)]⟩
theorem Sr.set_com {w : World} {B b lb : Nat} {cs ls : Array Value} {f : Int → Int} {n v : Int} (g1 : B ≤ lb) (g2 : lb < b) (h1 : w.heap[b]? = some (.cells cs 52 (0, 0))) (h2 : w.heap[lb]? = some (.cells ls 75 (0, 0)))
    (h0 : cs[0]? = some (.slice (some ⟨lb, 0, none⟩) 1 1)) (k1 : ∀ i : Nat, i < 33 → ls[i]? = some (.int .i64 (f (1 + i)))) (k2 : ∀ i : Nat, i < 100 → cs[1 + i]? = some (.int .i64 (f (100 + i)))) (k3 : ∀ i : Nat, i < 1000 → cs[101 + i]? = some (.int .i64 (f (5000 + i))))
    (hn1 : 100 ≤ n) (hn2 : n ≤ 199) : Sr (w.setCell ⟨b, 1 + (n - 100).toNat, none⟩ (.int .i64 v)) B b (upd f n v) :=
  ⟨lb, cs.setIfInBounds (1 + (n - 100).toNat) (.int .i64 v), ls, g1, g2, heap_set h1, (Below.heap_setCell _ _ _ lb (by show lb ≠ b; omega)).trans h2,
    by rw [at_set h0, if_neg (by omega)],
    fun i hi => by rw [k1 i hi]; unfold upd; rw [if_neg (by omega)],
    fun i hi => (at_set (k2 i hi)).trans (congrArg some (upd_at (by omega))),
    fun i hi => by rw [at_set (k3 i hi), if_neg (by omega)]; unfold upd; rw [if_neg (by omega)]⟩
/-- What Set of the reference leaves. -/
def SetPostR (B b : Nat) (f : Int → Int) (n v : Int) (w : World) (e : Ending) (w' : World) : Prop :=
  e = .returned (.int .i64 (setS n v)) ∧ Sr w' B b (setF f n v) ∧ Below B w w' ∧ w'.heap.size = w.heap.size ∧ ∀ g, b < g → w'.heap[g]? = w.heap[g]?
theorem SetPostR.no {B b : Nat} {f : Int → Int} {n v : Int} {w : World} {k : Nat} (h : Sr w B b f) (hs : setS n v ≠ 0) : Sr (w.drewN k) B b (setF f n v) ∧ Below B w (w.drewN k) ∧ (w.drewN k).heap.size = w.heap.size ∧ ∀ g, b < g → (w.drewN k).heap[g]? = w.heap[g]? := by
  unfold setF
  rw [if_neg hs]
  exact ⟨h.keep fun _ _ _ => rfl, ⟨rfl, rfl, rfl, Nat.le_refl _, fun _ _ => rfl⟩, rfl, fun _ _ => rfl⟩
theorem setR_any (w : World) (B b : Nat) (f : Int → Int) (n v : Int) (h : Sr w B b f) :
    Calls Tryz.prog 29 #[.pointer (some ⟨b, 0, none⟩), .int .i64 n, .int .i64 v] w (SetPostR B b f n v w) := by
  have HSR := Lib.hid h
  obtain ⟨lb, cs, ls, g1, g2, h1, h2, h0, k1, k2, k3⟩ := h
  have H1 := Lib.hid h1; have H0 := Lib.hid h0; have H2 := Lib.hid h2
  have K1 := Lib.hid k1; have K2 := Lib.hid k2; have K3 := Lib.hid k3
  have HL := Lib.hid (fun W => local_ref n W)
  have HC := Lib.hid (fun W => common_ref n W)
  have HS := Lib.hid (fun W => system_ref n W)
  by_cases c3 : 5000 ≤ n ∧ n ≤ 5999
  · have E : Hid (setS n v = 13) := by unfold Hid setS; rw [if_pos (by simp [isV]; omega), if_pos (by omega)]
    rw [decide_eq_true c3] at HS
    clear k1 k2 k3 h1 h2 h0 c3
    go_enter Tryz.func29, Tryz.ntmps29
    go_wp2_with (first | (go_at_call 46; refine (HS.out _).mono ?_; rintro e w' ⟨rfl, rfl⟩) | (go_at_call 47; refine (HL.out _).mono ?_; rintro e w' ⟨rfl, rfl⟩) | (go_at_call 48; refine (HC.out _).mono ?_; rintro e w' ⟨rfl, rfl⟩) | (go_at_call 49; refine (valid_ref _ _).mono ?_; rintro e w' ⟨rfl, rfl⟩))
    go_ret
    exact ⟨ret_int E.out.symm, SetPostR.no (k := 0) HSR.out (by rw [E.out]; omega)⟩
  rw [not_in c3] at HS
  by_cases hv : (1 ≤ n ∧ n ≤ 33) ∨ (100 ≤ n ∧ n ≤ 199)
  case neg =>
    have E : Hid (setS n v = 6) := by unfold Hid setS; rw [if_neg (by simp [isV]; omega)]
    rw [not_in (fun k => hv (.inl k))] at HL
    rw [not_in (fun k => hv (.inr k))] at HC
    clear k1 k2 k3 h1 h2 h0 c3 hv
    go_enter Tryz.func29, Tryz.ntmps29
    go_wp2_with (first | (go_at_call 46; refine (HS.out _).mono ?_; rintro e w' ⟨rfl, rfl⟩) | (go_at_call 47; refine (HL.out _).mono ?_; rintro e w' ⟨rfl, rfl⟩) | (go_at_call 48; refine (HC.out _).mono ?_; rintro e w' ⟨rfl, rfl⟩) | (go_at_call 49; refine (valid_ref _ _).mono ?_; rintro e w' ⟨rfl, rfl⟩))
    go_ret
    exact ⟨ret_int E.out.symm, SetPostR.no (k := 0) HSR.out (by rw [E.out]; omega)⟩
  have hi : isV n = true := by simp [isV]; omega
  by_cases hl : 1 ≤ n ∧ n ≤ 33
  · rw [decide_eq_true hl] at HL
    obtain ⟨c1, c2⟩ := hl
    rcases hvl : vld v with _ | _
    · have E : Hid (setS n v = 3) := by unfold Hid setS; rw [hi, if_pos rfl, if_neg (by omega), hvl]; rfl
      clear k1 k2 k3 h1 h2 h0 c3 hv hi
      go_enter Tryz.func29, Tryz.ntmps29
      go_wp2_with (first | (go_at_call 46; refine (HS.out _).mono ?_; rintro e w' ⟨rfl, rfl⟩) | (go_at_call 47; refine (HL.out _).mono ?_; rintro e w' ⟨rfl, rfl⟩) | (go_at_call 48; refine (HC.out _).mono ?_; rintro e w' ⟨rfl, rfl⟩) | (go_at_call 49; refine (valid_ref _ _).mono ?_; rintro e w' ⟨rfl, rfl⟩))
      go_ret
      exact ⟨ret_int E.out.symm, SetPostR.no (k := 0) HSR.out (by rw [E.out]; omega)⟩
    · have E : Hid (setS n v = 0) := by unfold Hid setS; rw [hi, if_pos rfl, if_neg (by omega), hvl]; rfl
      have EF : Hid (setF f n v = upd f n v) := by unfold Hid setF; rw [if_pos E.out]
      have c0 : w.cell? ⟨b, 0, none⟩ = some (.slice (some ⟨lb, 0, none⟩) 1 1) := (cell_of_row w b 0 _ _ _ h1).trans h0
      have hc : w.cell? ⟨lb, n.toNat - 1, none⟩ = some (.int .i64 (f n)) := by
        have := k1 (n.toNat - 1) (by omega)
        rw [show (1 : Int) + ((n.toNat - 1 : Nat) : Int) = n by omega] at this
        exact (cell_of_row w lb _ _ _ _ H2.out).trans this
      have fr : w.frozen? ⟨lb, n.toNat - 1, none⟩ = false := by simp [World.frozen?, h2]
      clear k1 k2 k3 h1 h2 h0 c3 hv hi
      go_enter Tryz.func29, Tryz.ntmps29
      go_wp2_with (first | (go_at_call 46; refine (HS.out _).mono ?_; rintro e w' ⟨rfl, rfl⟩) | (go_at_call 47; refine (HL.out _).mono ?_; rintro e w' ⟨rfl, rfl⟩) | (go_at_call 48; refine (HC.out _).mono ?_; rintro e w' ⟨rfl, rfl⟩) | (go_at_call 49; refine (valid_ref _ _).mono ?_; rintro e w' ⟨rfl, rfl⟩))
      go_region
      go_wp2_with fail
      go_ret
      refine ⟨ret_int E.out.symm, ?_, ⟨rfl, rfl, rfl, by simp [World.setCell], fun j hj => Below.heap_setCell _ _ _ j (by show j ≠ lb; omega)⟩, by simp [World.setCell], fun j hj => Below.heap_setCell _ _ _ j (by show j ≠ lb; omega)⟩
      rw [EF.out]
      exact (Sr.set_loc (w := w) g1 g2 H1.out H2.out H0.out K1.out K2.out K3.out c1 c2).keep fun _ _ _ => rfl
  · have hcm : 100 ≤ n ∧ n ≤ 199 := by omega
    rw [not_in hl] at HL
    rw [decide_eq_true hcm] at HC
    obtain ⟨c1, c2⟩ := hcm
    rcases hvl : vld v with _ | _
    · have E : Hid (setS n v = 3) := by unfold Hid setS; rw [hi, if_pos rfl, if_neg (by omega), hvl]; rfl
      clear k1 k2 k3 h1 h2 h0 c3 hv hi hl
      go_enter Tryz.func29, Tryz.ntmps29
      go_wp2_with (first | (go_at_call 46; refine (HS.out _).mono ?_; rintro e w' ⟨rfl, rfl⟩) | (go_at_call 47; refine (HL.out _).mono ?_; rintro e w' ⟨rfl, rfl⟩) | (go_at_call 48; refine (HC.out _).mono ?_; rintro e w' ⟨rfl, rfl⟩) | (go_at_call 49; refine (valid_ref _ _).mono ?_; rintro e w' ⟨rfl, rfl⟩))
      go_ret
      exact ⟨ret_int E.out.symm, SetPostR.no (k := 0) HSR.out (by rw [E.out]; omega)⟩
    · have E : Hid (setS n v = 0) := by unfold Hid setS; rw [hi, if_pos rfl, if_neg (by omega), hvl]; rfl
      have EF : Hid (setF f n v = upd f n v) := by unfold Hid setF; rw [if_pos E.out]
      have hc : w.cell? ⟨b, 1 + (n - 100).toNat, none⟩ = some (.int .i64 (f n)) := by
        have := k2 (n - 100).toNat (by omega)
        rw [show (100 : Int) + ((n - 100).toNat : Int) = n by omega] at this
        exact (cell_of_row w b _ _ _ _ H1.out).trans this
      have fr : w.frozen? ⟨b, 1 + (n - 100).toNat, none⟩ = false := by simp [World.frozen?, h1]
      clear k1 k2 k3 h1 h2 h0 c3 hv hi hl
      go_enter Tryz.func29, Tryz.ntmps29
      go_wp2_with (first | (go_at_call 46; refine (HS.out _).mono ?_; rintro e w' ⟨rfl, rfl⟩) | (go_at_call 47; refine (HL.out _).mono ?_; rintro e w' ⟨rfl, rfl⟩) | (go_at_call 48; refine (HC.out _).mono ?_; rintro e w' ⟨rfl, rfl⟩) | (go_at_call 49; refine (valid_ref _ _).mono ?_; rintro e w' ⟨rfl, rfl⟩))
      go_ret
      refine ⟨ret_int E.out.symm, ?_, ⟨rfl, rfl, rfl, by simp [World.setCell], fun j hj => Below.heap_setCell _ _ _ j (by show j ≠ b; omega)⟩, by simp [World.setCell], fun j hj => Below.heap_setCell _ _ _ j (by show j ≠ b; omega)⟩
      rw [EF.out]
      exact Sr.set_com (w := w) g1 g2 H1.out H2.out H0.out K1.out K2.out K3.out c1 c2
end Go.Proofs.YtdipainocdgfgaaGreatDoor
