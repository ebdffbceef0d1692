/- The store of the variables: New, cell, Get, Set, Level. The store reads as one function of the number. Conditions: the integers are ints. -/
import Derived.Test.YtdipainocdgfgaaDoorJ
import Derived.Deep.QuietTactic
import Derived.BigQuiet
import Derived.Laws.Tables
import Derived.Laws.OwnMore
namespace Go.Proofs.YtdipainocdgfgaaDoor
set_option linter.unusedVariables false
set_option linter.unusedSimpArgs false
open Go.RowKit

def zeros (n : Nat) : List Value := List.replicate n (.int .i64 0)
theorem zeros_at {n i : Nat} (h : i < n) : (zeros n)[i]? = some (.int .i64 0) := List.getElem?_replicate_of_lt h
/-- The cells of a new store over a slice of levels. -/
theorem zc_st : Tryd.zeroCells59 = ⟨.slice none 0 0 :: zeros 1100⟩ := by kernel_rfl
def lvC : Array Value := ⟨zeros 33⟩
theorem arr_size (v : Value) (l : List Value) : 0 < (⟨v :: l⟩ : Array Value).size := Nat.succ_pos _
theorem arr_0 (v : Value) (l : List Value) : (⟨v :: l⟩ : Array Value)[0]? = some v := rfl
theorem arr_at (l : List Value) (i : Nat) (x : Value) (h : l[i]? = some x) : (⟨l⟩ : Array Value)[i]? = some x := by rw [← h]; exact List.getElem?_toArray
theorem arr_succ (v : Value) (l : List Value) (i : Nat) (x : Value) (h : l[i]? = some x) : (⟨v :: l⟩ : Array Value)[i + 1]? = some x := arr_at _ _ _ h
theorem stC_0 (v : Value) : (Tryd.zeroCells59.setIfInBounds 0 v)[0]? = some v := by
  rw [zc_st, Array.getElem?_setIfInBounds, if_pos rfl, if_pos (arr_size _ _)]
theorem stC_succ (v : Value) (i : Nat) (h : i < 1100) : (Tryd.zeroCells59.setIfInBounds 0 v)[i + 1]? = some (.int .i64 0) := by
  rw [zc_st, Array.getElem?_setIfInBounds, if_neg (by omega)]
  exact arr_succ _ _ _ _ (zeros_at h)
theorem lvC_at (i : Nat) (h : i < 33) : lvC[i]? = some (.int .i64 0) := arr_at _ _ _ (zeros_at h)
theorem made_lv : ((Tryd.prog.info? 65).bind fun i => i.zero.map fun z => (madeCells z.cells (1 * i.size), decide (i.bytes ≤ 1000))) = some (lvC, true) := by kernel_rfl
theorem run_lv (w : World) : (Instr.makeSlice 55 (.int .i64 1) (.int .i64 1)).run Tryd.prog w = .ok (.slice (some ⟨w.heap.size, 0, none⟩) 1 1) (w.alloc (.cells lvC 65)) := by
  have h := made_lv
  rcases hi : Tryd.prog.info? 65 with _ | i
  · rw [hi] at h; cases h
  rw [hi] at h
  rcases hz : i.zero with _ | z
  · simp only [Option.bind_some, hz, Option.map_none] at h; cases h
  simp only [Option.bind_some, hz, Option.map_some, Option.some.injEq, Prod.mk.injEq, decide_eq_true_eq] at h
  have hr := run_make (P := Tryd.prog) w 55 65 i z Tryd.underlying55 hi hz .i64 .i64 1 1 (by omega) (by omega) (by omega) (by omega)
  rw [← h.1]
  exact hr

/-- A store in block b that reads as f: f n is the value of the variable n. -/
def St (w : World) (B b : Nat) (f : Int → Int) : Prop :=
  ∃ (lb : Nat) (cs ls : Array Value), B ≤ lb ∧ lb < b ∧ w.heap[b]? = some (.cells cs 59 (0, 0)) ∧ w.heap[lb]? = some (.cells ls 65 (0, 0)) ∧ cs[0]? = some (.slice (some ⟨lb, 0, none⟩) 1 1) ∧
    (∀ i : Nat, i < 33 → ls[i]? = some (.int .i64 (f (1 + i)))) ∧ (∀ i : Nat, i < 100 → cs[1 + i]? = some (.int .i64 (f (100 + i)))) ∧ (∀ i : Nat, i < 1000 → cs[101 + i]? = some (.int .i64 (f (5000 + i))))
/-- The variables' values are numbers. -/
def Vf (f : Int → Int) : Prop := ∀ n, -1000000000000000 ≤ f n ∧ f n ≤ 1000000000000000
theorem St.lt {w : World} {B b : Nat} {f : Int → Int} (h : St w B b f) : b < w.heap.size := by
  obtain ⟨lb, cs, ls, g1, g2, h1, _⟩ := h
  exact (Array.getElem?_eq_some_iff.1 h1).1
theorem St.ge {w : World} {B b : Nat} {f : Int → Int} (h : St w B b f) : B < b := by
  obtain ⟨lb, cs, ls, g1, g2, h1, _⟩ := h
  omega
theorem St.keep {w w' : World} {B b : Nat} {f : Int → Int} (h : St w B b f) (hk : ∀ g, B ≤ g → g ≤ b → w'.heap[g]? = w.heap[g]?) : St w' B b f := by
  obtain ⟨lb, cs, ls, g1, g2, h1, h2, h3⟩ := h
  exact ⟨lb, cs, ls, g1, g2, (hk b (by omega) (by omega)).trans h1, (hk lb (by omega) (by omega)).trans h2, h3⟩
theorem St.below {w w' : World} {B b C : Nat} {f : Int → Int} (h : St w B b f) (hb : Below C w w') (hC : b < C) : St w' B b f := h.keep fun g _ hg => hb.block g (by omega)
theorem St.lay (w : World) (cs ls : Array Value) (f : Int → Int) (h0 : cs[0]? = some (.slice (some ⟨w.heap.size, 0, none⟩) 1 1)) (h1 : ∀ i : Nat, i < 33 → ls[i]? = some (.int .i64 (f (1 + i)))) (h2 : ∀ i : Nat, i < 100 → cs[1 + i]? = some (.int .i64 (f (100 + i)))) (h3 : ∀ i : Nat, i < 1000 → cs[101 + i]? = some (.int .i64 (f (5000 + i)))) :
    St ((w.alloc (.cells ls 65)).alloc (.cells cs 59)) w.heap.size (w.heap.size + 1) f :=
  ⟨w.heap.size, cs, ls, by omega, by omega, by have := heap_alloc_new (w.alloc (.cells ls 65)) (.cells cs 59); simpa using this,
    (Below.heap_alloc _ _ _ (by simp)).trans (heap_alloc_new w _), h0, h1, h2, h3⟩
theorem newStore_any (w : World) :
    Calls Tryd.prog 20 #[] w fun e w' => e = .returned (.pointer (some ⟨w.heap.size + 1, 0, none⟩)) ∧ St w' w.heap.size (w.heap.size + 1) (fun _ => 0) ∧ Below w.heap.size w w' := by
  have r1 := run_lv
  go_enter Tryd.func20, Tryd.ntmps20
  go_wp2
  go_ret
  exact ⟨rfl, St.lay w _ lvC (fun _ => 0) (stC_0 _) (fun i hi => lvC_at i hi) (fun i hi => by rw [Nat.add_comm]; exact stC_succ _ i (by omega)) (fun i hi => by rw [show 101 + i = (i + 100) + 1 by omega]; exact stC_succ _ (i + 100) (by omega)), ((Below.refl _ _).alloc (Nat.le_refl _) _).alloc (by simp) _⟩

/-- Does the variable n exist? -/
def isV (n : Int) : Bool := decide (1 ≤ n ∧ n ≤ 33) || decide (100 ≤ n ∧ n ≤ 199) || decide (5000 ≤ n ∧ n ≤ 5999)
theorem cell_loc (w : World) (b lb : Nat) (cs : Array Value) (n : Int) (h1 : w.heap[b]? = some (.cells cs 59 (0, 0))) (h0 : cs[0]? = some (.slice (some ⟨lb, 0, none⟩) 1 1)) (hn1 : 1 ≤ n) (hn2 : n ≤ 33) :
    Calls Tryd.prog 30 #[.pointer (some ⟨b, 0, none⟩), .int .i64 n] w fun e w' => e = .returned (.tuple #[.pointer (some ⟨lb, n.toNat - 1, none⟩), .bool false]) ∧ ∃ k, w' = w.drewN k := by
  have c0 : w.cell? ⟨b, 0, none⟩ = some (.slice (some ⟨lb, 0, none⟩) 1 1) := (cell_of_row w b 0 _ _ _ h1).trans h0
  have H1 := Lib.hid h1; clear h1
  have H0 := Lib.hid h0; clear h0
  go_enter Tryd.func30, Tryd.ntmps30
  go_wp2
  go_quiet (fail)
  go_wp2
  go_ret2
  exact ⟨rfl, _, rfl⟩
theorem cell_com (w : World) (b : Nat) (cs : Array Value) (n : Int) (hn1 : 100 ≤ n) (hn2 : n ≤ 199) :
    Calls Tryd.prog 30 #[.pointer (some ⟨b, 0, none⟩), .int .i64 n] w fun e w' => e = .returned (.tuple #[.pointer (some ⟨b, 1 + (n - 100).toNat, none⟩), .bool false]) ∧ ∃ k, w' = w.drewN k := by
  go_enter Tryd.func30, Tryd.ntmps30
  go_wp2
  go_ret2
  exact ⟨rfl, 0, rfl⟩
theorem cell_sys (w : World) (b : Nat) (cs : Array Value) (n : Int) (hn1 : 5000 ≤ n) (hn2 : n ≤ 5999) :
    Calls Tryd.prog 30 #[.pointer (some ⟨b, 0, none⟩), .int .i64 n] w fun e w' => e = .returned (.tuple #[.pointer (some ⟨b, 101 + (n - 5000).toNat, none⟩), .bool true]) ∧ ∃ k, w' = w.drewN k := by
  go_enter Tryd.func30, Tryd.ntmps30
  go_wp2
  go_ret2
  exact ⟨rfl, 0, rfl⟩
theorem isV_no {n : Int} (h : isV n = false) : n < 1 ∨ (33 < n ∧ n < 100) ∨ (199 < n ∧ n < 5000) ∨ 5999 < n := by
  simp only [isV, Bool.or_eq_false_iff, decide_eq_false_iff_not] at h
  omega
theorem cell_no (w : World) (b : Nat) (n : Int) (h : isV n = false) :
    Calls Tryd.prog 30 #[.pointer (some ⟨b, 0, none⟩), .int .i64 n] w fun e w' => e = .returned (.tuple #[.pointer none, .bool false]) ∧ w = w' := by
  have k := isV_no h
  clear h
  rcases k with k | ⟨k, k'⟩ | ⟨k, k'⟩ | k
  all_goals
    go_enter Tryd.func30, Tryd.ntmps30
    go_wp2
    go_ret2
    exact ⟨rfl, rfl⟩

/-- What Get returns. -/
def getS (f : Int → Int) (n : Int) : Int × Int := if isV n then (f n, 0) else (0, 6)
theorem get_any (w : World) (B b : Nat) (f : Int → Int) (n : Int) (h : St w B b f) :
    Calls Tryd.prog 24 #[.pointer (some ⟨b, 0, none⟩), .int .i64 n] w fun e w' => e = .returned (.tuple #[.int .i64 (getS f n).1, .int .i64 (getS f n).2]) ∧ ∃ k, w' = w.drewN k := by
  obtain ⟨lb, cs, ls, hne1, hne2, h1, h2, h0, k1, k2, k3⟩ := h
  rcases hv : isV n with _ | _
  · have e : getS f n = (0, 6) := by unfold getS; rw [hv]; rfl
    rw [e]
    have HV := Lib.hid hv; clear hv
    clear e k1 k2 k3
    go_enter Tryd.func24, Tryd.ntmps24
    go_wp2_with (go_at_call 30; refine (cell_no _ _ _ HV.out).mono ?_; rintro e w' ⟨rfl, rfl⟩)
    go_ret2
    exact ⟨rfl, 0, rfl⟩
  · have e : getS f n = (f n, 0) := by unfold getS; rw [hv]; rfl
    rw [e]
    clear e
    by_cases c1 : n ≤ 33
    · have c0 : 1 ≤ n := by simp only [isV, Bool.or_eq_true, decide_eq_true_eq] at hv; omega
      have hc : w.cell? ⟨lb, n.toNat - 1, none⟩ = some (.int .i64 (f n)) := by
        have := k1 (n.toNat - 1) (by omega)
        rw [show (1 : Int) + ((n.toNat - 1 : Nat) : Int) = n by omega] at this
        exact (cell_of_row w lb _ _ _ _ h2).trans this
      have H1 := Lib.hid h1; have H0 := Lib.hid h0
      clear hv k1 k2 k3 h1 h2 h0
      go_enter Tryd.func24, Tryd.ntmps24
      go_wp2_with (go_at_call 30; refine (cell_loc _ b lb cs n H1.out H0.out (by omega) (by omega)).mono ?_; rintro e w' ⟨rfl, k, rfl⟩)
      go_ret2
      exact ⟨rfl, _, rfl⟩
    by_cases c2 : n ≤ 199
    · have c0 : 100 ≤ n := by simp only [isV, Bool.or_eq_true, decide_eq_true_eq] at hv; omega
      have hc : w.cell? ⟨b, 1 + (n - 100).toNat, none⟩ = some (.int .i64 (f n)) := by
        have := k2 (n - 100).toNat (by omega)
        rw [show (100 : Int) + ((n - 100).toNat : Int) = n by omega] at this
        exact (cell_of_row w b _ _ _ _ h1).trans this
      clear hv k1 k2 k3 h1 h2 h0 c1
      go_enter Tryd.func24, Tryd.ntmps24
      go_wp2_with (go_at_call 30; refine (cell_com _ b cs n (by omega) (by omega)).mono ?_; rintro e w' ⟨rfl, k, rfl⟩)
      go_ret2
      exact ⟨rfl, _, rfl⟩
    · have c0 : 5000 ≤ n ∧ n ≤ 5999 := by simp only [isV, Bool.or_eq_true, decide_eq_true_eq] at hv; omega
      have hc : w.cell? ⟨b, 101 + (n - 5000).toNat, none⟩ = some (.int .i64 (f n)) := by
        have := k3 (n - 5000).toNat (by omega)
        rw [show (5000 : Int) + ((n - 5000).toNat : Int) = n by omega] at this
        exact (cell_of_row w b _ _ _ _ h1).trans this
      clear hv k1 k2 k3 h1 h2 h0 c1 c2
      obtain ⟨c1, c2⟩ := c0
      go_enter Tryd.func24, Tryd.ntmps24
      go_wp2_with (go_at_call 30; refine (cell_sys _ b cs n (by omega) (by omega)).mono ?_; rintro e w' ⟨rfl, k, rfl⟩)
      go_ret2
      exact ⟨rfl, _, rfl⟩
theorem level_any (w : World) (B b : Nat) (f : Int → Int) (h : St w B b f) :
    Calls Tryd.prog 26 #[.pointer (some ⟨b, 0, none⟩)] w fun e w' => e = .returned (.int .i64 0) ∧ w = w' := by
  obtain ⟨lb, cs, ls, hne1, hne2, h1, h2, h0, k1, k2, k3⟩ := h
  have c0 : w.cell? ⟨b, 0, none⟩ = some (.slice (some ⟨lb, 0, none⟩) 1 1) := (cell_of_row w b 0 _ _ _ h1).trans h0
  clear h1 h2 h0 k1 k2 k3
  go_enter Tryd.func26, Tryd.ntmps26
  go_wp2
  go_ret
  exact ⟨rfl, rfl⟩

/-- The values behind a Set. -/
def upd (f : Int → Int) (n v : Int) : Int → Int := fun m => if m = n then v else f m
/-- What Set returns. -/
def setS (n v : Int) : Int := if isV n then (if 5000 ≤ n then 13 else if vld v then 0 else 3) else 6
def setF (f : Int → Int) (n v : Int) : Int → Int := if setS n v = 0 then upd f n v else f
theorem heap_set {w : World} {g i : Nat} {t : TypeId} {cs : Array Value} {u : Value} (h : w.heap[g]? = some (.cells cs t (0, 0))) : (w.setCell ⟨g, i, none⟩ u).heap[g]? = some (.cells (cs.setIfInBounds i u) t (0, 0)) := by
  simp [World.setCell, Array.getElem?_modify, h]
theorem at_set {cs : Array Value} {i j : Nat} {u x : Value} (h : cs[j]? = some x) : (cs.setIfInBounds i u)[j]? = some (if i = j then u else x) := by
  have hj : j < cs.size := (Array.getElem?_eq_some_iff.1 h).1
  rw [Array.getElem?_setIfInBounds]
  by_cases e : i = j
  · rw [if_pos e, if_pos (by omega), if_pos e]
  · rw [if_neg e, h, if_neg e]
theorem upd_at {f : Int → Int} {n v m : Int} {i j : Nat} (h : i = j ↔ m = n) : (if i = j then Value.int .i64 v else Value.int .i64 (f m)) = Value.int .i64 (upd f n v m) := by
  unfold upd
  by_cases e : m = n
  · rw [if_pos e, if_pos (h.2 e)]
  · rw [if_neg e, if_neg (fun k => e (h.1 k))]
theorem St.set_loc {w : World} {B b lb : Nat} {cs ls : Array Value} {f : Int → Int} {n v : Int} (g1 : B ≤ lb) (g2 : lb < b) (h1 : w.heap[b]? = some (.cells cs 59 (0, 0))) (h2 : w.heap[lb]? = some (.cells ls 65 (0, 0)))
    (h0 : cs[0]? = some (.slice (some ⟨lb, 0, none⟩) 1 1)) (k1 : ∀ i : Nat, i < 33 → ls[i]? = some (.int .i64 (f (1 + i)))) (k2 : ∀ i : Nat, i < 100 → cs[1 + i]? = some (.int .i64 (f (100 + i)))) (k3 : ∀ i : Nat, i < 1000 → cs[101 + i]? = some (.int .i64 (f (5000 + i))))
    (hn1 : 1 ≤ n) (hn2 : n ≤ 33) : St (w.setCell ⟨lb, n.toNat - 1, none⟩ (.int .i64 v)) B b (upd f n v) :=
  ⟨lb, cs, ls.setIfInBounds (n.toNat - 1) (.int .i64 v), g1, g2, (Below.heap_setCell _ _ _ b (by show b ≠ lb; omega)).trans h1, heap_set h2, h0,
    fun i hi => (at_set (k1 i hi)).trans (congrArg some (upd_at (by omega))),
    fun i hi => by rw [k2 i hi]; unfold upd; rw [if_neg (by omega)],
    fun i hi => by rw [k3 i hi]; unfold upd; rw [if_neg (by omega)]⟩
theorem St.set_com {w : World} {B b lb : Nat} {cs ls : Array Value} {f : Int → Int} {n v : Int} (g1 : B ≤ lb) (g2 : lb < b) (h1 : w.heap[b]? = some (.cells cs 59 (0, 0))) (h2 : w.heap[lb]? = some (.cells ls 65 (0, 0)))
    (h0 : cs[0]? = some (.slice (some ⟨lb, 0, none⟩) 1 1)) (k1 : ∀ i : Nat, i < 33 → ls[i]? = some (.int .i64 (f (1 + i)))) (k2 : ∀ i : Nat, i < 100 → cs[1 + i]? = some (.int .i64 (f (100 + i)))) (k3 : ∀ i : Nat, i < 1000 → cs[101 + i]? = some (.int .i64 (f (5000 + i))))
    (hn1 : 100 ≤ n) (hn2 : n ≤ 199) : St (w.setCell ⟨b, 1 + (n - 100).toNat, none⟩ (.int .i64 v)) B b (upd f n v) :=
  ⟨lb, cs.setIfInBounds (1 + (n - 100).toNat) (.int .i64 v), ls, g1, g2, heap_set h1, (Below.heap_setCell _ _ _ lb (by show lb ≠ b; omega)).trans h2,
    by rw [at_set h0, if_neg (by omega)],
    fun i hi => by rw [k1 i hi]; unfold upd; rw [if_neg (by omega)],
    fun i hi => (at_set (k2 i hi)).trans (congrArg some (upd_at (by omega))),
    fun i hi => by rw [at_set (k3 i hi), if_neg (by omega)]; unfold upd; rw [if_neg (by omega)]⟩
/-- What Set leaves. -/
def SetPost (B b : Nat) (f : Int → Int) (n v : Int) (w : World) (e : Ending) (w' : World) : Prop :=
  e = .returned (.int .i64 (setS n v)) ∧ St w' B b (setF f n v) ∧ Below B w w' ∧ w'.heap.size = w.heap.size ∧ ∀ g, b < g → w'.heap[g]? = w.heap[g]?
theorem SetPost.no {B b : Nat} {f : Int → Int} {n v : Int} {w : World} {k : Nat} (h : St w B b f) (hs : setS n v ≠ 0) : St (w.drewN k) B b (setF f n v) ∧ Below B w (w.drewN k) ∧ (w.drewN k).heap.size = w.heap.size ∧ ∀ g, b < g → (w.drewN k).heap[g]? = w.heap[g]? := by
  unfold setF
  rw [if_neg hs]
  exact ⟨h.keep fun _ _ _ => rfl, ⟨rfl, rfl, rfl, Nat.le_refl _, fun _ _ => rfl⟩, rfl, fun _ _ => rfl⟩
theorem set_any (w : World) (B b : Nat) (f : Int → Int) (n v : Int) (h : St w B b f) :
    Calls Tryd.prog 21 #[.pointer (some ⟨b, 0, none⟩), .int .i64 n, .int .i64 v] w (SetPost B b f n v w) := by
  have HS := Lib.hid h
  obtain ⟨lb, cs, ls, g1, g2, h1, h2, h0, k1, k2, k3⟩ := h
  have H1 := Lib.hid h1; have H0 := Lib.hid h0; have H2 := Lib.hid h2
  have K1 := Lib.hid k1; have K2 := Lib.hid k2; have K3 := Lib.hid k3
  have f1 : ∀ i, w.frozen? ⟨lb, i, none⟩ = false := fun i => by simp [World.frozen?, h2]
  have f2 : ∀ i, w.frozen? ⟨b, i, none⟩ = false := fun i => by simp [World.frozen?, h1]
  clear h1 h0 h2
  rcases hv : isV n with _ | _
  · have e : setS n v = 6 := by unfold setS; rw [hv]; rfl
    have E := Lib.hid e
    have HV := Lib.hid hv
    clear hv e k1 k2 k3 f1 f2
    go_enter Tryd.func21, Tryd.ntmps21
    go_wp2_with (go_at_call 30; refine (cell_no _ _ _ HV.out).mono ?_; rintro e w' ⟨rfl, rfl⟩)
    go_ret
    exact ⟨ret_int E.out.symm, SetPost.no (k := 0) HS.out (by rw [E.out]; omega)⟩
  by_cases c3 : 5000 ≤ n
  · have e : setS n v = 13 := by unfold setS; rw [hv, if_pos c3]; rfl
    have c4 : n ≤ 5999 := by simp only [isV, Bool.or_eq_true, decide_eq_true_eq] at hv; omega
    have E := Lib.hid e
    clear hv e k1 k2 k3 f1 f2
    go_enter Tryd.func21, Tryd.ntmps21
    go_wp2_with (go_at_call 30; refine (cell_sys _ b cs n (by omega) (by omega)).mono ?_; rintro e w' ⟨rfl, k, rfl⟩)
    go_ret
    exact ⟨ret_int E.out.symm, SetPost.no HS.out (by rw [E.out]; omega)⟩
  rcases hvl : vld v with _ | _
  · have e : setS n v = 3 := by unfold setS; rw [hv, if_neg c3, hvl]; rfl
    have E := Lib.hid e
    by_cases c1 : n ≤ 33
    · have c0 : 1 ≤ n := by simp only [isV, Bool.or_eq_true, decide_eq_true_eq] at hv; omega
      clear hv e k1 k2 k3 f1 f2
      go_enter Tryd.func21, Tryd.ntmps21
      go_wp2_with (first | (go_at_call 30; refine (cell_loc _ b lb cs n H1.out H0.out (by omega) (by omega)).mono ?_; rintro e w' ⟨rfl, k, rfl⟩) | (go_at_call 31; refine (valid_any _ _).mono ?_; rintro e w' ⟨rfl, rfl⟩))
      go_ret
      exact ⟨ret_int E.out.symm, SetPost.no HS.out (by rw [E.out]; omega)⟩
    · have c0 : 100 ≤ n ∧ n ≤ 199 := by simp only [isV, Bool.or_eq_true, decide_eq_true_eq] at hv; omega
      obtain ⟨c2, c4⟩ := c0
      clear hv e k1 k2 k3 f1 f2
      go_enter Tryd.func21, Tryd.ntmps21
      go_wp2_with (first | (go_at_call 30; refine (cell_com _ b cs n (by omega) (by omega)).mono ?_; rintro e w' ⟨rfl, k, rfl⟩) | (go_at_call 31; refine (valid_any _ _).mono ?_; rintro e w' ⟨rfl, rfl⟩))
      go_ret
      exact ⟨ret_int E.out.symm, SetPost.no HS.out (by rw [E.out]; omega)⟩
  · have e : setS n v = 0 := by unfold setS; rw [hv, if_neg c3, hvl]; rfl
    have eF : setF f n v = upd f n v := by unfold setF; rw [if_pos e]
    have E := Lib.hid e
    have EF := Lib.hid eF
    by_cases c1 : n ≤ 33
    · have c0 : 1 ≤ n := by simp only [isV, Bool.or_eq_true, decide_eq_true_eq] at hv; omega
      have hc : w.cell? ⟨lb, n.toNat - 1, none⟩ = some (.int .i64 (f n)) := by
        have := k1 (n.toNat - 1) (by omega)
        rw [show (1 : Int) + ((n.toNat - 1 : Nat) : Int) = n by omega] at this
        exact (cell_of_row w lb _ _ _ _ H2.out).trans this
      have fr := f1 (n.toNat - 1)
      clear hv e eF k1 k2 k3 f1 f2
      go_enter Tryd.func21, Tryd.ntmps21
      go_wp2_with (first | (go_at_call 30; refine (cell_loc _ b lb cs n H1.out H0.out (by omega) (by omega)).mono ?_; rintro e w' ⟨rfl, k, rfl⟩) | (go_at_call 31; refine (valid_any _ _).mono ?_; rintro e w' ⟨rfl, rfl⟩))
      go_ret
      refine ⟨ret_int E.out.symm, ?_, ⟨rfl, rfl, rfl, by simp [World.setCell], fun j hj => Below.heap_setCell _ _ _ j (by show j ≠ lb; omega)⟩, by simp [World.setCell], fun j hj => Below.heap_setCell _ _ _ j (by show j ≠ lb; omega)⟩
      rw [EF.out]
      exact St.set_loc (w := w.drewN k) g1 g2 H1.out H2.out H0.out K1.out K2.out K3.out c0 c1
    · have c0 : 100 ≤ n ∧ n ≤ 199 := by simp only [isV, Bool.or_eq_true, decide_eq_true_eq] at hv; omega
      obtain ⟨c2, c4⟩ := c0
      have hc : w.cell? ⟨b, 1 + (n - 100).toNat, none⟩ = some (.int .i64 (f n)) := by
        have := k2 (n - 100).toNat (by omega)
        rw [show (100 : Int) + ((n - 100).toNat : Int) = n by omega] at this
        exact (cell_of_row w b _ _ _ _ H1.out).trans this
      have fr := f2 (1 + (n - 100).toNat)
      clear hv e eF k1 k2 k3 f1 f2
      go_enter Tryd.func21, Tryd.ntmps21
      go_wp2_with (first | (go_at_call 30; refine (cell_com _ b cs n (by omega) (by omega)).mono ?_; rintro e w' ⟨rfl, k, rfl⟩) | (go_at_call 31; refine (valid_any _ _).mono ?_; rintro e w' ⟨rfl, rfl⟩))
      go_ret
      refine ⟨ret_int E.out.symm, ?_, ⟨rfl, rfl, rfl, by simp [World.setCell], fun j hj => Below.heap_setCell _ _ _ j (by show j ≠ b; omega)⟩, by simp [World.setCell], fun j hj => Below.heap_setCell _ _ _ j (by show j ≠ b; omega)⟩
      rw [EF.out]
      exact St.set_com (w := w.drewN k) g1 g2 H1.out H2.out H0.out K1.out K2.out K3.out c2 c4
end Go.Proofs.YtdipainocdgfgaaDoor
