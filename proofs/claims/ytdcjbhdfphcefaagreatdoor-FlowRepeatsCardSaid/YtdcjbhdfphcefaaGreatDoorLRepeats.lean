/- The walk of the law FlowRepeats: it returns true. Conditions: the integers are ints; the two tables of the program are laid. -/
import Derived.Test.YtdcjbhdfphcefaaGreatDoorBl
import Derived.Test.YtdcjbhdfphcefaaGreatDoorRl
namespace Go.Proofs.YtdcjbhdfphcefaaGreatDoor
set_option linter.unusedVariables false
set_option linter.unusedSimpArgs false
open Go.RowKit

theorem al4 (w : World) (o1 o2 o3 o4 : Obj) : ((((w.alloc o1).alloc o2).alloc o3).alloc o4).heap[w.heap.size]? = some o1 ∧ ((((w.alloc o1).alloc o2).alloc o3).alloc o4).heap[w.heap.size + 1]? = some o2 ∧ ((((w.alloc o1).alloc o2).alloc o3).alloc o4).heap[w.heap.size + 1 + 1]? = some o3 ∧ ((((w.alloc o1).alloc o2).alloc o3).alloc o4).heap[w.heap.size + 1 + 1 + 1]? = some o4 ∧ Below w.heap.size w ((((w.alloc o1).alloc o2).alloc o3).alloc o4) ∧ ((((w.alloc o1).alloc o2).alloc o3).alloc o4).heap.size = w.heap.size + 4 := by
  have s1 : (w.alloc o1).heap.size = w.heap.size + 1 := by simp
  have s2 : ((w.alloc o1).alloc o2).heap.size = w.heap.size + 1 + 1 := by simp
  have s3 : (((w.alloc o1).alloc o2).alloc o3).heap.size = w.heap.size + 1 + 1 + 1 := by simp
  have q1 := heap_alloc_new w o1
  have q2 := heap_alloc_new (w.alloc o1) o2
  have q3 := heap_alloc_new ((w.alloc o1).alloc o2) o3
  have q4 := heap_alloc_new (((w.alloc o1).alloc o2).alloc o3) o4
  rw [s1] at q2
  rw [s2] at q3
  rw [s3] at q4
  exact ⟨(Below.heap_alloc _ _ _ (by omega)).trans ((Below.heap_alloc _ _ _ (by omega)).trans ((Below.heap_alloc _ _ _ (by omega)).trans q1)), (Below.heap_alloc _ _ _ (by omega)).trans ((Below.heap_alloc _ _ _ (by omega)).trans q2), (Below.heap_alloc _ _ _ (by omega)).trans q3, q4, (((Below.refl _ _).alloc (Nat.le_refl _) _).alloc (by omega) _ |>.alloc (by omega) _).alloc (by omega) _, by simp⟩
theorem flat_at : ∀ (L : List (List Value)), (∀ l ∈ L, l.length = 11) → ∀ (i j : Nat) (l : List Value), L[i]? = some l → j < 11 → L.flatten[i * 11 + j]? = l[j]? := by
  intro L
  induction L with
  | nil => intro _ i j l h; simp at h
  | cons a r ih =>
    intro hl i j l h hj
    have ha : a.length = 11 := hl a (List.mem_cons_self ..)
    rw [List.flatten_cons]
    rcases i with _ | i
    · simp only [List.getElem?_cons_zero, Option.some.injEq] at h
      subst h
      rw [show 0 * 11 + j = j by omega, List.getElem?_append_left (by omega)]
    · rw [List.getElem?_cons_succ] at h
      rw [List.getElem?_append_right (by omega), ha, show (i + 1) * 11 + j - 11 = i * 11 + j by omega]
      exact ih (fun l hl' => hl l (List.mem_cons_of_mem _ hl')) i j l h hj
/-- A literal of blocks reads. -/
theorem rd_five {W : World} {bs : List Bk} {L : List (List Value)} (hL : L.length = bs.length) (h5 : bs.length ≤ 1000) (h : ∀ (i : Nat) (b : Bk), bs[i]? = some b → ∃ (A : Option Addr) (n c : Nat) (l0 l1 l2 x0 x1 x2 : Value), L[i]? = some (cellsB b A n c l0 l1 l2 x0 x1 x2) ∧ Bz W (fun _ => True) b A n l0 l1 l2 x0 x1 x2) :
    RdL (W.alloc (.cells ⟨L.flatten⟩ 54)) (W.alloc (.cells ⟨L.flatten⟩ 54)).heap.size (some ⟨W.heap.size, 0, none⟩) bs.length bs := by
  have hb : Below W.heap.size W (W.alloc (.cells ⟨L.flatten⟩ 54)) := (Below.refl _ _).alloc (Nat.le_refl _) _
  have hn := heap_alloc_new W (.cells ⟨L.flatten⟩ 54)
  have hl11 : ∀ l ∈ L, l.length = 11 := by
    intro l hl
    obtain ⟨i, hi⟩ := List.getElem?_of_mem hl
    have hil := (List.getElem?_eq_some_iff.1 hi).1
    obtain ⟨A, n, c, l0, l1, l2, x0, x1, x2, e, _⟩ := h i (bs[i]'(by omega)) (List.getElem?_eq_getElem _)
    rw [hi] at e
    injection e with e
    rw [e]
    rfl
  refine (lz_at (I := fun _ => True) trivial (hlS hn) (by unfold maxLen; omega) fun i b hb' => ?_ : Lz _ _ _ _ _).rd
  obtain ⟨A, n, c, l0, l1, l2, x0, x1, x2, e, hz⟩ := h i b hb'
  refine ⟨A, n, c, l0, l1, l2, x0, x1, x2, fun j v hj => ?_, hz.keep hb.size (fun g hg _ => ⟨trivial, by omega⟩) fun g hg _ => hb.block g hg⟩
  have hj11 : j < 11 := (List.getElem?_eq_some_iff.1 hj).1
  refine (cell_of_row _ _ (i * 11 + j) _ _ _ hn).trans ?_
  rw [List.getElem?_toArray, flat_at L hl11 i j _ e hj11]
  exact hj
theorem wp_worldR {P : Program} {c : Code} {Q : Exit → Act → World → Prop} {a : Act} {W0 : World} (h : ∀ W, W = W0 → Code.wp P c Q a W) : Code.wp P c Q a W0 := h _ rfl
/-- The pairs of the call's words. -/
def rPs (mc : Bool) (n v : Int) : List (Int × Int) := if mc then [(71, 65000000), (80, 7000000), (76, n * 1000000), (65, v)] else [(77, 98000000), (80, 7000000), (76, n * 1000000)]
theorem rPs_words (mc : Bool) (n v : Int) (hn : 1 ≤ n) (hv : 0 ≤ v) : (wordsB (rPs mc n v)).words = (rCall mc n v).words := by
  have e : wordT (n * 1000000) = numT (n * 1000000) := wordT_pos (by omega)
  have e2 : wordT v = numT v := wordT_pos hv
  cases mc <;> simp [wordsB, rPs, rCall, wordT_pos, e, e2]
/-- The call's block in memory. -/
def RcIn (w : World) (g : Nat) (mc : Bool) (n v : Int) (W : World) : Prop :=
  ∃ (C : Option Addr) (k c : Nat) (lo ln : Int) (lA : Option Addr) (lk lc : Nat) (xo xn : Int) (xA : Option Addr) (xk xc : Nat), W.heap[g]? = some (.cells #[.int .i64 0, .int .i64 0, .bool false, .slice C k c, .int .i64 lo, .int .i64 ln, .slice lA lk lc, .int .i64 xo, .int .i64 xn, .slice xA xk xc, .int .i64 0] 54 (0, 0)) ∧ Bz W (fun q => w.heap.size ≤ q ∧ q ≠ g) (rCall mc n v) C k (.int .i64 lo) (.int .i64 ln) (.slice lA lk lc) (.int .i64 xo) (.int .i64 xn) (.slice xA xk xc) ∧ Below w.heap.size w W
/-- The cells of two blocks. -/
abbrev RpCb (gc gb gw : Nat) (C : Option Addr) (k c : Nat) (lo ln : Int) (lA : Option Addr) (lk lc : Nat) (xo xn : Int) (xA : Option Addr) (xk xc : Nat) (W : World) : Prop := W.cell? ⟨gc, 0, none⟩ = some (.int .i64 0) ∧ W.cell? ⟨gc, 1, none⟩ = some (.int .i64 0) ∧ W.cell? ⟨gc, 2, none⟩ = some (.bool false) ∧ W.cell? ⟨gc, 3, none⟩ = some (.slice C k c) ∧ W.cell? ⟨gc, 4, none⟩ = some (.int .i64 lo) ∧ W.cell? ⟨gc, 5, none⟩ = some (.int .i64 ln) ∧ W.cell? ⟨gc, 6, none⟩ = some (.slice lA lk lc) ∧ W.cell? ⟨gc, 7, none⟩ = some (.int .i64 xo) ∧ W.cell? ⟨gc, 8, none⟩ = some (.int .i64 xn) ∧ W.cell? ⟨gc, 9, none⟩ = some (.slice xA xk xc) ∧ W.cell? ⟨gc, 10, none⟩ = some (.int .i64 0) ∧ W.cell? ⟨gb, 0, none⟩ = some (.int .i64 0) ∧ W.cell? ⟨gb, 1, none⟩ = some (.int .i64 0) ∧ W.cell? ⟨gb, 2, none⟩ = some (.bool false) ∧ W.cell? ⟨gb, 3, none⟩ = some (.slice (some ⟨gw, 0, none⟩) 1 1) ∧ W.cell? ⟨gb, 4, none⟩ = some (.int .i64 0) ∧ W.cell? ⟨gb, 5, none⟩ = some (.int .i64 0) ∧ W.cell? ⟨gb, 6, none⟩ = some (.slice none 0 0) ∧ W.cell? ⟨gb, 7, none⟩ = some (.int .i64 0) ∧ W.cell? ⟨gb, 8, none⟩ = some (.int .i64 0) ∧ W.cell? ⟨gb, 9, none⟩ = some (.slice none 0 0) ∧ W.cell? ⟨gb, 10, none⟩ = some (.int .i64 0)
/-- The machine ahead of the round k. -/
structure RpS (mc : Bool) (n v : Int) (k : Nat) (M : MS) : Prop where
  ex : ∃ (σ : Sto) (s : Nat), rS mc v σ ∧ s ≤ 4 * k ∧ M = rM mc v (n - k) σ s
theorem RpS.one {mc : Bool} {n v : Int} {k : Nat} {M : MS} (h : RpS mc n v k M) : M.calls.length = 1 := by
  obtain ⟨σ, s, _, _, rfl⟩ := h.ex
  rfl
def RpRel (w : World) (B : Nat) (F : Fp) (mc : Bool) (n v : Int) (i : Value) (W : World) : Prop :=
  ∃ (k : Nat) (F' : Fp) (M : MS), i = .int .i64 (k : Int) ∧ (k : Int) ≤ n ∧ F'.mb = F.mb ∧ Below w.heap.size w W ∧ MX W B F' (rL mc n v) false M ∧ ((k = 0 ∧ M = rm0) ∨ (0 < k ∧ RpS mc n v k M))
theorem rp_step (mc : Bool) {n v : Int} (hn : 1 ≤ n ∧ n ≤ 20) (hv : 0 ≤ v ∧ v < 1000000000) (k : Nat) (M : MS) (hk : (k : Int) < n) (h : (k = 0 ∧ M = rm0) ∨ (0 < k ∧ RpS mc n v k M)) :
    ∃ (M' : MS) (u : Int), (u = if mc then v else if k = 0 then 0 else 5) ∧ (0 ≤ u ∧ u < 1000000000) ∧ nextS (rL mc n v) false M = (M', (1, 3, [(88, u)]), 0) ∧ RpS mc n v (k + 1) M' := by
  rcases h with ⟨rfl, rfl⟩ | ⟨hk0, h⟩
  · refine ⟨_, if mc then v else 0, by simp, by split <;> omega, r_first mc hn hv false, ⟨_, 3, rSto_ok mc v, by omega, ?_⟩⟩
    show rM mc v (n - 1) _ _ = rM mc v (n - ((0 + 1 : Nat) : Int)) _ _
    congr 1
  · obtain ⟨σ, s, hs, hsk, rfl⟩ := h.ex
    obtain ⟨σ', hs', e⟩ := r_step (n := n) mc hv false (n - k) (by omega) σ hs s (by omega)
    refine ⟨_, if mc then v else 5, by cases mc <;> simp [show k ≠ 0 by omega], by split <;> omega, e, ⟨σ', s + 4, hs', by omega, ?_⟩⟩
    rw [show n - ((k + 1 : Nat) : Int) = n - k - 1 by omega]
set_option maxRecDepth 100000 in
set_option maxHeartbeats 16000000 in
theorem repeatsLaw_any (a b : Int) (mc : Bool) (ha1 : -9223372036854775808 ≤ a) (ha2 : a ≤ 9223372036854775807) (hb1 : -9223372036854775808 ≤ b) (hb2 : b ≤ 9223372036854775807) (w : World) (ht : Tab w) (htn : Tn w) :
    Calls Tryz.prog 5 #[.int .i64 a, .int .i64 b, .bool mc] w fun e w' => e = .returned (.bool true) ∧ Below w.heap.size w w' := by
  have HT := Lib.hid ht
  have HTN := Lib.hid htn
  have hts := ht.lt
  have htns := htn.lt
  clear ht htn
  obtain ⟨n0, hn0⟩ : ∃ n0 : Int, a % 20 = n0 := ⟨_, rfl⟩
  obtain ⟨v0, hv0⟩ : ∃ v0 : Int, b % 1000 = v0 := ⟨_, rfl⟩
  have hnb : 0 ≤ n0 ∧ n0 ≤ 19 := by omega
  have hvb : 0 ≤ v0 ∧ v0 ≤ 999 := by omega
  have m20 : ∀ W : World, Calls Tryz.prog 22 #[.int .i64 a, .int .i64 20] W fun e w' => e = .returned (.int .i64 n0) ∧ W = w' := fun W => by
    have q := mod_any a 20 (by omega) (by omega) ha1 ha2 W
    rw [hn0] at q
    exact q
  have m1k : ∀ W : World, Calls Tryz.prog 22 #[.int .i64 b, .int .i64 1000] W fun e w' => e = .returned (.int .i64 v0) ∧ W = w' := fun W => by
    have q := mod_any b 1000 (by omega) (by omega) hb1 hb2 W
    rw [hv0] at q
    exact q
  have H20 := Lib.hid m20
  have H1K := Lib.hid m1k
  have w1 : IntKind.i64.wrap (1 + n0) = 1 + n0 := IntWalk.i64_in _ (by omega)
  have w2 : IntKind.i64.wrap (v0 * 1000000) = v0 * 1000000 := IntWalk.i64_in _ (by omega)
  clear m20 m1k hn0 hv0
  go_enter Tryz.func5, Tryz.ntmps5
  go_upto_region 2 with (first | (go_at_call 22; with_reducible refine (H20.out _).mono ?_; rintro e w' ⟨rfl, rfl⟩) | (go_at_call 22; with_reducible refine (H1K.out _).mono ?_; rintro e w' ⟨rfl, rfl⟩))
  obtain ⟨n, hn⟩ : ∃ n : Int, n = 1 + n0 := ⟨_, rfl⟩
  obtain ⟨v, hv⟩ : ∃ v : Int, v = v0 * 1000000 := ⟨_, rfl⟩
  have hn1 : 1 ≤ n ∧ n ≤ 20 := by omega
  have hv1 : 0 ≤ v ∧ v < 1000000000 := by omega
  have w3 : IntKind.i64.wrap (n * 1000000) = n * 1000000 := IntWalk.i64_in _ (by omega)
  rw [← hn, ← hv]
  clear hn hv w1 w2 H20 H1K
  obtain ⟨WA, hWA⟩ : ∃ WA, WA = w.alloc (.cells #[.int .i64 77, .int .i64 98000000, .int .i64 80, .int .i64 7000000, .int .i64 76, .int .i64 (n * 1000000)] 3) := ⟨_, rfl⟩
  have HBA : Hid (Below w.heap.size w WA) := by unfold Hid; rw [hWA]; exact (Below.refl _ _).alloc (Nat.le_refl _) _
  have q0 : WA.heap[w.heap.size]? = some (.cells #[.int .i64 77, .int .i64 98000000, .int .i64 80, .int .i64 7000000, .int .i64 76, .int .i64 (n * 1000000)] 3 (0, 0)) := by rw [hWA]; exact heap_alloc_new _ _
  have HWC := Lib.hid (words_any_st WA w.heap.size 0 6 (rPs false n v) 6 rfl (fun i c m h => by
    have : i < 3 := (List.getElem?_eq_some_iff.1 h).1
    have : i = 0 ∨ i = 1 ∨ i = 2 := by omega
    rcases this with rfl | rfl | rfl <;> (simp [rPs] at h; obtain ⟨rfl, rfl⟩ := h)
    · exact ⟨cell_of_row WA _ 0 _ _ _ q0, cell_of_row WA _ 1 _ _ _ q0, by unfold I64; omega, by omega, by omega⟩
    · exact ⟨cell_of_row WA _ 2 _ _ _ q0, cell_of_row WA _ 3 _ _ _ q0, by unfold I64; omega, by omega, by omega⟩
    · exact ⟨cell_of_row WA _ 4 _ _ _ q0, cell_of_row WA _ 5 _ _ _ q0, by unfold I64; omega, by omega, by omega⟩) (hlS q0) (by simp [rPs]))
  clear q0
  go_wp2_with fail
  rw [← hWA]
  clear hWA
  refine HWC.out.mono ?_
  rintro e w2 ⟨C2, cw, l0, l1, l2, x0, x1, x2, rfl, hz, hb⟩
  obtain ⟨lo, ln, lA, lk, lc, rfl, rfl, rfl⟩ := hz.left.form
  obtain ⟨xo, xn, xA, xk, xc, rfl, rfl, rfl⟩ := hz.x.form
  have HZ := Lib.hid hz
  have HB2 := Lib.hid (HBA.out.trans (hb.mono HBA.out.size))
  have hl1 : (rPs false n v).length = 3 := rfl
  rw [hl1]
  clear hz hb hl1
  go_upto_region 3 with (fail)
  refine wp_worldR fun W3 hW3 => ?_
  have HB3 : Hid (Below w2.heap.size w2 W3) := by unfold Hid; rw [hW3]; exact (Below.refl _ _).alloc (Nat.le_refl _) _
  have HBK3 : Hid (W3.heap[w2.heap.size]? = some (.cells #[.int .i64 0, .int .i64 0, .bool false, .slice C2 3 cw, .int .i64 lo, .int .i64 ln, .slice lA lk lc, .int .i64 xo, .int .i64 xn, .slice xA xk xc, .int .i64 0] 54 (0, 0))) := by unfold Hid; rw [hW3]; exact heap_alloc_new _ _
  clear hW3
  have hs2 := HB2.out.size
  have hs3 := HB3.out.size
  go_upto_if 29 with (fail)
  go_cut [] (fun W => RcIn w w2.heap.size mc n v W)
  case first =>
    cases mc
    · have hE := rPs_words false n v hn1.1 hv1.1
      go_wp2_with fail
      go_meet
      have hiz : ∀ q, q < w2.heap.size → WA.heap.size ≤ q → w.heap.size ≤ q ∧ q ≠ w2.heap.size := fun q h1 h2 => by have := HBA.out.size; omega
      have hkz : ∀ q, q < w2.heap.size → WA.heap.size ≤ q → W3.heap[q]? = w2.heap[q]? := fun q h1 _ => HB3.out.block q h1
      have hw := HZ.out.words.keep hs3 hiz hkz
      rw [hE] at hw
      exact ⟨C2, 3, cw, lo, ln, lA, lk, lc, xo, xn, xA, xk, xc, HBK3.out, ⟨by show I64 0; unfold I64; omega, by show I64 0; unfold I64; omega, by show I64 0; unfold I64; omega, hw, HZ.out.left.keep hs3 hiz hkz, HZ.out.x.keep hs3 hiz hkz⟩, HB2.out.trans (HB3.out.mono hs2)⟩
    · have hE := rPs_words true n v hn1.1 hv1.1
      have hbb : w2.heap.size < W3.heap.size := hlS HBK3.out
      obtain ⟨WB, hWB⟩ : ∃ WB, WB = W3.alloc (.cells #[.int .i64 71, .int .i64 65000000, .int .i64 80, .int .i64 7000000, .int .i64 76, .int .i64 (n * 1000000), .int .i64 65, .int .i64 v] 3) := ⟨_, rfl⟩
      have HBB : Hid (Below W3.heap.size W3 WB) := by unfold Hid; rw [hWB]; exact (Below.refl _ _).alloc (Nat.le_refl _) _
      have q0 : WB.heap[W3.heap.size]? = some (.cells #[.int .i64 71, .int .i64 65000000, .int .i64 80, .int .i64 7000000, .int .i64 76, .int .i64 (n * 1000000), .int .i64 65, .int .i64 v] 3 (0, 0)) := by rw [hWB]; exact heap_alloc_new _ _
      have HWD := Lib.hid (words_any_st WB W3.heap.size 0 8 (rPs true n v) 8 rfl (fun i c m h => by
        have : i < 4 := (List.getElem?_eq_some_iff.1 h).1
        have : i = 0 ∨ i = 1 ∨ i = 2 ∨ i = 3 := by omega
        rcases this with rfl | rfl | rfl | rfl <;> (simp [rPs] at h; obtain ⟨rfl, rfl⟩ := h)
        · exact ⟨cell_of_row WB _ 0 _ _ _ q0, cell_of_row WB _ 1 _ _ _ q0, by unfold I64; omega, by omega, by omega⟩
        · exact ⟨cell_of_row WB _ 2 _ _ _ q0, cell_of_row WB _ 3 _ _ _ q0, by unfold I64; omega, by omega, by omega⟩
        · exact ⟨cell_of_row WB _ 4 _ _ _ q0, cell_of_row WB _ 5 _ _ _ q0, by unfold I64; omega, by omega, by omega⟩
        · exact ⟨cell_of_row WB _ 6 _ _ _ q0, cell_of_row WB _ 7 _ _ _ q0, by unfold I64; omega, by omega, by omega⟩) (hlS q0) (by simp [rPs]))
      clear q0 HWC
      go_wp2_with fail
      rw [← hWB]
      clear hWB
      refine HWD.out.mono ?_
      rintro e w5 ⟨C5, cw5, l0, l1, l2, x0, x1, x2, rfl, hz, hb⟩
      obtain ⟨lo5, ln5, lA5, lk5, lc5, rfl, rfl, rfl⟩ := hz.left.form
      obtain ⟨xo5, xn5, xA5, xk5, xc5, rfl, rfl, rfl⟩ := hz.x.form
      have HZ5 := Lib.hid hz
      have HB5 := Lib.hid (HBB.out.trans (hb.mono HBB.out.size))
      have hl1 : (rPs true n v).length = 4 := rfl
      rw [hl1]
      have HBK5 := Lib.hid ((HB5.out.block _ hbb).trans HBK3.out)
      have hs5 := HB5.out.size
      have hf : ∀ i, w5.frozen? ⟨w2.heap.size, i, none⟩ = false := fun i => by simp [World.frozen?, HBK5.out]
      have r0 : w5.cell? ⟨w2.heap.size, 0, none⟩ = some (.int .i64 0) := cell_of_row w5 _ 0 _ _ _ HBK5.out
      have r1 : w5.cell? ⟨w2.heap.size, 1, none⟩ = some (.int .i64 0) := cell_of_row w5 _ 1 _ _ _ HBK5.out
      have r2 : w5.cell? ⟨w2.heap.size, 2, none⟩ = some (.bool false) := cell_of_row w5 _ 2 _ _ _ HBK5.out
      have r3 : w5.cell? ⟨w2.heap.size, 3, none⟩ = some (.slice C2 3 cw) := cell_of_row w5 _ 3 _ _ _ HBK5.out
      have r4 : w5.cell? ⟨w2.heap.size, 4, none⟩ = some (.int .i64 lo) := cell_of_row w5 _ 4 _ _ _ HBK5.out
      have r5 : w5.cell? ⟨w2.heap.size, 5, none⟩ = some (.int .i64 ln) := cell_of_row w5 _ 5 _ _ _ HBK5.out
      have r6 : w5.cell? ⟨w2.heap.size, 6, none⟩ = some (.slice lA lk lc) := cell_of_row w5 _ 6 _ _ _ HBK5.out
      have r7 : w5.cell? ⟨w2.heap.size, 7, none⟩ = some (.int .i64 xo) := cell_of_row w5 _ 7 _ _ _ HBK5.out
      have r8 : w5.cell? ⟨w2.heap.size, 8, none⟩ = some (.int .i64 xn) := cell_of_row w5 _ 8 _ _ _ HBK5.out
      have r9 : w5.cell? ⟨w2.heap.size, 9, none⟩ = some (.slice xA xk xc) := cell_of_row w5 _ 9 _ _ _ HBK5.out
      have r10 : w5.cell? ⟨w2.heap.size, 10, none⟩ = some (.int .i64 0) := cell_of_row w5 _ 10 _ _ _ HBK5.out
      clear hz hb hl1
      go_wp2_with fail
      go_meet
      have hb5 := HB2.out.trans ((HB3.out.mono hs2).trans (HB5.out.mono (by omega)))
      have hiz : ∀ q, q < w5.heap.size → WB.heap.size ≤ q → w.heap.size ≤ q ∧ q ≠ w2.heap.size := fun q h1 h2 => by have := HBB.out.size; omega
      have hkz : ∀ q, q < w5.heap.size → WB.heap.size ≤ q → (set11 w5 w2.heap.size (.int .i64 0) (.int .i64 0) (.bool false) (.slice C5 4 cw5) (.int .i64 lo5) (.int .i64 ln5) (.slice lA5 lk5 lc5) (.int .i64 xo5) (.int .i64 xn5) (.slice xA5 xk5 xc5) (.int .i64 0)).heap[q]? = w5.heap[q]? := fun q h1 h2 => set11_ne w5 w2.heap.size q _ _ _ _ _ _ _ _ _ _ _ (by have := HBB.out.size; omega)
      have hsz := (set11_size w5 w2.heap.size (.int .i64 0) (.int .i64 0) (.bool false) (.slice C5 4 cw5) (.int .i64 lo5) (.int .i64 ln5) (.slice lA5 lk5 lc5) (.int .i64 xo5) (.int .i64 xn5) (.slice xA5 xk5 xc5) (.int .i64 0))
      have hw := HZ5.out.words.keep (Nat.le_of_eq hsz.symm) hiz hkz
      rw [hE] at hw
      exact ⟨C5, 4, cw5, lo5, ln5, lA5, lk5, lc5, xo5, xn5, xA5, xk5, xc5, set11_blk HBK5.out, ⟨by show I64 0; unfold I64; omega, by show I64 0; unfold I64; omega, by show I64 0; unfold I64; omega, hw, HZ5.out.left.keep (Nat.le_of_eq hsz.symm) hiz hkz, HZ5.out.x.keep (Nat.le_of_eq hsz.symm) hiz hkz⟩, below_set11 hb5 (by omega) (.int .i64 0) (.int .i64 0) (.bool false) (.slice C5 4 cw5) (.int .i64 lo5) (.int .i64 ln5) (.slice lA5 lk5 lc5) (.int .i64 xo5) (.int .i64 xn5) (.slice xA5 xk5 xc5) (.int .i64 0)⟩
  case rest =>
  obtain ⟨C, k, c, lo, ln, lA, lk, lc, xo, xn, xA, xk, xc, hbk, hbz, hbe⟩ := hcut
  have hgw : w.heap.size ≤ w2.heap.size := hs2
  generalize w2.heap.size = gc at hbk hbz hgw ⊢
  have HBK := Lib.hid hbk
  have HBZ := Lib.hid hbz
  have HBE := Lib.hid hbe
  have hgc : gc < wc.heap.size := hlS hbk
  clear hbk hbz hbe hs2 hs3
  go_upto_region 7 with (fail)
  refine wp_worldR fun W4 hW4 => ?_
  obtain ⟨e1, e2, e3, e4, eb, es⟩ : W4.heap[wc.heap.size]? = some (.cells #[.int .i64 0, .int .i64 1000000, .slice none 0 0] 52 (0, 0)) ∧ W4.heap[wc.heap.size + 1]? = some (.cells #[.int .i64 1, .int .i64 0, .slice (some ⟨wc.heap.size, 0, none⟩) 1 1] 52 (0, 0)) ∧ W4.heap[wc.heap.size + 1 + 1]? = some (.cells #[.int .i64 88, .int .i64 1, .int .i64 0, .slice (some ⟨wc.heap.size, 0, none⟩) 1 1] 57 (0, 0)) ∧
      W4.heap[wc.heap.size + 1 + 1 + 1]? = some (.cells #[.int .i64 0, .int .i64 0, .bool false, .slice (some ⟨wc.heap.size + 1 + 1, 0, none⟩) 1 1, .int .i64 0, .int .i64 0, .slice none 0 0, .int .i64 0, .int .i64 0, .slice none 0 0, .int .i64 0] 54 (0, 0)) ∧ Below wc.heap.size wc W4 ∧ W4.heap.size = wc.heap.size + 4 := by rw [hW4]; exact al4 wc _ _ _ _
  clear hW4
  have HB4 := Lib.hid eb
  have HBD : Hid (Bz W4 (fun _ => True) ⟨0, 0, false, [(88, oneT)], numT 0, numT 0, 0⟩ (some ⟨wc.heap.size + 1 + 1, 0, none⟩) 1 (.int .i64 0) (.int .i64 0) (.slice none 0 0) (.int .i64 0) (.int .i64 0) (.slice none 0 0)) := by
    refine ⟨by show I64 0; unfold I64; omega, by show I64 0; unfold I64; omega, by show I64 0; unfold I64; omega, ⟨rfl, by unfold maxLen; omega, fun x hx => ?_, .inr ⟨_, rfl, trivial, hlS e3, fun i c t h => ?_⟩⟩, rz_num _ _ _ (by unfold I64; omega), rz_num _ _ _ (by unfold I64; omega)⟩
    · simp only [List.mem_singleton] at hx
      rw [hx]
      show I64 88
      unfold I64
      omega
    · rcases i with _ | i
      · simp at h
        obtain ⟨rfl, rfl⟩ := h
        exact ⟨cell_of_row W4 _ 0 _ _ _ e3, _, _, _, cell_of_row W4 _ 1 _ _ _ e3, cell_of_row W4 _ 2 _ _ _ e3, cell_of_row W4 _ 3 _ _ _ e3, _, _, rfl, by unfold I64; omega, by unfold I64; omega, by unfold maxLen; omega, .inr ⟨_, rfl, trivial, hlS e1, fun i hi => by
          obtain rfl : i = 0 := by omega
          exact ⟨_, _, _, cell_of_row W4 _ 0 _ _ _ e1, cell_of_row W4 _ 1 _ _ _ e1, cell_of_row W4 _ 2 _ _ _ e1, rz_num _ _ _ (by unfold I64; omega)⟩⟩⟩
      · simp at h
  have hc4 : W4.heap[gc]? = _ := (eb.block _ hgc).trans HBK.out
  have hb4 := e4
  have hgl : wc.heap.size + 1 + 1 + 1 < W4.heap.size := hlS e4
  have HBE4 := Lib.hid (HBE.out.trans (eb.mono HBE.out.size))
  have hne : gc < wc.heap.size + 1 + 1 + 1 := by omega
  generalize wc.heap.size + 1 + 1 = gw at hb4 hgl hne HBD ⊢
  generalize hgb : gw + 1 = gb at hb4 hgl hne ⊢
  clear hgb e1 e2 e3 e4 eb es
  have HC4 := Lib.hid hc4
  have HD4 := Lib.hid hb4
  have hgc4 : gc < W4.heap.size := by omega
  obtain ⟨WY, hWY⟩ : ∃ WY, WY = (W4.alloc (.cells #[.int .i64 89, .int .i64 0] 3)).drew := ⟨_, rfl⟩
  have HBY : Hid (Below W4.heap.size W4 WY) := by unfold Hid; rw [hWY]; exact below_dn ((Below.refl _ _).alloc (Nat.le_refl _) _) 1
  have q0 : WY.heap[W4.heap.size]? = some (.cells #[.int .i64 89, .int .i64 0] 3 (0, 0)) := by rw [hWY]; exact heap_alloc_new _ _
  have HWY := Lib.hid (words_any_st WY W4.heap.size 0 2 [(89, 0)] 2 rfl (fun i c m h => by
    rcases i with _ | i
    · simp at h
      obtain ⟨rfl, rfl⟩ := h
      exact ⟨cell_of_row WY _ 0 _ _ _ q0, cell_of_row WY _ 1 _ _ _ q0, by unfold I64; omega, by omega, by omega⟩
    · simp at h) (hlS q0) (by simp))
  have HKC : Hid (∀ W, Below W4.heap.size W4 W → RpCb gc gb gw C k c lo ln lA lk lc xo xn xA xk xc W) := fun W hW => by
    have h1 := (hW.block _ hgc4).trans HC4.out
    have h2 := (hW.block _ hgl).trans HD4.out
    exact ⟨cell_of_row W _ 0 _ _ _ h1, cell_of_row W _ 1 _ _ _ h1, cell_of_row W _ 2 _ _ _ h1, cell_of_row W _ 3 _ _ _ h1, cell_of_row W _ 4 _ _ _ h1, cell_of_row W _ 5 _ _ _ h1, cell_of_row W _ 6 _ _ _ h1, cell_of_row W _ 7 _ _ _ h1, cell_of_row W _ 8 _ _ _ h1, cell_of_row W _ 9 _ _ _ h1, cell_of_row W _ 10 _ _ _ h1, cell_of_row W _ 0 _ _ _ h2, cell_of_row W _ 1 _ _ _ h2, cell_of_row W _ 2 _ _ _ h2, cell_of_row W _ 3 _ _ _ h2, cell_of_row W _ 4 _ _ _ h2, cell_of_row W _ 5 _ _ _ h2, cell_of_row W _ 6 _ _ _ h2, cell_of_row W _ 7 _ _ _ h2, cell_of_row W _ 8 _ _ _ h2, cell_of_row W _ 9 _ _ _ h2, cell_of_row W _ 10 _ _ _ h2⟩
  have S0 : Hid (RpCb gc gb gw C k c lo ln lA lk lc xo xn xA xk xc W4.drew) := HKC.out _ (below_dn (Below.refl _ _) 1)
  have S1 : Hid (RpCb gc gb gw C k c lo ln lA lk lc xo xn xA xk xc (W4.alloc (.cells #[.int .i64 89, .int .i64 0] 3)).drew) := HKC.out _ (below_dn ((Below.refl _ _).alloc (Nat.le_refl _) _) 1)
  have HY := Lib.hid hWY
  clear q0 hWY hc4 hb4
  go_cut [10] (fun s10 W => ∃ g5 c5 : Nat, s10 = .slice (some ⟨g5, 0, none⟩) 5 c5 ∧ RdL W W.heap.size (some ⟨g5, 0, none⟩) 5 (rBs mc n v) ∧ Below w.heap.size w W)
  case first =>
    go_region_held3 (fun W => W.cell? ⟨gc, 0, none⟩ = some (.int .i64 0) ∧ W.cell? ⟨gc, 1, none⟩ = some (.int .i64 0) ∧ W.cell? ⟨gc, 2, none⟩ = some (.bool false) ∧ W.cell? ⟨gc, 3, none⟩ = some (.slice C k c) ∧ W.cell? ⟨gc, 4, none⟩ = some (.int .i64 lo) ∧ W.cell? ⟨gc, 5, none⟩ = some (.int .i64 ln) ∧ W.cell? ⟨gc, 6, none⟩ = some (.slice lA lk lc) ∧ W.cell? ⟨gc, 7, none⟩ = some (.int .i64 xo) ∧ W.cell? ⟨gc, 8, none⟩ = some (.int .i64 xn) ∧ W.cell? ⟨gc, 9, none⟩ = some (.slice xA xk xc) ∧ W.cell? ⟨gc, 10, none⟩ = some (.int .i64 0) ∧ W.cell? ⟨gb, 0, none⟩ = some (.int .i64 0) ∧ W.cell? ⟨gb, 1, none⟩ = some (.int .i64 0) ∧ W.cell? ⟨gb, 2, none⟩ = some (.bool false) ∧ W.cell? ⟨gb, 3, none⟩ = some (.slice (some ⟨gw, 0, none⟩) 1 1) ∧ W.cell? ⟨gb, 4, none⟩ = some (.int .i64 0) ∧ W.cell? ⟨gb, 5, none⟩ = some (.int .i64 0) ∧ W.cell? ⟨gb, 6, none⟩ = some (.slice none 0 0) ∧ W.cell? ⟨gb, 7, none⟩ = some (.int .i64 0) ∧ W.cell? ⟨gb, 8, none⟩ = some (.int .i64 0) ∧ W.cell? ⟨gb, 9, none⟩ = some (.slice none 0 0) ∧ W.cell? ⟨gb, 10, none⟩ = some (.int .i64 0)) (first | with_reducible exact S0.out | with_reducible exact S1.out | with_reducible exact S2.out | with_reducible exact S3.out _ | fail) (first | (go_at_call 24; rw [← HY.out]; refine HWY.out.mono ?_; rintro e w7 ⟨C2, cw, l0, l1, l2, x0, x1, x2, rfl, hz, hb⟩; (obtain ⟨yo, yn, yA, yk, yc, rfl, rfl, rfl⟩ := hz.left.form); (obtain ⟨zo, zn, zA, zk, zc, rfl, rfl, rfl⟩ := hz.x.form); have HZ7 := Lib.hid hz; have HB7 := Lib.hid (HBY.out.trans (hb.mono HBY.out.size)); have S2 : Hid (RpCb gc gb gw C k c lo ln lA lk lc xo xn xA xk xc w7) := HKC.out _ HB7.out; have S3 : Hid (∀ o : Obj, RpCb gc gb gw C k c lo ln lA lk lc xo xn xA xk xc (w7.alloc o)) := (fun o => HKC.out _ (HB7.out.alloc HB7.out.size o)); have hl1 : [((89 : Int), (0 : Int))].length = 1 := rfl; rw [hl1]; clear hz hb hl1))
    go_wp2_with fail
    go_meet
    have hs7 := HB7.out.size
    have hz0 : Bz w7 (fun _ => True) (rCall mc n v) C k (.int .i64 lo) (.int .i64 ln) (.slice lA lk lc) (.int .i64 xo) (.int .i64 xn) (.slice xA xk xc) := HBZ.out.keep (Nat.le_trans HB4.out.size hs7) (fun _ _ _ => trivial) (fun q hq _ => (HB7.out.block q (Nat.lt_of_lt_of_le hq HB4.out.size)).trans (HB4.out.block q hq))
    have hz1 : Bz w7 (fun _ => True) (wordB false 0 89 0) C2 1 (.int .i64 yo) (.int .i64 yn) (.slice yA yk yc) (.int .i64 zo) (.int .i64 zn) (.slice zA zk zc) := by
      have hw := HZ7.out.words.keep (I' := fun _ => True) (Nat.le_refl _) (fun _ _ _ => trivial) (fun _ _ _ => rfl)
      have hE : (wordsB [(89, 0)]).words = (wordB false 0 89 0).words := by simp [wordsB, wordB, wordT_pos]
      rw [hE] at hw
      exact ⟨by show I64 0; unfold I64; omega, by show I64 0; unfold I64; omega, by show I64 0; unfold I64; omega, hw, HZ7.out.left.keep (Nat.le_refl _) (fun _ _ _ => trivial) (fun _ _ _ => rfl), HZ7.out.x.keep (Nat.le_refl _) (fun _ _ _ => trivial) (fun _ _ _ => rfl)⟩
    have hz3 := HBD.out.keep (I' := fun _ => True) hs7 (fun _ _ _ => trivial) (fun q hq _ => HB7.out.block q hq)
    refine ⟨_, _, rfl, rd_five (L := [cellsB (rCall mc n v) C k c (.int .i64 lo) (.int .i64 ln) (.slice lA lk lc) (.int .i64 xo) (.int .i64 xn) (.slice xA xk xc), cellsB (wordB false 0 89 0) C2 1 cw (.int .i64 yo) (.int .i64 yn) (.slice yA yk yc) (.int .i64 zo) (.int .i64 zn) (.slice zA zk zc), fc ⟨6, 0, 0, 0, 7⟩, cellsB ⟨0, 0, false, [(88, oneT)], numT 0, numT 0, 0⟩ (some ⟨gw, 0, none⟩) 1 1 (.int .i64 0) (.int .i64 0) (.slice none 0 0) (.int .i64 0) (.int .i64 0) (.slice none 0 0), fc ⟨1, 0, 1000000, 5, 0⟩]) (bs := rBs mc n v) rfl (by show 5 ≤ 1000; omega) (fun i b hb => ?_), (HBE4.out.trans (HB7.out.mono HBE4.out.size)).alloc (Nat.le_trans HBE4.out.size hs7) _⟩
    have hi : i < 5 := (List.getElem?_eq_some_iff.1 hb).1
    have h5 : i = 0 ∨ i = 1 ∨ i = 2 ∨ i = 3 ∨ i = 4 := by omega
    rcases h5 with rfl | rfl | rfl | rfl | rfl <;> (injection hb with hb; subst hb)
    · exact ⟨_, _, _, _, _, _, _, _, _, rfl, hz0⟩
    · exact ⟨_, _, _, _, _, _, _, _, _, rfl, hz1⟩
    · exact ⟨none, 0, 0, _, _, _, _, _, _, rfl, fc_bz w7 _ ⟨6, 0, 0, 0, 7⟩ (by unfold fok I64; dsimp only; omega)⟩
    · exact ⟨_, _, _, _, _, _, _, _, _, rfl, hz3⟩
    · exact ⟨none, 0, 0, _, _, _, _, _, _, rfl, fc_bz w7 _ ⟨1, 0, 1000000, 5, 0⟩ (by unfold fok I64; dsimp only; omega)⟩
  case rest =>
  obtain ⟨g5, c5, rfl, hrd, hbe⟩ := hcut
  have hlb := lib_any wc wc.heap.size (some ⟨g5, 0, none⟩) c5 (rBs mc n v) hrd (Nat.le_refl _)
  have hlen : (rBs mc n v).length = 5 := rfl
  rw [hlen, r_build mc hn1 hv1] at hlb
  have HLB := Lib.hid hlb
  have HBX := Lib.hid hbe
  clear hlb hrd hbe hlen HBE HBE4 HBK HBZ HB4 HBD HC4 HD4 HBY HWY HKC S0 S1 HY HZ HB2 HB3 HBK3
  go_wp2_with fail
  refine HLB.out.mono ?_
  rintro e w5 ⟨A1, A2, A3, c1, c2, c3, rfl, hz, hb⟩
  have HZ := Lib.hid hz
  have HBE5 := Lib.hid (HBX.out.trans (hb.mono HBX.out.size))
  clear hz hb HLB
  go_wp2_with fail
  refine (new_ofS (r_new mc) false w5 _ A1 A2 A3 c1 c2 c3 HZ.out (HT.out.below HBE5.out hts) (HTN.out.below HBE5.out htns)).mono ?_
  rintro e w6 ⟨hb, B, F, rfl, hx⟩
  have HBE6 := Lib.hid (HBE5.out.trans (hb.mono HBE5.out.size))
  have HX6 := Lib.hid hx.1
  have HWB : Hid (w.heap.size ≤ B) := Nat.le_trans HBE5.out.size hx.2.1
  clear hx hb HZ
  go_wp2_with fail
  refine (awake_any10 w6 HX6.out.tab HX6.out.tn).mono ?_
  rintro e w7 ⟨rfl, hb⟩
  have HR7 : Hid (RpRel w B F mc n v (.int .i64 0) w7) := ⟨0, F, rm0, rfl, by omega, rfl, HBE6.out.trans (hb.mono HBE6.out.size), HX6.out.below hb, .inl ⟨rfl, rfl⟩⟩
  clear hb HBE6 HX6
  go_wp2_with fail
  go_loopw [13] (RpRel w B F mc n v) (fun i _ => 20 - (intOf i).toNat)
  case atStart => exact HR7.out
  case round =>
    obtain ⟨k, F', M, rfl, hkn, hmb, hbe, hx, hst⟩ := hrel
    have HX := Lib.hid hx
    have HBE := Lib.hid hbe
    have HMB := Lib.hid hmb
    clear hx hbe HR7
    by_cases hlt : (k : Int) < n
    · obtain ⟨M', u, hu1, hu2, hnx, hst'⟩ := rp_step mc hn1 hv1 k M hlt hst
      have g0 : decide ((k : Int) < n) = true := decide_eq_true hlt
      have HU1 := Lib.hid hu1
      have HST := Lib.hid hst'
      have hnc := next_of hnx HX.out
      rw [hmb] at hnc
      have HNC := Lib.hid hnc
      clear hst hst' hnx hnc hmb hu1
      go_upto_if 74 with (fail)
      go_cut [14] (fun s14 W => s14 = .int .i64 u ∧ W = wr)
      case first =>
        have hu1 := HU1.out
        cases mc
        · by_cases hk : k = 0
          · have g1 : decide ((k : Int) > 0) = false := decide_eq_false (by omega)
            have g2 : decide (0 < k) = false := decide_eq_false (by omega)
            have g3 : ¬ 0 < k := by omega
            have HE : Hid (u = 0) := by unfold Hid; rw [hu1]; simp [hk]
            clear hk hu1 HU1
            go_wp2_with fail
            go_meet
            exact ⟨by rw [HE.out], rfl⟩
          · have g1 : decide ((k : Int) > 0) = true := decide_eq_true (by omega)
            have g2 : decide (0 < k) = true := decide_eq_true (by omega)
            have g3 : 0 < k := by omega
            have HE : Hid (u = 5) := by unfold Hid; rw [hu1]; simp [hk]
            clear hk hu1 HU1
            go_wp2_with fail
            go_meet
            exact ⟨by rw [HE.out], rfl⟩
        · have HE : Hid (u = v) := by unfold Hid; rw [hu1]; rfl
          clear hu1 HU1
          go_wp2_with fail
          go_meet
          exact ⟨by rw [HE.out], rfl⟩
      case rest =>
      obtain ⟨rfl, rfl⟩ := hcut
      go_wp2_with fail
      refine HNC.out.mono ?_
      rintro e w8 ⟨A5, c5, rfl, hrv, F5, hmv, hmx, hch⟩
      have HB8 : Hid (Below w.heap.size w w8) := HBE.out.trans (MP.bel HX.out ⟨F5, hmv, hmx, hch⟩ HWB.out)
      have HX8 := Lib.hid hmx
      have HMB8 : Hid (F5.mb = F.mb) := hmv.mb.trans HMB.out
      obtain ⟨_, _, _, h4⟩ := hrv
      obtain ⟨ab, off, rfl, _, habl, hcl⟩ := h4 (by simp)
      have cv : w8.cell? ⟨ab, off + 1, none⟩ = some (.int .i64 u) := (hcl 0 (88, u) rfl).2
      clear hmv hmx hch h4 hcl
      have hl1 : [((88 : Int), u)].length = 1 := rfl
      dsimp only
      rw [hl1]
      clear hl1
      go_upto_region 20 with (fail)
      refine wp_worldR fun W9 hW9 => ?_
      have HB9 : Hid (Below w8.heap.size w8 W9) := by unfold Hid; rw [hW9]; exact (Below.refl _ _).alloc (Nat.le_refl _) _
      have q9 : W9.heap[w8.heap.size]? = some (.cells #[.int .i64 1, .int .i64 3, .slice (some ⟨ab, off, none⟩) 1 c5] 40 (0, 0)) := by rw [hW9]; exact heap_alloc_new _ _
      have s1 : W9.cell? ⟨w8.heap.size, 1, none⟩ = some (.int .i64 3) := cell_of_row W9 _ 1 _ _ _ q9
      have s2 : W9.cell? ⟨w8.heap.size, 2, none⟩ = some (.slice (some ⟨ab, off, none⟩) 1 c5) := cell_of_row W9 _ 2 _ _ _ q9
      have cv9 : W9.cell? ⟨ab, off + 1, none⟩ = some (.int .i64 u) := (HB9.out.cell (p := ⟨ab, off + 1, none⟩) habl).trans cv
      have HX9 := Lib.hid (HX8.out.below HB9.out)
      have hdp : ∃ (A : Option Addr) (c : Nat), W9.cell? ⟨F.mb, 6, none⟩ = some (.slice A 1 c) := by
        obtain ⟨A, c, q⟩ := HX9.out.depth_at
        rw [HMB8.out, HST.out.one] at q
        exact ⟨A, c, q⟩
      obtain ⟨A9, c9, d6⟩ := hdp
      have HD6 := Lib.hid d6
      clear hW9 q9 cv d6
      go_wp2_with (go_at_call 20; refine (depth_cell HD6.out).mono ?_; rintro e w10 ⟨rfl, rfl⟩)
      exact ⟨⟨k + 1, F5, M', by go_num, by omega, HMB8.out, HB8.out.trans (HB9.out.mono HB8.out.size), HX9.out, .inr ⟨by omega, HST.out⟩⟩, by simp only [intOf]; omega⟩
    · have g0 : decide ((k : Int) < n) = false := decide_eq_false hlt
      obtain ⟨σ', s', hnx⟩ : ∃ (σ' : Sto) (s' : Int), nextS (rL mc n v) false M = (⟨0, 2, [], σ', s', false, 0⟩, (1, 1, [(89, 0)]), 0) := by
        rcases hst with ⟨rfl, rfl⟩ | ⟨hk0, h⟩
        · omega
        · obtain ⟨σ, s, hs, hsk, rfl⟩ := h.ex
          obtain ⟨σ', e⟩ := r_last (n := n) mc false σ hs s (by omega)
          rw [show n - (k : Int) = 0 by omega]
          exact ⟨σ', _, e⟩
      have hnc := next_of hnx HX.out
      rw [hmb] at hnc
      have HNC := Lib.hid hnc
      clear hst hnx hnc hmb
      go_wp2_with fail
      refine HNC.out.mono ?_
      rintro e w8 ⟨A5, c5, rfl, _, F5, hmv, hmx, hch⟩
      have HB8 : Hid (Below w.heap.size w w8) := HBE.out.trans (MP.bel HX.out ⟨F5, hmv, hmx, hch⟩ HWB.out)
      have HX8 := Lib.hid hmx
      have HMB8 : Hid (F5.mb = F.mb) := hmv.mb.trans HMB.out
      clear hmv hmx hch
      have hl1 : [((89 : Int), (0 : Int))].length = 1 := rfl
      dsimp only
      rw [hl1]
      clear hl1
      go_upto_region 23 with (fail)
      refine wp_worldR fun W9 hW9 => ?_
      have HB9 : Hid (Below w8.heap.size w8 W9) := by unfold Hid; rw [hW9]; exact (Below.refl _ _).alloc (Nat.le_refl _) _
      have q9 : W9.heap[w8.heap.size]? = some (.cells #[.int .i64 1, .int .i64 1, .slice A5 1 c5] 40 (0, 0)) := by rw [hW9]; exact heap_alloc_new _ _
      have s1 : W9.cell? ⟨w8.heap.size, 1, none⟩ = some (.int .i64 1) := cell_of_row W9 _ 1 _ _ _ q9
      have hdp : ∃ (A : Option Addr) (c : Nat), W9.cell? ⟨F.mb, 6, none⟩ = some (.slice A 0 c) := by
        obtain ⟨A, c, q⟩ := (HX8.out.below HB9.out).depth_at
        rw [HMB8.out] at q
        exact ⟨A, c, q⟩
      obtain ⟨A9, c9, d6⟩ := hdp
      have HD6 := Lib.hid d6
      clear hW9 q9 d6
      go_wp2_with (go_at_call 20; refine (depth_cell HD6.out).mono ?_; rintro e w10 ⟨rfl, rfl⟩)
      go_ret
      exact ⟨by first | rfl | simp, HB8.out.trans (HB9.out.mono HB8.out.size)⟩
end Go.Proofs.YtdcjbhdfphcefaaGreatDoor
