/- Blocks in memory that a law lays by hand: a literal, a copy, a store of one of them. Conditions: those that each lemma names. -/
import Derived.Test.YtdcjbhdfphcefaaGreatDoorLk
namespace Go.Proofs.YtdcjbhdfphcefaaGreatDoor
set_option linter.unusedVariables false
set_option linter.unusedSimpArgs false
open Go.RowKit

/-- Cells in a row are stored. -/
def setL (W : World) (g : Nat) : Nat → List Value → World
  | _, [] => W
  | o, v :: r => setL (W.setCell ⟨g, o, none⟩ v) g (o + 1) r
theorem setL_size (g : Nat) : ∀ (l : List Value) (W : World) (o : Nat), (setL W g o l).heap.size = W.heap.size := by
  intro l
  induction l with
  | nil => intro W o; rfl
  | cons v r ih => intro W o; rw [setL, ih]; simp [World.setCell]
theorem setL_heap (g q : Nat) (h : q ≠ g) : ∀ (l : List Value) (W : World) (o : Nat), (setL W g o l).heap[q]? = W.heap[q]? := by
  intro l
  induction l with
  | nil => intro W o; rfl
  | cons v r ih => intro W o; rw [setL, ih]; exact Below.heap_setCell _ _ _ q h
theorem setL_ne (g j : Nat) : ∀ (l : List Value) (W : World) (o : Nat), (j < o ∨ o + l.length ≤ j) → (setL W g o l).cell? ⟨g, j, none⟩ = W.cell? ⟨g, j, none⟩ := by
  intro l
  induction l with
  | nil => intro W o _; rfl
  | cons v r ih =>
    intro W o h
    rw [setL, ih _ _ (by simp only [List.length_cons] at h; omega)]
    exact cset_ne (by simp only [List.length_cons] at h; omega)
theorem setL_at (g : Nat) : ∀ (l : List Value) (W : World) (o : Nat), (∀ j, j < l.length → ∃ u, W.cell? ⟨g, o + j, none⟩ = some u) → ∀ (j : Nat) (v : Value), l[j]? = some v → (setL W g o l).cell? ⟨g, o + j, none⟩ = some v := by
  intro l
  induction l with
  | nil => intro W o _ j v h; simp at h
  | cons x r ih =>
    intro W o h j v hj
    rw [setL]
    rcases j with _ | j
    · simp only [List.getElem?_cons_zero, Option.some.injEq] at hj
      subst hj
      rw [setL_ne g (o + 0) r _ (o + 1) (by omega)]
      obtain ⟨u, hu⟩ := h 0 (by simp)
      exact World.cell?_setCell_same _ _ _ hu
    · rw [List.getElem?_cons_succ] at hj
      have q := ih (W.setCell ⟨g, o, none⟩ x) (o + 1) (fun k hk => by
        obtain ⟨u, hu⟩ := h (k + 1) (by simp; omega)
        refine ⟨u, (cset_ne (by omega)).trans ?_⟩
        rw [show o + 1 + k = o + (k + 1) by omega]
        exact hu) j v hj
      rw [show o + (j + 1) = o + 1 + j by omega]
      exact q
theorem setL_below {B : Nat} {w W : World} (h : Below B w W) {g : Nat} (hg : B ≤ g) : ∀ (l : List Value) (o : Nat), Below B w (setL W g o l) := by
  intro l
  induction l generalizing W with
  | nil => intro o; exact h
  | cons v r ih => intro o; rw [setL]; exact ih (h.setCell (p := ⟨g, o, none⟩) hg v) (o + 1)
theorem lz_at {W : World} {I : Nat → Prop} {g : Nat} {l : List Bk} (hg : I g) (hgl : g < W.heap.size) (hn : l.length ≤ maxLen) (h : ∀ (i : Nat) (b : Bk), l[i]? = some b → Kz W (fun j => I j ∧ j ≠ g) g (i * 11) b) : Lz W I (some ⟨g, 0, none⟩) l.length l :=
  ⟨rfl, hn, .inr ⟨g, rfl, hg, hgl, h⟩⟩
/-- One block of a slice is stored. -/
theorem Lz.set {W : World} {I : Nat → Prop} {g i : Nat} {l : List Bk} {b : Bk} {A : Option Addr} {n c : Nat} {l0 l1 l2 x0 x1 x2 : Value} (h : Lz W I (some ⟨g, 0, none⟩) l.length l) (hi : i < l.length) (hb : Bz W (fun j => I j ∧ j ≠ g) b A n l0 l1 l2 x0 x1 x2) :
    Lz (setL W g (i * 11) (cellsB b A n c l0 l1 l2 x0 x1 x2)) I (some ⟨g, 0, none⟩) (l.set i b).length (l.set i b) := by
  obtain ⟨h1, h2, h4⟩ := h
  rcases h4 with ⟨h4, _⟩ | ⟨g', e, hg, hl, hr⟩
  · cases h4
  injection e with e
  injection e with e
  subst e
  have hk : ∀ q, q < W.heap.size → (I q ∧ q ≠ g) → (setL W g (i * 11) (cellsB b A n c l0 l1 l2 x0 x1 x2)).heap[q]? = W.heap[q]? := fun q _ hq => setL_heap g q hq.2 _ _ _
  have hs := setL_size g (cellsB b A n c l0 l1 l2 x0 x1 x2) W (i * 11)
  refine lz_at hg (by rw [hs]; exact hl) (by simpa using h2) fun i' b' hb' => ?_
  by_cases e : i' = i
  · subst e
    rw [List.getElem?_set_self hi] at hb'
    cases hb'
    refine ⟨A, n, c, l0, l1, l2, x0, x1, x2, fun j v hj => setL_at g _ W _ (fun k hk => ?_) j v hj, hb.keep (Nat.le_of_eq hs.symm) (fun _ _ h => h) hk⟩
    obtain ⟨b0, hb0⟩ : ∃ b0, l[i']? = some b0 := ⟨_, List.getElem?_eq_getElem hi⟩
    obtain ⟨A', n', c', m0, m1, m2, y0, y1, y2, hc, _⟩ := hr i' b0 hb0
    have hk' : k < (cellsB b0 A' n' c' m0 m1 m2 y0 y1 y2).length := by simpa [cellsB] using hk
    exact ⟨_, hc k _ (List.getElem?_eq_getElem hk')⟩
  · rw [List.getElem?_set_ne (fun q => e q.symm)] at hb'
    exact (hr i' b' hb').keep (Nat.le_of_eq hs.symm) (fun _ _ h => h) hk fun j hj => setL_ne g _ _ _ _ (by
      have : (cellsB b A n c l0 l1 l2 x0 x1 x2).length = 11 := by simp [cellsB]
      rw [this]
      have : i' < i ∨ i < i' := by omega
      rcases this with q | q
      · left; omega
      · right; omega)
/-- A block of constants without words. -/
structure Fb where
  kind : Int
  label : Int
  left : Int
  x : Int
  n : Int
def fb (f : Fb) : Bk := ⟨f.kind, f.label, false, [], numT f.left, numT f.x, f.n⟩
def fc (f : Fb) : List Value := [.int .i64 f.kind, .int .i64 f.label, .bool false, .slice none 0 0, .int .i64 0, .int .i64 f.left, .slice none 0 0, .int .i64 0, .int .i64 f.x, .slice none 0 0, .int .i64 f.n]
def fok (f : Fb) : Prop := I64 f.kind ∧ I64 f.label ∧ I64 f.left ∧ I64 f.x ∧ I64 f.n
theorem fc_bz (W : World) (I : Nat → Prop) (f : Fb) (h : fok f) : Bz W I (fb f) none 0 (.int .i64 0) (.int .i64 f.left) (.slice none 0 0) (.int .i64 0) (.int .i64 f.x) (.slice none 0 0) :=
  ⟨h.1, h.2.1, h.2.2.2.2, wz_nil W I, rz_num W I f.left h.2.2.1, rz_num W I f.x h.2.2.2.1⟩
theorem fc_flat : ∀ (fs : List Fb) (i j : Nat) (f : Fb), fs[i]? = some f → j < 11 → (fs.flatMap fc)[i * 11 + j]? = (fc f)[j]? := by
  intro fs
  induction fs with
  | nil => intro i j f h; simp at h
  | cons a r ih =>
    intro i j f h hj
    rw [List.flatMap_cons]
    rcases i with _ | i
    · simp only [List.getElem?_cons_zero, Option.some.injEq] at h
      subst h
      rw [show 0 * 11 + j = j by omega, List.getElem?_append_left (by simpa [fc] using hj)]
    · rw [List.getElem?_cons_succ] at h
      have e : (fc a).length = 11 := rfl
      rw [List.getElem?_append_right (by rw [e]; omega), e, show (i + 1) * 11 + j - 11 = i * 11 + j by omega]
      exact ih i j f h hj
theorem lz_flat {W : World} {base g n cap : Nat} {I : Nat → Prop} {fs : List Fb} (h : W.ownsRow base 54 11 (.slice (some ⟨g, 0, none⟩) n cap) n (fs.flatMap fc)) (hn : n = fs.length) (hm : n ≤ maxLen) (hg : I g) (hf : ∀ f ∈ fs, fok f) : Lz W I (some ⟨g, 0, none⟩) n (fs.map fb) := by
  have e : n = (fs.map fb).length := by simp [hn]
  have hlt := (own_blk h rfl).2
  rw [e]
  refine lz_at hg hlt (by rw [← e]; exact hm) fun i b hb => ?_
  rw [List.getElem?_map] at hb
  obtain ⟨f, hf1, rfl⟩ := Option.map_eq_some_iff.1 hb
  have hil := (List.getElem?_eq_some_iff.1 hf1).1
  refine ⟨none, 0, 0, _, _, _, _, _, _, fun j v hj => ?_, fc_bz W _ f (hf f (List.mem_of_getElem? hf1))⟩
  have hjl : j < 11 := by have := (List.getElem?_eq_some_iff.1 hj).1; simpa [cellsB] using this
  rw [h.cellAt (i * 11 + j) (by omega), fc_flat fs i j f hf1 hjl]
  exact hj
theorem Lz.kind_at {W : World} {I : Nat → Prop} {g k : Nat} {l : List Bk} {b : Bk} {n : Nat} (h : Lz W I (some ⟨g, 0, none⟩) n l) (hk : l[k]? = some b) : W.cell? ⟨g, k * 11, none⟩ = some (.int .i64 b.kind) := by
  obtain ⟨h1, h2, h4⟩ := h
  rcases h4 with ⟨h4, _⟩ | ⟨g', e, hg, hl, hr⟩
  · cases h4
  injection e with e
  injection e with e
  subst e
  obtain ⟨A', n', c', m0, m1, m2, y0, y1, y2, hc, _⟩ := hr k b hk
  exact hc 0 _ rfl
end Go.Proofs.YtdcjbhdfphcefaaGreatDoor
