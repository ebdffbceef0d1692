/- The contract of signed of cnclaw08: an expression for a number that may be negative. Conditions: the number is less than 10^15 in size. -/
import Derived.Test.YtdipainocdgfgaaDoorEx
import Derived.Test.YtdipainocdgfgaaDoorEp
namespace Go.Proofs.YtdipainocdgfgaaDoor
set_option linter.unusedVariables false
set_option linter.unusedSimpArgs false
open Go.RowKit

/-- The tree of a number that may be negative. -/
def sgT (n : Int) : Tr := if n < 0 then unT 2 (numT (-n)) else numT n
theorem size_set (w : World) (p : Addr) (v : Value) : (w.setCell p v).heap.size = w.heap.size := by simp [World.setCell]
theorem below_set3 {B : Nat} {a w : World} (h : Below B a w) {g : Nat} (hg : B ≤ g) (x y z : Value) : Below B a (((w.setCell ⟨g, 0, none⟩ x).setCell ⟨g, 1, none⟩ y).setCell ⟨g, 2, none⟩ z) :=
  ((h.setCell (p := ⟨g, 0, none⟩) hg x).setCell (p := ⟨g, 1, none⟩) hg y).setCell (p := ⟨g, 2, none⟩) hg z
theorem signed_neg {n : Int} {w w1 : World} (h1 : -999999999999999 ≤ n) (h2 : n ≤ 999999999999999) (hlt : w.heap.size < w1.heap.size) (hb : Below w.heap.size w w1) (x y z : Value) :
    ExPost (unT 2 (numT (-n))) w (.returned (.agg #[.int .i64 2, .int .i64 0, .slice (some ⟨w1.heap.size, 0, none⟩) 1 1])) ((((w1.alloc (.cells #[.int .i64 0, .int .i64 (-n), .slice none 0 0] 27)).setCell ⟨w.heap.size, 0, none⟩ x).setCell ⟨w.heap.size, 1, none⟩ y).setCell ⟨w.heap.size, 2, none⟩ z) :=
  ⟨2, 0, some ⟨w1.heap.size, 0, none⟩, 1, 1, rfl, Rd.lay1 ((heap_res _ _ _ _ _ _ (by omega)).trans (newq w1 _)) (by rw [size_set, size_set, size_set, size1e]; omega) (Rd.num _ _ _ (by unfold I64; omega) _) (by unfold I64; omega), below_set3 (hb.trans (below_box' _ hb.size)) (Nat.le_refl _) _ _ _⟩
theorem signed_pos {n : Int} {w w1 : World} (h1 : -999999999999999 ≤ n) (h2 : n ≤ 999999999999999) (hb : Below w.heap.size w w1) (x y z : Value) :
    ExPost (numT n) w (.returned (.agg #[.int .i64 0, .int .i64 n, .slice none 0 0])) (((w1.setCell ⟨w.heap.size, 0, none⟩ x).setCell ⟨w.heap.size, 1, none⟩ y).setCell ⟨w.heap.size, 2, none⟩ z) :=
  ⟨0, n, none, 0, 0, rfl, Rd.num _ _ _ (by unfold I64; omega) _, below_set3 hb (Nat.le_refl _) _ _ _⟩
set_option maxRecDepth 100000 in
theorem signed_x (n : Int) (h1 : -999999999999999 ≤ n) (h2 : n ≤ 999999999999999) (w : World) :
    Calls Tryd.prog 19 #[.int .i64 n] w (ExPost (sgT n) w) := by
  rcases Int.lt_or_le n 0 with hn | hn
  · have HS : Hid (sgT n = unT 2 (numT (-n))) := if_pos hn
    rw [HS.out]
    have hb0 := below_box' (B := w.heap.size) (w := w) (.cells #[.int .i64 0, .int .i64 0, .slice none 0 0] 27) (Nat.le_refl _)
    have HB0 := Lib.hid hb0
    clear hb0
    go_enter Tryd.func19, Tryd.ntmps19
    go_wp2_with fail
    refine (numx_any _ _).mono ?_
    rintro e w1 ⟨rfl, hb⟩
    have R1 := Lib.hid ((hb.block w.heap.size (by rw [size1e]; omega)).trans (newq w _))
    have HB1 := Lib.hid (HB0.out.trans (hb.mono (by rw [size1e]; omega)))
    have HLT := Lib.hid (hltq R1.out)
    obtain ⟨c0, c1, c2⟩ := three (oldq R1.out (.cells #[.int .i64 0, .int .i64 (-n), .slice none 0 0] 27))
    have f0 := froz (oldq R1.out (.cells #[.int .i64 0, .int .i64 (-n), .slice none 0 0] 27))
    clear hb
    go_wp2_with fail
    exact bodyPost_ret (results_cell_row Tryd.results19 _ _ w.heap.size _ _ _ _ rfl (set_res (oldq R1.out _)) Tryd.underlying27 rfl (by kernel_rfl)) rfl
      (signed_neg (by omega) (by omega) HLT.out HB1.out _ _ _)
  · have HS : Hid (sgT n = numT n) := if_neg (by omega)
    rw [HS.out]
    have hb0 := below_box' (B := w.heap.size) (w := w) (.cells #[.int .i64 0, .int .i64 0, .slice none 0 0] 27) (Nat.le_refl _)
    have HB0 := Lib.hid hb0
    clear hb0
    go_enter Tryd.func19, Tryd.ntmps19
    go_wp2_with fail
    refine (numx_any _ _).mono ?_
    rintro e w1 ⟨rfl, hb⟩
    have R1 := Lib.hid ((hb.block w.heap.size (by rw [size1e]; omega)).trans (newq w _))
    have HB1 := Lib.hid (HB0.out.trans (hb.mono (by rw [size1e]; omega)))
    obtain ⟨c0, c1, c2⟩ := three R1.out
    have f0 := froz R1.out
    clear hb
    go_wp2_with fail
    exact bodyPost_ret (results_cell_row Tryd.results19 _ _ w.heap.size _ _ _ _ rfl (set_res R1.out) Tryd.underlying27 rfl (by kernel_rfl)) rfl
      (signed_pos (by omega) (by omega) HB1.out _ _ _)
end Go.Proofs.YtdipainocdgfgaaDoor
