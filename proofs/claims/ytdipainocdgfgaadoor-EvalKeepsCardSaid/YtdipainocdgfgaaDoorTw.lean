/- Two expressions held in memory, each in a box of its own: words for the walks of EvalErrors, EvalLogic, EvalAlgebra. Conditions: none. -/
import Derived.Test.YtdipainocdgfgaaDoorEp
import Derived.Test.YtdipainocdgfgaaDoorPlL
namespace Go.Proofs.YtdipainocdgfgaaDoor
set_option linter.unusedVariables false
set_option linter.unusedSimpArgs false
open Go.RowKit

/-- Behind w0: an expression that reads as s in the box g, one that reads as t in the box g'. -/
structure Two (w0 W : World) (g g' : Nat) (s t : Tr) (o n : Int) (A : Option Addr) (k c : Nat) (o' n' : Int) (A' : Option Addr) (k' c' : Nat) : Prop where
  box : W.heap[g]? = some (.cells #[.int .i64 o, .int .i64 n, .slice A k c] 27 (0, 0))
  box' : W.heap[g']? = some (.cells #[.int .i64 o', .int .i64 n', .slice A' k' c'] 27 (0, 0))
  rd : Rd W W.heap.size s (.agg #[.int .i64 o, .int .i64 n, .slice A k c])
  rd' : Rd W W.heap.size t (.agg #[.int .i64 o', .int .i64 n', .slice A' k' c'])
  below : Below w0.heap.size w0 W
theorem Two.next {w0 W W' : World} {g g' : Nat} {s t : Tr} {o n : Int} {A : Option Addr} {k c : Nat} {o' n' : Int} {A' : Option Addr} {k' c' : Nat} (h : Two w0 W g g' s t o n A k c o' n' A' k' c') (hb : Below W.heap.size W W') : Two w0 W' g g' s t o n A k c o' n' A' k' c' :=
  ⟨(hb.block _ (hltq h.box)).trans h.box, (hb.block _ (hltq h.box')).trans h.box', h.rd.below hb hb.size, h.rd'.below hb hb.size, h.below.trans (hb.mono h.below.size)⟩
theorem Two.make {w0 w : World} {s t : Tr} {o n : Int} {A : Option Addr} {k c : Nat} {o' n' : Int} {A' : Option Addr} {k' c' : Nat} (h1 : Rd w w.heap.size s (.agg #[.int .i64 o, .int .i64 n, .slice A k c])) (h2 : Rd w w.heap.size t (.agg #[.int .i64 o', .int .i64 n', .slice A' k' c'])) (hb : Below w0.heap.size w0 w) :
    Two w0 ((w.alloc (.cells #[.int .i64 o, .int .i64 n, .slice A k c] 27)).alloc (.cells #[.int .i64 o', .int .i64 n', .slice A' k' c'] 27)) w.heap.size (w.heap.size + 1) s t o n A k c o' n' A' k' c' := by
  have b1 := below_box' (w := w) (.cells #[.int .i64 o, .int .i64 n, .slice A k c] 27) (Nat.le_refl _)
  have b2 := below_box' (w := w.alloc (.cells #[.int .i64 o, .int .i64 n, .slice A k c] 27)) (.cells #[.int .i64 o', .int .i64 n', .slice A' k' c'] 27) (B := w.heap.size) (by rw [size1e]; omega)
  have b3 := b1.trans b2
  have n2 := newq (w.alloc (.cells #[.int .i64 o, .int .i64 n, .slice A k c] 27)) (.cells #[.int .i64 o', .int .i64 n', .slice A' k' c'] 27)
  rw [size1e] at n2
  exact ⟨oldq (newq w _) _, n2, h1.below b3 b3.size, h2.below b3 b3.size, hb.trans (b3.mono hb.size)⟩
theorem tab_two {w0 W : World} {g g' : Nat} {s t : Tr} {o n : Int} {A : Option Addr} {k c : Nat} {o' n' : Int} {A' : Option Addr} {k' c' : Nat} (h : Two w0 W g g' s t o n A k c o' n' A' k' c') (ht : Tab w0) : Tab W := ht.below h.below ht.lt
end Go.Proofs.YtdipainocdgfgaaDoor
