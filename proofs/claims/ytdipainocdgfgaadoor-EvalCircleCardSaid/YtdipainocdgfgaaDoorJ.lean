/- Small words on worlds: two calls that only make memory, one behind the other. No function of the program. Conditions: none. -/
import Derived.Test.YtdipainocdgfgaaDoorA
namespace Go.Proofs.YtdipainocdgfgaaDoor
set_option linter.unusedVariables false
set_option linter.unusedSimpArgs false
open Go.RowKit

theorem below2 {w w1 w2 : World} (h1 : Below w.heap.size w w1) (h2 : Below w1.heap.size w1 w2) : Below w.heap.size w w2 := h1.trans (h2.mono h1.size)
theorem belowB {B : Nat} {w w1 w2 : World} (h1 : Below B w w1) (h2 : Below w1.heap.size w1 w2) (hB : B ≤ w.heap.size) : Below B w w2 := h1.trans (h2.mono (Nat.le_trans hB h1.size))
theorem below_same {B : Nat} {w w' : World} (h : w = w') : Below B w w' := by subst h; exact Below.refl _ _
end Go.Proofs.YtdipainocdgfgaaDoor
