/- The contract of arithmetic of eval: the map of the functions that compute with two numbers; what a look-up in it gives. Conditions: none. -/
import Derived.Test.YtdipainocdgfgaaDoorPle2
import Derived.Test.YtdipainocdgfgaaDoorJ
import Derived.MapKept
import Derived.Carry
namespace Go.Proofs.YtdipainocdgfgaaDoor
set_option linter.unusedVariables false
set_option linter.unusedSimpArgs false
open Go.RowKit

theorem push_set {α : Type} (a : Array α) (x y : α) : (a.push x).setIfInBounds a.size y = a.push y := by
  apply Array.ext
  · simp
  · intro i h1 h2
    simp at h1 h2
    rw [Array.getElem_setIfInBounds (by simpa using h1), Array.getElem_push, Array.getElem_push]
    by_cases h : i < a.size
    · rw [dif_pos h, dif_pos h, if_neg (by omega)]
    · rw [dif_neg h, dif_neg h, if_pos (by omega)]
theorem mapT : Tryd.prog.underlying 76 = some (.map 3 75) := by kernel_rfl
theorem put_map (w : World) (es : Array MapEntry) (clock : Nat) (k : Int) (v : Value) (h : Instr.findNow (.int .i64) (.int .i64 k) es.toList 0 = some none) :
    (Instr.mapUpdate 76 (.map (some w.heap.size)) (.int .i64 k) v).run Tryd.prog (w.alloc (.map es clock)) = .ok () (w.alloc (.map (es.push { key := .int .i64 k, val := v, born := clock }) (clock + 1))) := by
  have hb : (w.alloc (.map es clock)).heap[w.heap.size]? = some (.map es clock) := heap_alloc_new w _
  have hkey : MapKept.IsKey (.int .i64) (.int .i64 k) := rfl
  have hw : ∀ o, (w.alloc (.map es clock)).heap.setIfInBounds w.heap.size o = (w.alloc o).heap := fun o => push_set _ _ _
  simp [Instr.mapUpdate, run_underlying mapT, MapKept.run_getObj_map hb, MapKept.run_checkKey Tryd.underlying3 hkey, MapKept.run_findKey Tryd.underlying3 h, MapKept.run_setObj_map _ hb, Result.andThen, hw]
  rfl
theorem get_map (w : World) (b : Nat) (es : Array MapEntry) (clock : Nat) (k : Int) (i : Nat) (v : Value) (hb : w.heap[b]? = some (.map es clock)) (h : Instr.findNow (.int .i64) (.int .i64 k) es.toList 0 = some (some (i, v))) :
    (Instr.lookup 76 (.map (some b)) (.int .i64 k) false).run Tryd.prog w = .ok v w := by
  have hkey : MapKept.IsKey (.int .i64) (.int .i64 k) := rfl
  simp [Instr.lookup, run_underlying mapT, MapKept.run_getObj_map hb, MapKept.run_checkKey Tryd.underlying3 hkey, MapKept.run_findKey Tryd.underlying3 h, Result.andThen]
def arE1 : Array MapEntry := (#[] : Array MapEntry).push { key := .int .i64 3, val := .func (.func 55) #[] #[], born := 0 }
def arE2 : Array MapEntry := arE1.push { key := .int .i64 4, val := .func (.func 56) #[] #[], born := 1 }
def arE3 : Array MapEntry := arE2.push { key := .int .i64 5, val := .func (.func 57) #[] #[], born := 2 }
def arE4 : Array MapEntry := arE3.push { key := .int .i64 6, val := .func (.func 58) #[] #[], born := 3 }
def arE5 : Array MapEntry := arE4.push { key := .int .i64 7, val := .func (.func 59) #[] #[], born := 4 }
theorem put3 (w : World) : (Instr.mapUpdate 76 (.map (some w.heap.size)) (.int .i64 3) (.func (.func 55) #[] #[])).run Tryd.prog (w.alloc (.map #[] 0)) = .ok () (w.alloc (.map arE1 1)) := put_map w _ _ _ _ (by kernel_rfl)
theorem put4 (w : World) : (Instr.mapUpdate 76 (.map (some w.heap.size)) (.int .i64 4) (.func (.func 56) #[] #[])).run Tryd.prog (w.alloc (.map arE1 1)) = .ok () (w.alloc (.map arE2 2)) := put_map w _ _ _ _ (by kernel_rfl)
theorem put5 (w : World) : (Instr.mapUpdate 76 (.map (some w.heap.size)) (.int .i64 5) (.func (.func 57) #[] #[])).run Tryd.prog (w.alloc (.map arE2 2)) = .ok () (w.alloc (.map arE3 3)) := put_map w _ _ _ _ (by kernel_rfl)
theorem put6 (w : World) : (Instr.mapUpdate 76 (.map (some w.heap.size)) (.int .i64 6) (.func (.func 58) #[] #[])).run Tryd.prog (w.alloc (.map arE3 3)) = .ok () (w.alloc (.map arE4 4)) := put_map w _ _ _ _ (by kernel_rfl)
theorem put7 (w : World) : (Instr.mapUpdate 76 (.map (some w.heap.size)) (.int .i64 7) (.func (.func 59) #[] #[])).run Tryd.prog (w.alloc (.map arE4 4)) = .ok () (w.alloc (.map arE5 5)) := put_map w _ _ _ _ (by kernel_rfl)
theorem look3 (w : World) (b : Nat) (hb : w.heap[b]? = some (.map arE5 5)) : (Instr.lookup 76 (.map (some b)) (.int .i64 3) false).run Tryd.prog w = .ok (.func (.func 55) #[] #[]) w := get_map w b _ _ _ 0 _ hb (by kernel_rfl)
theorem look4 (w : World) (b : Nat) (hb : w.heap[b]? = some (.map arE5 5)) : (Instr.lookup 76 (.map (some b)) (.int .i64 4) false).run Tryd.prog w = .ok (.func (.func 56) #[] #[]) w := get_map w b _ _ _ 1 _ hb (by kernel_rfl)
theorem look5 (w : World) (b : Nat) (hb : w.heap[b]? = some (.map arE5 5)) : (Instr.lookup 76 (.map (some b)) (.int .i64 5) false).run Tryd.prog w = .ok (.func (.func 57) #[] #[]) w := get_map w b _ _ _ 2 _ hb (by kernel_rfl)
theorem look6 (w : World) (b : Nat) (hb : w.heap[b]? = some (.map arE5 5)) : (Instr.lookup 76 (.map (some b)) (.int .i64 6) false).run Tryd.prog w = .ok (.func (.func 58) #[] #[]) w := get_map w b _ _ _ 3 _ hb (by kernel_rfl)
theorem look7 (w : World) (b : Nat) (hb : w.heap[b]? = some (.map arE5 5)) : (Instr.lookup 76 (.map (some b)) (.int .i64 7) false).run Tryd.prog w = .ok (.func (.func 59) #[] #[]) w := get_map w b _ _ _ 4 _ hb (by kernel_rfl)
set_option maxRecDepth 100000 in
theorem ar_any (w : World) :
    Calls Tryd.prog 45 #[] w fun e w' => e = .returned (.map (some w.heap.size)) ∧ w.alloc (.map arE5 5) = w' := by
  have hmm := @run_makeMap Tryd.prog
  have h3 := put3
  have h4 := put4
  have h5 := put5
  have h6 := put6
  have h7 := put7
  go_enter Tryd.func45, Tryd.ntmps45
  go_wp2
  go_ret
  exact ⟨rfl, rfl⟩
end Go.Proofs.YtdipainocdgfgaaDoor
