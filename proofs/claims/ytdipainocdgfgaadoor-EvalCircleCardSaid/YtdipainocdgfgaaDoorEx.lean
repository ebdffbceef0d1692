/- The contracts of the small functions of cnclaw08 that build expressions: num, two. Conditions: the integers are ints; expressions read as trees. -/
import Derived.Test.YtdipainocdgfgaaDoorRi
namespace Go.Proofs.YtdipainocdgfgaaDoor
set_option linter.unusedVariables false
set_option linter.unusedSimpArgs false
open Go.RowKit

def pairT (a b : Tr) : Nat → Tr := fun i => if i = 0 then a else b
def oneT (a : Tr) : Nat → Tr := fun _ => a
def numT (n : Int) : Tr := .mk 0 n 0 fun _ => .none_
def twoT (op : Int) (a b : Tr) : Tr := .mk op 0 2 (pairT a b)
def unT (op : Int) (a : Tr) : Tr := .mk op 0 1 (oneT a)
theorem Rd.num (w : World) (B : Nat) (n : Int) (h : I64 n) (c : Nat) : Rd w B (numT n) (.agg #[.int .i64 0, .int .i64 n, .slice none 0 c]) :=
  Rd.shut (by unfold I64; omega) h (by unfold maxLen; omega) (fun h => absurd h (by omega))
theorem Rd.lay1 {w : World} {B g : Nat} {op o n : Int} {A : Option Addr} {k c c' : Nat} {T : TypeId} {a : Tr} (hg : w.heap[g]? = some (.cells #[.int .i64 o, .int .i64 n, .slice A k c] T (0, 0))) (hB : g < B) (h : Rd w B a (.agg #[.int .i64 o, .int .i64 n, .slice A k c])) (hop : I64 op) :
    Rd w B (unT op a) (.agg #[.int .i64 op, .int .i64 0, .slice (some ⟨g, 0, none⟩) 1 c']) :=
  Rd.shut hop (by unfold I64; omega) (by unfold maxLen; omega) fun _ => ⟨g, 0, rfl, hB, fun i hi => by
    obtain rfl : i = 0 := by omega
    exact ⟨o, n, A, k, c, cell_of_row w g 0 _ _ _ hg, cell_of_row w g 1 _ _ _ hg, cell_of_row w g 2 _ _ _ hg, h⟩⟩
theorem Rd.lay2 {w : World} {B g : Nat} {op o n o' n' : Int} {A A' : Option Addr} {k c k' c' c2 : Nat} {T : TypeId} {a b : Tr} (hg : w.heap[g]? = some (.cells #[.int .i64 o, .int .i64 n, .slice A k c, .int .i64 o', .int .i64 n', .slice A' k' c'] T (0, 0))) (hB : g < B)
    (h : Rd w B a (.agg #[.int .i64 o, .int .i64 n, .slice A k c])) (h' : Rd w B b (.agg #[.int .i64 o', .int .i64 n', .slice A' k' c'])) (hop : I64 op) :
    Rd w B (twoT op a b) (.agg #[.int .i64 op, .int .i64 0, .slice (some ⟨g, 0, none⟩) 2 c2]) :=
  Rd.shut hop (by unfold I64; omega) (by unfold maxLen; omega) fun _ => ⟨g, 0, rfl, hB, fun i hi => by
    have e : i = 0 ∨ i = 1 := by omega
    rcases e with rfl | rfl
    · exact ⟨o, n, A, k, c, cell_of_row w g 0 _ _ _ hg, cell_of_row w g 1 _ _ _ hg, cell_of_row w g 2 _ _ _ hg, h⟩
    · exact ⟨o', n', A', k', c', cell_of_row w g 3 _ _ _ hg, cell_of_row w g 4 _ _ _ hg, cell_of_row w g 5 _ _ _ hg, h'⟩⟩
theorem below4 (w : World) (o1 o2 o3 o4 : Obj) : Below w.heap.size w ((((w.alloc o1).alloc o2).alloc o3).alloc o4) :=
  ((((Below.refl _ _).alloc (Nat.le_refl _) _).alloc (by simp) _).alloc (by simp; omega) _).alloc (by simp; omega) _
theorem new4 (w : World) (o1 o2 o3 o4 : Obj) : ((((w.alloc o1).alloc o2).alloc o3).alloc o4).heap[w.heap.size + 1 + 1 + 1]? = some o4 := by
  have h := heap_alloc_new (((w.alloc o1).alloc o2).alloc o3) o4
  simpa using h
/-- What a function that returns an expression leaves. -/
def ExPost (t : Tr) (w : World) (e : Ending) (w' : World) : Prop :=
  ∃ (o n : Int) (A : Option Addr) (k c : Nat), e = .returned (.agg #[.int .i64 o, .int .i64 n, .slice A k c]) ∧ Rd w' w'.heap.size t (.agg #[.int .i64 o, .int .i64 n, .slice A k c]) ∧ Below w.heap.size w w'
theorem numx_any (n : Int) (w : World) :
    Calls Tryd.prog 18 #[.int .i64 n] w fun e w' => e = .returned (.agg #[.int .i64 0, .int .i64 n, .slice none 0 0]) ∧ Below w.heap.size w w' := by
  go_enter Tryd.func18, Tryd.ntmps18
  go_wp2
  exact bodyPost_ret (v := .agg #[.int .i64 0, .int .i64 n, .slice none 0 0]) (by simp [results, Tryd.results18, go_sem]) rfl ⟨rfl, (Below.refl _ _).alloc (Nat.le_refl _) _⟩
theorem two_any (op o n o' n' : Int) (A A' : Option Addr) (k c k' c' : Nat) (a b : Tr) (w : World) (hop : I64 op) (ha : Rd w w.heap.size a (.agg #[.int .i64 o, .int .i64 n, .slice A k c])) (hb : Rd w w.heap.size b (.agg #[.int .i64 o', .int .i64 n', .slice A' k' c'])) :
    Calls Tryd.prog 14 #[.int .i64 op, .agg #[.int .i64 o, .int .i64 n, .slice A k c], .agg #[.int .i64 o', .int .i64 n', .slice A' k' c']] w (ExPost (twoT op a b) w) := by
  have HA := Lib.hid ha
  have HB := Lib.hid hb
  clear ha hb
  go_enter Tryd.func14, Tryd.ntmps14
  go_wp2
  exact bodyPost_ret (v := .agg #[.int .i64 op, .int .i64 0, .slice (some ⟨w.heap.size + 1 + 1 + 1, 0, none⟩) 2 2]) (by simp [results, Tryd.results14, go_sem]) rfl
    ⟨_, _, _, _, _, rfl, Rd.lay2 (new4 w _ _ _ _) (by simp) (HA.out.below (below4 w _ _ _ _) (by simp; omega)) (HB.out.below (below4 w _ _ _ _) (by simp; omega)) hop, below4 w _ _ _ _⟩
end Go.Proofs.YtdipainocdgfgaaDoor
