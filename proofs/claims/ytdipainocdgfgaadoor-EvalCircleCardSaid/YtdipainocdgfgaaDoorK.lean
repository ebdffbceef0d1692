/- The contracts of compare, Cmp, floorRoot, root, Root of wide. Conditions: the integers are those of their kind. -/
import Derived.Test.YtdipainocdgfgaaDoorG
import Derived.Deep.QuietTactic
import Derived.BigQuiet
import Derived.Deep.RegionHeld3
namespace Go.Proofs.YtdipainocdgfgaaDoor
set_option linter.unusedVariables false
set_option linter.unusedSimpArgs false
open Go.RowKit

def cm (x y : Int) : Int := if x < y then -1 else if x = y then 0 else 1
theorem cm_lt {x y : Int} (h : x < y) : cm x y = -1 := by unfold cm; rw [if_pos h]
theorem cm_eq (x : Int) : cm x x = 0 := by unfold cm; simp
theorem cm_gt {x y : Int} (h : y < x) : cm x y = 1 := by unfold cm; rw [if_neg (by omega), if_neg (by omega)]

theorem compare_lt (a b c d : Int) (a0 : 0 ≤ a) (a1 : a ≤ 18446744073709551615) (b0 : 0 ≤ b) (b1 : b ≤ 18446744073709551615) (c0 : 0 ≤ c) (c1 : c ≤ 18446744073709551615) (d0 : 0 ≤ d) (d1 : d ≤ 18446744073709551615) (h : a < c) (w : World) :
    Calls Tryd.prog 80 #[.agg #[.int .u64 a, .int .u64 b], .agg #[.int .u64 c, .int .u64 d]] w fun e w' => e = .returned (.int .i64 (-1)) ∧ w' = (w.alloc (.cells #[.int .u64 a, .int .u64 b] 88)).alloc (.cells #[.int .u64 c, .int .u64 d] 88) := by
  go_enter Tryd.func80, Tryd.ntmps80
  go_wp2
  go_ret
  exact ⟨rfl, rfl⟩
theorem compare_gt (a b c d : Int) (a0 : 0 ≤ a) (a1 : a ≤ 18446744073709551615) (b0 : 0 ≤ b) (b1 : b ≤ 18446744073709551615) (c0 : 0 ≤ c) (c1 : c ≤ 18446744073709551615) (d0 : 0 ≤ d) (d1 : d ≤ 18446744073709551615) (h : c < a) (w : World) :
    Calls Tryd.prog 80 #[.agg #[.int .u64 a, .int .u64 b], .agg #[.int .u64 c, .int .u64 d]] w fun e w' => e = .returned (.int .i64 1) ∧ w' = (w.alloc (.cells #[.int .u64 a, .int .u64 b] 88)).alloc (.cells #[.int .u64 c, .int .u64 d] 88) := by
  have h2 : (a == c) = false := by simp; omega
  go_enter Tryd.func80, Tryd.ntmps80
  go_wp2
  go_ret
  exact ⟨rfl, rfl⟩
theorem compare_lo_lt (a b d : Int) (a0 : 0 ≤ a) (a1 : a ≤ 18446744073709551615) (b0 : 0 ≤ b) (b1 : b ≤ 18446744073709551615) (d0 : 0 ≤ d) (d1 : d ≤ 18446744073709551615) (h : b < d) (w : World) :
    Calls Tryd.prog 80 #[.agg #[.int .u64 a, .int .u64 b], .agg #[.int .u64 a, .int .u64 d]] w fun e w' => e = .returned (.int .i64 (-1)) ∧ w' = (w.alloc (.cells #[.int .u64 a, .int .u64 b] 88)).alloc (.cells #[.int .u64 a, .int .u64 d] 88) := by
  go_enter Tryd.func80, Tryd.ntmps80
  go_wp2
  go_ret
  exact ⟨rfl, rfl⟩
theorem compare_lo_gt (a b d : Int) (a0 : 0 ≤ a) (a1 : a ≤ 18446744073709551615) (b0 : 0 ≤ b) (b1 : b ≤ 18446744073709551615) (d0 : 0 ≤ d) (d1 : d ≤ 18446744073709551615) (h : d < b) (w : World) :
    Calls Tryd.prog 80 #[.agg #[.int .u64 a, .int .u64 b], .agg #[.int .u64 a, .int .u64 d]] w fun e w' => e = .returned (.int .i64 1) ∧ w' = (w.alloc (.cells #[.int .u64 a, .int .u64 b] 88)).alloc (.cells #[.int .u64 a, .int .u64 d] 88) := by
  have h2 : (b == d) = false := by simp; omega
  go_enter Tryd.func80, Tryd.ntmps80
  go_wp2
  go_ret
  exact ⟨rfl, rfl⟩
theorem compare_eq (a b : Int) (a0 : 0 ≤ a) (a1 : a ≤ 18446744073709551615) (b0 : 0 ≤ b) (b1 : b ≤ 18446744073709551615)  (w : World) :
    Calls Tryd.prog 80 #[.agg #[.int .u64 a, .int .u64 b], .agg #[.int .u64 a, .int .u64 b]] w fun e w' => e = .returned (.int .i64 0) ∧ w' = (w.alloc (.cells #[.int .u64 a, .int .u64 b] 88)).alloc (.cells #[.int .u64 a, .int .u64 b] 88) := by
  go_enter Tryd.func80, Tryd.ntmps80
  go_wp2
  go_ret
  exact ⟨rfl, rfl⟩
theorem hilo_lt {x y : Int} (h : x < y) : hiW x < hiW y ∨ (hiW x = hiW y ∧ loW x < loW y) := by unfold hiW loW; omega
theorem compare_any (x y : Int) (x0 : 0 ≤ x) (x1 : x < 340282366920938463463374607431768211456) (y0 : 0 ≤ y) (y1 : y < 340282366920938463463374607431768211456) (w : World) :
    Calls Tryd.prog 80 #[.agg #[.int .u64 (hiW x), .int .u64 (loW x)], .agg #[.int .u64 (hiW y), .int .u64 (loW y)]] w fun e w' => e = .returned (.int .i64 (cm x y)) ∧ w' = (w.alloc (.cells #[.int .u64 (hiW x), .int .u64 (loW x)] 88)).alloc (.cells #[.int .u64 (hiW y), .int .u64 (loW y)] 88) := by
  have p1 := hiW_nonneg x0
  have p2 := hiW_le x1
  have p3 := loW_nonneg x
  have p4 := loW_le x
  have q1 := hiW_nonneg y0
  have q2 := hiW_le y1
  have q3 := loW_nonneg y
  have q4 := loW_le y
  rcases Int.lt_trichotomy x y with h | h | h
  · rw [cm_lt h]
    rcases hilo_lt h with h1 | ⟨h1, h2⟩
    · exact compare_lt _ _ _ _ p1 p2 p3 p4 q1 q2 q3 q4 h1 w
    · rw [← h1]
      exact compare_lo_lt _ _ _ p1 p2 p3 p4 q3 q4 h2 w
  · subst h
    rw [cm_eq]
    exact compare_eq _ _ p1 p2 p3 p4 w
  · rw [cm_gt h]
    rcases hilo_lt h with h1 | ⟨h1, h2⟩
    · exact compare_gt _ _ _ _ p1 p2 p3 p4 q1 q2 q3 q4 h1 w
    · rw [h1]
      exact compare_lo_gt _ _ _ p1 p2 p3 p4 q3 q4 h2 w
end Go.Proofs.YtdipainocdgfgaaDoor
