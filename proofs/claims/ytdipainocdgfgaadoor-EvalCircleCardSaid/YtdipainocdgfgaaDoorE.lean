/- The contracts of the small functions of wide. Conditions: the integers are those of their kind. -/
import Derived.Test.YtdipainocdgfgaaDoorA
import Derived.Test.YtdipainocdgfgaaDoorPle
import Derived.Test.YtdipainocdgfgaaDoorShelf
namespace Go.Proofs.YtdipainocdgfgaaDoor
set_option linter.unusedVariables false
set_option linter.unusedSimpArgs false
open Go.RowKit

theorem size_any (n : Int) (h1 : -9223372036854775808 ≤ n) (h2 : n ≤ 9223372036854775807) (w : World) :
    Calls Tryd.prog 66 #[.int .i64 n] w fun e w' => e = .returned (.int .u64 (mg n)) ∧ w = w' := by
  by_cases h : n < 0
  · have H := Lib.hid (mg_neg h)
    go_enter Tryd.func66, Tryd.ntmps66
    go_wp2
    go_ret
    exact ⟨ret_int (by have := H.out; omega), rfl⟩
  · have H := Lib.hid (mg_pos (show 0 ≤ n by omega))
    go_enter Tryd.func66, Tryd.ntmps66
    go_wp2
    go_ret
    exact ⟨ret_int (by have := H.out; omega), rfl⟩

/-- The three modes. -/
theorem known_yes (m : Int) (h0 : 0 ≤ m) (h1 : m ≤ 2) (w : World) :
    Calls Tryd.prog 64 #[.int .i64 m] w fun e w' => e = .returned (.bool true) ∧ w = w' := by
  have hm : m = 0 ∨ m = 1 ∨ m = 2 := by omega
  rcases hm with rfl | rfl | rfl
  all_goals
    go_enter Tryd.func64, Tryd.ntmps64
    go_wp2
    go_ret
    exact ⟨rfl, rfl⟩

theorem sign_any (a b : Int) (w : World) :
    Calls Tryd.prog 68 #[.int .i64 a, .int .i64 b] w fun e w' => e = .returned (.int .i64 (sg a b)) ∧ w = w' := by
  by_cases ha : a = 0
  · subst ha
    rw [sg_zero (Or.inl rfl)]
    go_enter Tryd.func68, Tryd.ntmps68
    go_wp2
    go_ret
    exact ⟨rfl, rfl⟩
  by_cases hb : b = 0
  · subst hb
    have ha' : (a == 0) = false := by simpa using ha
    rw [sg_zero (Or.inr rfl)]
    go_enter Tryd.func68, Tryd.ntmps68
    go_wp2
    go_ret
    exact ⟨rfl, rfl⟩
  have ha' : (a == 0) = false := by simpa using ha
  have hb' : (b == 0) = false := by simpa using hb
  by_cases h1 : a < 0
  · by_cases h2 : b < 0
    · rw [sg_pos ha hb (by omega)]
      go_enter Tryd.func68, Tryd.ntmps68
      go_wp2
      go_ret
      exact ⟨rfl, rfl⟩
    · rw [sg_neg ha hb (by omega)]
      go_enter Tryd.func68, Tryd.ntmps68
      go_wp2
      go_ret
      exact ⟨rfl, rfl⟩
  · by_cases h2 : b < 0
    · rw [sg_neg ha hb (by omega)]
      go_enter Tryd.func68, Tryd.ntmps68
      go_wp2
      go_ret
      exact ⟨rfl, rfl⟩
    · rw [sg_pos ha hb (by omega)]
      go_enter Tryd.func68, Tryd.ntmps68
      go_wp2
      go_ret
      exact ⟨rfl, rfl⟩

theorem wrap_minus (n : Int) (h0 : 0 ≤ n) (h : n ≤ 9223372036854775808) : wrap64 (IntKind.u64.wrap (-n)) = -n := by
  rw [IntKind.wrap_u64]; unfold wrap64; omega
theorem signed_any (n : Int) (neg : Bool) (h0 : 0 ≤ n) (h1 : n ≤ 18446744073709551615) (w : World) :
    Calls Tryd.prog 70 #[.int .u64 n, .bool neg] w fun e w' => e = .returned (.tuple #[.int .i64 (sgnd n neg).1, .bool (sgnd n neg).2]) ∧ w = w' := by
  cases neg
  · by_cases h : n < 9223372036854775808
    · have e0 : sgnd n false = (n, true) := by unfold sgnd; simp [h]
      rw [e0]
      go_enter Tryd.func70, Tryd.ntmps70
      go_wp2
      go_ret2
      exact ⟨rfl, rfl⟩
    · have e0 : sgnd n false = (0, false) := by unfold sgnd; simp [h]
      rw [e0]
      go_enter Tryd.func70, Tryd.ntmps70
      go_wp2
      go_ret2
      exact ⟨rfl, rfl⟩
  · by_cases h : n ≤ 9223372036854775808
    · have e0 : sgnd n true = (-n, true) := by unfold sgnd; simp [h]
      rw [e0]
      go_enter Tryd.func70, Tryd.ntmps70
      go_wp2
      go_ret2
      exact ⟨congrArg (fun q => Ending.returned (.tuple #[.int .i64 q, .bool true])) (wrap_minus n h0 h), rfl⟩
    · have e0 : sgnd n true = (0, false) := by unfold sgnd; simp [h]
      rw [e0]
      go_enter Tryd.func70, Tryd.ntmps70
      go_wp2
      go_ret2
      exact ⟨rfl, rfl⟩

theorem grows_any (mode more : Int) (some neg : Bool) (h0 : 0 ≤ mode) (h1 : mode ≤ 2) (w : World) :
    Calls Tryd.prog 69 #[.int .i64 mode, .int .i64 more, .bool some, .bool neg] w fun e w' => e = .returned (.bool (grw mode more some neg)) ∧ w = w' := by
  have hm : mode = 0 ∨ mode = 1 ∨ mode = 2 := by omega
  have hc : more = 0 ∨ 0 < more ∨ more < 0 := by omega
  rcases hm with rfl | rfl | rfl
  · cases some <;> cases neg
    all_goals
      go_enter Tryd.func69, Tryd.ntmps69
      go_wp2
      go_ret
      exact ⟨rfl, rfl⟩
  · cases some <;> cases neg
    all_goals
      go_enter Tryd.func69, Tryd.ntmps69
      go_wp2
      go_ret
      exact ⟨rfl, rfl⟩
  · rcases hc with rfl | h | h
    · cases neg
      all_goals
        go_enter Tryd.func69, Tryd.ntmps69
        go_wp2
        go_ret
        exact ⟨rfl, rfl⟩
    · have e0 : grw 2 more some neg = true := by unfold grw; simp [h]
      rw [e0]
      go_enter Tryd.func69, Tryd.ntmps69
      go_wp2
      go_ret
      exact ⟨rfl, rfl⟩
    · have e0 : grw 2 more some neg = false := by unfold grw; simp; omega
      have e1 : (more == 0) = false := by simp; omega
      have e2 : decide (0 < more) = false := by simp; omega
      rw [e0]
      go_enter Tryd.func69, Tryd.ntmps69
      go_wp2
      go_ret
      exact ⟨rfl, rfl⟩

theorem mul64_any (a b : Int) (h1 : 0 ≤ a) (h2 : 0 ≤ b) (h3 : a ≤ 18446744073709551615) (h4 : b ≤ 18446744073709551615) (w : World) :
    Calls Tryd.prog 75 #[.int .u64 a, .int .u64 b] w fun e w' => e = .returned (.tuple #[.int .u64 (hiW (a * b)), .int .u64 (loW (a * b))]) ∧ w = w' := by
  obtain ⟨x, rfl⟩ := Int.eq_ofNat_of_zero_le h1
  obtain ⟨y, rfl⟩ := Int.eq_ofNat_of_zero_le h2
  refine (Tryd.bits_Mul64 x y (by omega) (by omega) w).mono ?_
  rintro e w' ⟨he, hw⟩
  refine ⟨?_, hw.symm⟩
  rw [he]
  unfold hiW loW
  have e1 : ((x * y / 18446744073709551616 : Nat) : Int) = (x : Int) * (y : Int) / 18446744073709551616 := by rw [← Int.natCast_mul]; omega
  have e2 : ((x * y % 18446744073709551616 : Nat) : Int) = (x : Int) * (y : Int) % 18446744073709551616 := by rw [← Int.natCast_mul]; omega
  rw [e1, e2]

/-- The product, and its block. -/
theorem product_any (a b : Int) (h1 : 0 ≤ a) (h2 : 0 ≤ b) (h3 : a ≤ 18446744073709551615) (h4 : b ≤ 18446744073709551615) (w : World) :
    Calls Tryd.prog 65 #[.int .u64 a, .int .u64 b] w fun e w' => e = .returned (.agg #[.int .u64 (hiW (a * b)), .int .u64 (loW (a * b))]) ∧ w' = w.alloc (.cells #[.int .u64 (hiW (a * b)), .int .u64 (loW (a * b))] 88) := by
  go_enter Tryd.func65, Tryd.ntmps65
  go_wp2_with (go_at_call 75; refine (mul64_any a b h1 h2 h3 h4 _).mono ?_; rintro e w' ⟨rfl, rfl⟩)
  generalize hiW (a * b) = p, loW (a * b) = q
  exact bodyPost_ret (v := .agg #[.int .u64 p, .int .u64 q]) (by simp [results, Tryd.results65, go_sem]) rfl ⟨rfl, rfl⟩
end Go.Proofs.YtdipainocdgfgaaDoor
