/- The walk of the law FixedIntegers: it returns true. Conditions: the integer is an int; the table of the powers of ten lies in memory. -/
import Derived.Test.YteljackkojcniaaDoorI
namespace Go.Proofs.YteljackkojcniaaDoor
open Go.RowKit
set_option linter.unusedVariables false

theorem whole_mk {k n : Int} (h : vld n = true) (e : n = k * 1000000) : wholeS n = (k, true) := by
  unfold wholeS; rw [if_pos ⟨h, by omega⟩]; congr 1; omega
theorem whole_no {n : Int} (e : n % 1000000 ≠ 0) : wholeS n = (0, false) := by
  unfold wholeS; rw [if_neg (fun h => e h.2)]
set_option maxRecDepth 100000 in
set_option maxHeartbeats 2000000 in
theorem integers_any (a : Int) (ha1 : -9223372036854775808 ≤ a) (ha2 : a ≤ 9223372036854775807) (w : World) (ht : Tab w) :
    Calls Tryd.prog 14 #[.int .i64 a] w fun e w' => e = .returned (.bool true) ∧ Below w.heap.size w w' := by
  have HB : Hid (Below w.heap.size w w) := Below.refl _ _
  have HT := Lib.hid ht; clear ht
  have na := num_bd a
  have va := vld_num a
  obtain ⟨A, hA⟩ : ∃ A, num a = A := ⟨_, rfl⟩
  rw [hA] at na va
  have f0 : fixS A = ((if A < 0 then rnd 1 A 1000000 else rnd 0 A 1000000) * 1000000, 0) := by unfold fixS; rw [va]; rfl
  have f1 : roundS A = (rnd 2 A 1000000 * 1000000, 0) := by unfold roundS; rw [va]; rfl
  have f2 : fupS A = ((if A < 0 then rnd 0 A 1000000 else rnd 1 A 1000000) * 1000000, 0) := by unfold fupS; rw [va]; rfl
  simp only [rnd, show ¬ ((1 : Int) = 0) by omega, show ¬ ((2 : Int) = 0) by omega, show ¬ ((2 : Int) = 1) by omega, if_true, if_false] at f0 f1 f2
  by_cases hz : A % 1000000 = 0
  · have e0 : fixS A = (A, 0) := by rw [f0]; congr 1; split <;> omega
    have e1 : roundS A = (A, 0) := by rw [f1]; congr 1; omega
    have e2 : fupS A = (A, 0) := by rw [f2]; congr 1; split <;> omega
    obtain ⟨k, hk⟩ : ∃ k, k * 1000000 = A := ⟨A / 1000000, by omega⟩
    have e3 : wholeS A = (k, true) := whole_mk va hk.symm
    clear f0 f1 f2 hz
    by_cases hn : A < 0
    · go_enter Tryd.func14, Tryd.ntmps14
      go_wp2_with (first | (go_at_call 23; refine (num_any _ (by omega) (by omega) _).mono ?_; rintro e w' ⟨rfl, rfl⟩) | (go_at_call 42; refine (fix_any _ _).mono ?_; rintro e w1 ⟨rfl, hb⟩; have HN := Lib.hid (below2 HB.out hb); clear HB hb; have HB := Lib.hid HN.out; clear HN) | (go_at_call 43; refine (round_any _ _).mono ?_; rintro e w1 ⟨rfl, hb⟩; have HN := Lib.hid (below2 HB.out hb); clear HB hb; have HB := Lib.hid HN.out; clear HN) | (go_at_call 44; refine (fup_any _ _).mono ?_; rintro e w1 ⟨rfl, hb⟩; have HN := Lib.hid (below2 HB.out hb); clear HB hb; have HB := Lib.hid HN.out; clear HN) | (go_at_call 45; refine (whole_any _ _).mono ?_; rintro e w' ⟨rfl, rfl⟩) | (go_at_call 18; refine (awake_any _ (HT.out.below HB.out)).mono ?_; rintro e w1 ⟨rfl, hb⟩; have HN := Lib.hid (below2 HB.out hb); clear HB hb; have HB := Lib.hid HN.out; clear HN))
      all_goals go_ret
      all_goals exact ⟨by first | rfl | exact congrArg (fun q => Ending.returned (.bool q)) (decide_eq_true (by omega)), HB.out⟩

    · go_enter Tryd.func14, Tryd.ntmps14
      go_wp2_with (first | (go_at_call 23; refine (num_any _ (by omega) (by omega) _).mono ?_; rintro e w' ⟨rfl, rfl⟩) | (go_at_call 42; refine (fix_any _ _).mono ?_; rintro e w1 ⟨rfl, hb⟩; have HN := Lib.hid (below2 HB.out hb); clear HB hb; have HB := Lib.hid HN.out; clear HN) | (go_at_call 43; refine (round_any _ _).mono ?_; rintro e w1 ⟨rfl, hb⟩; have HN := Lib.hid (below2 HB.out hb); clear HB hb; have HB := Lib.hid HN.out; clear HN) | (go_at_call 44; refine (fup_any _ _).mono ?_; rintro e w1 ⟨rfl, hb⟩; have HN := Lib.hid (below2 HB.out hb); clear HB hb; have HB := Lib.hid HN.out; clear HN) | (go_at_call 45; refine (whole_any _ _).mono ?_; rintro e w' ⟨rfl, rfl⟩) | (go_at_call 18; refine (awake_any _ (HT.out.below HB.out)).mono ?_; rintro e w1 ⟨rfl, hb⟩; have HN := Lib.hid (below2 HB.out hb); clear HB hb; have HB := Lib.hid HN.out; clear HN))
      all_goals go_ret
      all_goals exact ⟨by first | rfl | exact congrArg (fun q => Ending.returned (.bool q)) (decide_eq_true (by omega)), HB.out⟩

  · have e3 := whole_no hz
    by_cases hn : A < 0
    · obtain ⟨X, hX⟩ : ∃ X, X = -(-A / 1000000) * 1000000 := ⟨_, rfl⟩
      have e0 : fixS A = (X, 0) := by rw [f0, if_pos hn, hX]
      have e2 : fupS A = (X - 1000000, 0) := by rw [f2, if_pos hn, hX]; congr 1; omega
      have e1 : ((A ≤ X - 500000 ∧ ¬ X = X - 1000000) ∧ roundS A = (X - 1000000, 0)) ∨ (X - 500000 ≤ A ∧ roundS A = (X, 0)) := by
        rw [f1]
        by_cases hm : 2 * (X - A) ≤ 1000000
        · exact Or.inr ⟨by omega, by congr 1; omega⟩
        · exact Or.inl ⟨⟨by omega, by omega⟩, by congr 1; omega⟩
      have e4 : wholeS X = (-(-A / 1000000), true) := whole_mk (vld_mk (by omega) (by omega)) hX
      have e5 : wholeS (X - 1000000) = (-(-A / 1000000) - 1, true) := whole_mk (vld_mk (by omega) (by omega)) (by omega)
      have b1 : A < X ∧ X - 1000000 < A ∧ X ≤ 0 := by omega
      have b2 : (X == A) = false := by simp; omega
      clear f0 f1 f2 hX hz
      generalize -(-A / 1000000) = k at *
      rcases e1 with ⟨⟨m1, m2⟩, e1⟩ | ⟨m1, e1⟩
      · clear m2
        go_enter Tryd.func14, Tryd.ntmps14
        go_wp2_with (first | (go_at_call 23; refine (num_any _ (by omega) (by omega) _).mono ?_; rintro e w' ⟨rfl, rfl⟩) | (go_at_call 42; refine (fix_any _ _).mono ?_; rintro e w1 ⟨rfl, hb⟩; have HN := Lib.hid (below2 HB.out hb); clear HB hb; have HB := Lib.hid HN.out; clear HN) | (go_at_call 43; refine (round_any _ _).mono ?_; rintro e w1 ⟨rfl, hb⟩; have HN := Lib.hid (below2 HB.out hb); clear HB hb; have HB := Lib.hid HN.out; clear HN) | (go_at_call 44; refine (fup_any _ _).mono ?_; rintro e w1 ⟨rfl, hb⟩; have HN := Lib.hid (below2 HB.out hb); clear HB hb; have HB := Lib.hid HN.out; clear HN) | (go_at_call 45; refine (whole_any _ _).mono ?_; rintro e w' ⟨rfl, rfl⟩) | (go_at_call 18; refine (awake_any _ (HT.out.below HB.out)).mono ?_; rintro e w1 ⟨rfl, hb⟩; have HN := Lib.hid (below2 HB.out hb); clear HB hb; have HB := Lib.hid HN.out; clear HN))
        all_goals go_ret
        all_goals exact ⟨by first | rfl | exact congrArg (fun q => Ending.returned (.bool q)) (decide_eq_true (by omega)), HB.out⟩

      · go_enter Tryd.func14, Tryd.ntmps14
        go_wp2_with (first | (go_at_call 23; refine (num_any _ (by omega) (by omega) _).mono ?_; rintro e w' ⟨rfl, rfl⟩) | (go_at_call 42; refine (fix_any _ _).mono ?_; rintro e w1 ⟨rfl, hb⟩; have HN := Lib.hid (below2 HB.out hb); clear HB hb; have HB := Lib.hid HN.out; clear HN) | (go_at_call 43; refine (round_any _ _).mono ?_; rintro e w1 ⟨rfl, hb⟩; have HN := Lib.hid (below2 HB.out hb); clear HB hb; have HB := Lib.hid HN.out; clear HN) | (go_at_call 44; refine (fup_any _ _).mono ?_; rintro e w1 ⟨rfl, hb⟩; have HN := Lib.hid (below2 HB.out hb); clear HB hb; have HB := Lib.hid HN.out; clear HN) | (go_at_call 45; refine (whole_any _ _).mono ?_; rintro e w' ⟨rfl, rfl⟩) | (go_at_call 18; refine (awake_any _ (HT.out.below HB.out)).mono ?_; rintro e w1 ⟨rfl, hb⟩; have HN := Lib.hid (below2 HB.out hb); clear HB hb; have HB := Lib.hid HN.out; clear HN))
        all_goals go_ret
        all_goals exact ⟨by first | rfl | exact congrArg (fun q => Ending.returned (.bool q)) (decide_eq_true (by omega)), HB.out⟩

    · obtain ⟨X, hX⟩ : ∃ X, X = A / 1000000 * 1000000 := ⟨_, rfl⟩
      have e0 : fixS A = (X, 0) := by rw [f0, if_neg hn, hX]
      have e2 : fupS A = (X + 1000000, 0) := by rw [f2, if_neg hn, hX]; congr 1; omega
      have e1 : (X + 500000 ≤ A ∧ roundS A = (X + 1000000, 0)) ∨ (A ≤ X + 500000 ∧ roundS A = (X, 0)) := by
        rw [f1]
        by_cases hm : 2 * (A - X) < 1000000
        · exact Or.inr ⟨by omega, by congr 1; omega⟩
        · exact Or.inl ⟨by omega, by congr 1; omega⟩
      have e4 : wholeS X = (A / 1000000, true) := whole_mk (vld_mk (by omega) (by omega)) hX
      have e5 : wholeS (X + 1000000) = (A / 1000000 + 1, true) := whole_mk (vld_mk (by omega) (by omega)) (by omega)
      have b1 : X < A ∧ A < X + 1000000 ∧ 0 ≤ X := by omega
      have b2 : (X == A) = false := by simp; omega
      clear f0 f1 f2 hX hz
      generalize A / 1000000 = k at *
      rcases e1 with ⟨m1, e1⟩ | ⟨m1, e1⟩
      all_goals
        go_enter Tryd.func14, Tryd.ntmps14
        go_wp2_with (first | (go_at_call 23; refine (num_any _ (by omega) (by omega) _).mono ?_; rintro e w' ⟨rfl, rfl⟩) | (go_at_call 42; refine (fix_any _ _).mono ?_; rintro e w1 ⟨rfl, hb⟩; have HN := Lib.hid (below2 HB.out hb); clear HB hb; have HB := Lib.hid HN.out; clear HN) | (go_at_call 43; refine (round_any _ _).mono ?_; rintro e w1 ⟨rfl, hb⟩; have HN := Lib.hid (below2 HB.out hb); clear HB hb; have HB := Lib.hid HN.out; clear HN) | (go_at_call 44; refine (fup_any _ _).mono ?_; rintro e w1 ⟨rfl, hb⟩; have HN := Lib.hid (below2 HB.out hb); clear HB hb; have HB := Lib.hid HN.out; clear HN) | (go_at_call 45; refine (whole_any _ _).mono ?_; rintro e w' ⟨rfl, rfl⟩) | (go_at_call 18; refine (awake_any _ (HT.out.below HB.out)).mono ?_; rintro e w1 ⟨rfl, hb⟩; have HN := Lib.hid (below2 HB.out hb); clear HB hb; have HB := Lib.hid HN.out; clear HN))
        all_goals go_ret
        all_goals exact ⟨by first | rfl | exact congrArg (fun q => Ending.returned (.bool q)) (decide_eq_true (by omega)), HB.out⟩

end Go.Proofs.YteljackkojcniaaDoor
