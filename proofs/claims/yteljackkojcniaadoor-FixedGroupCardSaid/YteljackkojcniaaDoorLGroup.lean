/- The walk of the law FixedGroup: it returns true. Conditions: the integers are ints; the table of the powers of ten lies in memory. -/
import Derived.Test.YteljackkojcniaaDoorI
namespace Go.Proofs.YteljackkojcniaaDoor
open Go.RowKit
set_option linter.unusedVariables false

theorem group_any (a b : Int) (ha1 : -9223372036854775808 ≤ a) (ha2 : a ≤ 9223372036854775807) (hb1 : -9223372036854775808 ≤ b) (hb2 : b ≤ 9223372036854775807) (w : World) (ht : Tab w) :
    Calls Tryd.prog 11 #[.int .i64 a, .int .i64 b] w fun e w' => e = .returned (.bool true) ∧ Below w.heap.size w w' := by
  have HB : Hid (Below w.heap.size w w) := Below.refl _ _
  have HT := Lib.hid ht; clear ht
  have na := num_bd a
  have nb := num_bd b
  have va := vld_num a
  have vb := vld_num b
  obtain ⟨A, hA⟩ : ∃ A, num a = A := ⟨_, rfl⟩
  obtain ⟨B, hB⟩ : ∃ B, num b = B := ⟨_, rfl⟩
  rw [hA] at na va
  rw [hB] at nb vb
  have hs : ((1000000000000000 < A + B) ∧ addS A B = (0, 3) ∧ addS B A = (0, 3)) ∨ ((¬ 1000000000000000 < A + B ∧ A + B < -1000000000000000) ∧ addS A B = (0, 3) ∧ addS B A = (0, 3)) ∨ ((¬ 1000000000000000 < A + B ∧ ¬ A + B < -1000000000000000) ∧ addS A B = (A + B, 0) ∧ addS B A = (A + B, 0)) := by
    rw [addS_yes va vb, addS_yes vb va, Int.add_comm B A]
    by_cases h1 : 1000000000000000 < A + B
    · rw [chk_no (vld_out (by omega))]; exact Or.inl ⟨h1, rfl, rfl⟩
    · by_cases h2 : A + B < -1000000000000000
      · rw [chk_no (vld_out (by omega))]; exact Or.inr (Or.inl ⟨⟨h1, h2⟩, rfl, rfl⟩)
      · rw [chk_yes (vld_mk (by omega) (by omega))]; exact Or.inr (Or.inr ⟨⟨h1, h2⟩, rfl, rfl⟩)
  have hd : subS A B = (0, 3) ∨ subS A B = (A - B, 0) := by
    rw [subS_yes va vb]; unfold chk; split <;> simp
  have hk : ¬ 1000000000000000 < A + B → ¬ A + B < -1000000000000000 → subS (A + B) B = (A, 0) := fun h1 h2 => by
    rw [subS_yes (vld_mk (by omega) (by omega)) vb, show A + B - B = A by omega, chk_yes va]
  rcases hs with ⟨h1, s1, s2⟩ | ⟨⟨h1, h2⟩, s1, s2⟩ | ⟨⟨h1, h2⟩, s1, s2⟩
  · clear hk
    rcases hd with hd | hd
    all_goals
      go_enter Tryd.func11, Tryd.ntmps11
      go_wp2_with (first | (go_at_call 23; refine (num_any _ (by omega) (by omega) _).mono ?_; rintro e w' ⟨rfl, rfl⟩) | (go_at_call 37; refine (add_any _ _ (by omega) (by omega) (by omega) (by omega) _).mono ?_; rintro e w' ⟨rfl, rfl⟩) | (go_at_call 38; refine (sub_any _ _ (by omega) (by omega) (by omega) (by omega) _).mono ?_; rintro e w' ⟨rfl, rfl⟩) | (go_at_call 18; refine (awake_any _ (HT.out.below HB.out)).mono ?_; rintro e w1 ⟨rfl, hb⟩; have HN := Lib.hid (below2 HB.out hb); clear HB hb; have HB := Lib.hid HN.out; clear HN))
      go_ret
      exact ⟨rfl, HB.out⟩
  · clear hk
    rcases hd with hd | hd
    all_goals
      go_enter Tryd.func11, Tryd.ntmps11
      go_wp2_with (first | (go_at_call 23; refine (num_any _ (by omega) (by omega) _).mono ?_; rintro e w' ⟨rfl, rfl⟩) | (go_at_call 37; refine (add_any _ _ (by omega) (by omega) (by omega) (by omega) _).mono ?_; rintro e w' ⟨rfl, rfl⟩) | (go_at_call 38; refine (sub_any _ _ (by omega) (by omega) (by omega) (by omega) _).mono ?_; rintro e w' ⟨rfl, rfl⟩) | (go_at_call 18; refine (awake_any _ (HT.out.below HB.out)).mono ?_; rintro e w1 ⟨rfl, hb⟩; have HN := Lib.hid (below2 HB.out hb); clear HB hb; have HB := Lib.hid HN.out; clear HN))
      go_ret
      exact ⟨rfl, HB.out⟩
  · have hk2 := hk h1 h2
    clear hk
    rcases hd with hd | hd
    all_goals
      go_enter Tryd.func11, Tryd.ntmps11
      go_wp2_with (first | (go_at_call 23; refine (num_any _ (by omega) (by omega) _).mono ?_; rintro e w' ⟨rfl, rfl⟩) | (go_at_call 37; refine (add_any _ _ (by omega) (by omega) (by omega) (by omega) _).mono ?_; rintro e w' ⟨rfl, rfl⟩) | (go_at_call 38; refine (sub_any _ _ (by omega) (by omega) (by omega) (by omega) _).mono ?_; rintro e w' ⟨rfl, rfl⟩) | (go_at_call 18; refine (awake_any _ (HT.out.below HB.out)).mono ?_; rintro e w1 ⟨rfl, hb⟩; have HN := Lib.hid (below2 HB.out hb); clear HB hb; have HB := Lib.hid HN.out; clear HN))
      go_ret
      exact ⟨rfl, HB.out⟩
end Go.Proofs.YteljackkojcniaaDoor
