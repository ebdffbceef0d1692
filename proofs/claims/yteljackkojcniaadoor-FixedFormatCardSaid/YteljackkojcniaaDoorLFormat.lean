/- The walk of the law FixedFormat: it returns true. Conditions: the integer is an int; the table of the powers of ten lies in memory. -/
import Derived.Test.YteljackkojcniaaDoorI
import Derived.Test.YteljackkojcniaaDoorPlr
namespace Go.Proofs.YteljackkojcniaaDoor
open Go.RowKit
set_option linter.unusedVariables false

theorem fmtS_ne {n : Int} (h : vld n = true) : (fmtS n).toList.isEmpty = false := by
  have hl : (fmtL n).isEmpty = false := by
    have hp : ∀ u, (fmtP u).isEmpty = false := fun u => by
      unfold fmtP
      have := dec_nonempty (u / 1000000)
      rw [List.isEmpty_eq_false_iff]
      intro e
      rw [List.append_eq_nil_iff] at e
      rw [e.1] at this
      exact absurd this (by decide)
    unfold fmtL; rw [h]
    by_cases h0 : n < 0
    · simp [h0]
    · simp only [h0, if_true, if_false]; exact hp _
  rw [Lib.toList_data]
  unfold fmtS
  simpa using hl
theorem formatLaw_any (a : Int) (ha1 : -9223372036854775808 ≤ a) (ha2 : a ≤ 9223372036854775807) (w : World) (ht : Tab w) :
    Calls Tryd.prog 4 #[.int .i64 a] w fun e w' => e = .returned (.bool true) ∧ Below w.heap.size w w' := by
  have HB : Hid (Below w.heap.size w w) := Below.refl _ _
  have HT := Lib.hid ht; clear ht
  have na := num_bd a
  have va := vld_num a
  have ve := fmtS_ne va
  go_enter Tryd.func4, Tryd.ntmps4
  go_wp2_with (first | (go_at_call 23; refine (num_any _ (by omega) (by omega) _).mono ?_; rintro e w' ⟨rfl, rfl⟩) | (go_at_call 24; refine (valid_any _ _).mono ?_; rintro e w' ⟨rfl, rfl⟩) | (go_at_call 25; refine (valid_ref _ _).mono ?_; rintro e w' ⟨rfl, rfl⟩) | (go_at_call 26; refine (format_any _ (by omega) (by omega) _ (HT.out.below HB.out)).mono ?_; rintro e w1 ⟨rfl, hb⟩; have HN := Lib.hid (below2 HB.out hb); clear HB hb; have HB := Lib.hid HN.out; clear HN) | (go_at_call 27; refine (format_ref _ (by omega) (by omega) _).mono ?_; rintro e w' ⟨rfl, rfl⟩) | (go_at_call 18; refine (awake_any _ (HT.out.below HB.out)).mono ?_; rintro e w1 ⟨rfl, hb⟩; have HN := Lib.hid (below2 HB.out hb); clear HB hb; have HB := Lib.hid HN.out; clear HN))
  go_ret
  exact ⟨rfl, HB.out⟩
end Go.Proofs.YteljackkojcniaaDoor
