/- The walk of the law FixedParse: it returns true. Conditions: the list reads as integers; the table of the powers of ten lies in memory. -/
import Derived.Test.YteljackkojcniaaDoorI
import Derived.Test.YteljackkojcniaaDoorU
namespace Go.Proofs.YteljackkojcniaaDoor
open Go.RowKit
set_option linter.unusedVariables false

theorem parseLaw_any (s : ByteArray) (A : Option Addr) (n c : Nat) (w : World) (hl : LOK w w.heap.size A n) (ht : Tab w) :
    Calls Tryd.prog 3 #[.string s, .slice A n c] w fun e w' => e = .returned (.bool true) ∧ Below w.heap.size w w' := by
  have HB : Hid (Below w.heap.size w w) := Below.refl _ _
  have HB0 : Hid (Below w.heap.size w (w.alloc (.cells #[.slice A n c, .int .i64 0] 48))) := (Below.refl _ _).alloc (Nat.le_refl _) _
  have HT := Lib.hid ht; clear ht
  have HL := Lib.hid hl; clear hl
  by_cases h1 : 100 < s.size
  · go_enter Tryd.func3, Tryd.ntmps3
    go_wp2_with (first | (go_at_call 18; refine (awake_any _ (HT.out.below HB.out)).mono ?_; rintro e w1 ⟨rfl, hb⟩; have HN := Lib.hid (below2 HB.out hb); clear HB hb; have HB := Lib.hid HN.out; clear HN))
    go_ret
    exact ⟨rfl, HB.out⟩
  · by_cases h2 : n ≤ 120
    · go_enter Tryd.func3, Tryd.ntmps3
      go_wp2_with (first | (go_at_call 17; refine (light_yes _ _ _ h2 _).mono ?_; rintro e w' ⟨rfl, rfl⟩) | (go_at_call 20; refine (new_any _ w.heap.size (Nat.le_refl _) A n c).mono ?_; rintro e w' ⟨rfl, rfl⟩) | (go_at_call 19; refine (text_any w.heap.size w.heap.size A n c _ (HL.out.below HB0.out) (TapeOK.new w _ (Nat.le_refl _) A n c)).mono ?_; rintro e w1 ⟨t, rfl, hts, htp, hb⟩; have HN := Lib.hid (HB0.out.trans hb); clear HB hb htp; have HB := Lib.hid HN.out; clear HN) | (go_at_call 21; refine (parse_any _ (by unfold maxLen; omega) _).mono ?_; rintro e w' ⟨rfl, rfl⟩) | (go_at_call 22; refine (parse_ref _ (by unfold maxLen; omega) _).mono ?_; rintro e w' ⟨rfl, rfl⟩) | (go_at_call 18; refine (awake_any _ (HT.out.below HB.out)).mono ?_; rintro e w1 ⟨rfl, hb⟩; have HN := Lib.hid (below2 HB.out hb); clear HB hb; have HB := Lib.hid HN.out; clear HN))
      go_ret
      exact ⟨rfl, HB.out⟩
    · go_enter Tryd.func3, Tryd.ntmps3
      go_wp2_with (first | (go_at_call 17; refine (light_no _ _ _ h2 _).mono ?_; rintro e w' ⟨rfl, rfl⟩) | (go_at_call 18; refine (awake_any _ (HT.out.below HB.out)).mono ?_; rintro e w1 ⟨rfl, hb⟩; have HN := Lib.hid (below2 HB.out hb); clear HB hb; have HB := Lib.hid HN.out; clear HN))
      go_ret
      exact ⟨rfl, HB.out⟩
end Go.Proofs.YteljackkojcniaaDoor
