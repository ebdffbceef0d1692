/- The contracts of Number and Text of cncstage: some number, some text of few bytes: which is not said. Conditions: the list that came in reads as integers. -/
import Derived.Test.YteljackkojcniaaDoorT
import Derived.Test.YteljackkojcniaaDoorC
namespace Go.Proofs.YteljackkojcniaaDoor
open Go.RowKit
set_option linter.unusedVariables false

def NumPost (B b : Nat) (A : Option Addr) (n c : Nat) (w : World) (e : Ending) (w' : World) : Prop :=
  ∃ r : Int, e = .returned (.int .i64 r) ∧ 0 ≤ r ∧ r ≤ 999999999999999 ∧ TapeOK w' B b A n c ∧ Below B w w'
theorem number_any (B b : Nat) (A : Option Addr) (n c : Nat) (w : World) (hl : LOK w B A n) (ht : TapeOK w B b A n c) :
    Calls Tryd.prog 53 #[.pointer (some ⟨b, 0, none⟩)] w (NumPost B b A n c w) := by
  have HL := Lib.hid hl; clear hl
  have HTP := Lib.hid ht; clear ht
  have HB : Hid (Below B w w) := Below.refl _ _
  go_enter Tryd.func53, Tryd.ntmps53
  go_wp2_with (go_at_call 34; refine (next_any B b A n c _ _ (HL.out.below HB.out) HTP.out (by omega) (by omega)).mono ?_; rintro e w1 ⟨r, rfl, hr0, hr1, htp, hb⟩; have HN := Lib.hid (HB.out.trans hb); have HT2 := Lib.hid htp; clear HB hb HTP htp; have HB := Lib.hid HN.out; have HTP := Lib.hid HT2.out; clear HN HT2)
  all_goals go_ret
  all_goals exact ⟨_, rfl, by omega, by omega, HTP.out, HB.out⟩

def TextPost (B b : Nat) (A : Option Addr) (n c : Nat) (w : World) (e : Ending) (w' : World) : Prop :=
  ∃ s : ByteArray, e = .returned (.string s) ∧ s.size ≤ 40 ∧ TapeOK w' B b A n c ∧ Below B w w'
theorem text_any (B b : Nat) (A : Option Addr) (n c : Nat) (w : World) (hl : LOK w B A n) (ht : TapeOK w B b A n c) :
    Calls Tryd.prog 19 #[.pointer (some ⟨b, 0, none⟩)] w (TextPost B b A n c w) := by
  have HL := Lib.hid hl; clear hl
  have HTP := Lib.hid ht; clear ht
  have HB : Hid (Below B w w) := Below.refl _ _
  have hz := fmtS_size
  go_enter Tryd.func19, Tryd.ntmps19
  go_wp2_with (first | (go_at_call 53; refine (number_any B b A n c _ (HL.out.below HB.out) HTP.out).mono ?_; rintro e w1 ⟨r, rfl, hr0, hr1, htp, hb⟩; have HN := Lib.hid (HB.out.trans hb); have HT2 := Lib.hid htp; clear HB hb HTP htp; have HB := Lib.hid HN.out; have HTP := Lib.hid HT2.out; clear HN HT2) | (go_at_call 27; refine (format_ref _ (by omega) (by omega) _).mono ?_; rintro e w' ⟨rfl, rfl⟩; have hz1 := hz r; clear hz) | (go_at_call 34; refine (next_any B b A n c _ _ (HL.out.below HB.out) HTP.out (by omega) (by omega)).mono ?_; rintro e w1 ⟨r, rfl, hr0, hr1, htp, hb⟩; have HN := Lib.hid (HB.out.trans hb); have HT2 := Lib.hid htp; clear HB hb HTP htp; have HB := Lib.hid HN.out; have HTP := Lib.hid HT2.out; clear HN HT2))
  all_goals go_ret
  all_goals exact ⟨_, rfl, by first | omega | (simp; have z1 : (⟨#[48]⟩ : ByteArray).size = 1 := rfl; have z2 : (⟨#[46]⟩ : ByteArray).size = 1 := rfl; omega), HTP.out, HB.out⟩
end Go.Proofs.YteljackkojcniaaDoor
