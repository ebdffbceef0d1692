/- The walk of the law FixedRoundTrip: it returns true. Conditions: the integer is an int; the table of the powers of ten lies in memory. -/
import Derived.Test.YteljackkojcniaaDoorI
import Derived.Test.YteljackkojcniaaDoorPlr
namespace Go.Proofs.YteljackkojcniaaDoor
open Go.RowKit
set_option linter.unusedVariables false

def minusS (m : Int) : ByteArray := if 0 < m then ⟨#[45]⟩ else ⟨#[]⟩
theorem minus_any (m : Int) (w : World) :
    Calls Tryd.prog 33 #[.int .i64 m] w fun e w' => e = .returned (.string (minusS m)) ∧ w = w' := by
  by_cases h : 0 < m
  · have e0 : minusS m = ⟨#[45]⟩ := by unfold minusS; rw [if_pos h]
    rw [e0]
    go_enter Tryd.func33, Tryd.ntmps33
    go_wp2
    go_ret
    exact ⟨rfl, rfl⟩
  · have e0 : minusS m = ⟨#[]⟩ := by unfold minusS; rw [if_neg h]
    rw [e0]
    go_enter Tryd.func33, Tryd.ntmps33
    go_wp2
    go_ret
    exact ⟨rfl, rfl⟩
theorem roundTrip_any (a : Int) (ha1 : -9223372036854775808 ≤ a) (ha2 : a ≤ 9223372036854775807) (w : World) (ht : Tab w) :
    Calls Tryd.prog 6 #[.int .i64 a] w fun e w' => e = .returned (.bool true) ∧ Below w.heap.size w w' := by
  have HB : Hid (Below w.heap.size w w) := Below.refl _ _
  have HT := Lib.hid ht; clear ht
  have nm := btw_bd a 0 999999999999999 (by omega)
  obtain ⟨M, hM⟩ : ∃ M, btw a 0 999999999999999 = M := ⟨_, rfl⟩
  rw [hM] at nm
  have v1 : vld M = true := vld_mk (by omega) (by omega)
  have v2 : vld (-M) = true := vld_mk (by omega) (by omega)
  have e1 : parseS (strI (fmtS M)) = (M, 0) := by
    rw [fmtS_pos v1 nm.1, round_trip M.toNat (by omega)]; congr 1; omega
  have e2 : fmtS (-M) = minusS M ++ fmtS M := by
    by_cases h : 0 < M
    · have := fmtS_neg v2 (by omega)
      rw [Int.neg_neg] at this
      rw [← this]; unfold minusS; rw [if_pos h]
    · have h0 : M = 0 := by omega
      subst h0
      unfold minusS; rw [if_neg (by omega)]
      apply ByteArray.ext
      simp
  have z1 := fmtS_size M
  have z2 : (minusS M).size ≤ 1 := by unfold minusS; split <;> decide
  go_enter Tryd.func6, Tryd.ntmps6
  go_wp2_with (first | (go_at_call 30; refine (btw_any _ _ _ (by omega) (by omega) (by omega) (by omega) (by omega) _).mono ?_; rintro e w' ⟨rfl, rfl⟩) | (go_at_call 26; refine (format_any _ (by omega) (by omega) _ (HT.out.below HB.out)).mono ?_; rintro e w1 ⟨rfl, hb⟩; have HN := Lib.hid (below2 HB.out hb); clear HB hb; have HB := Lib.hid HN.out; clear HN) | (go_at_call 21; refine (parse_any _ (by unfold maxLen; omega) _).mono ?_; rintro e w' ⟨rfl, rfl⟩) | (go_at_call 33; refine (minus_any _ _).mono ?_; rintro e w' ⟨rfl, rfl⟩) | (go_at_call 18; refine (awake_any _ (HT.out.below HB.out)).mono ?_; rintro e w1 ⟨rfl, hb⟩; have HN := Lib.hid (below2 HB.out hb); clear HB hb; have HB := Lib.hid HN.out; clear HN))
  go_ret
  exact ⟨rfl, HB.out⟩
end Go.Proofs.YteljackkojcniaaDoor
