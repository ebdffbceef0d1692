/- The walk of the law FixedUnits: it returns true. Conditions: the integers are ints; the table of the powers of ten lies in memory. -/
import Derived.Test.YteljackkojcniaaDoorI
namespace Go.Proofs.YteljackkojcniaaDoor
open Go.RowKit
set_option linter.unusedVariables false

theorem lenS_mm {A : Int} (h1 : -900000000 ≤ A) (h2 : A ≤ 900000000) : lenS A 21 = ((2 * A + 1000) / 2000, 0) := by
  have v : vld A = true := vld_mk (by omega) (by omega)
  rw [lenS_21 v, mdS_mm v, lenR_yes (by omega) (by omega)]
theorem lenS_in {n : Int} (h1 : -40 ≤ n) (h2 : n ≤ 40) : lenS (n * 1000000) 20 = (n * 25400, 0) := by
  have v : vld (n * 1000000) = true := vld_mk (by omega) (by omega)
  rw [lenS_20 v, mdS_inch v, show (2 * (n * 1000000 * 254) + 10000) / 20000 = n * 25400 by omega, lenR_yes (by omega) (by omega)]
theorem units_any (a b : Int) (ha1 : -9223372036854775808 ≤ a) (ha2 : a ≤ 9223372036854775807) (hb1 : -9223372036854775808 ≤ b) (hb2 : b ≤ 9223372036854775807) (w : World) (ht : Tab w) :
    Calls Tryd.prog 9 #[.int .i64 a, .int .i64 b] w fun e w' => e = .returned (.bool true) ∧ Below w.heap.size w w' := by
  have HB : Hid (Below w.heap.size w w) := Below.refl _ _
  have HT := Lib.hid ht; clear ht
  have na := btw_bd a (-900000000) 900000000 (by omega)
  have nb := btw_bd b (-900000000) 900000000 (by omega)
  obtain ⟨A, hA⟩ : ∃ A, btw a (-900000000) 900000000 = A := ⟨_, rfl⟩
  obtain ⟨B, hB⟩ : ∃ B, btw b (-900000000) 900000000 = B := ⟨_, rfl⟩
  rw [hA] at na
  rw [hB] at nb
  have nn := btw_bd A (-40) 40 (by omega)
  obtain ⟨N, hN⟩ : ∃ N, btw A (-40) 40 = N := ⟨_, rfl⟩
  rw [hN] at nn
  have e1 := lenS_mm na.1 na.2
  have e2 := lenS_mm nb.1 nb.2
  have e3 := lenS_in nn.1 nn.2
  obtain ⟨X, hX⟩ : ∃ X, (2 * A + 1000) / 2000 = X := ⟨_, rfl⟩
  obtain ⟨Y, hY⟩ : ∃ Y, (2 * B + 1000) / 2000 = Y := ⟨_, rfl⟩
  have k1 : A ≤ B → X ≤ Y := by omega
  have k2 : B ≤ A → Y ≤ X := by omega
  have k3 : X * 1000 - A ≤ 500 := by omega
  have k4 : A - X * 1000 ≤ 500 := by omega
  rw [hX] at e1
  rw [hY] at e2
  clear hX hY
  have ho : (A < B ∧ X ≤ Y) ∨ (B < A ∧ Y ≤ X) ∨ ((A ≤ B ∧ B ≤ A) ∧ X ≤ Y ∧ Y ≤ X) := by omega
  clear k1 k2
  rcases ho with ⟨o1, o2⟩ | ⟨o1, o2⟩ | ⟨⟨o1, o3⟩, o2, o4⟩
  all_goals
    go_enter Tryd.func9, Tryd.ntmps9
    go_wp2_with (first | (go_at_call 30; refine (btw_any _ _ _ (by omega) (by omega) (by omega) (by omega) (by omega) _).mono ?_; rintro e w' ⟨rfl, rfl⟩) | (go_at_call 28; refine (length_any _ _ (by omega) (by omega) _).mono ?_; rintro e w1 ⟨rfl, hb⟩; have HN := Lib.hid (below2 HB.out hb); clear HB hb; have HB := Lib.hid HN.out; clear HN) | (go_at_call 18; refine (awake_any _ (HT.out.below HB.out)).mono ?_; rintro e w1 ⟨rfl, hb⟩; have HN := Lib.hid (below2 HB.out hb); clear HB hb; have HB := Lib.hid HN.out; clear HN))
    all_goals go_ret
    all_goals exact ⟨congrArg (fun q => Ending.returned (.bool q)) (decide_eq_true (by omega)), HB.out⟩
end Go.Proofs.YteljackkojcniaaDoor
