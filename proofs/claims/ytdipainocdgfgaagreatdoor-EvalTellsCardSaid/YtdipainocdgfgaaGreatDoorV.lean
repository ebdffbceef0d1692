/- The contract of rounded of cncref01: it returns what the plain function sgnd gives. Conditions: the integers are those of their kind, the mode is one of the three. -/
import Derived.Test.YtdipainocdgfgaaGreatDoorS
namespace Go.Proofs.YtdipainocdgfgaaGreatDoor
set_option linter.unusedVariables false
set_option linter.unusedSimpArgs false
open Go.RowKit

theorem sgnd_yes {n : Int} (h : n ≤ 9223372036854775808) : sgnd n true = (-n, true) := by unfold sgnd; simp [h]
theorem sgnd_up {n : Int} (h : n < 9223372036854775808) : sgnd n false = (n, true) := by unfold sgnd; simp [h]
theorem sgnd_out {n : Int} {b : Bool} (h : 9223372036854775808 < n) : sgnd n b = (0, false) := by unfold sgnd; cases b <;> simp <;> omega
theorem sgnd_top {n : Int} (h : 9223372036854775808 ≤ n) : sgnd n false = (0, false) := by unfold sgnd; simp; omega
theorem retV {a b : Int} {c : Bool} (h : a = b) : Ending.returned (.tuple #[.int .i64 a, .bool c]) = .returned (.tuple #[.int .i64 b, .bool c]) := by rw [h]
def rndd (q : Int) (g neg : Bool) : Int × Bool := sgnd (q + (if g then 1 else 0)) neg
theorem rndd_big {q : Int} {g neg : Bool} (h : 9223372036854775808 < q) : rndd q g neg = (0, false) := by unfold rndd; cases g <;> exact sgnd_out (by simp; omega)
theorem rndd_0 (q : Int) (neg : Bool) : rndd q false neg = sgnd q neg := by unfold rndd; simp
theorem rndd_1 (q : Int) (neg : Bool) : rndd q true neg = sgnd (q + 1) neg := by unfold rndd; simp

set_option maxHeartbeats 4000000 in
theorem rounded_ref (neg exact' : Bool) (q hf mode : Int) (h0 : 0 ≤ q) (h1 : q ≤ 18446744073709551615) (hm0 : 0 ≤ mode) (hm1 : mode ≤ 2) (w : World) :
    Calls Tryz.prog 87 #[.bool neg, .int .u64 q, .bool exact', .int .i64 hf, .int .i64 mode] w fun e w' =>
      e = .returned (.tuple #[.int .i64 (rndd q (grw mode hf (!exact') neg) neg).1, .bool (rndd q (grw mode hf (!exact') neg) neg).2]) ∧ w = w' := by
  have hm : mode = 0 ∨ mode = 1 ∨ mode = 2 := by omega
  have hc : hf = 0 ∨ 0 < hf ∨ hf < 0 := by omega
  rcases hm with rfl | rfl | rfl
  · cases neg
    · cases exact'
      · skip
        have hR : Hid (rndd q (grw 0 hf (!false) false) false = sgnd (q) false) := by unfold Hid; rw [show grw 0 hf (!false) false = false from by unfold grw; simp <;> omega, rndd_0]
        by_cases k1 : 9223372036854775808 < q
        · have hS : Hid (sgnd (q) false = (0, false)) := sgnd_out (by omega)
          rw [hR.out, hS.out]
          go_enter Tryz.func87, Tryz.ntmps87
          go_wp2
          go_ret2
          exact ⟨rfl, rfl⟩
        · by_cases k2 : 9223372036854775807 < q
          · have hS : Hid (sgnd (q) false = (0, false)) := sgnd_top (by omega)
            rw [hR.out, hS.out]
            go_enter Tryz.func87, Tryz.ntmps87
            go_wp2
            go_ret2
            exact ⟨rfl, rfl⟩
          · have hS : Hid (sgnd (q) false = (q, true)) := sgnd_up (by omega)
            rw [hR.out, hS.out]
            go_enter Tryz.func87, Tryz.ntmps87
            go_wp2
            go_ret2
            exact ⟨retV (by omega), rfl⟩
      · skip
        have hR : Hid (rndd q (grw 0 hf (!true) false) false = sgnd (q) false) := by unfold Hid; rw [show grw 0 hf (!true) false = false from by unfold grw; simp <;> omega, rndd_0]
        by_cases k1 : 9223372036854775808 < q
        · have hS : Hid (sgnd (q) false = (0, false)) := sgnd_out (by omega)
          rw [hR.out, hS.out]
          go_enter Tryz.func87, Tryz.ntmps87
          go_wp2
          go_ret2
          exact ⟨rfl, rfl⟩
        · by_cases k2 : 9223372036854775807 < q
          · have hS : Hid (sgnd (q) false = (0, false)) := sgnd_top (by omega)
            rw [hR.out, hS.out]
            go_enter Tryz.func87, Tryz.ntmps87
            go_wp2
            go_ret2
            exact ⟨rfl, rfl⟩
          · have hS : Hid (sgnd (q) false = (q, true)) := sgnd_up (by omega)
            rw [hR.out, hS.out]
            go_enter Tryz.func87, Tryz.ntmps87
            go_wp2
            go_ret2
            exact ⟨retV (by omega), rfl⟩
    · cases exact'
      · skip
        have hR : Hid (rndd q (grw 0 hf (!false) true) true = sgnd (q + 1) true) := by unfold Hid; rw [show grw 0 hf (!false) true = true from by unfold grw; simp <;> omega, rndd_1]
        by_cases k1 : 9223372036854775808 < q
        · have hS : Hid (sgnd (q + 1) true = (0, false)) := sgnd_out (by omega)
          rw [hR.out, hS.out]
          go_enter Tryz.func87, Tryz.ntmps87
          go_wp2
          go_ret2
          exact ⟨rfl, rfl⟩
        · by_cases k2 : 9223372036854775808 < q + 1
          · have hS : Hid (sgnd (q + 1) true = (0, false)) := sgnd_out (by omega)
            rw [hR.out, hS.out]
            go_enter Tryz.func87, Tryz.ntmps87
            go_wp2
            go_ret2
            exact ⟨rfl, rfl⟩
          · have hS : Hid (sgnd (q + 1) true = (-(q + 1), true)) := sgnd_yes (by omega)
            have hz : ((q + 1 : Int) == 0) = false := by simp; omega
            rw [hR.out, hS.out]
            go_enter Tryz.func87, Tryz.ntmps87
            go_wp2
            go_ret2
            exact ⟨retV (by omega), rfl⟩
      · skip
        have hR : Hid (rndd q (grw 0 hf (!true) true) true = sgnd (q) true) := by unfold Hid; rw [show grw 0 hf (!true) true = false from by unfold grw; simp <;> omega, rndd_0]
        by_cases k1 : 9223372036854775808 < q
        · have hS : Hid (sgnd (q) true = (0, false)) := sgnd_out (by omega)
          rw [hR.out, hS.out]
          go_enter Tryz.func87, Tryz.ntmps87
          go_wp2
          go_ret2
          exact ⟨rfl, rfl⟩
        · by_cases k2 : q = 0
          · subst k2
            have hS : Hid (sgnd 0 true = (-0, true)) := sgnd_yes (by omega)
            rw [hR.out, hS.out]
            go_enter Tryz.func87, Tryz.ntmps87
            go_wp2
            go_ret2
            exact ⟨rfl, rfl⟩
          · have hS : Hid (sgnd q true = (-q, true)) := sgnd_yes (by omega)
            have hz : (q == 0) = false := by simpa using k2
            rw [hR.out, hS.out]
            go_enter Tryz.func87, Tryz.ntmps87
            go_wp2
            go_ret2
            exact ⟨retV (by omega), rfl⟩
  · cases neg
    · cases exact'
      · skip
        have hR : Hid (rndd q (grw 1 hf (!false) false) false = sgnd (q + 1) false) := by unfold Hid; rw [show grw 1 hf (!false) false = true from by unfold grw; simp <;> omega, rndd_1]
        by_cases k1 : 9223372036854775808 < q
        · have hS : Hid (sgnd (q + 1) false = (0, false)) := sgnd_out (by omega)
          rw [hR.out, hS.out]
          go_enter Tryz.func87, Tryz.ntmps87
          go_wp2
          go_ret2
          exact ⟨rfl, rfl⟩
        · by_cases k2 : 9223372036854775807 < q + 1
          · have hS : Hid (sgnd (q + 1) false = (0, false)) := sgnd_top (by omega)
            rw [hR.out, hS.out]
            go_enter Tryz.func87, Tryz.ntmps87
            go_wp2
            go_ret2
            exact ⟨rfl, rfl⟩
          · have hS : Hid (sgnd (q + 1) false = (q + 1, true)) := sgnd_up (by omega)
            rw [hR.out, hS.out]
            go_enter Tryz.func87, Tryz.ntmps87
            go_wp2
            go_ret2
            exact ⟨retV (by omega), rfl⟩
      · skip
        have hR : Hid (rndd q (grw 1 hf (!true) false) false = sgnd (q) false) := by unfold Hid; rw [show grw 1 hf (!true) false = false from by unfold grw; simp <;> omega, rndd_0]
        by_cases k1 : 9223372036854775808 < q
        · have hS : Hid (sgnd (q) false = (0, false)) := sgnd_out (by omega)
          rw [hR.out, hS.out]
          go_enter Tryz.func87, Tryz.ntmps87
          go_wp2
          go_ret2
          exact ⟨rfl, rfl⟩
        · by_cases k2 : 9223372036854775807 < q
          · have hS : Hid (sgnd (q) false = (0, false)) := sgnd_top (by omega)
            rw [hR.out, hS.out]
            go_enter Tryz.func87, Tryz.ntmps87
            go_wp2
            go_ret2
            exact ⟨rfl, rfl⟩
          · have hS : Hid (sgnd (q) false = (q, true)) := sgnd_up (by omega)
            rw [hR.out, hS.out]
            go_enter Tryz.func87, Tryz.ntmps87
            go_wp2
            go_ret2
            exact ⟨retV (by omega), rfl⟩
    · cases exact'
      · skip
        have hR : Hid (rndd q (grw 1 hf (!false) true) true = sgnd (q) true) := by unfold Hid; rw [show grw 1 hf (!false) true = false from by unfold grw; simp <;> omega, rndd_0]
        by_cases k1 : 9223372036854775808 < q
        · have hS : Hid (sgnd (q) true = (0, false)) := sgnd_out (by omega)
          rw [hR.out, hS.out]
          go_enter Tryz.func87, Tryz.ntmps87
          go_wp2
          go_ret2
          exact ⟨rfl, rfl⟩
        · by_cases k2 : q = 0
          · subst k2
            have hS : Hid (sgnd 0 true = (-0, true)) := sgnd_yes (by omega)
            rw [hR.out, hS.out]
            go_enter Tryz.func87, Tryz.ntmps87
            go_wp2
            go_ret2
            exact ⟨rfl, rfl⟩
          · have hS : Hid (sgnd q true = (-q, true)) := sgnd_yes (by omega)
            have hz : (q == 0) = false := by simpa using k2
            rw [hR.out, hS.out]
            go_enter Tryz.func87, Tryz.ntmps87
            go_wp2
            go_ret2
            exact ⟨retV (by omega), rfl⟩
      · skip
        have hR : Hid (rndd q (grw 1 hf (!true) true) true = sgnd (q) true) := by unfold Hid; rw [show grw 1 hf (!true) true = false from by unfold grw; simp <;> omega, rndd_0]
        by_cases k1 : 9223372036854775808 < q
        · have hS : Hid (sgnd (q) true = (0, false)) := sgnd_out (by omega)
          rw [hR.out, hS.out]
          go_enter Tryz.func87, Tryz.ntmps87
          go_wp2
          go_ret2
          exact ⟨rfl, rfl⟩
        · by_cases k2 : q = 0
          · subst k2
            have hS : Hid (sgnd 0 true = (-0, true)) := sgnd_yes (by omega)
            rw [hR.out, hS.out]
            go_enter Tryz.func87, Tryz.ntmps87
            go_wp2
            go_ret2
            exact ⟨rfl, rfl⟩
          · have hS : Hid (sgnd q true = (-q, true)) := sgnd_yes (by omega)
            have hz : (q == 0) = false := by simpa using k2
            rw [hR.out, hS.out]
            go_enter Tryz.func87, Tryz.ntmps87
            go_wp2
            go_ret2
            exact ⟨retV (by omega), rfl⟩
  · cases neg
    · rcases hc with rfl | hc | hc
      · skip
        have hR : Hid (rndd q (grw 2 0 (!exact') false) false = sgnd (q + 1) false) := by unfold Hid; rw [show grw 2 0 (!exact') false = true from by unfold grw; simp <;> omega, rndd_1]
        by_cases k1 : 9223372036854775808 < q
        · have hS : Hid (sgnd (q + 1) false = (0, false)) := sgnd_out (by omega)
          rw [hR.out, hS.out]
          go_enter Tryz.func87, Tryz.ntmps87
          go_wp2
          go_ret2
          exact ⟨rfl, rfl⟩
        · by_cases k2 : 9223372036854775807 < q + 1
          · have hS : Hid (sgnd (q + 1) false = (0, false)) := sgnd_top (by omega)
            rw [hR.out, hS.out]
            go_enter Tryz.func87, Tryz.ntmps87
            go_wp2
            go_ret2
            exact ⟨rfl, rfl⟩
          · have hS : Hid (sgnd (q + 1) false = (q + 1, true)) := sgnd_up (by omega)
            rw [hR.out, hS.out]
            go_enter Tryz.func87, Tryz.ntmps87
            go_wp2
            go_ret2
            exact ⟨retV (by omega), rfl⟩
      · skip
        have hR : Hid (rndd q (grw 2 hf (!exact') false) false = sgnd (q + 1) false) := by unfold Hid; rw [show grw 2 hf (!exact') false = true from by unfold grw; simp <;> omega, rndd_1]
        by_cases k1 : 9223372036854775808 < q
        · have hS : Hid (sgnd (q + 1) false = (0, false)) := sgnd_out (by omega)
          rw [hR.out, hS.out]
          go_enter Tryz.func87, Tryz.ntmps87
          go_wp2
          go_ret2
          exact ⟨rfl, rfl⟩
        · by_cases k2 : 9223372036854775807 < q + 1
          · have hS : Hid (sgnd (q + 1) false = (0, false)) := sgnd_top (by omega)
            rw [hR.out, hS.out]
            go_enter Tryz.func87, Tryz.ntmps87
            go_wp2
            go_ret2
            exact ⟨rfl, rfl⟩
          · have hS : Hid (sgnd (q + 1) false = (q + 1, true)) := sgnd_up (by omega)
            rw [hR.out, hS.out]
            go_enter Tryz.func87, Tryz.ntmps87
            go_wp2
            go_ret2
            exact ⟨retV (by omega), rfl⟩
      · skip
        have hR : Hid (rndd q (grw 2 hf (!exact') false) false = sgnd (q) false) := by unfold Hid; rw [show grw 2 hf (!exact') false = false from by unfold grw; simp <;> omega, rndd_0]
        by_cases k1 : 9223372036854775808 < q
        · have hS : Hid (sgnd (q) false = (0, false)) := sgnd_out (by omega)
          rw [hR.out, hS.out]
          go_enter Tryz.func87, Tryz.ntmps87
          go_wp2
          go_ret2
          exact ⟨rfl, rfl⟩
        · by_cases k2 : 9223372036854775807 < q
          · have hS : Hid (sgnd (q) false = (0, false)) := sgnd_top (by omega)
            rw [hR.out, hS.out]
            go_enter Tryz.func87, Tryz.ntmps87
            go_wp2
            go_ret2
            exact ⟨rfl, rfl⟩
          · have hS : Hid (sgnd (q) false = (q, true)) := sgnd_up (by omega)
            rw [hR.out, hS.out]
            go_enter Tryz.func87, Tryz.ntmps87
            go_wp2
            go_ret2
            exact ⟨retV (by omega), rfl⟩
    · rcases hc with rfl | hc | hc
      · skip
        have hR : Hid (rndd q (grw 2 0 (!exact') true) true = sgnd (q) true) := by unfold Hid; rw [show grw 2 0 (!exact') true = false from by unfold grw; simp <;> omega, rndd_0]
        by_cases k1 : 9223372036854775808 < q
        · have hS : Hid (sgnd (q) true = (0, false)) := sgnd_out (by omega)
          rw [hR.out, hS.out]
          go_enter Tryz.func87, Tryz.ntmps87
          go_wp2
          go_ret2
          exact ⟨rfl, rfl⟩
        · by_cases k2 : q = 0
          · subst k2
            have hS : Hid (sgnd 0 true = (-0, true)) := sgnd_yes (by omega)
            rw [hR.out, hS.out]
            go_enter Tryz.func87, Tryz.ntmps87
            go_wp2
            go_ret2
            exact ⟨rfl, rfl⟩
          · have hS : Hid (sgnd q true = (-q, true)) := sgnd_yes (by omega)
            have hz : (q == 0) = false := by simpa using k2
            rw [hR.out, hS.out]
            go_enter Tryz.func87, Tryz.ntmps87
            go_wp2
            go_ret2
            exact ⟨retV (by omega), rfl⟩
      · skip
        have hR : Hid (rndd q (grw 2 hf (!exact') true) true = sgnd (q + 1) true) := by unfold Hid; rw [show grw 2 hf (!exact') true = true from by unfold grw; simp <;> omega, rndd_1]
        by_cases k1 : 9223372036854775808 < q
        · have hS : Hid (sgnd (q + 1) true = (0, false)) := sgnd_out (by omega)
          rw [hR.out, hS.out]
          go_enter Tryz.func87, Tryz.ntmps87
          go_wp2
          go_ret2
          exact ⟨rfl, rfl⟩
        · by_cases k2 : 9223372036854775808 < q + 1
          · have hS : Hid (sgnd (q + 1) true = (0, false)) := sgnd_out (by omega)
            rw [hR.out, hS.out]
            go_enter Tryz.func87, Tryz.ntmps87
            go_wp2
            go_ret2
            exact ⟨rfl, rfl⟩
          · have hS : Hid (sgnd (q + 1) true = (-(q + 1), true)) := sgnd_yes (by omega)
            have hz : ((q + 1 : Int) == 0) = false := by simp; omega
            rw [hR.out, hS.out]
            go_enter Tryz.func87, Tryz.ntmps87
            go_wp2
            go_ret2
            exact ⟨retV (by omega), rfl⟩
      · skip
        have hR : Hid (rndd q (grw 2 hf (!exact') true) true = sgnd (q) true) := by unfold Hid; rw [show grw 2 hf (!exact') true = false from by unfold grw; simp <;> omega, rndd_0]
        by_cases k1 : 9223372036854775808 < q
        · have hS : Hid (sgnd (q) true = (0, false)) := sgnd_out (by omega)
          rw [hR.out, hS.out]
          go_enter Tryz.func87, Tryz.ntmps87
          go_wp2
          go_ret2
          exact ⟨rfl, rfl⟩
        · by_cases k2 : q = 0
          · subst k2
            have hS : Hid (sgnd 0 true = (-0, true)) := sgnd_yes (by omega)
            rw [hR.out, hS.out]
            go_enter Tryz.func87, Tryz.ntmps87
            go_wp2
            go_ret2
            exact ⟨rfl, rfl⟩
          · have hS : Hid (sgnd q true = (-q, true)) := sgnd_yes (by omega)
            have hz : (q == 0) = false := by simpa using k2
            rw [hR.out, hS.out]
            go_enter Tryz.func87, Tryz.ntmps87
            go_wp2
            go_ret2
            exact ⟨retV (by omega), rfl⟩
end Go.Proofs.YtdipainocdgfgaaGreatDoor
