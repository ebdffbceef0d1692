/- The contracts of the small functions of cncref08: flag, Truth, compared, single, atan: they return what the plain functions give. Conditions: the integers are ints of less than 10^16. -/
import Derived.Test.YtdipainocdgfgaaGreatDoorRc
import Derived.Test.YtdipainocdgfgaaGreatDoorPle2
import Derived.Test.YtdipainocdgfgaaGreatDoorZ
import Derived.Test.YtdipainocdgfgaaGreatDoorX
namespace Go.Proofs.YtdipainocdgfgaaGreatDoor
set_option linter.unusedVariables false
set_option linter.unusedSimpArgs false
open Go.RowKit

theorem truth_ref (n : Int) (w : World) :
    Calls Tryz.prog 61 #[.int .i64 n] w fun e w' => e = .returned (.bool (n != 0)) ∧ w = w' := by
  go_enter Tryz.func61, Tryz.ntmps61
  go_wp2
  go_ret
  exact ⟨rfl, rfl⟩
theorem flag_ref (ok : Bool) (w : World) :
    Calls Tryz.prog 60 #[.bool ok] w fun e w' => e = .returned (.tuple #[.int .i64 (if ok then 1000000 else 0), .int .i64 0]) ∧ w = w' := by
  rcases ok with _ | _
  all_goals
    go_enter Tryz.func60, Tryz.ntmps60
    go_wp2
    go_ret2
    exact ⟨rfl, rfl⟩
theorem compared_17 (a b : Int) (w : World) :
    Calls Tryz.prog 41 #[.int .i64 17, .int .i64 a, .int .i64 b] w fun e w' => e = .returned (.tuple #[.int .i64 (if holdsS 17 a b then 1000000 else 0), .int .i64 0]) ∧ w = w' := by
  have HH : Hid (holdsS 17 a b = (a == b)) := rfl
  rcases hd : (a == b) with _ | _
  all_goals
    rw [hd] at HH
    rw [HH.out]
    go_enter Tryz.func41, Tryz.ntmps41
    go_wp2_with (go_at_call 60; refine (flag_ref _ _).mono ?_; rintro e w' ⟨rfl, rfl⟩)
    go_ret2
    exact ⟨rfl, rfl⟩
theorem compared_18 (a b : Int) (w : World) :
    Calls Tryz.prog 41 #[.int .i64 18, .int .i64 a, .int .i64 b] w fun e w' => e = .returned (.tuple #[.int .i64 (if holdsS 18 a b then 1000000 else 0), .int .i64 0]) ∧ w = w' := by
  have HH : Hid (holdsS 18 a b = (a != b)) := rfl
  rcases hd : (a != b) with _ | _
  all_goals
    rw [hd] at HH
    rw [HH.out]
    go_enter Tryz.func41, Tryz.ntmps41
    go_wp2_with (go_at_call 60; refine (flag_ref _ _).mono ?_; rintro e w' ⟨rfl, rfl⟩)
    go_ret2
    exact ⟨rfl, rfl⟩
theorem compared_19 (a b : Int) (w : World) :
    Calls Tryz.prog 41 #[.int .i64 19, .int .i64 a, .int .i64 b] w fun e w' => e = .returned (.tuple #[.int .i64 (if holdsS 19 a b then 1000000 else 0), .int .i64 0]) ∧ w = w' := by
  have HH : Hid (holdsS 19 a b = decide (b < a)) := rfl
  rcases hd : decide (b < a) with _ | _
  all_goals
    rw [hd] at HH
    rw [HH.out]
    go_enter Tryz.func41, Tryz.ntmps41
    go_wp2_with (go_at_call 60; refine (flag_ref _ _).mono ?_; rintro e w' ⟨rfl, rfl⟩)
    go_ret2
    exact ⟨rfl, rfl⟩
theorem compared_20 (a b : Int) (w : World) :
    Calls Tryz.prog 41 #[.int .i64 20, .int .i64 a, .int .i64 b] w fun e w' => e = .returned (.tuple #[.int .i64 (if holdsS 20 a b then 1000000 else 0), .int .i64 0]) ∧ w = w' := by
  have HH : Hid (holdsS 20 a b = decide (b ≤ a)) := rfl
  rcases hd : decide (b ≤ a) with _ | _
  all_goals
    rw [hd] at HH
    rw [HH.out]
    go_enter Tryz.func41, Tryz.ntmps41
    go_wp2_with (go_at_call 60; refine (flag_ref _ _).mono ?_; rintro e w' ⟨rfl, rfl⟩)
    go_ret2
    exact ⟨rfl, rfl⟩
theorem compared_21 (a b : Int) (w : World) :
    Calls Tryz.prog 41 #[.int .i64 21, .int .i64 a, .int .i64 b] w fun e w' => e = .returned (.tuple #[.int .i64 (if holdsS 21 a b then 1000000 else 0), .int .i64 0]) ∧ w = w' := by
  have HH : Hid (holdsS 21 a b = decide (a < b)) := rfl
  rcases hd : decide (a < b) with _ | _
  all_goals
    rw [hd] at HH
    rw [HH.out]
    go_enter Tryz.func41, Tryz.ntmps41
    go_wp2_with (go_at_call 60; refine (flag_ref _ _).mono ?_; rintro e w' ⟨rfl, rfl⟩)
    go_ret2
    exact ⟨rfl, rfl⟩
theorem compared_22 (a b : Int) (w : World) :
    Calls Tryz.prog 41 #[.int .i64 22, .int .i64 a, .int .i64 b] w fun e w' => e = .returned (.tuple #[.int .i64 (if holdsS 22 a b then 1000000 else 0), .int .i64 0]) ∧ w = w' := by
  have HH : Hid (holdsS 22 a b = decide (a ≤ b)) := rfl
  rcases hd : decide (a ≤ b) with _ | _
  all_goals
    rw [hd] at HH
    rw [HH.out]
    go_enter Tryz.func41, Tryz.ntmps41
    go_wp2_with (go_at_call 60; refine (flag_ref _ _).mono ?_; rintro e w' ⟨rfl, rfl⟩)
    go_ret2
    exact ⟨rfl, rfl⟩
theorem compared_23 (a b : Int) (w : World) :
    Calls Tryz.prog 41 #[.int .i64 23, .int .i64 a, .int .i64 b] w fun e w' => e = .returned (.tuple #[.int .i64 (if holdsS 23 a b then 1000000 else 0), .int .i64 0]) ∧ w = w' := by
  have HH : Hid (holdsS 23 a b = ((a != 0) && (b != 0))) := rfl
  rcases ha : (a != 0) with _ | _ <;> rcases hb : (b != 0) with _ | _
  all_goals
    have HA := Lib.hid ha
    have HB := Lib.hid hb
    rw [HA.out, HB.out] at HH
    rw [HH.out]
    clear ha hb
    go_enter Tryz.func41, Tryz.ntmps41
    go_wp2_with (first | (go_at_call 61; with_reducible refine (truth_ref a _).mono ?_; rw [HA.out]; rintro e w' ⟨rfl, rfl⟩) | (go_at_call 61; with_reducible refine (truth_ref b _).mono ?_; rw [HB.out]; rintro e w' ⟨rfl, rfl⟩) | (go_at_call 60; refine (flag_ref _ _).mono ?_; rintro e w' ⟨rfl, rfl⟩))
    go_ret2
    exact ⟨rfl, rfl⟩
theorem compared_24 (a b : Int) (w : World) :
    Calls Tryz.prog 41 #[.int .i64 24, .int .i64 a, .int .i64 b] w fun e w' => e = .returned (.tuple #[.int .i64 (if holdsS 24 a b then 1000000 else 0), .int .i64 0]) ∧ w = w' := by
  have HH : Hid (holdsS 24 a b = ((a != 0) || (b != 0))) := rfl
  rcases ha : (a != 0) with _ | _ <;> rcases hb : (b != 0) with _ | _
  all_goals
    have HA := Lib.hid ha
    have HB := Lib.hid hb
    rw [HA.out, HB.out] at HH
    rw [HH.out]
    clear ha hb
    go_enter Tryz.func41, Tryz.ntmps41
    go_wp2_with (first | (go_at_call 61; with_reducible refine (truth_ref a _).mono ?_; rw [HA.out]; rintro e w' ⟨rfl, rfl⟩) | (go_at_call 61; with_reducible refine (truth_ref b _).mono ?_; rw [HB.out]; rintro e w' ⟨rfl, rfl⟩) | (go_at_call 60; refine (flag_ref _ _).mono ?_; rintro e w' ⟨rfl, rfl⟩))
    go_ret2
    exact ⟨rfl, rfl⟩
theorem compared_25 (a b : Int) (w : World) :
    Calls Tryz.prog 41 #[.int .i64 25, .int .i64 a, .int .i64 b] w fun e w' => e = .returned (.tuple #[.int .i64 (if holdsS 25 a b then 1000000 else 0), .int .i64 0]) ∧ w = w' := by
  have HH : Hid (holdsS 25 a b = ((a != 0) != (b != 0))) := rfl
  rcases ha : (a != 0) with _ | _ <;> rcases hb : (b != 0) with _ | _
  all_goals
    have HA := Lib.hid ha
    have HB := Lib.hid hb
    rw [HA.out, HB.out] at HH
    rw [HH.out]
    clear ha hb
    go_enter Tryz.func41, Tryz.ntmps41
    go_wp2_with (first | (go_at_call 61; with_reducible refine (truth_ref a _).mono ?_; rw [HA.out]; rintro e w' ⟨rfl, rfl⟩) | (go_at_call 61; with_reducible refine (truth_ref b _).mono ?_; rw [HB.out]; rintro e w' ⟨rfl, rfl⟩) | (go_at_call 60; refine (flag_ref _ _).mono ?_; rintro e w' ⟨rfl, rfl⟩))
    go_ret2
    exact ⟨rfl, rfl⟩
theorem compared_any (op a b : Int) (h1 : 17 ≤ op) (h2 : op ≤ 25) (w : World) :
    Calls Tryz.prog 41 #[.int .i64 op, .int .i64 a, .int .i64 b] w fun e w' => e = .returned (.tuple #[.int .i64 (if holdsS op a b then 1000000 else 0), .int .i64 0]) ∧ w = w' := by
  have h : op = 17 ∨ op = 18 ∨ op = 19 ∨ op = 20 ∨ op = 21 ∨ op = 22 ∨ op = 23 ∨ op = 24 ∨ op = 25 := by omega
  rcases h with rfl | rfl | rfl | rfl | rfl | rfl | rfl | rfl | rfl
  · exact compared_17 a b w
  · exact compared_18 a b w
  · exact compared_19 a b w
  · exact compared_20 a b w
  · exact compared_21 a b w
  · exact compared_22 a b w
  · exact compared_23 a b w
  · exact compared_24 a b w
  · exact compared_25 a b w
theorem single_2 (a : Int) (h1 : -10000000000000000 ≤ a) (h2 : a ≤ 10000000000000000) (w : World) :
    Calls Tryz.prog 42 #[.int .i64 2, .int .i64 a] w fun e w' => e = .returned (.tuple #[.int .i64 (unS 2 a).1, .int .i64 (unS 2 a).2]) ∧ Below w.heap.size w w' := by
  have hsb := sinS_bd a
  obtain ⟨s, hs⟩ : ∃ s, s = (sinS a).1 := ⟨_, rfl⟩
  obtain ⟨c, hc⟩ : ∃ c, c = (sinS a).2 := ⟨_, rfl⟩
  rw [← hs, ← hc] at hsb
  obtain ⟨⟨s1, s2⟩, c1, c2⟩ := hsb
  have HSC := Lib.hid (sin_ref a (by omega) (by omega) w)
  rw [← hs, ← hc] at HSC
  have HH : Hid (unS 2 a = (-a, 0)) := rfl
  rw [HH.out]
  clear hs hc
  go_enter Tryz.func42, Tryz.ntmps42
  go_wp2_with (go_at_call 62; refine HSC.out.mono ?_; rintro e w1 ⟨rfl, hb⟩; have HB := Lib.hid hb; clear hb)
  go_ret2
  exact ⟨rfl, HB.out⟩
theorem single_13 (a : Int) (h1 : -10000000000000000 ≤ a) (h2 : a ≤ 10000000000000000) (w : World) :
    Calls Tryz.prog 42 #[.int .i64 13, .int .i64 a] w fun e w' => e = .returned (.tuple #[.int .i64 (unS 13 a).1, .int .i64 (unS 13 a).2]) ∧ Below w.heap.size w w' := by
  have hsb := sinS_bd a
  obtain ⟨s, hs⟩ : ∃ s, s = (sinS a).1 := ⟨_, rfl⟩
  obtain ⟨c, hc⟩ : ∃ c, c = (sinS a).2 := ⟨_, rfl⟩
  rw [← hs, ← hc] at hsb
  obtain ⟨⟨s1, s2⟩, c1, c2⟩ := hsb
  have HSC := Lib.hid (sin_ref a (by omega) (by omega) w)
  rw [← hs, ← hc] at HSC
  have HH : Hid (unS 13 a = (max a (-a), 0)) := rfl
  rw [HH.out]
  clear hs hc
  go_enter Tryz.func42, Tryz.ntmps42
  go_wp2_with (go_at_call 62; refine HSC.out.mono ?_; rintro e w1 ⟨rfl, hb⟩; have HB := Lib.hid hb; clear hb)
  all_goals
    go_ret2
    exact ⟨ret_two (by omega) rfl, HB.out⟩
theorem single_12 (a : Int) (h1 : -10000000000000000 ≤ a) (h2 : a ≤ 10000000000000000) (w : World) :
    Calls Tryz.prog 42 #[.int .i64 12, .int .i64 a] w fun e w' => e = .returned (.tuple #[.int .i64 (unS 12 a).1, .int .i64 (unS 12 a).2]) ∧ Below w.heap.size w w' := by
  have hsb := sinS_bd a
  obtain ⟨s, hs⟩ : ∃ s, s = (sinS a).1 := ⟨_, rfl⟩
  obtain ⟨c, hc⟩ : ∃ c, c = (sinS a).2 := ⟨_, rfl⟩
  rw [← hs, ← hc] at hsb
  obtain ⟨⟨s1, s2⟩, c1, c2⟩ := hsb
  have HSC := Lib.hid (sin_ref a (by omega) (by omega) w)
  rw [← hs, ← hc] at HSC
  have HH : Hid (unS 12 a = sqrtS a) := rfl
  rw [HH.out]
  clear hs hc
  go_enter Tryz.func42, Tryz.ntmps42
  go_wp2_with (first | (go_at_call 62; refine HSC.out.mono ?_; rintro e w1 ⟨rfl, hb⟩; have HB := Lib.hid hb; clear hb) | (go_at_call 63; refine (sqrt_ref a (by omega) (by omega) _).mono ?_; rintro e w2 ⟨rfl, hb⟩; have HN := Lib.hid (HB.out.trans (hb.mono HB.out.size)); clear hb HB; have HB := Lib.hid HN.out; clear HN))
  go_ret2
  exact ⟨rfl, HB.out⟩
theorem single_14 (a : Int) (h1 : -10000000000000000 ≤ a) (h2 : a ≤ 10000000000000000) (w : World) :
    Calls Tryz.prog 42 #[.int .i64 14, .int .i64 a] w fun e w' => e = .returned (.tuple #[.int .i64 (unS 14 a).1, .int .i64 (unS 14 a).2]) ∧ Below w.heap.size w w' := by
  have hsb := sinS_bd a
  obtain ⟨s, hs⟩ : ∃ s, s = (sinS a).1 := ⟨_, rfl⟩
  obtain ⟨c, hc⟩ : ∃ c, c = (sinS a).2 := ⟨_, rfl⟩
  rw [← hs, ← hc] at hsb
  obtain ⟨⟨s1, s2⟩, c1, c2⟩ := hsb
  have HSC := Lib.hid (sin_ref a (by omega) (by omega) w)
  rw [← hs, ← hc] at HSC
  have HH : Hid (unS 14 a = roundS a) := rfl
  rw [HH.out]
  clear hs hc
  go_enter Tryz.func42, Tryz.ntmps42
  go_wp2_with (first | (go_at_call 62; refine HSC.out.mono ?_; rintro e w1 ⟨rfl, hb⟩; have HB := Lib.hid hb; clear hb) | (go_at_call 64; refine (round_ref a _).mono ?_; rintro e w' ⟨rfl, rfl⟩))
  go_ret2
  exact ⟨rfl, HB.out⟩
theorem single_15 (a : Int) (h1 : -10000000000000000 ≤ a) (h2 : a ≤ 10000000000000000) (w : World) :
    Calls Tryz.prog 42 #[.int .i64 15, .int .i64 a] w fun e w' => e = .returned (.tuple #[.int .i64 (unS 15 a).1, .int .i64 (unS 15 a).2]) ∧ Below w.heap.size w w' := by
  have hsb := sinS_bd a
  obtain ⟨s, hs⟩ : ∃ s, s = (sinS a).1 := ⟨_, rfl⟩
  obtain ⟨c, hc⟩ : ∃ c, c = (sinS a).2 := ⟨_, rfl⟩
  rw [← hs, ← hc] at hsb
  obtain ⟨⟨s1, s2⟩, c1, c2⟩ := hsb
  have HSC := Lib.hid (sin_ref a (by omega) (by omega) w)
  rw [← hs, ← hc] at HSC
  have HH : Hid (unS 15 a = fixS a) := rfl
  rw [HH.out]
  clear hs hc
  go_enter Tryz.func42, Tryz.ntmps42
  go_wp2_with (first | (go_at_call 62; refine HSC.out.mono ?_; rintro e w1 ⟨rfl, hb⟩; have HB := Lib.hid hb; clear hb) | (go_at_call 65; refine (fix_ref a _).mono ?_; rintro e w' ⟨rfl, rfl⟩))
  go_ret2
  exact ⟨rfl, HB.out⟩
theorem single_16 (a : Int) (h1 : -10000000000000000 ≤ a) (h2 : a ≤ 10000000000000000) (w : World) :
    Calls Tryz.prog 42 #[.int .i64 16, .int .i64 a] w fun e w' => e = .returned (.tuple #[.int .i64 (unS 16 a).1, .int .i64 (unS 16 a).2]) ∧ Below w.heap.size w w' := by
  have hsb := sinS_bd a
  obtain ⟨s, hs⟩ : ∃ s, s = (sinS a).1 := ⟨_, rfl⟩
  obtain ⟨c, hc⟩ : ∃ c, c = (sinS a).2 := ⟨_, rfl⟩
  rw [← hs, ← hc] at hsb
  obtain ⟨⟨s1, s2⟩, c1, c2⟩ := hsb
  have HSC := Lib.hid (sin_ref a (by omega) (by omega) w)
  rw [← hs, ← hc] at HSC
  have HH : Hid (unS 16 a = fupS a) := rfl
  rw [HH.out]
  clear hs hc
  go_enter Tryz.func42, Tryz.ntmps42
  go_wp2_with (first | (go_at_call 62; refine HSC.out.mono ?_; rintro e w1 ⟨rfl, hb⟩; have HB := Lib.hid hb; clear hb) | (go_at_call 66; refine (fup_ref a _).mono ?_; rintro e w' ⟨rfl, rfl⟩))
  go_ret2
  exact ⟨rfl, HB.out⟩
theorem single_8 (a : Int) (h1 : -10000000000000000 ≤ a) (h2 : a ≤ 10000000000000000) (w : World) :
    Calls Tryz.prog 42 #[.int .i64 8, .int .i64 a] w fun e w' => e = .returned (.tuple #[.int .i64 (unS 8 a).1, .int .i64 (unS 8 a).2]) ∧ Below w.heap.size w w' := by
  have hsb := sinS_bd a
  obtain ⟨s, hs⟩ : ∃ s, s = (sinS a).1 := ⟨_, rfl⟩
  obtain ⟨c, hc⟩ : ∃ c, c = (sinS a).2 := ⟨_, rfl⟩
  rw [← hs, ← hc] at hsb
  obtain ⟨⟨s1, s2⟩, c1, c2⟩ := hsb
  have HSC := Lib.hid (sin_ref a (by omega) (by omega) w)
  rw [← hs, ← hc] at HSC
  have HH : Hid (unS 8 a = ((mdS s 1000000 1073741824 2).1, 0)) := by subst hs hc; rfl
  rw [HH.out]
  clear hs hc
  go_enter Tryz.func42, Tryz.ntmps42
  go_wp2_with (first | (go_at_call 62; refine HSC.out.mono ?_; rintro e w1 ⟨rfl, hb⟩; have HB := Lib.hid hb; clear hb) | (go_at_call 58; refine (muldiv_ref s _ _ _ (by omega) (by omega) (by omega) (by omega) (by omega) (by omega) (by omega) (by omega) (by omega) _).mono ?_; rintro e w2 ⟨rfl, hb⟩; have HN := Lib.hid (HB.out.trans (hb.mono HB.out.size)); clear hb HB; have HB := Lib.hid HN.out; clear HN))
  go_ret2
  exact ⟨rfl, HB.out⟩
theorem single_9 (a : Int) (h1 : -10000000000000000 ≤ a) (h2 : a ≤ 10000000000000000) (w : World) :
    Calls Tryz.prog 42 #[.int .i64 9, .int .i64 a] w fun e w' => e = .returned (.tuple #[.int .i64 (unS 9 a).1, .int .i64 (unS 9 a).2]) ∧ Below w.heap.size w w' := by
  have hsb := sinS_bd a
  obtain ⟨s, hs⟩ : ∃ s, s = (sinS a).1 := ⟨_, rfl⟩
  obtain ⟨c, hc⟩ : ∃ c, c = (sinS a).2 := ⟨_, rfl⟩
  rw [← hs, ← hc] at hsb
  obtain ⟨⟨s1, s2⟩, c1, c2⟩ := hsb
  have HSC := Lib.hid (sin_ref a (by omega) (by omega) w)
  rw [← hs, ← hc] at HSC
  have HH : Hid (unS 9 a = ((mdS c 1000000 1073741824 2).1, 0)) := by subst hs hc; rfl
  rw [HH.out]
  clear hs hc
  go_enter Tryz.func42, Tryz.ntmps42
  go_wp2_with (first | (go_at_call 62; refine HSC.out.mono ?_; rintro e w1 ⟨rfl, hb⟩; have HB := Lib.hid hb; clear hb) | (go_at_call 58; refine (muldiv_ref c _ _ _ (by omega) (by omega) (by omega) (by omega) (by omega) (by omega) (by omega) (by omega) (by omega) _).mono ?_; rintro e w2 ⟨rfl, hb⟩; have HN := Lib.hid (HB.out.trans (hb.mono HB.out.size)); clear hb HB; have HB := Lib.hid HN.out; clear HN))
  go_ret2
  exact ⟨rfl, HB.out⟩
theorem single_10 (a : Int) (h1 : -10000000000000000 ≤ a) (h2 : a ≤ 10000000000000000) (w : World) :
    Calls Tryz.prog 42 #[.int .i64 10, .int .i64 a] w fun e w' => e = .returned (.tuple #[.int .i64 (unS 10 a).1, .int .i64 (unS 10 a).2]) ∧ Below w.heap.size w w' := by
  have hsb := sinS_bd a
  obtain ⟨s, hs⟩ : ∃ s, s = (sinS a).1 := ⟨_, rfl⟩
  obtain ⟨c, hc⟩ : ∃ c, c = (sinS a).2 := ⟨_, rfl⟩
  rw [← hs, ← hc] at hsb
  obtain ⟨⟨s1, s2⟩, c1, c2⟩ := hsb
  have HSC := Lib.hid (sin_ref a (by omega) (by omega) w)
  rw [← hs, ← hc] at HSC
  have HH : Hid (unS 10 a = tanS s c) := by subst hs hc; rfl
  rw [HH.out]
  clear hs hc
  by_cases hc0 : c = 0
  · have HT : Hid (tanS s c = (0, 4)) := by unfold Hid tanS; rw [if_pos hc0]
    rw [HT.out]
    have hc0' : (c == 0) = true := by simpa using hc0
    clear hc0
    go_enter Tryz.func42, Tryz.ntmps42
    go_wp2_with (go_at_call 62; refine HSC.out.mono ?_; rintro e w1 ⟨rfl, hb⟩; have HB := Lib.hid hb; clear hb)
    go_ret2
    exact ⟨rfl, HB.out⟩
  have hc0' : (c == 0) = false := by simpa using hc0
  have HM := fun W => Lib.hid (muldiv_ref s 1000000 c 2 (by omega) (by omega) (by omega) (by omega) (by omega) (by omega) hc0 (by omega) (by omega) W)
  have HT : Hid (tanS s c = if (mdS s 1000000 c 2).2 && vld (mdS s 1000000 c 2).1 then ((mdS s 1000000 c 2).1, 0) else (0, 3)) := by unfold Hid tanS; rw [if_neg hc0]
  rw [HT.out]
  clear hc0
  rcases hm : mdS s 1000000 c 2 with ⟨n, ok⟩
  rw [hm] at HM
  clear hm
  dsimp only at HM ⊢
  rcases ok with _ | _
  · rw [show (false && vld n) = false from rfl, if_neg (by decide)]
    go_enter Tryz.func42, Tryz.ntmps42
    go_wp2_with (first | (go_at_call 62; refine HSC.out.mono ?_; rintro e w1 ⟨rfl, hb⟩; have HB := Lib.hid hb; clear hb) | (go_at_call 58; refine (HM _).out.mono ?_; rintro e w2 ⟨rfl, hb⟩; have HN := Lib.hid (HB.out.trans (hb.mono HB.out.size)); clear hb HB; have HB := Lib.hid HN.out; clear HN) | (go_at_call 49; refine (valid_ref _ _).mono ?_; rintro e w' ⟨rfl, rfl⟩))
    go_ret2
    exact ⟨rfl, HB.out⟩
  · rcases hv : vld n with _ | _
    · rw [show (true && false) = false from rfl, if_neg (by decide)]
      go_enter Tryz.func42, Tryz.ntmps42
      go_wp2_with (first | (go_at_call 62; refine HSC.out.mono ?_; rintro e w1 ⟨rfl, hb⟩; have HB := Lib.hid hb; clear hb) | (go_at_call 58; refine (HM _).out.mono ?_; rintro e w2 ⟨rfl, hb⟩; have HN := Lib.hid (HB.out.trans (hb.mono HB.out.size)); clear hb HB; have HB := Lib.hid HN.out; clear HN) | (go_at_call 49; refine (valid_ref _ _).mono ?_; rintro e w' ⟨rfl, rfl⟩))
      go_ret2
      exact ⟨rfl, HB.out⟩
    · rw [show (true && true) = true from rfl, if_pos rfl]
      go_enter Tryz.func42, Tryz.ntmps42
      go_wp2_with (first | (go_at_call 62; refine HSC.out.mono ?_; rintro e w1 ⟨rfl, hb⟩; have HB := Lib.hid hb; clear hb) | (go_at_call 58; refine (HM _).out.mono ?_; rintro e w2 ⟨rfl, hb⟩; have HN := Lib.hid (HB.out.trans (hb.mono HB.out.size)); clear hb HB; have HB := Lib.hid HN.out; clear HN) | (go_at_call 49; refine (valid_ref _ _).mono ?_; rintro e w' ⟨rfl, rfl⟩))
      go_ret2
      exact ⟨rfl, HB.out⟩
theorem single_any (op a : Int) (ho : kidsS op = 1) (ho1 : op ≠ 1) (h1 : -10000000000000000 ≤ a) (h2 : a ≤ 10000000000000000) (w : World) :
    Calls Tryz.prog 42 #[.int .i64 op, .int .i64 a] w fun e w' => e = .returned (.tuple #[.int .i64 (unS op a).1, .int .i64 (unS op a).2]) ∧ Below w.heap.size w w' := by
  have h : op = 2 ∨ op = 8 ∨ op = 9 ∨ op = 10 ∨ op = 12 ∨ op = 13 ∨ op = 14 ∨ op = 15 ∨ op = 16 := kids_one ho ho1
  rcases h with rfl | rfl | rfl | rfl | rfl | rfl | rfl | rfl | rfl
  · exact single_2 a h1 h2 w
  · exact single_8 a h1 h2 w
  · exact single_9 a h1 h2 w
  · exact single_10 a h1 h2 w
  · exact single_12 a h1 h2 w
  · exact single_13 a h1 h2 w
  · exact single_14 a h1 h2 w
  · exact single_15 a h1 h2 w
  · exact single_16 a h1 h2 w

def HLoopR (p0 : Int × Int) (vy vx : Value) : Prop := ∃ (f : Nat) (y x : Int), hvF f (x, y) = hvF 64 p0 ∧ (-2 ^ f ≤ x ∧ x < 2 ^ f) ∧ (-2 ^ f ≤ y ∧ y < 2 ^ f) ∧ f ≤ 64 ∧ vy = .int .i64 y ∧ vx = .int .i64 x ∧ (x ≠ 0 ∨ y ≠ 0) ∧ (-10000000000000000 ≤ x ∧ x ≤ 10000000000000000) ∧ (-10000000000000000 ≤ y ∧ y ≤ 10000000000000000)
theorem big_or {x y : Int} (h : big (x, y)) : y < -1099511627776 ∨ 1099511627776 < y ∨ (-1099511627776 ≤ y ∧ y ≤ 1099511627776 ∧ x < -1099511627776) ∨ (-1099511627776 ≤ y ∧ y ≤ 1099511627776 ∧ 1099511627776 < x) := by
  unfold big at h; dsimp only at h; omega
set_option maxRecDepth 100000 in
set_option maxHeartbeats 1000000 in
theorem atan_any (y x : Int) (hx1 : -10000000000000000 ≤ x) (hx2 : x ≤ 10000000000000000) (hy1 : -10000000000000000 ≤ y) (hy2 : y ≤ 10000000000000000) (w : World) :
    Calls Tryz.prog 40 #[.int .i64 y, .int .i64 x] w fun e w' => e = .returned (.tuple #[.int .i64 (dirS y x).1, .int .i64 (dirS y x).2]) ∧ Below w.heap.size w w' := by
  by_cases h0 : x = 0 ∧ y = 0
  · obtain ⟨rfl, rfl⟩ := h0
    have HD : Hid (dirS 0 0 = (0, 4)) := rfl
    rw [HD.out]
    go_enter Tryz.func40, Tryz.ntmps40
    go_wp2
    go_ret2
    exact ⟨rfl, Below.refl _ _⟩
  have HD : Hid (dirS y x = (angS (hvF 64 (x, y)).1 (hvF 64 (x, y)).2, 0)) := by unfold Hid dirS; rw [if_neg h0]
  have hxy : (y == 0) = false ∨ ((y == 0) = true ∧ (x == 0) = false) := by
    rcases hx0 : (y == 0)
    · exact .inl rfl
    · refine .inr ⟨rfl, ?_⟩
      have : y = 0 := by simpa using hx0
      simp; omega
  have hn0 : x ≠ 0 ∨ y ≠ 0 := by omega
  clear h0
  have HN := Lib.hid hn0
  clear hn0
  rcases hxy with hy0 | ⟨hy0, hx0⟩
  all_goals
    go_enter Tryz.func40, Tryz.ntmps40
    go_wp2
    go_loop [0, 1] (HLoopR (x, y)) (fun vy vx => (intOf vy).natAbs + (intOf vx).natAbs)
    case atStart => exact ⟨64, y, x, rfl, by omega, by omega, by omega, rfl, rfl, HN.out, ⟨hx1, hx2⟩, hy1, hy2⟩
    case round =>
      obtain ⟨f, y', x', hp, hbx, hby, hf, rfl, rfl, hn, ⟨x1, x2⟩, y1, y2⟩ := hrel
      have HP := Lib.hid hp
      have HBX : Hid ((-2 ^ f ≤ x' ∧ x' < 2 ^ f) ∧ (-2 ^ f ≤ y' ∧ y' < 2 ^ f)) := ⟨hbx, hby⟩
      have HNN := Lib.hid hn
      have HF := Lib.hid hf
      clear hp hbx hby hn hf
      by_cases hg : big (x', y')
      · have hc := big_or hg
        have HS := Lib.hid (hv_step HP.out HBX.out hg)
        clear hg
        rcases hc with c | c | ⟨c, d, e⟩ | ⟨c, d, e⟩
        all_goals
          go_wp2
          all_goals
            go_round
            case rel =>
              obtain ⟨f', e1, e2, e3, e4, e5⟩ := HS.out
              have hf := HF.out
              exact ⟨f', y' / 2, x' / 2, e1, e2, e3, by omega, rfl, rfl, e5, by omega, by omega⟩
            case measure => simp [intOf]; omega
      · have hc := small hg
        obtain ⟨⟨c1, c2⟩, c3, c4⟩ := hc
        have HA := Lib.hid (angle_ref x' y' c1 c2 c3 c4 HNN.out w)
        have HE : Hid (hvF 64 (x, y) = (x', y')) := by unfold Hid; rw [← HP.out]; exact hv_end f hg
        clear hg
        go_wp2_with (go_at_call 59; refine HA.out.mono ?_; rintro e w1 ⟨rfl, hb⟩; have HB := Lib.hid hb; clear hb)
        all_goals
          go_ret2
          rw [HD.out, HE.out]
          exact ⟨rfl, HB.out⟩
end Go.Proofs.YtdipainocdgfgaaGreatDoor
