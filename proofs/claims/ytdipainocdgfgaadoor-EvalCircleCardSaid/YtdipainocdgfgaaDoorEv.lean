/- The contracts of eval's small functions: Truth, holds, unary, direction, arithmetic: they return what the plain functions give. Conditions: the integers are ints (unary's is less than 10^16); the table of the arctangents lies in memory. -/
import Derived.Test.YtdipainocdgfgaaDoorAn
import Derived.Test.YtdipainocdgfgaaDoorPle2
import Derived.MapKept
import Derived.Carry
namespace Go.Proofs.YtdipainocdgfgaaDoor
set_option linter.unusedVariables false
set_option linter.unusedSimpArgs false
open Go.RowKit

theorem truth_any (n : Int) (w : World) :
    Calls Tryd.prog 15 #[.int .i64 n] w fun e w' => e = .returned (.bool (n != 0)) ∧ w = w' := by
  go_enter Tryd.func15, Tryd.ntmps15
  go_wp2
  go_ret
  exact ⟨rfl, rfl⟩
theorem holds_17 (a b : Int) (w : World) :
    Calls Tryd.prog 44 #[.int .i64 17, .int .i64 a, .int .i64 b] w fun e w' => e = .returned (.bool (holdsS 17 a b)) ∧ w = w' := by
  go_enter Tryd.func44, Tryd.ntmps44
  go_wp2
  go_ret
  exact ⟨rfl, rfl⟩
theorem holds_18 (a b : Int) (w : World) :
    Calls Tryd.prog 44 #[.int .i64 18, .int .i64 a, .int .i64 b] w fun e w' => e = .returned (.bool (holdsS 18 a b)) ∧ w = w' := by
  go_enter Tryd.func44, Tryd.ntmps44
  go_wp2
  go_ret
  exact ⟨rfl, rfl⟩
theorem holds_19 (a b : Int) (w : World) :
    Calls Tryd.prog 44 #[.int .i64 19, .int .i64 a, .int .i64 b] w fun e w' => e = .returned (.bool (holdsS 19 a b)) ∧ w = w' := by
  go_enter Tryd.func44, Tryd.ntmps44
  go_wp2
  go_ret
  exact ⟨rfl, rfl⟩
theorem holds_20 (a b : Int) (w : World) :
    Calls Tryd.prog 44 #[.int .i64 20, .int .i64 a, .int .i64 b] w fun e w' => e = .returned (.bool (holdsS 20 a b)) ∧ w = w' := by
  go_enter Tryd.func44, Tryd.ntmps44
  go_wp2
  go_ret
  exact ⟨rfl, rfl⟩
theorem holds_21 (a b : Int) (w : World) :
    Calls Tryd.prog 44 #[.int .i64 21, .int .i64 a, .int .i64 b] w fun e w' => e = .returned (.bool (holdsS 21 a b)) ∧ w = w' := by
  go_enter Tryd.func44, Tryd.ntmps44
  go_wp2
  go_ret
  exact ⟨rfl, rfl⟩
theorem holds_22 (a b : Int) (w : World) :
    Calls Tryd.prog 44 #[.int .i64 22, .int .i64 a, .int .i64 b] w fun e w' => e = .returned (.bool (holdsS 22 a b)) ∧ w = w' := by
  go_enter Tryd.func44, Tryd.ntmps44
  go_wp2
  go_ret
  exact ⟨rfl, rfl⟩
theorem holds_23 (a b : Int) (w : World) :
    Calls Tryd.prog 44 #[.int .i64 23, .int .i64 a, .int .i64 b] w fun e w' => e = .returned (.bool (holdsS 23 a b)) ∧ w = w' := by
  have HH : Hid (holdsS 23 a b = ((a != 0) && (b != 0))) := rfl
  rcases ha : (a != 0) with _ | _ <;> rcases hb : (b != 0) with _ | _
  all_goals
    have HA := Lib.hid ha
    have HB := Lib.hid hb
    rw [HA.out, HB.out] at HH
    clear ha hb
    go_enter Tryd.func44, Tryd.ntmps44
    go_wp2_with (first | (go_at_call 15; refine (truth_any a _).mono ?_; rw [HA.out]; rintro e w' ⟨rfl, rfl⟩) | (go_at_call 15; refine (truth_any b _).mono ?_; rw [HB.out]; rintro e w' ⟨rfl, rfl⟩))
    go_ret
    exact ⟨by rw [HH.out]; first | rfl | simp, rfl⟩
theorem holds_24 (a b : Int) (w : World) :
    Calls Tryd.prog 44 #[.int .i64 24, .int .i64 a, .int .i64 b] w fun e w' => e = .returned (.bool (holdsS 24 a b)) ∧ w = w' := by
  have HH : Hid (holdsS 24 a b = ((a != 0) || (b != 0))) := rfl
  rcases ha : (a != 0) with _ | _ <;> rcases hb : (b != 0) with _ | _
  all_goals
    have HA := Lib.hid ha
    have HB := Lib.hid hb
    rw [HA.out, HB.out] at HH
    clear ha hb
    go_enter Tryd.func44, Tryd.ntmps44
    go_wp2_with (first | (go_at_call 15; refine (truth_any a _).mono ?_; rw [HA.out]; rintro e w' ⟨rfl, rfl⟩) | (go_at_call 15; refine (truth_any b _).mono ?_; rw [HB.out]; rintro e w' ⟨rfl, rfl⟩))
    go_ret
    exact ⟨by rw [HH.out]; first | rfl | simp, rfl⟩
theorem holds_25 (a b : Int) (w : World) :
    Calls Tryd.prog 44 #[.int .i64 25, .int .i64 a, .int .i64 b] w fun e w' => e = .returned (.bool (holdsS 25 a b)) ∧ w = w' := by
  have HH : Hid (holdsS 25 a b = ((a != 0) != (b != 0))) := rfl
  rcases ha : (a != 0) with _ | _ <;> rcases hb : (b != 0) with _ | _
  all_goals
    have HA := Lib.hid ha
    have HB := Lib.hid hb
    rw [HA.out, HB.out] at HH
    clear ha hb
    go_enter Tryd.func44, Tryd.ntmps44
    go_wp2_with (first | (go_at_call 15; refine (truth_any a _).mono ?_; rw [HA.out]; rintro e w' ⟨rfl, rfl⟩) | (go_at_call 15; refine (truth_any b _).mono ?_; rw [HB.out]; rintro e w' ⟨rfl, rfl⟩))
    go_ret
    exact ⟨by rw [HH.out]; first | rfl | simp, rfl⟩
theorem holds_any (op a b : Int) (h1 : 17 ≤ op) (h2 : op ≤ 25) (w : World) :
    Calls Tryd.prog 44 #[.int .i64 op, .int .i64 a, .int .i64 b] w fun e w' => e = .returned (.bool (holdsS op a b)) ∧ w = w' := by
  have h : op = 17 ∨ op = 18 ∨ op = 19 ∨ op = 20 ∨ op = 21 ∨ op = 22 ∨ op = 23 ∨ op = 24 ∨ op = 25 := by omega
  rcases h with rfl | rfl | rfl | rfl | rfl | rfl | rfl | rfl | rfl
  · exact holds_17 a b w
  · exact holds_18 a b w
  · exact holds_19 a b w
  · exact holds_20 a b w
  · exact holds_21 a b w
  · exact holds_22 a b w
  · exact holds_23 a b w
  · exact holds_24 a b w
  · exact holds_25 a b w

theorem below_dr {w w' : World} {n : Nat} (h : Below (w.drewN n).heap.size (w.drewN n) w') : Below w.heap.size w w' := ⟨h.os, h.tape, h.output, h.size, h.block⟩
theorem unary_2 (a : Int) (h1 : -10000000000000000 ≤ a) (h2 : a ≤ 10000000000000000) (w : World) (ht : Tab w) :
    Calls Tryd.prog 43 #[.int .i64 2, .int .i64 a] w fun e w' => e = .returned (.tuple #[.int .i64 (unS 2 a).1, .int .i64 (unS 2 a).2]) ∧ Below w.heap.size w w' := by
  have HH : Hid (unS 2 a = (-a, 0)) := rfl
  rw [HH.out]
  go_enter Tryd.func43, Tryd.ntmps43
  go_wp2
  go_ret2
  exact ⟨rfl, Below.refl _ _⟩
theorem unary_13 (a : Int) (h1 : -10000000000000000 ≤ a) (h2 : a ≤ 10000000000000000) (w : World) (ht : Tab w) :
    Calls Tryd.prog 43 #[.int .i64 13, .int .i64 a] w fun e w' => e = .returned (.tuple #[.int .i64 (unS 13 a).1, .int .i64 (unS 13 a).2]) ∧ Below w.heap.size w w' := by
  have HH : Hid (unS 13 a = (max a (-a), 0)) := rfl
  rw [HH.out]
  go_enter Tryd.func43, Tryd.ntmps43
  go_wp2
  all_goals
    go_ret2
    exact ⟨ret_two (by omega) rfl, Below.refl _ _⟩
theorem unary_12 (a : Int) (h1 : -10000000000000000 ≤ a) (h2 : a ≤ 10000000000000000) (w : World) (ht : Tab w) :
    Calls Tryd.prog 43 #[.int .i64 12, .int .i64 a] w fun e w' => e = .returned (.tuple #[.int .i64 (unS 12 a).1, .int .i64 (unS 12 a).2]) ∧ Below w.heap.size w w' := by
  have HH : Hid (unS 12 a = sqrtS a) := rfl
  rw [HH.out]
  go_enter Tryd.func43, Tryd.ntmps43
  go_wp2_with (go_at_call 49; refine (sqrt_any a (by omega) (by omega) _).mono ?_; rintro e w1 ⟨rfl, hb⟩; have HB := Lib.hid hb; clear hb)
  go_ret2
  exact ⟨rfl, HB.out⟩
theorem unary_14 (a : Int) (h1 : -10000000000000000 ≤ a) (h2 : a ≤ 10000000000000000) (w : World) (ht : Tab w) :
    Calls Tryd.prog 43 #[.int .i64 14, .int .i64 a] w fun e w' => e = .returned (.tuple #[.int .i64 (unS 14 a).1, .int .i64 (unS 14 a).2]) ∧ Below w.heap.size w w' := by
  have HH : Hid (unS 14 a = roundS a) := rfl
  rw [HH.out]
  go_enter Tryd.func43, Tryd.ntmps43
  go_wp2_with (go_at_call 50; refine (round_any a _).mono ?_; rintro e w1 ⟨rfl, hb⟩; have HB := Lib.hid hb; clear hb)
  go_ret2
  exact ⟨rfl, HB.out⟩
theorem unary_15 (a : Int) (h1 : -10000000000000000 ≤ a) (h2 : a ≤ 10000000000000000) (w : World) (ht : Tab w) :
    Calls Tryd.prog 43 #[.int .i64 15, .int .i64 a] w fun e w' => e = .returned (.tuple #[.int .i64 (unS 15 a).1, .int .i64 (unS 15 a).2]) ∧ Below w.heap.size w w' := by
  have HH : Hid (unS 15 a = fixS a) := rfl
  rw [HH.out]
  go_enter Tryd.func43, Tryd.ntmps43
  go_wp2_with (go_at_call 51; refine (fix_any a _).mono ?_; rintro e w1 ⟨rfl, hb⟩; have HB := Lib.hid hb; clear hb)
  go_ret2
  exact ⟨rfl, HB.out⟩
theorem unary_16 (a : Int) (h1 : -10000000000000000 ≤ a) (h2 : a ≤ 10000000000000000) (w : World) (ht : Tab w) :
    Calls Tryd.prog 43 #[.int .i64 16, .int .i64 a] w fun e w' => e = .returned (.tuple #[.int .i64 (unS 16 a).1, .int .i64 (unS 16 a).2]) ∧ Below w.heap.size w w' := by
  have HH : Hid (unS 16 a = fupS a) := rfl
  rw [HH.out]
  go_enter Tryd.func43, Tryd.ntmps43
  go_wp2_with (go_at_call 52; refine (fup_any a _).mono ?_; rintro e w1 ⟨rfl, hb⟩; have HB := Lib.hid hb; clear hb)
  go_ret2
  exact ⟨rfl, HB.out⟩
theorem unary_8 (a : Int) (h1 : -10000000000000000 ≤ a) (h2 : a ≤ 10000000000000000) (w : World) (ht : Tab w) :
    Calls Tryd.prog 43 #[.int .i64 8, .int .i64 a] w fun e w' => e = .returned (.tuple #[.int .i64 (unS 8 a).1, .int .i64 (unS 8 a).2]) ∧ Below w.heap.size w w' := by
  have hsb := sinS_bd a
  obtain ⟨s, hs⟩ : ∃ s, s = (sinS a).1 := ⟨_, rfl⟩
  obtain ⟨c, hc⟩ : ∃ c, c = (sinS a).2 := ⟨_, rfl⟩
  rw [← hs, ← hc] at hsb
  obtain ⟨⟨s1, s2⟩, c1, c2⟩ := hsb
  have HSC := Lib.hid (sin_walk a (by omega) (by omega) w ht)
  rw [← hs, ← hc] at HSC
  have HH : Hid (unS 8 a = ((mdS s 1000000 1073741824 2).1, 0)) := by subst hs hc; rfl
  rw [HH.out]
  clear hs hc
  go_enter Tryd.func43, Tryd.ntmps43
  go_wp2_with (first | (go_at_call 53; refine HSC.out.mono ?_; rintro e w' ⟨rfl, k, rfl⟩) | (go_at_call 54; refine (muldiv_any s _ _ _ (by omega) (by omega) (by omega) (by omega) (by omega) (by omega) (by omega) (by omega) (by omega) _).mono ?_; rintro e w1 ⟨rfl, hb⟩; have HB := Lib.hid hb; clear hb))
  go_ret2
  exact ⟨rfl, below_dr HB.out⟩
theorem unary_9 (a : Int) (h1 : -10000000000000000 ≤ a) (h2 : a ≤ 10000000000000000) (w : World) (ht : Tab w) :
    Calls Tryd.prog 43 #[.int .i64 9, .int .i64 a] w fun e w' => e = .returned (.tuple #[.int .i64 (unS 9 a).1, .int .i64 (unS 9 a).2]) ∧ Below w.heap.size w w' := by
  have hsb := sinS_bd a
  obtain ⟨s, hs⟩ : ∃ s, s = (sinS a).1 := ⟨_, rfl⟩
  obtain ⟨c, hc⟩ : ∃ c, c = (sinS a).2 := ⟨_, rfl⟩
  rw [← hs, ← hc] at hsb
  obtain ⟨⟨s1, s2⟩, c1, c2⟩ := hsb
  have HSC := Lib.hid (sin_walk a (by omega) (by omega) w ht)
  rw [← hs, ← hc] at HSC
  have HH : Hid (unS 9 a = ((mdS c 1000000 1073741824 2).1, 0)) := by subst hs hc; rfl
  rw [HH.out]
  clear hs hc
  go_enter Tryd.func43, Tryd.ntmps43
  go_wp2_with (first | (go_at_call 53; refine HSC.out.mono ?_; rintro e w' ⟨rfl, k, rfl⟩) | (go_at_call 54; refine (muldiv_any c _ _ _ (by omega) (by omega) (by omega) (by omega) (by omega) (by omega) (by omega) (by omega) (by omega) _).mono ?_; rintro e w1 ⟨rfl, hb⟩; have HB := Lib.hid hb; clear hb))
  go_ret2
  exact ⟨rfl, below_dr HB.out⟩
theorem unary_10 (a : Int) (h1 : -10000000000000000 ≤ a) (h2 : a ≤ 10000000000000000) (w : World) (ht : Tab w) :
    Calls Tryd.prog 43 #[.int .i64 10, .int .i64 a] w fun e w' => e = .returned (.tuple #[.int .i64 (unS 10 a).1, .int .i64 (unS 10 a).2]) ∧ Below w.heap.size w w' := by
  have hsb := sinS_bd a
  obtain ⟨s, hs⟩ : ∃ s, s = (sinS a).1 := ⟨_, rfl⟩
  obtain ⟨c, hc⟩ : ∃ c, c = (sinS a).2 := ⟨_, rfl⟩
  rw [← hs, ← hc] at hsb
  obtain ⟨⟨s1, s2⟩, c1, c2⟩ := hsb
  have HSC := Lib.hid (sin_walk a (by omega) (by omega) w ht)
  rw [← hs, ← hc] at HSC
  have HH : Hid (unS 10 a = tanS s c) := by subst hs hc; rfl
  rw [HH.out]
  clear hs hc
  by_cases hc0 : c = 0
  · have HT : Hid (tanS s c = (0, 4)) := by unfold Hid tanS; rw [if_pos hc0]
    rw [HT.out]
    have hc0' : (c == 0) = true := by simpa using hc0
    clear hc0
    go_enter Tryd.func43, Tryd.ntmps43
    go_wp2_with (go_at_call 53; refine HSC.out.mono ?_; rintro e w' ⟨rfl, k, rfl⟩)
    go_ret2
    exact ⟨rfl, below_dn (Below.refl _ _) _⟩
  have hc0' : (c == 0) = false := by simpa using hc0
  have HM := fun W => Lib.hid (muldiv_any s 1000000 c 2 (by omega) (by omega) (by omega) (by omega) (by omega) (by omega) hc0 (by omega) (by omega) W)
  have HT : Hid (tanS s c = if (mdS s 1000000 c 2).2 && vld (mdS s 1000000 c 2).1 then ((mdS s 1000000 c 2).1, 0) else (0, 3)) := by unfold Hid tanS; rw [if_neg hc0]
  rw [HT.out]
  clear hc0
  rcases hm : mdS s 1000000 c 2 with ⟨n, ok⟩
  rw [hm] at HM
  clear hm
  dsimp only at HM ⊢
  rcases ok with _ | _
  · rw [show (false && vld n) = false from rfl, if_neg (by decide)]
    go_enter Tryd.func43, Tryd.ntmps43
    go_wp2_with (first | (go_at_call 53; refine HSC.out.mono ?_; rintro e w' ⟨rfl, k, rfl⟩) | (go_at_call 54; refine (HM _).out.mono ?_; rintro e w1 ⟨rfl, hb⟩; have HB := Lib.hid hb; clear hb) | (go_at_call 31; refine (valid_any _ _).mono ?_; rintro e w' ⟨rfl, rfl⟩))
    go_ret2
    exact ⟨rfl, below_dr HB.out⟩
  · rcases hv : vld n with _ | _
    · rw [show (true && false) = false from rfl, if_neg (by decide)]
      go_enter Tryd.func43, Tryd.ntmps43
      go_wp2_with (first | (go_at_call 53; refine HSC.out.mono ?_; rintro e w' ⟨rfl, k, rfl⟩) | (go_at_call 54; refine (HM _).out.mono ?_; rintro e w1 ⟨rfl, hb⟩; have HB := Lib.hid hb; clear hb) | (go_at_call 31; refine (valid_any _ _).mono ?_; rintro e w' ⟨rfl, rfl⟩))
      go_ret2
      exact ⟨rfl, below_dr HB.out⟩
    · rw [show (true && true) = true from rfl, if_pos rfl]
      go_enter Tryd.func43, Tryd.ntmps43
      go_wp2_with (first | (go_at_call 53; refine HSC.out.mono ?_; rintro e w' ⟨rfl, k, rfl⟩) | (go_at_call 54; refine (HM _).out.mono ?_; rintro e w1 ⟨rfl, hb⟩; have HB := Lib.hid hb; clear hb) | (go_at_call 31; refine (valid_any _ _).mono ?_; rintro e w' ⟨rfl, rfl⟩))
      go_ret2
      exact ⟨rfl, below_dr HB.out⟩
theorem unary_any (op a : Int) (ho : kidsS op = 1) (ho1 : op ≠ 1) (h1 : -10000000000000000 ≤ a) (h2 : a ≤ 10000000000000000) (w : World) (ht : Tab w) :
    Calls Tryd.prog 43 #[.int .i64 op, .int .i64 a] w fun e w' => e = .returned (.tuple #[.int .i64 (unS op a).1, .int .i64 (unS op a).2]) ∧ Below w.heap.size w w' := by
  have h : op = 2 ∨ op = 8 ∨ op = 9 ∨ op = 10 ∨ op = 12 ∨ op = 13 ∨ op = 14 ∨ op = 15 ∨ op = 16 := kids_one ho ho1
  rcases h with rfl | rfl | rfl | rfl | rfl | rfl | rfl | rfl | rfl
  · exact unary_2 a h1 h2 w ht
  · exact unary_8 a h1 h2 w ht
  · exact unary_9 a h1 h2 w ht
  · exact unary_10 a h1 h2 w ht
  · exact unary_12 a h1 h2 w ht
  · exact unary_13 a h1 h2 w ht
  · exact unary_14 a h1 h2 w ht
  · exact unary_15 a h1 h2 w ht
  · exact unary_16 a h1 h2 w ht

def HLoop (p0 : Int × Int) (vy vx : Value) : Prop := ∃ (f : Nat) (y x : Int), hvF f (x, y) = hvF 64 p0 ∧ (-2 ^ f ≤ x ∧ x < 2 ^ f) ∧ (-2 ^ f ≤ y ∧ y < 2 ^ f) ∧ f ≤ 64 ∧ vy = .int .i64 y ∧ vx = .int .i64 x ∧ (x ≠ 0 ∨ y ≠ 0)
set_option maxRecDepth 100000 in
theorem direction_any (y x : Int) (hx1 : -9223372036854775808 ≤ x) (hx2 : x ≤ 9223372036854775807) (hy1 : -9223372036854775808 ≤ y) (hy2 : y ≤ 9223372036854775807) (w : World) (ht : Tab w) :
    Calls Tryd.prog 42 #[.int .i64 y, .int .i64 x] w fun e w' => e = .returned (.tuple #[.int .i64 (dirS y x).1, .int .i64 (dirS y x).2]) ∧ Below w.heap.size w w' := by
  have HTB := Lib.hid ht
  clear ht
  by_cases h0 : x = 0 ∧ y = 0
  · obtain ⟨rfl, rfl⟩ := h0
    have HD : Hid (dirS 0 0 = (0, 4)) := rfl
    rw [HD.out]
    go_enter Tryd.func42, Tryd.ntmps42
    go_wp2
    go_ret2
    exact ⟨rfl, Below.refl _ _⟩
  have HD : Hid (dirS y x = (angS (hvF 64 (x, y)).1 (hvF 64 (x, y)).2, 0)) := by unfold Hid dirS; rw [if_neg h0]
  have hxy : (x == 0) = false ∨ ((x == 0) = true ∧ (y == 0) = false) := by
    rcases hx0 : (x == 0)
    · exact .inl rfl
    · refine .inr ⟨rfl, ?_⟩
      have : x = 0 := by simpa using hx0
      simp; omega
  have hn0 : x ≠ 0 ∨ y ≠ 0 := by omega
  clear h0
  have HN := Lib.hid hn0
  clear hn0
  rcases hxy with hx0 | ⟨hx0, hy0⟩
  all_goals
    go_enter Tryd.func42, Tryd.ntmps42
    go_wp2
    go_loop [0, 1] (HLoop (x, y)) (fun vy vx => (intOf vy).natAbs + (intOf vx).natAbs)
    case atStart => exact ⟨64, y, x, rfl, by omega, by omega, by omega, rfl, rfl, HN.out⟩
    case round =>
      obtain ⟨f, y', x', hp, hbx, hby, hf, rfl, rfl, hn⟩ := hrel
      obtain ⟨bx1, bx2⟩ := hbx
      obtain ⟨by1, by2⟩ := hby
      have HP := Lib.hid hp
      have HBX : Hid ((-2 ^ f ≤ x' ∧ x' < 2 ^ f) ∧ (-2 ^ f ≤ y' ∧ y' < 2 ^ f)) := ⟨⟨bx1, bx2⟩, by1, by2⟩
      have hi := hv_i64 hf ⟨bx1, bx2⟩
      have hj := hv_i64 hf ⟨by1, by2⟩
      have HNN := Lib.hid hn
      clear hp bx1 bx2 by1 by2 hn
      obtain ⟨i1, i2⟩ := hi
      obtain ⟨j1, j2⟩ := hj
      by_cases hg : big (x', y')
      · have hc := hg
        unfold big at hc
        dsimp only at hc
        have HS := Lib.hid (hv_step HP.out HBX.out hg)
        clear hg
        rcases hc with c | ⟨c, d⟩ | ⟨c, d, e⟩ | ⟨c, d, e, g⟩
        all_goals
          go_wp2
          go_round
          case rel =>
            obtain ⟨f', e1, e2, e3, e4, e5⟩ := HS.out
            exact ⟨f', y' / 2, x' / 2, e1, e2, e3, by omega, rfl, rfl, e5⟩
          case measure => simp [intOf]; omega
      · have hc := small hg
        obtain ⟨⟨c1, c2⟩, c3, c4⟩ := hc
        have HA := Lib.hid (angle_any x' y' c1 c2 c3 c4 HNN.out w HTB.out)
        have HE : Hid (hvF 64 (x, y) = (x', y')) := by unfold Hid; rw [← HP.out]; exact hv_end f hg
        clear hg
        go_wp2_with (go_at_call 48; refine HA.out.mono ?_; rintro e w' ⟨rfl, k, rfl⟩)
        go_ret2
        rw [HD.out, HE.out]
        exact ⟨rfl, below_dn (Below.refl _ _) _⟩
end Go.Proofs.YtdipainocdgfgaaDoor
