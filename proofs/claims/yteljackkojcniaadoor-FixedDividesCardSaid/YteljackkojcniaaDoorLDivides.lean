/- The walk of the law FixedDivides: it returns true. Conditions: the integers are ints; the table of the powers of ten lies in memory. -/
import Derived.Test.YteljackkojcniaaDoorI
namespace Go.Proofs.YteljackkojcniaaDoor
open Go.RowKit
set_option linter.unusedVariables false

/-- A rounded quotient times the divisor is near the product. -/
theorem mdS_near {a b c n : Int} (hc : c ≠ 0) (h : mdS a b c 2 = (n, true)) : 2 * (n * c - a * b) ≤ mg c ∧ 2 * (a * b - n * c) ≤ mg c := by
  unfold mdS mdA at h
  have hx : mg a * mg b = mg (a * b) := mg_mul a b
  rw [hx] at h
  have hD : 0 < mg c := by unfold mg; omega
  have hd := Int.mul_ediv_add_emod (mg (a * b)) (mg c)
  have h0 := Int.emod_nonneg (mg (a * b)) (b := mg c) (by omega)
  have h1 := Int.emod_lt_of_pos (mg (a * b)) hD
  generalize mg (a * b) / mg c = q at *
  generalize mg (a * b) % mg c = r at *
  have hg : ∀ neg : Bool, ∃ g : Int, (if grw 2 (half r (mg c)) (decide (0 < r)) neg then (1 : Int) else 0) = g ∧ ((g = 1 ∧ mg c ≤ 2 * r) ∨ (g = 0 ∧ 2 * r ≤ mg c)) := by
    intro neg
    refine ⟨_, rfl, ?_⟩
    rcases Int.lt_trichotomy (mg c - r) r with hh | hh | hh
    · rw [half_hi hh]; simp [grw]; omega
    · rw [half_eq hh.symm]; cases neg <;> simp [grw] <;> omega
    · rw [half_lo hh]; simp [grw]; omega
  obtain ⟨g, e, hgg⟩ := hg (ngt a b c)
  rw [e] at h
  have hn : n = if ngt a b c then -(q + g) else q + g := by
    unfold sgnd at h
    split at h
    · split at h
      · rename_i h2 _; rw [if_pos h2]; exact (congrArg Prod.fst h).symm
      · cases congrArg Prod.snd h
    · split at h
      · rename_i h2 _; rw [if_neg h2]; exact (congrArg Prod.fst h).symm
      · cases congrArg Prod.snd h
  have hsg : (a * b < 0 ∧ sg a b = -1) ∨ (0 < a * b ∧ sg a b = 1) ∨ (a * b = 0 ∧ sg a b = 0) := by
    unfold sg
    by_cases ha : a = 0
    · subst ha; simp
    by_cases hb : b = 0
    · subst hb; simp
    rw [if_neg (by omega)]
    by_cases hs : (a < 0 ↔ b < 0)
    · rw [if_pos hs]
      have : 0 < a * b := by
        rcases Int.lt_or_le a 0 with ha' | ha'
        · exact Int.mul_pos_of_neg_of_neg ha' (by omega)
        · exact Int.mul_pos (by omega) (by omega)
      exact Or.inr (Or.inl ⟨this, rfl⟩)
    · rw [if_neg hs]
      have : a * b < 0 := by
        rcases Int.lt_or_le a 0 with ha' | ha'
        · exact Int.mul_neg_of_neg_of_pos ha' (by omega)
        · exact Int.mul_neg_of_pos_of_neg (by omega) (by omega)
      exact Or.inl ⟨this, rfl⟩
  have hQ : mg c * (q + g) = mg c * q + mg c * g := Int.mul_add _ _ _
  have hG : (g = 1 ∧ mg c * g = mg c ∧ mg c ≤ 2 * r) ∨ (g = 0 ∧ mg c * g = 0 ∧ 2 * r ≤ mg c) := by
    rcases hgg with ⟨e1, e2⟩ | ⟨e1, e2⟩
    · exact Or.inl ⟨e1, by rw [e1]; omega, e2⟩
    · exact Or.inr ⟨e1, by rw [e1]; omega, e2⟩
  have hcc : (0 < c ∧ mg c = c) ∨ (c < 0 ∧ mg c = -c) := by unfold mg; omega
  have hP : mg (a * b) = a * b ∨ mg (a * b) = -(a * b) := by unfold mg; omega
  have hP2 : 0 ≤ mg (a * b) := mg_nonneg _
  have hnc : n * c = mg c * (q + g) ∨ n * c = -(mg c * (q + g)) := by
    rcases hcc with ⟨_, e1⟩ | ⟨_, e1⟩ <;> rw [e1, hn] <;> split
    · right; rw [Int.neg_mul, Int.mul_comm]
    · left; rw [Int.mul_comm]
    · left; rw [Int.mul_comm, Int.mul_neg, Int.neg_mul]
    · right; rw [Int.mul_comm, Int.neg_mul, Int.neg_neg]
  have hsgn : (n * c = mg c * (q + g) ∧ mg (a * b) = a * b) ∨ (n * c = -(mg c * (q + g)) ∧ mg (a * b) = -(a * b)) := by
    unfold ngt at hn
    rcases hsg with ⟨s1, s2⟩ | ⟨s1, s2⟩ | ⟨s1, s2⟩
    · right
      refine ⟨?_, by unfold mg; omega⟩
      rcases hcc with ⟨c1, e1⟩ | ⟨c1, e1⟩
      · have : n = -(q + g) := by rw [hn, s2]; simp; omega
        rw [this, e1, Int.neg_mul, Int.mul_comm]
      · have : n = q + g := by rw [hn, s2]; simp; omega
        rw [this, e1, Int.neg_mul, Int.neg_neg, Int.mul_comm]
    · left
      refine ⟨?_, by unfold mg; omega⟩
      rcases hcc with ⟨c1, e1⟩ | ⟨c1, e1⟩
      · have : n = q + g := by rw [hn, s2]; simp; omega
        rw [this, e1, Int.mul_comm]
      · have : n = -(q + g) := by rw [hn, s2]; simp; omega
        rw [this, e1, Int.neg_mul, Int.neg_mul, Int.mul_comm]
    · rcases hnc with e | e
      · exact Or.inl ⟨e, by unfold mg; omega⟩
      · exact Or.inr ⟨e, by unfold mg; omega⟩
  generalize mg c * (q + g) = T at *
  generalize mg c * g = G at *
  generalize mg c * q = S at *
  generalize n * c = N at *
  generalize mg (a * b) = M at *
  generalize a * b = P at *
  omega

theorem scaS_cases (a b c : Int) (hc : c ≠ 0) : scaS a b c = (0, 3) ∨ ∃ n, vld n = true ∧ scaS a b c = (n, 0) ∧ 2 * (n * c - a * b) ≤ mg c ∧ 2 * (a * b - n * c) ≤ mg c := by
  unfold scaS
  rcases hm : mdS a b c 2 with ⟨n, ok⟩
  cases ok
  · exact Or.inl rfl
  · rcases hv : vld n with _ | _
    · left; simp [chk_no hv]
    · right
      exact ⟨n, hv, by simp [chk_yes hv], mdS_near hc hm⟩
set_option maxRecDepth 100000 in
set_option maxHeartbeats 1000000 in
theorem divides_any (a b : Int) (ha1 : -9223372036854775808 ≤ a) (ha2 : a ≤ 9223372036854775807) (hb1 : -9223372036854775808 ≤ b) (hb2 : b ≤ 9223372036854775807) (w : World) (ht : Tab w) :
    Calls Tryd.prog 13 #[.int .i64 a, .int .i64 b] w fun e w' => e = .returned (.bool true) ∧ Below w.heap.size w w' := by
  have HB : Hid (Below w.heap.size w w) := Below.refl _ _
  have HT := Lib.hid ht; clear ht
  have na := num_bd a
  have va := vld_num a
  obtain ⟨A, hA⟩ : ∃ A, num a = A := ⟨_, rfl⟩
  rw [hA] at na va
  have nb := btw_bd b (-1000000000) 1000000000 (by omega)
  obtain ⟨B, hB⟩ : ∃ B, btw b (-1000000000) 1000000000 = B := ⟨_, rfl⟩
  rw [hB] at nb
  have vb : vld B = true := vld_mk (by omega) (by omega)
  by_cases hz : B = 0
  · subst hz
    have e0 := divS_zero va
    clear va vb
    · go_enter Tryd.func13, Tryd.ntmps13
      go_wp2_with (first | (go_at_call 23; refine (num_any _ (by omega) (by omega) _).mono ?_; rintro e w' ⟨rfl, rfl⟩) | (go_at_call 30; refine (btw_any _ _ _ (by omega) (by omega) (by omega) (by omega) (by omega) _).mono ?_; rintro e w' ⟨rfl, rfl⟩) | (go_at_call 40; refine (divf_any _ _ (by omega) (by omega) (by omega) (by omega) _).mono ?_; rintro e w1 ⟨rfl, hb⟩; have HN := Lib.hid (below2 HB.out hb); clear HB hb; have HB := Lib.hid HN.out; clear HN) | (go_at_call 41; refine (mulf_any _ _ (by omega) (by omega) (by omega) (by omega) _).mono ?_; rintro e w1 ⟨rfl, hb⟩; have HN := Lib.hid (below2 HB.out hb); clear HB hb; have HB := Lib.hid HN.out; clear HN) | (go_at_call 18; refine (awake_any _ (HT.out.below HB.out)).mono ?_; rintro e w1 ⟨rfl, hb⟩; have HN := Lib.hid (below2 HB.out hb); clear HB hb; have HB := Lib.hid HN.out; clear HN))
      all_goals go_ret
      all_goals exact ⟨by first | rfl | exact congrArg (fun q => Ending.returned (.bool q)) (decide_eq_true (by omega)), HB.out⟩

  · have hz' : (B == 0) = false := by simpa using hz
    have e0 := divS_yes va vb hz
    rcases scaS_cases A 1000000 B hz with hs | ⟨q, vq, hs, q1, q2⟩
    · rw [hs] at e0
      have e1 := mulS_yes (show vld 0 = true from rfl) vb
      clear hs hz va
      rcases scaS_cases 0 B 1000000 (by omega) with hs | ⟨p, vp, hs, _, _⟩
      all_goals
        rw [hs] at e1
        clear hs
      · go_enter Tryd.func13, Tryd.ntmps13
        go_wp2_with (first | (go_at_call 23; refine (num_any _ (by omega) (by omega) _).mono ?_; rintro e w' ⟨rfl, rfl⟩) | (go_at_call 30; refine (btw_any _ _ _ (by omega) (by omega) (by omega) (by omega) (by omega) _).mono ?_; rintro e w' ⟨rfl, rfl⟩) | (go_at_call 40; refine (divf_any _ _ (by omega) (by omega) (by omega) (by omega) _).mono ?_; rintro e w1 ⟨rfl, hb⟩; have HN := Lib.hid (below2 HB.out hb); clear HB hb; have HB := Lib.hid HN.out; clear HN) | (go_at_call 41; refine (mulf_any _ _ (by omega) (by omega) (by omega) (by omega) _).mono ?_; rintro e w1 ⟨rfl, hb⟩; have HN := Lib.hid (below2 HB.out hb); clear HB hb; have HB := Lib.hid HN.out; clear HN) | (go_at_call 18; refine (awake_any _ (HT.out.below HB.out)).mono ?_; rintro e w1 ⟨rfl, hb⟩; have HN := Lib.hid (below2 HB.out hb); clear HB hb; have HB := Lib.hid HN.out; clear HN))
        all_goals go_ret
        all_goals exact ⟨by first | rfl | exact congrArg (fun q => Ending.returned (.bool q)) (decide_eq_true (by omega)), HB.out⟩

      · go_enter Tryd.func13, Tryd.ntmps13
        go_wp2_with (first | (go_at_call 23; refine (num_any _ (by omega) (by omega) _).mono ?_; rintro e w' ⟨rfl, rfl⟩) | (go_at_call 30; refine (btw_any _ _ _ (by omega) (by omega) (by omega) (by omega) (by omega) _).mono ?_; rintro e w' ⟨rfl, rfl⟩) | (go_at_call 40; refine (divf_any _ _ (by omega) (by omega) (by omega) (by omega) _).mono ?_; rintro e w1 ⟨rfl, hb⟩; have HN := Lib.hid (below2 HB.out hb); clear HB hb; have HB := Lib.hid HN.out; clear HN) | (go_at_call 41; refine (mulf_any _ _ (by omega) (by omega) (by omega) (by omega) _).mono ?_; rintro e w1 ⟨rfl, hb⟩; have HN := Lib.hid (below2 HB.out hb); clear HB hb; have HB := Lib.hid HN.out; clear HN) | (go_at_call 18; refine (awake_any _ (HT.out.below HB.out)).mono ?_; rintro e w1 ⟨rfl, hb⟩; have HN := Lib.hid (below2 HB.out hb); clear HB hb; have HB := Lib.hid HN.out; clear HN))
        all_goals go_ret
        all_goals exact ⟨by first | rfl | exact congrArg (fun q => Ending.returned (.bool q)) (decide_eq_true (by omega)), HB.out⟩

    · rw [hs] at e0
      have e1 := mulS_yes vq vb
      have bq := vld_yes vq
      clear hs hz va
      rcases scaS_cases q B 1000000 (by omega) with hs | ⟨p, vp, hs, p1, p2⟩
      · rw [hs] at e1
        clear hs q1 q2
        · go_enter Tryd.func13, Tryd.ntmps13
          go_wp2_with (first | (go_at_call 23; refine (num_any _ (by omega) (by omega) _).mono ?_; rintro e w' ⟨rfl, rfl⟩) | (go_at_call 30; refine (btw_any _ _ _ (by omega) (by omega) (by omega) (by omega) (by omega) _).mono ?_; rintro e w' ⟨rfl, rfl⟩) | (go_at_call 40; refine (divf_any _ _ (by omega) (by omega) (by omega) (by omega) _).mono ?_; rintro e w1 ⟨rfl, hb⟩; have HN := Lib.hid (below2 HB.out hb); clear HB hb; have HB := Lib.hid HN.out; clear HN) | (go_at_call 41; refine (mulf_any _ _ (by omega) (by omega) (by omega) (by omega) _).mono ?_; rintro e w1 ⟨rfl, hb⟩; have HN := Lib.hid (below2 HB.out hb); clear HB hb; have HB := Lib.hid HN.out; clear HN) | (go_at_call 18; refine (awake_any _ (HT.out.below HB.out)).mono ?_; rintro e w1 ⟨rfl, hb⟩; have HN := Lib.hid (below2 HB.out hb); clear HB hb; have HB := Lib.hid HN.out; clear HN))
          all_goals go_ret
          all_goals exact ⟨by first | rfl | exact congrArg (fun q => Ending.returned (.bool q)) (decide_eq_true (by omega)), HB.out⟩

      · rw [hs] at e1
        have bp := vld_yes vp
        have hm : mg 1000000 = 1000000 := rfl
        have hmB : (0 ≤ B ∧ mg B = B) ∨ (B < 0 ∧ mg B = -B) := by unfold mg; omega
        rw [hm] at p1 p2
        generalize hT : q * B = T at p1 p2 q1 q2
        have k1 : 0 ≤ B → 2 * (p - A) ≤ B / 1000000 + 2 ∧ 2 * (A - p) ≤ B / 1000000 + 2 := by omega
        have k2 : B < 0 → 2 * (p - A) ≤ -B / 1000000 + 2 ∧ 2 * (A - p) ≤ -B / 1000000 + 2 := by omega
        clear hs q1 q2 p1 p2 hm hmB hT
        by_cases hn : B < 0
        · have k3 := k2 hn
          clear k1 k2
          go_enter Tryd.func13, Tryd.ntmps13
          go_wp2_with (first | (go_at_call 23; refine (num_any _ (by omega) (by omega) _).mono ?_; rintro e w' ⟨rfl, rfl⟩) | (go_at_call 30; refine (btw_any _ _ _ (by omega) (by omega) (by omega) (by omega) (by omega) _).mono ?_; rintro e w' ⟨rfl, rfl⟩) | (go_at_call 40; refine (divf_any _ _ (by omega) (by omega) (by omega) (by omega) _).mono ?_; rintro e w1 ⟨rfl, hb⟩; have HN := Lib.hid (below2 HB.out hb); clear HB hb; have HB := Lib.hid HN.out; clear HN) | (go_at_call 41; refine (mulf_any _ _ (by omega) (by omega) (by omega) (by omega) _).mono ?_; rintro e w1 ⟨rfl, hb⟩; have HN := Lib.hid (below2 HB.out hb); clear HB hb; have HB := Lib.hid HN.out; clear HN) | (go_at_call 18; refine (awake_any _ (HT.out.below HB.out)).mono ?_; rintro e w1 ⟨rfl, hb⟩; have HN := Lib.hid (below2 HB.out hb); clear HB hb; have HB := Lib.hid HN.out; clear HN))
          all_goals go_ret
          all_goals exact ⟨by first | rfl | exact congrArg (fun q => Ending.returned (.bool q)) (decide_eq_true (by omega)), HB.out⟩

        · have k3 := k1 (by omega)
          clear k1 k2
          go_enter Tryd.func13, Tryd.ntmps13
          go_wp2_with (first | (go_at_call 23; refine (num_any _ (by omega) (by omega) _).mono ?_; rintro e w' ⟨rfl, rfl⟩) | (go_at_call 30; refine (btw_any _ _ _ (by omega) (by omega) (by omega) (by omega) (by omega) _).mono ?_; rintro e w' ⟨rfl, rfl⟩) | (go_at_call 40; refine (divf_any _ _ (by omega) (by omega) (by omega) (by omega) _).mono ?_; rintro e w1 ⟨rfl, hb⟩; have HN := Lib.hid (below2 HB.out hb); clear HB hb; have HB := Lib.hid HN.out; clear HN) | (go_at_call 41; refine (mulf_any _ _ (by omega) (by omega) (by omega) (by omega) _).mono ?_; rintro e w1 ⟨rfl, hb⟩; have HN := Lib.hid (below2 HB.out hb); clear HB hb; have HB := Lib.hid HN.out; clear HN) | (go_at_call 18; refine (awake_any _ (HT.out.below HB.out)).mono ?_; rintro e w1 ⟨rfl, hb⟩; have HN := Lib.hid (below2 HB.out hb); clear HB hb; have HB := Lib.hid HN.out; clear HN))
          all_goals go_ret
          all_goals exact ⟨by first | rfl | exact congrArg (fun q => Ending.returned (.bool q)) (decide_eq_true (by omega)), HB.out⟩

end Go.Proofs.YteljackkojcniaaDoor
