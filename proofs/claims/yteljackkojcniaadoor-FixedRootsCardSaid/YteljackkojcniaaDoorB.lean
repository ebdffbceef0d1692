/- The contracts of digit and Parse, of fixed and of cncref02: each returns what the plain function parseS gives. Conditions: the string is no longer than a Go string can be. -/
import Derived.Test.YteljackkojcniaaDoorA
import Derived.Test.YteljackkojcniaaDoorPlb
namespace Go.Proofs.YteljackkojcniaaDoor
open Go.RowKit Go.PlainAid
set_option linter.unusedVariables false

theorem digit_any (c : Int) (w : World) :
    Calls Tryd.prog 54 #[.int .u8 c] w fun e w' => e = .returned (.bool (dgt c)) ∧ w = w' := by
  by_cases h1 : 48 ≤ c
  · by_cases h2 : c ≤ 57
    · rw [dgt_mk h1 h2]
      go_enter Tryd.func54, Tryd.ntmps54
      go_wp2
      go_ret
      exact ⟨rfl, rfl⟩
    · rw [dgt_out (by omega)]
      go_enter Tryd.func54, Tryd.ntmps54
      go_wp2
      go_ret
      exact ⟨rfl, rfl⟩
  · rw [dgt_out (by omega)]
    go_enter Tryd.func54, Tryd.ntmps54
    go_wp2
    go_ret
    exact ⟨rfl, rfl⟩
theorem digit_ref (c : Int) (w : World) :
    Calls Tryd.prog 55 #[.int .u8 c] w fun e w' => e = .returned (.bool (dgt c)) ∧ w = w' := by
  by_cases h1 : 48 ≤ c
  · by_cases h2 : c ≤ 57
    · rw [dgt_mk h1 h2]
      go_enter Tryd.func55, Tryd.ntmps55
      go_wp2
      go_ret
      exact ⟨rfl, rfl⟩
    · rw [dgt_out (by omega)]
      go_enter Tryd.func55, Tryd.ntmps55
      go_wp2
      go_ret
      exact ⟨rfl, rfl⟩
  · rw [dgt_out (by omega)]
    go_enter Tryd.func55, Tryd.ntmps55
    go_wp2
    go_ret
    exact ⟨rfl, rfl⟩

/-- What the loop of cncref02.Parse keeps. -/
def RefRel (s : ByteArray) (R : Option (Nat × Nat × Int)) (wh pa po n i : Value) : Prop :=
  ∃ (w p : Nat) (pt : Bool) (m : Int) (k : Nat), wh = .int .i64 w ∧ pa = .int .i64 p ∧ po = .bool pt ∧ n = .int .i64 m ∧ i = .int .i64 k ∧ k ≤ s.size ∧ w ≤ 9 ∧ p ≤ 6 ∧ 0 ≤ m ∧ m < 10 ^ (w + p) ∧ prs ((strI s).drop k) w p pt m = R

set_option maxHeartbeats 400000 in
theorem parse_ref (s : ByteArray) (hs : s.size ≤ maxLen) (w : World) :
    Calls Tryd.prog 22 #[.string s] w fun e w' => e = .returned (.tuple #[.int .i64 (parseS (strI s)).1, .int .i64 (parseS (strI s)).2]) ∧ w = w' := by
  unfold maxLen at hs
  have hbt := get_bt s
  go_enter Tryd.func22, Tryd.ntmps22
  go_wp2
  go_loop [4, 5, 6, 7, 8] (RefRel s (prs (strI s) 0 0 false 0)) (fun _ _ _ _ i => s.size - (intOf i).toNat)
  case atStart => exact ⟨0, 0, false, 0, 0, rfl, rfl, rfl, rfl, rfl, by omega, by omega, by omega, by omega, by decide, rfl⟩
  case round =>
    obtain ⟨wh, pa, pt, m, k, rfl, rfl, rfl, rfl, rfl, hk, hw, hp, hm0, hm1, hR⟩ := hrel
    have hm2 : m < 100000000000000000 := by have := p10_le (k := wh + pa) (by omega); omega
    have HR := Lib.hid hR; clear hR
    have HM := Lib.hid hm1; clear hm1
    by_cases hlt : k < s.size
    · have hdr := Lib.hid (strI_drop s k hlt)
      have b0 := bt_nonneg s k
      have b1 := bt_le s k
      rcases hd : dgt (bt s k) with _ | _
      · by_cases h46 : bt s k = 46
        · have h46' : (bt s k == 46) = true := by simpa using h46
          have H46 := Lib.hid h46; clear h46
          cases pt
          · go_wp2_with (go_at_call 55; refine (digit_ref _ _).mono ?_; rintro e w' ⟨rfl, rfl⟩)
            go_round
            case rel => exact ⟨wh, pa, true, m, k + 1, rfl, rfl, rfl, rfl, by go_num, by omega, hw, hp, hm0, HM.out, by rw [← HR.out, hdr.out, prs_point H46.out]⟩
            case measure => simp [intOf]; omega
          · have hR : Hid (prs (strI s) 0 0 false 0 = none) := by have h := HR.out; rw [hdr.out, prs_bad hd (Or.inr rfl)] at h; exact h.symm
            go_wp2_with (go_at_call 55; refine (digit_ref _ _).mono ?_; rintro e w' ⟨rfl, rfl⟩)
            go_ret2
            exact ⟨by unfold parseS; rw [hR.out]; rfl, rfl⟩
        · have h46' : (bt s k == 46) = false := by simpa using h46
          have hR : Hid (prs (strI s) 0 0 false 0 = none) := by have h := HR.out; rw [hdr.out, prs_bad hd (Or.inl h46)] at h; exact h.symm
          clear h46
          go_wp2_with (go_at_call 55; refine (digit_ref _ _).mono ?_; rintro e w' ⟨rfl, rfl⟩)
          go_ret2
          exact ⟨by unfold parseS; rw [hR.out]; rfl, rfl⟩
      · have c0 := dgt_yes hd
        have h46' : (bt s k == 46) = false := by simp; omega
        cases pt
        · by_cases h9 : wh < 9
          · go_wp2_with (go_at_call 55; refine (digit_ref _ _).mono ?_; rintro e w' ⟨rfl, rfl⟩)
            go_round
            case rel => exact ⟨wh + 1, pa, false, 10 * m + (bt s k - 48), k + 1, by go_num, rfl, rfl, rfl, by go_num, by omega, by omega, hp, by omega, by rw [show wh + 1 + pa = wh + pa + 1 from by omega]; exact p10_step HM.out c0.1 c0.2, by rw [← HR.out, hdr.out, prs_whole hd h9]⟩
            case measure => simp [intOf]; omega
          · have hR : Hid (prs (strI s) 0 0 false 0 = none) := by have h := HR.out; rw [hdr.out, prs_whole_no hd (by omega)] at h; exact h.symm
            obtain rfl : wh = 9 := by omega
            go_wp2_with (go_at_call 55; refine (digit_ref _ _).mono ?_; rintro e w' ⟨rfl, rfl⟩)
            go_ret2
            exact ⟨by unfold parseS; rw [hR.out]; rfl, rfl⟩
        · by_cases h9 : pa < 6
          · go_wp2_with (go_at_call 55; refine (digit_ref _ _).mono ?_; rintro e w' ⟨rfl, rfl⟩)
            go_round
            case rel => exact ⟨wh, pa + 1, true, 10 * m + (bt s k - 48), k + 1, rfl, by go_num, rfl, rfl, by go_num, by omega, hw, by omega, by omega, by rw [show wh + (pa + 1) = wh + pa + 1 from by omega]; exact p10_step HM.out c0.1 c0.2, by rw [← HR.out, hdr.out, prs_part hd h9]⟩
            case measure => simp [intOf]; omega
          · have hR : Hid (prs (strI s) 0 0 false 0 = none) := by have h := HR.out; rw [hdr.out, prs_part_no hd (by omega)] at h; exact h.symm
            obtain rfl : pa = 6 := by omega
            go_wp2_with (go_at_call 55; refine (digit_ref _ _).mono ?_; rintro e w' ⟨rfl, rfl⟩)
            go_ret2
            exact ⟨by unfold parseS; rw [hR.out]; rfl, rfl⟩
    · have hR : Hid (prs (strI s) 0 0 false 0 = some (wh, pa, m)) := by have h := HR.out; rw [strI_end s k (by omega)] at h; exact h.symm
      clear HR
      by_cases h0 : wh + pa = 0
      · obtain rfl : wh = 0 := by omega
        obtain rfl : pa = 0 := by omega
        go_wp2_with (go_at_call 55; refine (digit_ref _ _).mono ?_; rintro e w' ⟨rfl, rfl⟩)
        go_ret2
        exact ⟨by unfold parseS; rw [hR.out]; rfl, rfl⟩
      · have hF : Hid (parseS (strI s) = (m * 10 ^ (6 - pa), 0)) := by unfold Hid parseS; rw [hR.out]; unfold fin; simp only [h0, if_false]
        clear hR
        have h0' : ((wh : Int) + pa == 0) = false := by simp; omega
        go_wp2_with (go_at_call 55; refine (digit_ref _ _).mono ?_; rintro e w' ⟨rfl, rfl⟩)
        go_loop [5, 7] (fun pa' n => ∃ (q : Nat) (m' : Int), pa' = .int .i64 q ∧ n = .int .i64 m' ∧ q ≤ 6 ∧ 0 ≤ m' ∧ m' < 10 ^ (wh + q) ∧ m' * 10 ^ (6 - q) = m * 10 ^ (6 - pa)) (fun pa' _ => 6 - (intOf pa').toNat)
        case atStart => exact ⟨pa, m, rfl, rfl, hp, hm0, HM.out, rfl⟩
        case round =>
          obtain ⟨q, m', rfl, rfl, hq, hm0', hm1', hE⟩ := hrel
          have hm2' : m' < 100000000000000000 := by have := p10_le (k := wh + q) (by omega); omega
          have HE := Lib.hid hE; clear hE
          have HM' := Lib.hid hm1'; clear hm1'
          by_cases hq6 : q < 6
          · go_wp2
            go_round
            case rel => exact ⟨q + 1, 10 * m', by go_num, rfl, by omega, by omega, by have := Int.pow_succ 10 (wh + q); have := HM'.out; rw [show wh + (q + 1) = wh + q + 1 from by omega]; omega, by rw [← HE.out, show 6 - q = 6 - (q + 1) + 1 from by omega, Int.pow_succ, Int.mul_comm 10 m', Int.mul_assoc, Int.mul_comm 10]⟩
            case measure => simp [intOf]; omega
          · obtain rfl : q = 6 := by omega
            go_wp2
            go_ret2
            exact ⟨by rw [hF.out]; exact ret_two (by have := HE.out; simpa using this) rfl, rfl⟩

/-- What the first loop of fixed.Parse keeps. -/
def Rel1 (s : ByteArray) (R : Option (Nat × Nat × Int)) (a n : Value) : Prop :=
  ∃ (k : Nat) (m : Int), a = .int .i64 k ∧ n = .int .i64 m ∧ k ≤ s.size ∧ k ≤ 10 ∧ 0 ≤ m ∧ m < 10 ^ k ∧ (k ≤ 9 → prs ((strI s).drop k) k 0 false m = R) ∧ (k = 10 → R = none)
/-- What the second loop of fixed.Parse keeps. -/
def Rel2 (s : ByteArray) (R : Option (Nat × Nat × Int)) (f : Nat) (a n b : Value) : Prop :=
  ∃ (k q : Nat) (m : Int), a = .int .i64 k ∧ n = .int .i64 m ∧ b = .int .i64 q ∧ k ≤ s.size ∧ q ≤ 7 ∧ k ≤ f + 1 + q ∧ 0 ≤ m ∧ m < 10 ^ (f + q) ∧ (q ≤ 6 → prs ((strI s).drop k) f q true m = R) ∧ (q = 7 → R = none)
/-- What the third loop keeps. -/
def Rel3 (f q : Nat) (m : Int) (n b : Value) : Prop :=
  ∃ (q' : Nat) (m' : Int), b = .int .i64 q' ∧ n = .int .i64 m' ∧ q' ≤ 6 ∧ 0 ≤ m' ∧ m' < 10 ^ (f + q') ∧ m' * 10 ^ (6 - q') = m * 10 ^ (6 - q)
theorem rel3_step {f q q' : Nat} {m m' : Int} (h : q' < 6) (h0 : 0 ≤ m') (h1 : m' < 10 ^ (f + q')) (hE : m' * 10 ^ (6 - q') = m * 10 ^ (6 - q)) : Rel3 f q m (.int .i64 (m' * 10)) (.int .i64 ((q' : Int) + 1)) :=
  ⟨q' + 1, m' * 10, by go_num, rfl, by omega, by omega, by have := Int.pow_succ 10 (f + q'); rw [show f + (q' + 1) = f + q' + 1 from by omega]; omega, by rw [← hE, show 6 - q' = 6 - (q' + 1) + 1 from by omega, Int.pow_succ, Int.mul_assoc, Int.mul_comm 10]⟩
theorem fin_some {w p : Nat} {n : Int} (h : w + p ≠ 0) : fin (some (w, p, n)) = (n * 10 ^ (6 - p), 0) := by unfold fin; simp only [h, if_false]

set_option maxHeartbeats 400000 in
theorem parse_any (s : ByteArray) (hs : s.size ≤ maxLen) (w : World) :
    Calls Tryd.prog 21 #[.string s] w fun e w' => e = .returned (.tuple #[.int .i64 (parseS (strI s)).1, .int .i64 (parseS (strI s)).2]) ∧ w = w' := by
  unfold maxLen at hs
  have hbt := get_bt s
  go_enter Tryd.func21, Tryd.ntmps21
  go_wp2
  go_loop [4, 5] (Rel1 s (prs (strI s) 0 0 false 0)) (fun i _ => 10 - (intOf i).toNat)
  case atStart => exact ⟨0, 0, rfl, rfl, by omega, by omega, by omega, by decide, fun _ => rfl, fun h => by omega⟩
  case round =>
    obtain ⟨k, m, rfl, rfl, hk, hk10, hm0, hm1, hR, hRn⟩ := hrel
    have hm2 : m < 100000000000000000 := by have := p10_le (k := k) (by omega); omega
    have HR := Lib.hid hR; clear hR
    have HN := Lib.hid hRn; clear hRn
    have HM := Lib.hid hm1; clear hm1
    by_cases hk9 : k ≤ 9
    case neg =>
      obtain rfl : k = 10 := by omega
      have hR : Hid (prs (strI s) 0 0 false 0 = none) := HN.out rfl
      by_cases hlt : 10 < s.size
      · rcases hd : dgt (bt s 10) with _ | _
        all_goals
          go_wp2_with (go_at_call 54; refine (digit_any _ _).mono ?_; rintro e w' ⟨rfl, rfl⟩)
          go_ret2
          exact ⟨by unfold parseS; rw [hR.out]; rfl, rfl⟩
      · go_wp2_with (go_at_call 54; refine (digit_any _ _).mono ?_; rintro e w' ⟨rfl, rfl⟩)
        go_ret2
        exact ⟨by unfold parseS; rw [hR.out]; rfl, rfl⟩
    have HR' := Lib.hid (HR.out hk9); clear HR HN
    by_cases hlt : k < s.size
    · have hdr := Lib.hid (strI_drop s k hlt)
      have b0 := bt_nonneg s k
      have b1 := bt_le s k
      rcases hd : dgt (bt s k) with _ | _
      · by_cases h46 : bt s k = 46
        · have h46' : (bt s k == 46) = true := by simpa using h46
          have H46 := Lib.hid h46; clear h46
          have H2 : Hid (prs ((strI s).drop (k + 1)) k 0 true m = prs (strI s) 0 0 false 0) := by rw [← HR'.out, hdr.out, prs_point H46.out]; rfl
          go_wp2_with (go_at_call 54; refine (digit_any _ _).mono ?_; rintro e w' ⟨rfl, rfl⟩)
          go_loop [4, 5, 7] (Rel2 s (prs (strI s) 0 0 false 0) k) (fun _ _ b => 7 - (intOf b).toNat)
          case atStart => exact ⟨k + 1, 0, m, by go_num, rfl, rfl, by omega, by omega, by omega, hm0, HM.out, fun _ => H2.out, fun h => by omega⟩
          case round =>
            obtain ⟨j, q, m', rfl, rfl, rfl, hj, hq7, hjf, hm0', hm1', hR2, hRn2⟩ := hrel
            have hm2' : m' < 100000000000000000 := by have := p10_le (k := k + q) (by omega); omega
            have HR2 := Lib.hid hR2; clear hR2
            have HN2 := Lib.hid hRn2; clear hRn2
            have HM' := Lib.hid hm1'; clear hm1'
            by_cases hq6 : q ≤ 6
            case neg =>
              obtain rfl : q = 7 := by omega
              have hR : Hid (prs (strI s) 0 0 false 0 = none) := HN2.out rfl
              by_cases hlt2 : j < s.size
              · rcases hd2 : dgt (bt s j) with _ | _
                all_goals
                  go_wp2_with (go_at_call 54; refine (digit_any _ _).mono ?_; rintro e w' ⟨rfl, rfl⟩)
                  go_ret2
                  exact ⟨by unfold parseS; rw [hR.out]; rfl, rfl⟩
              · go_wp2_with (go_at_call 54; refine (digit_any _ _).mono ?_; rintro e w' ⟨rfl, rfl⟩)
                go_ret2
                exact ⟨by unfold parseS; rw [hR.out]; rfl, rfl⟩
            have HR3 := Lib.hid (HR2.out hq6); clear HR2 HN2
            by_cases hlt2 : j < s.size
            · have hdr2 := Lib.hid (strI_drop s j hlt2)
              have d0 := bt_nonneg s j
              have d1 := bt_le s j
              rcases hd2 : dgt (bt s j) with _ | _
              · have hR : Hid (prs (strI s) 0 0 false 0 = none) := by have h := HR3.out; rw [hdr2.out, prs_bad hd2 (Or.inr rfl)] at h; exact h.symm
                go_wp2_with (go_at_call 54; refine (digit_any _ _).mono ?_; rintro e w' ⟨rfl, rfl⟩)
                go_ret2
                exact ⟨by unfold parseS; rw [hR.out]; rfl, rfl⟩
              · have c0 := dgt_yes hd2
                go_wp2_with (go_at_call 54; refine (digit_any _ _).mono ?_; rintro e w' ⟨rfl, rfl⟩)
                go_round
                case rel =>
                  refine ⟨j + 1, q + 1, 10 * m' + (bt s j - 48), by go_num, rfl, by go_num, by omega, by omega, by omega, by omega, by rw [show k + (q + 1) = k + q + 1 from by omega]; exact p10_step HM'.out c0.1 c0.2, fun h => ?_, fun h => ?_⟩
                  · rw [← HR3.out, hdr2.out, prs_part hd2 (by omega)]
                  · rw [← HR3.out, hdr2.out, prs_part_no hd2 (by omega)]
                case measure => simp [intOf]; omega
            · have hR : Hid (prs (strI s) 0 0 false 0 = some (k, q, m')) := by have h := HR3.out; rw [strI_end s j (by omega)] at h; exact h.symm
              clear HR3
              by_cases h0 : k + q = 0
              · obtain rfl : k = 0 := by omega
                obtain rfl : q = 0 := by omega
                go_wp2_with (go_at_call 54; refine (digit_any _ _).mono ?_; rintro e w' ⟨rfl, rfl⟩)
                go_ret2
                exact ⟨by unfold parseS; rw [hR.out]; rfl, rfl⟩
              · have hF : Hid (parseS (strI s) = (m' * 10 ^ (6 - q), 0)) := by unfold Hid parseS; rw [hR.out]; exact fin_some h0
                clear hR
                have h0' : ((k : Int) + q == 0) = false := by simp; omega
                go_wp2_with (go_at_call 54; refine (digit_any _ _).mono ?_; rintro e w' ⟨rfl, rfl⟩)
                go_loop [5, 7] (Rel3 k q m') (fun _ b => 6 - (intOf b).toNat)
                case atStart => exact ⟨q, m', rfl, rfl, hq6, hm0', HM'.out, rfl⟩
                case round =>
                  obtain ⟨q', m2, rfl, rfl, hq, hm0', hm1', hE⟩ := hrel
                  have hm2' : m2 < 100000000000000000 := by have := p10_le (k := k + q') (by omega); omega
                  have HE := Lib.hid hE; clear hE
                  have HM' := Lib.hid hm1'; clear hm1'
                  by_cases hq6 : q' < 6
                  · go_wp2
                    go_round
                    case rel => exact rel3_step hq6 hm0' HM'.out HE.out
                    case measure => simp [intOf]; omega
                  · obtain rfl : q' = 6 := by omega
                    go_wp2
                    go_ret2
                    exact ⟨by rw [hF.out]; exact ret_two (by have := HE.out; simpa using this) rfl, rfl⟩
        · have h46' : (bt s k == 46) = false := by simpa using h46
          have hR : Hid (prs (strI s) 0 0 false 0 = none) := by have h := HR'.out; rw [hdr.out, prs_bad hd (Or.inl h46)] at h; exact h.symm
          clear h46
          go_wp2_with (go_at_call 54; refine (digit_any _ _).mono ?_; rintro e w' ⟨rfl, rfl⟩)
          go_ret2
          exact ⟨by unfold parseS; rw [hR.out]; rfl, rfl⟩
      · have c0 := dgt_yes hd
        have h46' : (bt s k == 46) = false := by simp; omega
        go_wp2_with (go_at_call 54; refine (digit_any _ _).mono ?_; rintro e w' ⟨rfl, rfl⟩)
        go_round
        case rel =>
          refine ⟨k + 1, 10 * m + (bt s k - 48), by go_num, rfl, by omega, by omega, by omega, p10_step HM.out c0.1 c0.2, fun h => ?_, fun h => ?_⟩
          · rw [← HR'.out, hdr.out, prs_whole hd (by omega)]
          · rw [← HR'.out, hdr.out, prs_whole_no hd (by omega)]
        case measure => simp [intOf]; omega
    · have hR : Hid (prs (strI s) 0 0 false 0 = some (k, 0, m)) := by have h := HR'.out; rw [strI_end s k (by omega)] at h; exact h.symm
      clear HR'
      by_cases h0 : k = 0
      · subst h0
        go_wp2_with (go_at_call 54; refine (digit_any _ _).mono ?_; rintro e w' ⟨rfl, rfl⟩)
        go_ret2
        exact ⟨by unfold parseS; rw [hR.out]; rfl, rfl⟩
      · have hF : Hid (parseS (strI s) = (m * 10 ^ (6 - 0), 0)) := by unfold Hid parseS; rw [hR.out]; exact fin_some (by omega)
        clear hR
        have h0' : ((k : Int) == 0) = false := by simp; omega
        go_wp2_with (go_at_call 54; refine (digit_any _ _).mono ?_; rintro e w' ⟨rfl, rfl⟩)
        go_loop [5, 7] (Rel3 k 0 m) (fun _ b => 6 - (intOf b).toNat)
        case atStart => exact ⟨0, m, rfl, rfl, by omega, hm0, HM.out, rfl⟩
        case round =>
          obtain ⟨q', m2, rfl, rfl, hq, hm0', hm1', hE⟩ := hrel
          have hm2' : m2 < 100000000000000000 := by have := p10_le (k := k + q') (by omega); omega
          have HE := Lib.hid hE; clear hE
          have HM' := Lib.hid hm1'; clear hm1'
          by_cases hq6 : q' < 6
          · go_wp2
            go_round
            case rel => exact rel3_step hq6 hm0' HM'.out HE.out
            case measure => simp [intOf]; omega
          · obtain rfl : q' = 6 := by omega
            go_wp2
            go_ret2
            exact ⟨by rw [hF.out]; exact ret_two (by have := HE.out; simpa using this) rfl, rfl⟩
end Go.Proofs.YteljackkojcniaaDoor
