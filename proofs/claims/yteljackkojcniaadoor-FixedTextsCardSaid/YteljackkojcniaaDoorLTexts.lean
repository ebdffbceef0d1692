/- The walk of the law FixedTexts: it returns true. Conditions: the list reads as integers; the table of the powers of ten lies in memory. -/
import Derived.Test.YteljackkojcniaaDoorI
import Derived.Test.YteljackkojcniaaDoorU
import Derived.Test.YteljackkojcniaaDoorPlt
import Derived.Deep.DeepCutAuto
namespace Go.Proofs.YteljackkojcniaaDoor
open Go.RowKit Go.PlainAid
set_option linter.unusedVariables false

/-- What the counting loop keeps. -/
def CntRel (s : ByteArray) (R : Nat × Nat × Nat × Nat) (vd vp vo vt vi : Value) : Prop :=
  ∃ (d p o t k : Nat), vd = .int .i64 d ∧ vp = .int .i64 p ∧ vo = .int .i64 o ∧ vt = .int .i64 t ∧ vi = .int .i64 k ∧ k ≤ s.size ∧ d ≤ k ∧ p ≤ k ∧ o ≤ k ∧ t ≤ 100 * k ∧ cnt ((strI s).drop k) d p o t = R
set_option maxHeartbeats 1000000 in
set_option maxRecDepth 100000 in
theorem textsLaw_any (s : ByteArray) (A : Option Addr) (n c : Nat) (w : World) (hl : LOK w w.heap.size A n) (ht : Tab w) :
    Calls Tryd.prog 7 #[.string s, .slice A n c] w fun e w' => e = .returned (.bool true) ∧ Below w.heap.size w w' := by
  have HB : Hid (Below w.heap.size w w) := Below.refl _ _
  have HB0 : Hid (Below w.heap.size w (w.alloc (.cells #[.slice A n c, .int .i64 0] 48))) := (Below.refl _ _).alloc (Nat.le_refl _) _
  have HT := Lib.hid ht; clear ht
  have HL := Lib.hid hl; clear hl
  by_cases h1 : 100 < s.size
  · go_enter Tryd.func7, Tryd.ntmps7
    go_wp2_with (first | (go_at_call 18; refine (awake_any _ (HT.out.below HB.out)).mono ?_; rintro e w1 ⟨rfl, hb⟩; have HN := Lib.hid (below2 HB.out hb); clear HB hb; have HB := Lib.hid HN.out; clear HN))
    go_ret
    exact ⟨rfl, HB.out⟩
  · by_cases h2 : n ≤ 120
    · go_enter Tryd.func7, Tryd.ntmps7
      go_upto_if 26 with (first | (go_at_call 17; refine (light_yes _ _ _ h2 _).mono ?_; rintro e w' ⟨rfl, rfl⟩) | (go_at_call 20; refine (new_any _ w.heap.size (Nat.le_refl _) A n c).mono ?_; rintro e w' ⟨rfl, rfl⟩) | (go_at_call 34; refine (next_any w.heap.size w.heap.size A n c _ _ (HL.out.below HB0.out) (TapeOK.new w _ (Nat.le_refl _) A n c) (by omega) (by omega)).mono ?_; rintro e w1 ⟨r, rfl, hr0, hr1, htp, hb⟩; have HN := Lib.hid (HB0.out.trans hb); clear HB HB0 hb htp; have HB := Lib.hid HN.out; clear HN))
      go_cut [0] (fun s0 wx => ∃ t : ByteArray, s0 = .string t ∧ t.size ≤ 100 ∧ Below w.heap.size w wx)
      case first =>
        have hsz : w.heap.size ≤ w1.heap.size := HB.out.size
        have HB1 : Hid (Below w.heap.size w (w1.alloc (.cells #[.slice A n c, .int .i64 0] 48))) := HB.out.alloc hsz _
        by_cases hr : 0 < r
        · go_wp2_with (first | (go_at_call 20; refine (new_any _ w.heap.size hsz A n c).mono ?_; rintro e w' ⟨rfl, rfl⟩) | (go_at_call 19; refine (text_any w.heap.size w1.heap.size A n c _ (HL.out.below HB1.out) (TapeOK.new w1 _ hsz A n c)).mono ?_; rintro e w2 ⟨t, rfl, hts, htp, hb⟩; have HN := Lib.hid (HB1.out.trans hb); clear HB HB1 hb htp; have HB := Lib.hid HN.out; clear HN))
          go_meet
          exact ⟨t, rfl, by omega, HB.out⟩
        · go_wp2
          go_meet
          exact ⟨s, rfl, by omega, HB.out⟩
      case rest =>
        obtain ⟨t, rfl, hts, hbl⟩ := hcut
        clear HB
        have HB := Lib.hid hbl; clear hbl
        have hbt := get_bt t
        obtain ⟨x, e, hpe⟩ : ∃ x e, parseS (strI t) = (x, e) := ⟨_, _, rfl⟩
        obtain ⟨D, P, O, T, hcn⟩ : ∃ D P O T, cnt (strI t) 0 0 0 0 = (D, P, O, T) := ⟨_, _, _, _, rfl⟩
        have hall := parse_counts _ _ _ _ _ hcn
        rw [hpe] at hall
        obtain ⟨hx0, hall⟩ := hall
        simp only at hx0 hall
        have HALL := Lib.hid hall; clear hall
        have HCN := Lib.hid hcn; clear hcn
        have HPE := Lib.hid hpe; clear hpe
        go_wp2_with (go_at_call 21; refine (parse_any _ (by unfold maxLen; omega) _).mono ?_; rw [HPE.out]; rintro e w' ⟨rfl, rfl⟩)
        go_loop [7, 8, 9, 10, 11] (CntRel t (D, P, O, T)) (fun _ _ _ _ i => t.size - (intOf i).toNat)
        case atStart => exact ⟨0, 0, 0, 0, 0, rfl, rfl, rfl, rfl, rfl, by omega, by omega, by omega, by omega, by omega, HCN.out⟩
        case round =>
          obtain ⟨d, p, o, q, k, rfl, rfl, rfl, rfl, rfl, hk, hd, hp, ho, hq, hR⟩ := hrel
          have HR := Lib.hid hR; clear hR
          by_cases hlt : k < t.size
          · have hdr := Lib.hid (strI_drop t k hlt)
            have b0 := bt_nonneg t k
            have b1 := bt_le t k
            rcases hg : dgt (bt t k) with _ | _
            · have hg' := dgt_no hg
              by_cases h46 : bt t k = 46
              · have H46 := Lib.hid h46
                have h46' : (bt t k == 46) = true := by simpa using h46
                by_cases h48 : 48 ≤ bt t k
                · omega
                · clear h46
                  go_wp2
                  go_round
                  case rel => exact ⟨d, p + 1, o, q, k + 1, rfl, by go_num, rfl, rfl, by go_num, by omega, by omega, by omega, by omega, by omega, by rw [← HR.out, hdr.out, cnt_pt H46.out]⟩
                  case measure => simp [intOf]; omega
              · have H46 := Lib.hid h46
                have h46' : (bt t k == 46) = false := by simpa using h46
                by_cases h48 : 48 ≤ bt t k
                · have h57 : ¬ bt t k ≤ 57 := by omega
                  go_wp2
                  go_round
                  case rel => exact ⟨d, p, o + 1, q, k + 1, rfl, rfl, by go_num, rfl, by go_num, by omega, by omega, by omega, by omega, by omega, by rw [← HR.out, hdr.out, cnt_no hg H46.out]⟩
                  case measure => simp [intOf]; omega
                · go_wp2
                  go_round
                  case rel => exact ⟨d, p, o + 1, q, k + 1, rfl, rfl, by go_num, rfl, by go_num, by omega, by omega, by omega, by omega, by omega, by rw [← HR.out, hdr.out, cnt_no hg H46.out]⟩
                  case measure => simp [intOf]; omega
            · obtain ⟨h48, h57⟩ := dgt_yes hg
              go_wp2
              go_round
              case rel => exact ⟨d + 1, p, o, q + p, k + 1, by go_num, rfl, rfl, by go_num, by go_num, by omega, by omega, by omega, by omega, by omega, by rw [← HR.out, hdr.out, cnt_dgt hg]⟩
              case measure => simp [intOf]; omega
          · have hR : Hid ((d, p, o, q) = (D, P, O, T)) := by have h := HR.out; rw [strI_end t k (by omega)] at h; exact h
            clear HR HCN
            obtain ⟨rfl, rfl, rfl, rfl⟩ : d = D ∧ p = P ∧ o = O ∧ q = T := by have := hR.out; simpa using this
            clear hR
            go_upto_region 16 with (fail)
            go_cut [96] (fun v wx => v = .bool false ∧ Below w.heap.size w wx)
            case first =>
              rcases HALL.out with ⟨rfl, a1, a2, a3', a4, a5, _⟩ | ⟨rfl, hn⟩
              · have a3 : ((o : Int) == 0) = true := by simp; omega
                clear a3' HALL
                go_wp2_with (go_at_call 18; refine (awake_any _ (HT.out.below HB.out)).mono ?_; rintro e w1 ⟨rfl, hb⟩; have HN := Lib.hid (below2 HB.out hb); clear HB hb; have HB := Lib.hid HN.out; clear HN)
                go_meet
                exact ⟨congrArg Value.bool (by simp <;> omega), HB.out⟩
              · by_cases a1 : 0 < d
                · by_cases a2 : p ≤ 1
                  · by_cases a3' : o = 0
                    · have a3 : ((o : Int) == 0) = true := by simp; omega
                      by_cases a4 : d ≤ 9 + q
                      · have a5 : ¬ q ≤ 6 := fun h => hn ⟨a1, a2, a3', a4, h⟩
                        clear hn a3'
                        go_wp2_with (go_at_call 18; refine (awake_any _ (HT.out.below HB.out)).mono ?_; rintro e w1 ⟨rfl, hb⟩; have HN := Lib.hid (below2 HB.out hb); clear HB hb; have HB := Lib.hid HN.out; clear HN)
                        go_meet
                        exact ⟨congrArg Value.bool (by simp <;> omega), HB.out⟩
                      · clear hn a3'
                        go_wp2_with (go_at_call 18; refine (awake_any _ (HT.out.below HB.out)).mono ?_; rintro e w1 ⟨rfl, hb⟩; have HN := Lib.hid (below2 HB.out hb); clear HB hb; have HB := Lib.hid HN.out; clear HN)
                        go_meet
                        exact ⟨congrArg Value.bool (by simp <;> omega), HB.out⟩
                    · have a3 : ((o : Int) == 0) = false := by simp; omega
                      clear hn a3'
                      go_wp2_with (go_at_call 18; refine (awake_any _ (HT.out.below HB.out)).mono ?_; rintro e w1 ⟨rfl, hb⟩; have HN := Lib.hid (below2 HB.out hb); clear HB hb; have HB := Lib.hid HN.out; clear HN)
                      go_meet
                      exact ⟨congrArg Value.bool (by simp <;> omega), HB.out⟩
                  · clear hn
                    go_wp2_with (go_at_call 18; refine (awake_any _ (HT.out.below HB.out)).mono ?_; rintro e w1 ⟨rfl, hb⟩; have HN := Lib.hid (below2 HB.out hb); clear HB hb; have HB := Lib.hid HN.out; clear HN)
                    go_meet
                    exact ⟨congrArg Value.bool (by simp <;> omega), HB.out⟩
                · clear hn
                  go_wp2_with (go_at_call 18; refine (awake_any _ (HT.out.below HB.out)).mono ?_; rintro e w1 ⟨rfl, hb⟩; have HN := Lib.hid (below2 HB.out hb); clear HB hb; have HB := Lib.hid HN.out; clear HN)
                  go_meet
                  exact ⟨congrArg Value.bool (by simp <;> omega), HB.out⟩
            case rest =>
              obtain ⟨rfl, hbl⟩ := hcut
              clear HB
              have HB := Lib.hid hbl; clear hbl
              rcases HALL.out with ⟨rfl, a1, a2, a3, a4, a5, a6⟩ | ⟨rfl, hn⟩
              · by_cases a7 : d < 9 + q
                · have HP2 : Hid (parseS (strI (⟨#[48]⟩ ++ t)) = (x, 0)) := by rw [strI_zero]; exact a6 a7
                  clear a6 HALL
                  go_wp2_with (go_at_call 21; refine (parse_any _ (by unfold maxLen; rw [ByteArray.size_append]; have z1 : (⟨#[48]⟩ : ByteArray).size = 1 := rfl; omega) _).mono ?_; rw [HP2.out]; rintro e w' ⟨rfl, rfl⟩)
                  go_ret
                  exact ⟨rfl, HB.out⟩
                · clear a6 HALL
                  go_wp2
                  go_ret
                  exact ⟨rfl, HB.out⟩
              · clear hn HALL
                go_wp2
                go_ret
                exact ⟨rfl, HB.out⟩
    · go_enter Tryd.func7, Tryd.ntmps7
      go_wp2_with (first | (go_at_call 17; refine (light_no _ _ _ h2 _).mono ?_; rintro e w' ⟨rfl, rfl⟩) | (go_at_call 18; refine (awake_any _ (HT.out.below HB.out)).mono ?_; rintro e w1 ⟨rfl, hb⟩; have HN := Lib.hid (below2 HB.out hb); clear HB hb; have HB := Lib.hid HN.out; clear HN))
      go_ret
      exact ⟨rfl, HB.out⟩
end Go.Proofs.YteljackkojcniaaDoor
