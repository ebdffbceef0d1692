/- The contracts of kids, right and Right of cncref06: what they return of an expression that reads as a tree. Conditions: the expression reads as a tree; the depth asked for is at most 16. -/
import Derived.Test.YtdipainocdgfgaaGreatDoorRi
namespace Go.Proofs.YtdipainocdgfgaaGreatDoor
set_option linter.unusedVariables false
set_option linter.unusedSimpArgs false
open Go.RowKit

def kidsR (op : Int) : Int := if op = 0 then 0 else if (3 ≤ op ∧ op ≤ 7) ∨ op = 11 ∨ (17 ≤ op ∧ op ≤ 25) then 2 else 1
theorem kidsR_eq {op : Int} (h0 : 0 ≤ op) (h1 : op ≤ 25) : kidsR op = kidsS op := by
  unfold kidsR kidsS
  repeat' split
  all_goals omega
theorem kids_ref (op : Int) (w : World) :
    Calls Tryz.prog 32 #[.int .i64 op] w fun e w' => e = .returned (.int .i64 (kidsR op)) ∧ w = w' := by
  go_enter Tryz.func32, Tryz.ntmps32
  go_wp2
  all_goals
    go_ret
    refine ⟨ret_int ?_, rfl⟩
    go_light
    (try simp only [beq_iff_eq, beq_eq_false_iff_ne, ne_eq] at *)
    unfold kidsR
    repeat' split
    all_goals omega
theorem kidsS_out {op : Int} (h : op < 0 ∨ 25 < op) : kidsS op = -1 := by
  unfold kidsS
  repeat' split
  all_goals omega
/-- What the loop of right keeps. -/
def RRelR (m k c : Nat) (A : Option Addr) (kid : Nat → Tr) (w0 : World) (i : Value) (w : World) : Prop :=
  ∃ j : Nat, j ≤ k ∧ i = .int .i64 (j : Int) ∧ (∀ x, x < j → rightS m (kid x) = true) ∧ Below w0.heap.size w0 w ∧ w.cell? ⟨w0.heap.size, 2, none⟩ = some (.slice A k c) ∧ w0.heap.size < w.heap.size
set_option maxHeartbeats 4000000 in
theorem rightR_any (m : Nat) : ∀ (t : Tr) (v : Value) (w : World), m ≤ 16 → Rd w w.heap.size t v →
    Calls Tryz.prog 20 #[v, .int .i64 m] w fun e w' => e = .returned (.bool (rightS m t)) ∧ Below w.heap.size w w' := by
  induction m with
  | zero =>
    intro t v w hm hr
    rcases t with _ | ⟨op, n, k, kid⟩
    · exact hr.elim
    obtain ⟨A, c, rfl, hop, hn, hk, hkids⟩ := hr.open_
    clear hr
    clear hkids
    go_enter Tryz.func20, Tryz.ntmps20
    go_wp2
    go_quiet (fail)
    go_wp2
    go_ret
    exact ⟨rfl, below_box _ _⟩
  | succ m ih =>
    intro t v w hm hr
    rcases t with _ | ⟨op, n, k, kid⟩
    · exact hr.elim
    obtain ⟨A, c, rfl, hop, hn, hk, hkids⟩ := hr.open_
    clear hr
    obtain ⟨q, hq⟩ : ∃ q : Int, q = ((m + 1 : Nat) : Int) := ⟨_, rfl⟩
    have hq1 : q - 1 = (m : Int) := by omega
    have hq2 : 1 ≤ q := by omega
    have hq3 : q ≤ 16 := by omega
    rw [← hq]
    have HQ1 := Lib.hid hq1
    have dq : decide (q < 1) = false := decide_eq_false (by omega)
    clear hq hq1
    rcases Int.lt_or_le op 0 with ho1 | ho3
    · rw [rightS_no1 (by rw [kidsS_out (.inl ho1)]; omega)]
      have d0 : decide (op < 0) = true := decide_eq_true ho1
      clear hkids
      go_enter Tryz.func20, Tryz.ntmps20
      go_wp2
      go_quiet (fail)
      go_wp2
      go_ret
      exact ⟨rfl, below_box _ _⟩
    have d0 : decide (op < 0) = false := decide_eq_false (by omega)
    rcases Int.lt_or_le 25 op with ho2 | ho4
    · rw [rightS_no1 (by rw [kidsS_out (.inr ho2)]; omega)]
      have d1 : decide (25 < op) = true := decide_eq_true ho2
      clear hkids
      go_enter Tryz.func20, Tryz.ntmps20
      go_wp2
      go_quiet (fail)
      go_wp2
      go_ret
      exact ⟨rfl, below_box _ _⟩
    have d1 : decide (25 < op) = false := decide_eq_false (by omega)
    have hkr : ∀ W, Calls Tryz.prog 32 #[.int .i64 op] W fun e w' => e = .returned (.int .i64 (kidsS op)) ∧ W = w' := fun W => by
      have := kids_ref op W
      rw [kidsR_eq ho3 ho4] at this
      exact this
    have HKR := Lib.hid hkr
    clear hkr
    by_cases hkk : (k : Int) = kidsS op
    case neg =>
      rw [rightS_no1 hkk]
      have hkk' : ((k : Int) == kidsS op) = false := by simpa using hkk
      have hkk'' : ((k : Int) != kidsS op) = true := by simpa using hkk
      clear hkids hkk
      go_enter Tryz.func20, Tryz.ntmps20
      go_wp2
      go_quiet ((go_at_call 32; exact quiet_same2 (HKR.out _)))
      go_wp2
      go_ret
      exact ⟨rfl, below_box _ _⟩
    have hkk' : ((k : Int) == kidsS op) = true := by simpa using hkk
    have hkk'' : ((k : Int) != kidsS op) = false := by simpa using hkk
    by_cases h0 : op = 0
    · subst h0
      have hk0 : k = 0 := by have : kidsS 0 = 0 := rfl; omega
      subst hk0
      have HL : Hid (rightS (m + 1) (.mk 0 n 0 kid) = numS 0 n) := by show rightS _ _ = _; simp [rightS, kidsS]
      have HN : Hid (numS 0 n = decide (0 ≤ n ∧ n < 1000000000000000)) := rfl
      clear hkids hkk
      rcases Int.lt_or_le n 0 with hn1 | hn3
      · rw [HL.out, HN.out, decide_eq_false (by omega)]
        have d2 : decide (n < 0) = true := decide_eq_true hn1
        go_enter Tryz.func20, Tryz.ntmps20
        go_wp2
        go_quiet ((go_at_call 32; exact quiet_same2 (HKR.out _)))
        go_wp2
        go_ret
        exact ⟨rfl, below_box _ _⟩
      have d2 : decide (n < 0) = false := decide_eq_false (by omega)
      rcases Int.lt_or_le n 1000000000000000 with hn4 | hn2
      case inr =>
        rw [HL.out, HN.out, decide_eq_false (by omega)]
        have d3 : decide (1000000000000000 ≤ n) = true := decide_eq_true hn2
        go_enter Tryz.func20, Tryz.ntmps20
        go_wp2
        go_quiet ((go_at_call 32; exact quiet_same2 (HKR.out _)))
        go_wp2
        go_ret
        exact ⟨rfl, below_box _ _⟩
      rw [HL.out, HN.out, decide_eq_true (by omega)]
      have d3 : decide (1000000000000000 ≤ n) = false := decide_eq_false (by omega)
      go_enter Tryz.func20, Tryz.ntmps20
      go_wp2
      go_quiet ((go_at_call 32; exact quiet_same2 (HKR.out _)))
      go_wp2
      go_loopw [5] (fun i W => i = .int .i64 0 ∧ Below w.heap.size w W ∧ W.cell? ⟨w.heap.size, 2, none⟩ = some (.slice A 0 c)) (fun i _ => 0)
      case atStart => exact ⟨rfl, below_box _ _, by simp [World.cell?_alloc_new]⟩
      case round =>
        obtain ⟨rfl, hb, hbox⟩ := hrel
        have HB := Lib.hid hb
        clear hb
        go_wp2_with fail
        go_ret
        exact ⟨rfl, HB.out⟩
    have h0' : (op == 0) = false := by simpa using h0
    have h0'' : (op != 0) = true := by simpa using h0
    by_cases hn0 : n = 0
    case neg =>
      have hn1 : (n == 0) = false := by simpa using hn0
      have hn2 : (n != 0) = true := by simpa using hn0
      rw [rightS_no2 (by unfold numS; rw [if_neg h0]; exact decide_eq_false hn0)]
      clear hkids hkk
      go_enter Tryz.func20, Tryz.ntmps20
      go_wp2
      go_quiet ((go_at_call 32; exact quiet_same2 (HKR.out _)))
      go_wp2
      go_ret
      exact ⟨rfl, below_box _ _⟩
    subst hn0
    have hk2 : k ≤ 2 := by have := kidsS_bd op; omega
    have HK := Lib.hid hkk
    have HKI := Lib.hid hkids
    clear hkids hkk
    go_enter Tryz.func20, Tryz.ntmps20
    go_wp2
    go_quiet ((go_at_call 32; exact quiet_same2 (HKR.out _)))
    go_wp2
    go_loopw [5] (RRelR m k c A kid w) (fun i _ => k - (intOf i).toNat)
    case atStart => exact ⟨0, by omega, rfl, fun x hx => absurd hx (by omega), below_box _ _, by simp [World.cell?_alloc_new], by simp⟩
    case round =>
      obtain ⟨j, hj, rfl, hjr, hb, hbox, hsz⟩ := hrel
      have HJ := Lib.hid hjr
      have HB := Lib.hid hb
      clear hjr hb
      by_cases hlt : j < k
      · obtain ⟨ab, off, rfl, hab, hc⟩ := HKI.out (by omega)
        obtain ⟨o, n', A', k', c', c0, c1, c2, hr⟩ := hc j hlt
        have HR := Lib.hid hr
        have d0 := (HB.out.cell (p := ⟨ab, off + j * 3, none⟩) hab).trans c0
        have d1 := (HB.out.cell (p := ⟨ab, off + j * 3 + 1, none⟩) hab).trans c1
        have d2 := (HB.out.cell (p := ⟨ab, off + j * 3 + 2, none⟩) hab).trans c2
        clear hc c0 c1 c2 hr
        have hc0 : ∀ W : World, Below w.heap.size w W → Calls Tryz.prog 20 #[.agg #[.int .i64 o, .int .i64 n', .slice A' k' c'], .int .i64 (q - 1)] W fun e w' => e = .returned (.bool (rightS m (kid j))) ∧ Below W.heap.size W w' := fun W hb => by
          rw [HQ1.out]
          exact ih (kid j) _ W (by omega) (HR.out.below hb hb.size)
        have HC := Lib.hid hc0
        clear hc0
        rcases hrj : rightS m (kid j) with _ | _
        · have HJ2 := Lib.hid hrj
          clear hrj
          rw [HJ2.out] at HC
          go_wp2_with (go_at_call 20; refine (HC.out _ HB.out).mono ?_; rintro e w1 ⟨rfl, hb⟩; have HN := Lib.hid hb; clear hb)
          go_ret
          rw [rightS_no3 hlt HJ2.out]
          exact ⟨rfl, HB.out.trans (HN.out.mono (Nat.le_of_lt hsz))⟩
        · have HJ2 := Lib.hid hrj
          clear hrj
          rw [HJ2.out] at HC
          go_wp2_with (go_at_call 20; refine (HC.out _ HB.out).mono ?_; rintro e w1 ⟨rfl, hb⟩; have HN := Lib.hid hb; clear hb)
          refine ⟨⟨j + 1, by omega, by go_num, fun x hx => ?_, HB.out.trans (HN.out.mono (Nat.le_of_lt hsz)), ?_, ?_⟩, by simp [intOf]; omega⟩
          · rcases Nat.lt_or_ge x j with h | h
            · exact HJ.out x h
            · rw [show x = j by omega]; exact HJ2.out
          · exact (HN.out.cell hsz).trans hbox
          · have := HN.out.size; omega
      · have hje : j = k := by omega
        have HA : Hid (∀ x, x < k → rightS m (kid x) = true) := by rw [← hje]; exact HJ.out
        go_wp2_with fail
        go_ret
        rw [rightS_mk HK.out (by unfold numS; rw [if_neg h0]; exact decide_eq_true rfl) HA.out]
        exact ⟨by first | rfl | simp, HB.out⟩
theorem Right_ref (t : Tr) (v : Value) (w : World) (h : Rd w w.heap.size t v) :
    Calls Tryz.prog 7 #[v] w fun e w' => e = .returned (.bool (rightS 16 t)) ∧ Below w.heap.size w w' := by
  have HR := Lib.hid h
  rcases t with _ | ⟨op, n, k, kid⟩
  · exact h.elim
  obtain ⟨A, c, rfl, hop, hn, hk, hkids⟩ := h.open_
  clear h hkids
  have hc0 : ∀ W : World, Below w.heap.size w W → Calls Tryz.prog 20 #[.agg #[.int .i64 op, .int .i64 n, .slice A k c], .int .i64 16] W fun e w' => e = .returned (.bool (rightS 16 (.mk op n k kid))) ∧ Below W.heap.size W w' := fun W hb =>
    rightR_any 16 _ _ W (by omega) (HR.out.below hb hb.size)
  have HC := Lib.hid hc0
  clear hc0
  generalize rightS 16 (.mk op n k kid) = r at HC ⊢
  go_enter Tryz.func7, Tryz.ntmps7
  go_wp2_with (go_at_call 20; refine (HC.out _ (below_box' _ (Nat.le_refl _))).mono ?_; rintro e w1 ⟨rfl, hb⟩; have HN := Lib.hid hb; clear hb)
  go_ret
  exact ⟨rfl, (below_box' _ (Nat.le_refl _)).trans (HN.out.mono (by simp))⟩
end Go.Proofs.YtdipainocdgfgaaGreatDoor
