/- The contracts of kids, right and Right of syntax: what they return of an expression that reads as a tree. Conditions: the expression reads as a tree; the depth asked for is at most 16. -/
import Derived.Test.YtdipainocdgfgaaDoorPlv
import Derived.Test.YtdipainocdgfgaaDoorJ
import Derived.Deep.QuietTactic
import Derived.BigQuiet
import Derived.Deep.Light
import Derived.Deep.LoopGhost
namespace Go.Proofs.YtdipainocdgfgaaDoor
set_option linter.unusedVariables false
set_option linter.unusedSimpArgs false
open Go.RowKit

def I64 (z : Int) : Prop := -9223372036854775808 ≤ z ∧ z ≤ 9223372036854775807
/-- The value v is an expression that reads as a tree; its parts lie below block B. -/
def Rd (w : World) (B : Nat) : Tr → Value → Prop
  | .none_, _ => False
  | .mk op n k kid, v => ∃ (A : Option Addr) (c : Nat), v = .agg #[.int .i64 op, .int .i64 n, .slice A k c] ∧ I64 op ∧ I64 n ∧ k ≤ maxLen ∧
    (0 < k → ∃ ab off : Nat, A = some ⟨ab, off, none⟩ ∧ ab < B ∧ ∀ i, i < k → ∃ x y z : Value, w.cell? ⟨ab, off + i * 3, none⟩ = some x ∧ w.cell? ⟨ab, off + i * 3 + 1, none⟩ = some y ∧ w.cell? ⟨ab, off + i * 3 + 2, none⟩ = some z ∧ Rd w B (kid i) (.agg #[x, y, z]))
theorem Rd.keep {w w' : World} {B B' : Nat} {t : Tr} (hk : ∀ p : Addr, p.block < B → w'.cell? p = w.cell? p) (hB : B ≤ B') : ∀ {v : Value}, Rd w B t v → Rd w' B' t v := by
  induction t with
  | none_ => intro v h; exact h.elim
  | mk op n k kid ih =>
    intro v ⟨A, c, h1, h2, h3, h4, h5⟩
    refine ⟨A, c, h1, h2, h3, h4, fun h => ?_⟩
    obtain ⟨ab, off, e, hl, hr⟩ := h5 h
    refine ⟨ab, off, e, by omega, fun i hi => ?_⟩
    obtain ⟨x, y, z, c1, c2, c3, c4⟩ := hr i hi
    exact ⟨x, y, z, (hk _ hl).trans c1, (hk _ hl).trans c2, (hk _ hl).trans c3, ih i c4⟩
theorem Rd.below {w w' : World} {B B' : Nat} {t : Tr} {v : Value} (h : Rd w B t v) (hb : Below B w w') (hB : B ≤ B') : Rd w' B' t v := h.keep (fun _ hp => hb.cell hp) hB

/-- The parts, each by its three cells. -/
def Kids (w : World) (B : Nat) (kid : Nat → Tr) (A : Option Addr) (k : Nat) : Prop :=
  ∃ ab off : Nat, A = some ⟨ab, off, none⟩ ∧ ab < B ∧ ∀ i, i < k → ∃ (o n : Int) (A' : Option Addr) (k' c' : Nat), w.cell? ⟨ab, off + i * 3, none⟩ = some (.int .i64 o) ∧ w.cell? ⟨ab, off + i * 3 + 1, none⟩ = some (.int .i64 n) ∧ w.cell? ⟨ab, off + i * 3 + 2, none⟩ = some (.slice A' k' c') ∧ Rd w B (kid i) (.agg #[.int .i64 o, .int .i64 n, .slice A' k' c'])
theorem Rd.form {w : World} {B : Nat} {t : Tr} {x y z : Value} (h : Rd w B t (.agg #[x, y, z])) : ∃ (o n : Int) (A' : Option Addr) (k' c' : Nat), x = .int .i64 o ∧ y = .int .i64 n ∧ z = .slice A' k' c' := by
  rcases t with _ | ⟨op, n, k, kid⟩
  · exact h.elim
  obtain ⟨A, c, h1, _⟩ := h
  simp only [Value.agg.injEq, Array.mk.injEq, List.cons.injEq, and_true] at h1
  exact ⟨_, _, _, _, _, h1.1, h1.2.1, h1.2.2⟩
theorem Rd.open_ {w : World} {B : Nat} {op n : Int} {k : Nat} {kid : Nat → Tr} {v : Value} (h : Rd w B (.mk op n k kid) v) :
    ∃ (A : Option Addr) (c : Nat), v = .agg #[.int .i64 op, .int .i64 n, .slice A k c] ∧ I64 op ∧ I64 n ∧ k ≤ maxLen ∧ (0 < k → Kids w B kid A k) := by
  obtain ⟨A, c, h1, h2, h3, h4, h5⟩ := h
  refine ⟨A, c, h1, h2, h3, h4, fun hk => ?_⟩
  obtain ⟨ab, off, e, hl, hr⟩ := h5 hk
  refine ⟨ab, off, e, hl, fun i hi => ?_⟩
  obtain ⟨x, y, z, c1, c2, c3, c4⟩ := hr i hi
  obtain ⟨o, n', A', k', c', rfl, rfl, rfl⟩ := c4.form
  exact ⟨o, n', A', k', c', c1, c2, c3, c4⟩
theorem Rd.shut {w : World} {B : Nat} {op n : Int} {k : Nat} {kid : Nat → Tr} {A : Option Addr} {c : Nat} (h2 : I64 op) (h3 : I64 n) (h4 : k ≤ maxLen) (h5 : 0 < k → Kids w B kid A k) : Rd w B (.mk op n k kid) (.agg #[.int .i64 op, .int .i64 n, .slice A k c]) := by
  refine ⟨A, c, rfl, h2, h3, h4, fun hk => ?_⟩
  obtain ⟨ab, off, e, hl, hr⟩ := h5 hk
  refine ⟨ab, off, e, hl, fun i hi => ?_⟩
  obtain ⟨o, n', A', k', c', c1, c2, c3, c4⟩ := hr i hi
  exact ⟨_, _, _, c1, c2, c3, c4⟩

theorem kids_any (op : Int) (w : World) :
    Calls Tryd.prog 47 #[.int .i64 op] w fun e w' => e = .returned (.int .i64 (kidsS op)) ∧ w = w' := by
  go_enter Tryd.func47, Tryd.ntmps47
  go_wp2
  all_goals
    go_ret
    refine ⟨ret_int ?_, rfl⟩
    go_light
    (try simp only [beq_iff_eq, beq_eq_false_iff_ne, ne_eq] at *)
    unfold kidsS
    repeat' split
    all_goals omega

theorem quiet_same {P : Program} {f : FuncId} {args : Array Value} {w : World} {v : Value} (h : Calls P f args w fun e w' => e = .returned v ∧ w = w') :
    Calls P f args w fun e w'' => e = .returned v ∧ ∃ n, w'' = w.drewN n := h.mono fun _ _ ⟨he, hm⟩ => ⟨he, 0, hm.symm⟩
theorem quiet_same2 {P : Program} {f : FuncId} {args : Array Value} {w : World} {n : Nat} {v : Value} (h : Calls P f args (w.drewN n) fun e w' => e = .returned v ∧ w.drewN n = w') :
    Calls P f args (w.drewN n) fun e w'' => e = .returned v ∧ ∃ n, w'' = w.drewN n := h.mono fun _ _ ⟨he, hm⟩ => ⟨he, n, hm.symm⟩
theorem below_box' {B : Nat} {w : World} (o : Obj) (hB : B ≤ w.heap.size) : Below B w (w.alloc o) := (Below.refl _ _).alloc hB _
theorem below_box {w : World} (o : Obj) (n : Nat) : Below w.heap.size w ((w.alloc o).drewN n) := below_dn ((Below.refl _ _).alloc (Nat.le_refl _) _) n

/-- What the loop of right keeps. -/
def RRel (m k : Nat) (kid : Nat → Tr) (n : Int) (w0 : World) (i : Value) (w : World) : Prop :=
  ∃ j : Nat, j ≤ k ∧ i = .int .i64 (j : Int) ∧ (∀ x, x < j → rightS m (kid x) = true) ∧ Below w0.heap.size w0 w ∧ w.cell? ⟨w0.heap.size, 1, none⟩ = some (.int .i64 n) ∧ w0.heap.size < w.heap.size
theorem right_any (m : Nat) : ∀ (t : Tr) (v : Value) (w : World), m ≤ 16 → Rd w w.heap.size t v →
    Calls Tryd.prog 40 #[v, .int .i64 m] w fun e w' => e = .returned (.bool (rightS m t)) ∧ Below w.heap.size w w' := by
  induction m with
  | zero =>
    intro t v w hm hr
    rcases t with _ | ⟨op, n, k, kid⟩
    · exact hr.elim
    obtain ⟨A, c, rfl, hop, hn, hk, hkids⟩ := hr.open_
    clear hr
    clear hkids
    go_enter Tryd.func40, Tryd.ntmps40
    go_wp2
    go_quiet ((go_at_call 47; exact quiet_same2 (kids_any _ _)))
    go_wp2
    go_ret
    exact ⟨rfl, below_box _ _⟩
  | succ m ih =>
    intro t v w hm hr
    rcases t with _ | ⟨op, n, k, kid⟩
    · exact hr.elim
    obtain ⟨A, c, rfl, hop, hn, hk, hkids⟩ := hr.open_
    clear hr
    obtain ⟨q, hq⟩ : ∃ q : Int, q = ((m + 1 : Nat) : Int) := ⟨_, rfl⟩
    have hq1 : q - 1 = (m : Int) := by omega
    have hq2 : 1 ≤ q := by omega
    have hq3 : q ≤ 16 := by omega
    have hq0 : (q == 0) = false := by simp; omega
    rw [← hq]
    have HQ1 := Lib.hid hq1
    clear hq hq1
    by_cases hkk : (k : Int) = kidsS op
    case neg =>
      rw [rightS_no1 hkk]
      have hkk' : ((k : Int) == kidsS op) = false := by simpa using hkk
      have hkk'' : ((k : Int) != kidsS op) = true := by simpa using hkk
      clear hkids hkk
      go_enter Tryd.func40, Tryd.ntmps40
      go_wp2
      go_quiet ((go_at_call 47; exact quiet_same2 (kids_any _ _)))
      go_wp2
      go_ret
      exact ⟨rfl, below_box _ _⟩
    have hkk' : ((k : Int) == kidsS op) = true := by simpa using hkk
    have hkk'' : ((k : Int) != kidsS op) = false := by simpa using hkk
    by_cases h0 : op = 0
    · subst h0
      have hk0 : k = 0 := by have : kidsS 0 = 0 := rfl; omega
      subst hk0
      have HL : Hid (rightS (m + 1) (.mk 0 n 0 kid) = numS 0 n) := by show rightS _ _ = _; simp [rightS, kidsS]
      have HN : Hid (numS 0 n = decide (0 ≤ n ∧ n < 1000000000000000)) := rfl
      clear hkids hkk
      go_enter Tryd.func40, Tryd.ntmps40
      go_wp2
      go_quiet ((go_at_call 47; exact quiet_same2 (kids_any _ _)))
      go_wp2
      all_goals
        go_ret
        refine ⟨?_, below_box _ _⟩
        rw [HL.out, HN.out]
        go_light
        simp
        omega
    have h0' : (op == 0) = false := by simpa using h0
    have hk2 : k ≤ 2 := by have := kidsS_bd op; omega
    have HK := Lib.hid hkk
    have HKI := Lib.hid hkids
    clear hkids hkk
    go_enter Tryd.func40, Tryd.ntmps40
    go_wp2
    go_quiet ((go_at_call 47; exact quiet_same2 (kids_any _ _)))
    go_wp2
    go_loopw [32] (RRel m k kid n w) (fun i _ => k - (intOf i).toNat)
    case atStart => exact ⟨0, by omega, rfl, fun x hx => absurd hx (by omega), below_box _ _, by simp [World.cell?_alloc_new], by simp⟩
    case round =>
      obtain ⟨j, hj, rfl, hjr, hb, hbox, hsz⟩ := hrel
      have HJ := Lib.hid hjr
      have HB := Lib.hid hb
      clear hjr hb
      by_cases hlt : j < k
      · obtain ⟨ab, off, rfl, hab, hc⟩ := HKI.out (by omega)
        obtain ⟨o, n', A', k', c', c0, c1, c2, hr⟩ := hc j hlt
        have HR := Lib.hid hr
        have d0 := (HB.out.cell (p := ⟨ab, off + j * 3, none⟩) hab).trans c0
        have d1 := (HB.out.cell (p := ⟨ab, off + j * 3 + 1, none⟩) hab).trans c1
        have d2 := (HB.out.cell (p := ⟨ab, off + j * 3 + 2, none⟩) hab).trans c2
        clear hc c0 c1 c2 hr
        have hc0 : ∀ W : World, Below w.heap.size w W → Calls Tryd.prog 40 #[.agg #[.int .i64 o, .int .i64 n', .slice A' k' c'], .int .i64 (q - 1)] W fun e w' => e = .returned (.bool (rightS m (kid j))) ∧ Below W.heap.size W w' := fun W hb => by
          rw [HQ1.out]
          exact ih (kid j) _ W (by omega) (HR.out.below hb hb.size)
        have HC := Lib.hid hc0
        clear hc0
        rcases hrj : rightS m (kid j) with _ | _
        · have HJ2 := Lib.hid hrj
          clear hrj
          rw [HJ2.out] at HC
          go_wp2_with (go_at_call 40; refine (HC.out _ (HB.out.trans (below_box' _ (Nat.le_of_lt hsz)))).mono ?_; rintro e w1 ⟨rfl, hb⟩; have HN := Lib.hid hb; clear hb)
          go_ret
          rw [rightS_no3 hlt HJ2.out]
          exact ⟨rfl, (HB.out.trans (below_box' _ (Nat.le_of_lt hsz))).trans (HN.out.mono (by simp; omega))⟩
        · have HJ2 := Lib.hid hrj
          clear hrj
          rw [HJ2.out] at HC
          go_wp2_with (go_at_call 40; refine (HC.out _ (HB.out.trans (below_box' _ (Nat.le_of_lt hsz)))).mono ?_; rintro e w1 ⟨rfl, hb⟩; have HN := Lib.hid hb; clear hb)
          refine ⟨⟨j + 1, by omega, by go_num, fun x hx => ?_, (HB.out.trans (below_box' _ (Nat.le_of_lt hsz))).trans (HN.out.mono (by simp; omega)), ?_, ?_⟩, by simp [intOf]; omega⟩
          · rcases Nat.lt_or_ge x j with h | h
            · exact HJ.out x h
            · rw [show x = j by omega]; exact HJ2.out
          · refine (HN.out.cell (by simp; omega)).trans ((World.cell?_alloc_lt _ _ _ hsz).trans hbox)
          · have := HN.out.size; simp at this; omega
      · have hje : j = k := by omega
        have HA : Hid (∀ x, x < k → rightS m (kid x) = true) := by rw [← hje]; exact HJ.out
        by_cases hn0 : n = 0
        · have hn1 : (n == 0) = true := by simpa using hn0
          go_wp2_with fail
          go_ret
          rw [rightS_mk HK.out (by unfold numS; rw [if_neg h0]; exact decide_eq_true hn0) HA.out]
          exact ⟨by first | rfl | simp, HB.out⟩
        · have hn1 : (n == 0) = false := by simpa using hn0
          go_wp2_with fail
          go_ret
          rw [rightS_no2 (by unfold numS; rw [if_neg h0]; exact decide_eq_false hn0)]
          exact ⟨by first | rfl | simp, HB.out⟩
theorem Right_any (t : Tr) (v : Value) (w : World) (h : Rd w w.heap.size t v) :
    Calls Tryd.prog 32 #[v] w fun e w' => e = .returned (.bool (rightS 16 t)) ∧ Below w.heap.size w w' := by
  have HR := Lib.hid h
  rcases t with _ | ⟨op, n, k, kid⟩
  · exact h.elim
  obtain ⟨A, c, rfl, hop, hn, hk, hkids⟩ := h.open_
  clear h hkids
  have hc0 : ∀ W : World, Below w.heap.size w W → Calls Tryd.prog 40 #[.agg #[.int .i64 op, .int .i64 n, .slice A k c], .int .i64 16] W fun e w' => e = .returned (.bool (rightS 16 (.mk op n k kid))) ∧ Below W.heap.size W w' := fun W hb =>
    right_any 16 _ _ W (by omega) (HR.out.below hb hb.size)
  have HC := Lib.hid hc0
  clear hc0
  generalize rightS 16 (.mk op n k kid) = r at HC ⊢
  go_enter Tryd.func32, Tryd.ntmps32
  go_wp2_with (go_at_call 40; refine (HC.out _ (below_box' _ (Nat.le_refl _))).mono ?_; rintro e w1 ⟨rfl, hb⟩; have HN := Lib.hid hb; clear hb)
  go_ret
  exact ⟨rfl, (below_box' _ (Nat.le_refl _)).trans (HN.out.mono (by simp))⟩
end Go.Proofs.YtdipainocdgfgaaDoor
