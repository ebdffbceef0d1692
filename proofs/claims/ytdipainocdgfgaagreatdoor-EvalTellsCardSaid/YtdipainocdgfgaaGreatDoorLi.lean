/- An expression that came in reads as a tree; the contract of light of cnclaw08. Conditions: the expression can be read as data; it reads as a tree. -/
import Derived.Test.YtdipainocdgfgaaGreatDoorRi
import Derived.ProofKit
import Derived.OpenShut
import Derived.Deep.DeepHandedRow
namespace Go.Proofs.YtdipainocdgfgaaGreatDoor
set_option linter.unusedVariables false
set_option linter.unusedSimpArgs false
open Go.ChangeShapes Go.WideShapes Go.ChangeAt Go.RowKit

theorem cellsEx : Tryz.prog.cellsOf 25 = 3 := by kernel_rfl
theorem cellsIn : Tryz.prog.cellsOf 3 = 1 := by kernel_rfl
theorem cellsKids : Tryz.prog.cellsOf 23 = 1 := by kernel_rfl

/-- What can be read as an expression is one. -/
theorem tr_of {H : Type} {enc : TypeId × Value → H} {w : World} : ∀ (fuel : Nat) (cs : List Value) (x : DataW H × List MemPlace), DataW.trod enc Tryz.prog w 0 (fun _ => true) true fuel 25 cs = some x →
    ∃ (t : Tr) (o n : Int) (A : Option Addr) (k c : Nat), cs = [.int .i64 o, .int .i64 n, .slice A k c] ∧ Rd w w.heap.size t (.agg #[.int .i64 o, .int .i64 n, .slice A k c]) := by
  intro fuel
  induction fuel using Nat.strongRecOn with
  | ind fuel ih =>
    intro cs x h
    have hu : ∃ fs, Tryz.prog.underlying 25 = some (.struct fs) ∧ fs.toList.map (fun f => (f.type, f.offset)) = [(3, 0), (3, 1), (23, 2)] := ⟨_, Tryz.underlying25, by decide +kernel⟩
    obtain ⟨fs, hfs, hfl⟩ := hu
    obtain ⟨xs, m, rfl, rfl, hl, hlen, hf⟩ := DataW.trod_struct hfs h
    have hn : ∀ (i : Nat) (p : TypeId × Nat), ([(3, 0), (3, 1), (23, 2)] : List (TypeId × Nat))[i]? = some p → ∃ f : Field, fs[i]? = some f ∧ f.type = p.1 ∧ f.offset = p.2 := by
      intro i p hp
      rw [← hfl, List.getElem?_map, Option.map_eq_some_iff] at hp
      obtain ⟨f, hf1, rfl⟩ := hp
      exact ⟨f, by simpa using hf1, rfl, rfl⟩
    obtain ⟨f0, g0, t0, o0⟩ := hn 0 _ rfl
    obtain ⟨f1, g1, t1, o1⟩ := hn 1 _ rfl
    obtain ⟨f2, g2, t2, o2⟩ := hn 2 _ rfl
    have e0 := hf 0 f0 g0
    have e1 := hf 1 f1 g1
    have e2 := hf 2 f2 g2
    have hsz : fs.size = 3 := by
      have := congrArg List.length hfl
      simpa using this
    rw [cellsEx] at hl
    rw [t0, o0, cellsIn] at e0
    rw [t1, o1, cellsIn] at e1
    rw [t2, o2, cellsKids] at e2
    obtain ⟨v0, v1, v2, rfl⟩ : ∃ v0 v1 v2 : Value, cs = [v0, v1, v2] := by
      rcases cs with _ | ⟨v0, _ | ⟨v1, _ | ⟨v2, _ | ⟨v3, r⟩⟩⟩⟩
      · cases hl
      · cases hl
      · cases hl
      · exact ⟨v0, v1, v2, rfl⟩
      · simp at hl
    simp only [List.drop, List.take] at e0 e1 e2
    rw [List.getElem?_eq_getElem (by omega)] at e0 e1 e2
    obtain ⟨n0, ev0, _, w0⟩ := DataW.trod_int Tryz.underlying3 e0
    obtain ⟨n1, ev1, _, w1⟩ := DataW.trod_int Tryz.underlying3 e1
    simp only [List.cons.injEq, and_true] at ev0 ev1
    subst ev0 ev1
    have b0 := bounds_i64 w0
    have b1 := bounds_i64 w1
    rcases DataW.trod_slice Tryz.underlying23 e2 with ⟨hv, _⟩ | ⟨a, len, cap, elems, rest, m', hm', hv, _, hb, hl1, hl2, hle, hel, _, _⟩
    · simp only [List.cons.injEq, and_true] at hv
      subst hv
      exact ⟨.mk n0 n1 0 fun _ => .none_, n0, n1, none, 0, 0, rfl, Rd.shut ⟨b0.1, b0.2⟩ ⟨b1.1, b1.2⟩ (by unfold maxLen; omega) fun h => absurd h (by omega)⟩
    · simp only [List.cons.injEq, and_true] at hv
      subst hv hm'
      rw [cellsEx] at hel
      have each : ∀ i, i < len → ∃ (t : Tr) (o n : Int) (A : Option Addr) (k c : Nat), w.cells? 0 (a.add (i * 3)) 3 = some [.int .i64 o, .int .i64 n, .slice A k c] ∧ Rd w w.heap.size t (.agg #[.int .i64 o, .int .i64 n, .slice A k c]) := by
        intro i hi
        have he := hel i hi
        rw [List.getElem?_eq_getElem (by omega), Option.bind_eq_some_iff] at he
        obtain ⟨cs', hc, ht⟩ := he
        obtain ⟨t, o, n, A, k, c, rfl, hr⟩ := ih m' (by omega) cs' _ ht
        exact ⟨t, o, n, A, k, c, hc, hr⟩
      refine ⟨.mk n0 n1 len fun i => if h : i < len then Classical.choose (each i h) else .none_, n0, n1, some a, len, cap, rfl, Rd.shut ⟨b0.1, b0.2⟩ ⟨b1.1, b1.2⟩ (by omega) fun hp => ?_⟩
      have cell : ∀ i, i < len → ∀ j v, ([(0 : Nat), 1, 2] : List Nat)[j]? = some j → w.cells? 0 (a.add (i * 3)) 3 = some v → (h : j < v.length) → w.cell? ((a.add (i * 3)).add j) = some v[j] := by
        intro i hi j v hj hc h
        have h3 := World.cells?_some hc
        have := h3.2.2 j (by have := h3.2.1; omega)
        rw [this]
        exact List.getElem?_eq_getElem h
      obtain ⟨blk, off, spot⟩ := a
      have hspot : spot = none := by
        obtain ⟨t, o, n, A, k, c, hc, _⟩ := each 0 hp
        have := cell 0 hp 0 _ rfl hc (by simp)
        simpa [Addr.add] using World.cell?_spot this
      subst hspot
      have hlt : blk < w.heap.size := by
        obtain ⟨t, o, n, A, k, c, hc, _⟩ := each 0 hp
        have := cell 0 hp 0 _ rfl hc (by simp)
        rw [add_plain, add_plain] at this
        exact Nat.lt_of_not_le fun hb => by simp [World.cell?, Array.getElem?_eq_none hb] at this
      refine ⟨blk, off, rfl, hlt, fun i hi => ?_⟩
      obtain ⟨o, n, A, k, c, hc, hr⟩ := Classical.choose_spec (each i hi)
      have c0 := cell i hi 0 _ rfl hc (by simp)
      have c1 := cell i hi 1 _ rfl hc (by simp)
      have c2 := cell i hi 2 _ rfl hc (by simp)
      rw [add_plain, add_plain] at c0 c1 c2
      exact ⟨o, n, A, k, c, by simpa using c0, by simpa using c1, by simpa using c2, by dsimp only; rw [dif_pos hi]; exact hr⟩
/-- Is a raw expression not too large? -/
def lightS : Nat → Tr → Bool
  | _, .none_ => false
  | 0, .mk _ _ k _ => decide (k = 0)
  | m + 1, .mk _ _ k kid => if 3 < k then decide (k = 0) else (List.range k).all fun i => lightS m (kid i)
theorem lightS_yes {m : Nat} {op n : Int} {k : Nat} {kid : Nat → Tr} (hk : k ≤ 3) (h : ∀ i, i < k → lightS m (kid i) = true) : lightS (m + 1) (.mk op n k kid) = true := by
  simp only [lightS]
  rw [if_neg (by omega)]
  simp only [List.all_eq_true, List.mem_range]
  exact h
theorem lightS_no {m : Nat} {op n : Int} {k i : Nat} {kid : Nat → Tr} (hk : k ≤ 3) (hi : i < k) (h : lightS m (kid i) = false) : lightS (m + 1) (.mk op n k kid) = false := by
  simp only [lightS]
  rw [if_neg (by omega)]
  rcases e : ((List.range k).all fun i => lightS m (kid i))
  · rfl
  · simp only [List.all_eq_true, List.mem_range] at e
    rw [e i hi] at h
    cases h
theorem lightS_big {m : Nat} {op n : Int} {k : Nat} {kid : Nat → Tr} (hk : 3 < k) : lightS m (.mk op n k kid) = false := by
  rcases m with _ | m
  · simp only [lightS]; exact decide_eq_false (by omega)
  · simp only [lightS]; rw [if_pos hk]; exact decide_eq_false (by omega)
/-- What the loop of light keeps. -/
def LRel (m k c : Nat) (A : Option Addr) (kid : Nat → Tr) (w0 : World) (i : Value) (w : World) : Prop :=
  ∃ j : Nat, j ≤ k ∧ i = .int .i64 (j : Int) ∧ (∀ x, x < j → lightS m (kid x) = true) ∧ Below w0.heap.size w0 w ∧ w.cell? ⟨w0.heap.size, 2, none⟩ = some (.slice A k c) ∧ w0.heap.size < w.heap.size
set_option maxRecDepth 100000 in
set_option maxHeartbeats 1000000 in
theorem light_x (m : Nat) : ∀ (t : Tr) (v : Value) (w : World), m ≤ 16 → Rd w w.heap.size t v →
    Calls Tryz.prog 12 #[v, .int .i64 m] w fun e w' => e = .returned (.bool (lightS m t)) ∧ Below w.heap.size w w' := by
  induction m with
  | zero =>
    intro t v w hm hr
    rcases t with _ | ⟨op, n, k, kid⟩
    · exact hr.elim
    obtain ⟨A, c, rfl, hop, hn, hk, hkids⟩ := hr.open_
    clear hr hkids
    rcases Nat.lt_or_ge 3 k with h3 | h3
    · rw [lightS_big h3]
      have h0 : ((k : Int) == 0) = false := by simp; omega
      go_enter Tryz.func12, Tryz.ntmps12
      go_wp2
      go_ret
      exact ⟨rfl, below_box' _ (Nat.le_refl _)⟩
    · have HL : Hid (lightS 0 (.mk op n k kid) = decide (k = 0)) := rfl
      have HK : Hid (((k : Int) == 0) = decide (k = 0)) := by
        unfold Hid
        by_cases h : k = 0
        · subst h; rfl
        · rw [decide_eq_false h]; exact beq_false_of_ne (by omega)
      rw [HL.out, ← HK.out]
      go_enter Tryz.func12, Tryz.ntmps12
      go_wp2
      go_ret
      exact ⟨rfl, below_box' _ (Nat.le_refl _)⟩
  | succ m ih =>
    intro t v w hm hr
    rcases t with _ | ⟨op, n, k, kid⟩
    · exact hr.elim
    obtain ⟨A, c, rfl, hop, hn, hk, hkids⟩ := hr.open_
    clear hr
    obtain ⟨q, hq⟩ : ∃ q : Int, q = ((m + 1 : Nat) : Int) := ⟨_, rfl⟩
    have hq1 : q - 1 = (m : Int) := by omega
    have hq2 : 1 ≤ q := by omega
    have hq3 : q ≤ 16 := by omega
    have hq0 : (q == 0) = false := by simp; omega
    rw [← hq]
    have HQ1 := Lib.hid hq1
    clear hq hq1
    rcases Nat.lt_or_ge 3 k with h3 | h3
    · rw [lightS_big h3]
      clear hkids
      have h0 : ((k : Int) == 0) = false := by simp; omega
      go_enter Tryz.func12, Tryz.ntmps12
      go_wp2
      go_ret
      exact ⟨rfl, below_box' _ (Nat.le_refl _)⟩
    have HKI := Lib.hid hkids
    clear hkids
    go_enter Tryz.func12, Tryz.ntmps12
    go_wp2
    go_loopw [5] (LRel m k c A kid w) (fun i _ => k - (intOf i).toNat)
    case atStart => exact ⟨0, by omega, rfl, fun x hx => absurd hx (by omega), below_box' _ (Nat.le_refl _), by simp [World.cell?_alloc_new], by simp⟩
    case round =>
      obtain ⟨j, hj, rfl, hjr, hb, hbox, hsz⟩ := hrel
      have HJ := Lib.hid hjr
      have HB := Lib.hid hb
      clear hjr hb
      by_cases hlt : j < k
      · obtain ⟨ab, off, rfl, hab, hc⟩ := HKI.out (by omega)
        obtain ⟨o, n', A', k', c', c0, c1, c2, hr⟩ := hc j hlt
        have HR := Lib.hid hr
        have d0 := (HB.out.cell (p := ⟨ab, off + j * 3, none⟩) hab).trans c0
        have d1 := (HB.out.cell (p := ⟨ab, off + j * 3 + 1, none⟩) hab).trans c1
        have d2 := (HB.out.cell (p := ⟨ab, off + j * 3 + 2, none⟩) hab).trans c2
        clear hc c0 c1 c2 hr
        have hc0 : ∀ W : World, Below w.heap.size w W → Calls Tryz.prog 12 #[.agg #[.int .i64 o, .int .i64 n', .slice A' k' c'], .int .i64 (q - 1)] W fun e w' => e = .returned (.bool (lightS m (kid j))) ∧ Below W.heap.size W w' := fun W hb => by
          rw [HQ1.out]
          exact ih (kid j) _ W (by omega) (HR.out.below hb hb.size)
        have HC := Lib.hid hc0
        clear hc0
        rcases hrj : lightS m (kid j) with _ | _
        · have HJ2 := Lib.hid hrj
          clear hrj
          rw [HJ2.out] at HC
          go_wp2_with (go_at_call 12; refine (HC.out _ HB.out).mono ?_; rintro e w1 ⟨rfl, hb⟩; have HN := Lib.hid hb; clear hb)
          go_ret
          rw [lightS_no h3 hlt HJ2.out]
          exact ⟨rfl, HB.out.trans (HN.out.mono (Nat.le_of_lt hsz))⟩
        · have HJ2 := Lib.hid hrj
          clear hrj
          rw [HJ2.out] at HC
          go_wp2_with (go_at_call 12; refine (HC.out _ HB.out).mono ?_; rintro e w1 ⟨rfl, hb⟩; have HN := Lib.hid hb; clear hb)
          refine ⟨⟨j + 1, by omega, by go_num, fun x hx => ?_, HB.out.trans (HN.out.mono (Nat.le_of_lt hsz)), ?_, ?_⟩, by simp [intOf]; omega⟩
          · rcases Nat.lt_or_ge x j with h | h
            · exact HJ.out x h
            · rw [show x = j by omega]; exact HJ2.out
          · exact (HN.out.cell hsz).trans hbox
          · have := HN.out.size; omega
      · have hje : j = k := by omega
        have HA : Hid (∀ x, x < k → lightS m (kid x) = true) := by rw [← hje]; exact HJ.out
        go_wp2_with fail
        go_ret
        rw [lightS_yes h3 HA.out]
        exact ⟨by first | rfl | simp, HB.out⟩
end Go.Proofs.YtdipainocdgfgaaGreatDoor
