/- The contracts of eval and Eval of cncref08: a well-formed expression evaluates to what the plain function evalS gives of its tree. Conditions: the expression reads as a tree, the store as a function whose values are numbers. -/
import Derived.Test.YtdipainocdgfgaaGreatDoorEr
import Derived.Test.YtdipainocdgfgaaGreatDoorEw
import Derived.Test.YtdipainocdgfgaaGreatDoorRr
import Derived.Test.YtdipainocdgfgaaGreatDoorSr
namespace Go.Proofs.YtdipainocdgfgaaGreatDoor
set_option linter.unusedVariables false
set_option linter.unusedSimpArgs false
open Go.RowKit

/-- What eval of the reference promises of a tree. -/
def EvOfR (b : Nat) (f : Int → Int) (t : Tr) : Prop := ∀ (v : Value) (w : World) (B : Nat), Rd w w.heap.size t v → Sr w B b f →
  Calls Tryz.prog 22 #[v, .pointer (some ⟨b, 0, none⟩)] w fun e w' => e = .returned (.tuple #[.int .i64 (evalS (getS f) t).1, .int .i64 (evalS (getS f) t).2]) ∧ Below w.heap.size w w'
theorem two_cells' {w : World} {g : Nat} {x y : Int} {t : TypeId} (h : w.heap[g]? = some (.cells #[.int .i64 x, .int .i64 y] t (0, 0))) : w.cell? ⟨g, 0, none⟩ = some (.int .i64 x) ∧ w.cell? ⟨g, 1, none⟩ = some (.int .i64 y) := ⟨cell_of_row w g 0 _ _ _ h, cell_of_row w g 1 _ _ _ h⟩
theorem past_blk {w w1 : World} {x : Obj} {g : Nat} (hb : Below w.heap.size w w1) (hg : w.heap[g]? = some x) : w1.heap[g]? = some x := (hb.block g (Array.getElem?_eq_some_iff.1 hg).1).trans hg
set_option maxRecDepth 100000 in
set_option maxHeartbeats 4000000 in
theorem evalR_step (b : Nat) (f : Int → Int) (hf : Vf f) (m : Nat) (op n : Int) (k : Nat) (kid : Nat → Tr) (hrt : rightS (m + 1) (.mk op n k kid) = true) (ih : ∀ i, i < k → EvOfR b f (kid i)) : EvOfR b f (.mk op n k kid) := by
  intro v w B hr hs
  obtain ⟨A, c, rfl, hop, hn, hk, hkids⟩ := hr.open_
  obtain ⟨q1, q2, q3⟩ := rightS_kids hrt
  have hk2 : k ≤ 2 := by have := kidsS_bd op; omega
  have HQ1 := Lib.hid q1
  have HQ2 := Lib.hid q2
  have HQ3 := Lib.hid q3
  have HIH := Lib.hid ih
  have HKI := Lib.hid hkids
  have HS := Lib.hid hs
  have hbs := hs.lt
  clear hr hrt q1 q2 q3 ih hkids hs
  go_enter Tryz.func22, Tryz.ntmps22
  go_wp2_with fail
  go_loopw [7] (ERel f op n A k c kid w) (fun i _ => k - (intOf i).toNat)
  case atStart =>
    refine ⟨0, by omega, rfl, fun x hx => absurd hx (by omega), ((Below.refl _ _).alloc (Nat.le_refl _) _).alloc (by simp) _, by simp, ?_, ?_⟩
    · exact (Below.heap_alloc _ _ _ (by simp)).trans (heap_alloc_new w _)
    · have := heap_alloc_new (w.alloc (.cells #[.int .i64 op, .int .i64 n, .slice A k c] 25)) (.cells #[.int .i64 0, .int .i64 0] 64)
      simpa using this
  case round =>
    obtain ⟨j, hj, rfl, hje, hb, hsz, hbox, hvs⟩ := hrel
    have HJ := Lib.hid hje
    have HB := Lib.hid hb
    have HBX := Lib.hid hbox
    have HVS := Lib.hid hvs
    have HSZ := Lib.hid hsz
    have b2 : wr.cell? ⟨w.heap.size, 2, none⟩ = some (.slice A k c) := cell_of_row wr _ 2 _ _ _ hbox
    clear hje hb
    by_cases hlt : j < k
    · obtain ⟨ab, off, rfl, hab, hc⟩ := HKI.out (by omega)
      obtain ⟨o, n', A', k', c', c0, c1, c2, hr⟩ := hc j hlt
      have HR := Lib.hid hr
      have d0 := (HB.out.cell (p := ⟨ab, off + j * 3, none⟩) hab).trans c0
      have d1 := (HB.out.cell (p := ⟨ab, off + j * 3 + 1, none⟩) hab).trans c1
      have d2 := (HB.out.cell (p := ⟨ab, off + j * 3 + 2, none⟩) hab).trans c2
      clear hc c0 c1 c2 hr hbox hvs
      have hj2 : j < 2 := by omega
      have hc0 : Calls Tryz.prog 22 #[.agg #[.int .i64 o, .int .i64 n', .slice A' k' c'], .pointer (some ⟨b, 0, none⟩)] wr fun e w' => e = .returned (.tuple #[.int .i64 (evalS (getS f) (kid j)).1, .int .i64 (evalS (getS f) (kid j)).2]) ∧ Below wr.heap.size wr w' :=
        HIH.out j hlt _ wr B (HR.out.below HB.out HB.out.size) (HS.out.below HB.out hbs)
      have HC := Lib.hid hc0
      clear hc0
      obtain ⟨va, hva⟩ : ∃ x, x = (evalS (getS f) (kid j)).1 := ⟨_, rfl⟩
      obtain ⟨vb, hvb⟩ : ∃ x, x = (evalS (getS f) (kid j)).2 := ⟨_, rfl⟩
      rw [← hva, ← hvb] at HC
      have HVA := Lib.hid hva
      have HVB := Lib.hid hvb
      clear hva hvb
      by_cases he : vb = 0
      · have he' : (vb == 0) = true := by simpa using he
        have he'' : (vb != 0) = false := by simpa using he
        have HE0 := Lib.hid he
        clear he
        go_wp2_with (go_at_call 22; refine HC.out.mono ?_; rintro e w1 ⟨rfl, hb⟩; have HN := Lib.hid hb; obtain ⟨z1, cz, fz⟩ := two_cells (past_blk hb HVS.out) hj2; clear hb)
        have hw1 := Lib.hid (past_blk HN.out HVS.out)
        have hw2 := Lib.hid (past_blk HN.out HBX.out)
        refine ⟨⟨j + 1, by omega, by go_num, fun x hx => ?_, (HB.out.trans (HN.out.mono (by omega))).setCell (by simp) _, ?_, ?_, ?_⟩, by simp [intOf]; omega⟩
        · rcases Nat.lt_or_ge x j with h | h
          · exact HJ.out x h
          · rw [show x = j by omega, ← HVB.out]; exact HE0.out
        · have := HN.out.size; simp [World.setCell]; omega
        · exact (Below.heap_setCell _ _ _ _ (by show w.heap.size ≠ w.heap.size + 1; omega)).trans hw2.out
        · rw [heap_set hw1.out, two_set hj2]
          have c : j = 0 ∨ j = 1 := by omega
          have hv := HVA.out
          rcases c with rfl | rfl
          · simp [hv]
          · simp [hv]
      · have he' : (vb == 0) = false := by simpa using he
        have he'' : (vb != 0) = true := by simpa using he
        have HE0 := Lib.hid he
        clear he
        go_wp2_with (go_at_call 22; refine HC.out.mono ?_; rintro e w1 ⟨rfl, hb⟩; have HN := Lib.hid hb; clear hb)
        go_ret2
        rw [evalS_err hk2 hlt HJ.out (by rw [← HVB.out]; exact HE0.out), ← HVB.out]
        exact ⟨rfl, HB.out.trans (HN.out.mono (by omega))⟩
    · have hjk : j = k := by omega
      have HALL : Hid (∀ x, x < k → (evalS (getS f) (kid x)).2 = 0) := by rw [← hjk]; exact HJ.out
      have HEV := Lib.hid (evalS_ok (V := getS f) (op := op) (n := n) hk2 HALL.out)
      rw [← hjk] at HEV
      obtain ⟨a0, ha0⟩ : ∃ x, x = (if 0 < j then (evalS (getS f) (kid 0)).1 else 0) := ⟨_, rfl⟩
      obtain ⟨a1, ha1⟩ : ∃ x, x = (if 1 < j then (evalS (getS f) (kid 1)).1 else 0) := ⟨_, rfl⟩
      rw [← ha0, ← ha1] at hvs HEV HVS
      rw [hjk] at HEV
      have s0 : Sml a0 := by
        rw [ha0]
        split
        · exact eval_sml (getS_sml hf) _ m (HQ3.out 0 (by omega))
        · exact zero_sml
      have s1 : Sml a1 := by
        rw [ha1]
        split
        · exact eval_sml (getS_sml hf) _ m (HQ3.out 1 (by omega))
        · exact zero_sml
      clear ha0 ha1
      have v0 : wr.cell? ⟨w.heap.size + 1, 0, none⟩ = some (.int .i64 a0) := cell_of_row wr _ 0 _ _ _ hvs
      have v1 : wr.cell? ⟨w.heap.size + 1, 1, none⟩ = some (.int .i64 a1) := cell_of_row wr _ 1 _ _ _ hvs
      have b0 : wr.cell? ⟨w.heap.size, 0, none⟩ = some (.int .i64 op) := cell_of_row wr _ 0 _ _ _ hbox
      have b1 : wr.cell? ⟨w.heap.size, 1, none⟩ = some (.int .i64 n) := cell_of_row wr _ 1 _ _ _ hbox
      clear hbox hvs
      obtain ⟨s01, s02⟩ := s0
      obtain ⟨s11, s12⟩ := s1
      have HSR := Lib.hid (HS.out.below HB.out hbs)
      have hkk := HQ1.out
      subst hjk
      by_cases c0 : op = 0
      · have HF : Hid (finS (getS f) op n a0 a1 = (n, 0)) := by unfold Hid finS; rw [if_pos c0]
        have c0' : (op == 0) = true := by simpa using c0
        clear c0 hkk
        go_wp2_with fail
        go_quiet (fail)
        go_wp2_with fail
        go_ret2
        rw [HEV.out, HF.out]
        exact ⟨rfl, below_dn HB.out _⟩
      have c0' : (op == 0) = false := by simpa using c0
      by_cases c1 : op = 1
      · have c1' : (op == 1) = true := by simpa using c1
        have HF : Hid (finS (getS f) op n a0 a1 = if (wholeS a0).2 then getS f (wholeS a0).1 else (0, 6)) := by unfold Hid finS; rw [if_neg c0, if_pos c1]
        have HW := Lib.hid (fun W => whole_ref a0 W)
        clear c0 c1 hkk
        rcases hw : wholeS a0 with ⟨q, ok⟩
        rw [hw] at HF HW
        dsimp only at HF HW
        clear hw
        rcases ok with _ | _
        · go_wp2_with fail
          go_quiet (fail)
          go_wp2_with (go_at_call 33; refine (HW.out _).mono ?_; rintro e w' ⟨rfl, rfl⟩)
          go_ret2
          rw [HEV.out, HF.out]
          exact ⟨rfl, below_dn HB.out _⟩
        · go_wp2_with fail
          go_quiet (fail)
          go_wp2_with (first | (go_at_call 33; refine (HW.out _).mono ?_; rintro e w' ⟨rfl, rfl⟩) | (go_at_call 34; refine (getR_any (World.drewN wr _) B b f q (HSR.out.keep fun _ _ _ => rfl)).mono ?_; rintro e w' ⟨rfl, z, rfl⟩))
          go_ret2
          rw [HEV.out, HF.out]
          exact ⟨rfl, below_dn HB.out _⟩
      have c1' : (op == 1) = false := by simpa using c1
      by_cases d3 : op = 3
      · have d3' : (op == 3) = true := by simpa using d3
        have HF : Hid (finS (getS f) op n a0 a1 = addS a0 a1) := by subst d3; rfl
        have HD := Lib.hid (fun W => add_ref a0 a1 (by omega) (by omega) (by omega) (by omega) W)
        rw [← HF.out] at HD
        clear c0 c1 hkk d3
        go_wp2_with fail
        go_quiet (fail)
        go_wp2_with (go_at_call 35; refine (HD.out _).mono ?_; rintro e w' ⟨rfl, rfl⟩)
        go_ret2
        rw [HEV.out]
        exact ⟨rfl, below_dn HB.out _⟩
      have d3' : (op == 3) = false := by simpa using d3
      by_cases d4 : op = 4
      · have d4' : (op == 4) = true := by simpa using d4
        have HF : Hid (finS (getS f) op n a0 a1 = subS a0 a1) := by subst d4; rfl
        have HD := Lib.hid (fun W => sub_ref a0 a1 (by omega) (by omega) (by omega) (by omega) W)
        rw [← HF.out] at HD
        clear c0 c1 hkk d4 d3
        go_wp2_with fail
        go_quiet (fail)
        go_wp2_with (go_at_call 36; refine (HD.out _).mono ?_; rintro e w' ⟨rfl, rfl⟩)
        go_ret2
        rw [HEV.out]
        exact ⟨rfl, below_dn HB.out _⟩
      have d4' : (op == 4) = false := by simpa using d4
      by_cases d5 : op = 5
      · have d5' : (op == 5) = true := by simpa using d5
        have HF : Hid (finS (getS f) op n a0 a1 = mulS a0 a1) := by subst d5; rfl
        have HD := Lib.hid (fun W => mul_ref2 a0 a1 (by omega) (by omega) (by omega) (by omega) W)
        rw [← HF.out] at HD
        clear c0 c1 hkk d5 d3 d4
        go_wp2_with fail
        go_quiet (fail)
        go_wp2_with (go_at_call 37; refine (HD.out _).mono ?_; rintro e w1 ⟨rfl, hb⟩; have HN := Lib.hid hb; clear hb)
        go_ret2
        rw [HEV.out]
        exact ⟨rfl, (below_dn HB.out _).trans (HN.out.mono HB.out.size)⟩
      have d5' : (op == 5) = false := by simpa using d5
      by_cases d6 : op = 6
      · have d6' : (op == 6) = true := by simpa using d6
        have HF : Hid (finS (getS f) op n a0 a1 = divS a0 a1) := by subst d6; rfl
        have HD := Lib.hid (fun W => div_ref2 a0 a1 (by omega) (by omega) (by omega) (by omega) W)
        rw [← HF.out] at HD
        clear c0 c1 hkk d6 d3 d4 d5
        go_wp2_with fail
        go_quiet (fail)
        go_wp2_with (go_at_call 38; refine (HD.out _).mono ?_; rintro e w1 ⟨rfl, hb⟩; have HN := Lib.hid hb; clear hb)
        go_ret2
        rw [HEV.out]
        exact ⟨rfl, (below_dn HB.out _).trans (HN.out.mono HB.out.size)⟩
      have d6' : (op == 6) = false := by simpa using d6
      by_cases d7 : op = 7
      · have d7' : (op == 7) = true := by simpa using d7
        have HF : Hid (finS (getS f) op n a0 a1 = modS a0 a1) := by subst d7; rfl
        have HD := Lib.hid (fun W => mod_ref a0 a1 (by omega) (by omega) (by omega) (by omega) W)
        rw [← HF.out] at HD
        clear c0 c1 hkk d7 d3 d4 d5 d6
        go_wp2_with fail
        go_quiet (fail)
        go_wp2_with (go_at_call 39; refine (HD.out _).mono ?_; rintro e w' ⟨rfl, rfl⟩)
        go_ret2
        rw [HEV.out]
        exact ⟨rfl, below_dn HB.out _⟩
      have d7' : (op == 7) = false := by simpa using d7
      by_cases c2 : op = 11
      · have c2' : (op == 11) = true := by simpa using c2
        have HF : Hid (finS (getS f) op n a0 a1 = dirS a0 a1) := by subst c2; rfl
        have HD := Lib.hid (fun W => atan_any a0 a1 s11 s12 s01 s02 W)
        rw [← HF.out] at HD
        clear c0 c1 c2 hkk d3 d4 d5 d6 d7
        go_wp2_with fail
        go_quiet (fail)
        go_wp2_with (go_at_call 40; refine (HD.out _).mono ?_; rintro e w1 ⟨rfl, hb⟩; have HN := Lib.hid hb; clear hb)
        go_ret2
        rw [HEV.out]
        exact ⟨rfl, (below_dn HB.out _).trans (HN.out.mono HB.out.size)⟩
      have c2' : (op == 11) = false := by simpa using c2
      by_cases c4 : 17 ≤ op
      · have c5 : op ≤ 25 := by
          rcases Int.lt_or_le 25 op with h | h
          · have : kidsS op = -1 := by unfold kidsS; rw [if_neg (by omega), if_neg (by omega), if_neg (by omega)]
            omega
          · exact h
        have c3 : kidsS op ≠ 1 := by
          unfold kidsS
          rw [if_neg c0, if_pos (by omega)]
          decide
        have HF : Hid (finS (getS f) op n a0 a1 = (if holdsS op a0 a1 then 1000000 else 0, 0)) := by unfold Hid finS; rw [if_neg c0, if_neg c1, if_neg c2, if_neg c3, if_pos c4]
        have HD := Lib.hid (fun W => compared_any op a0 a1 c4 c5 W)
        clear c0 c1 c2 c3 hkk d3 d4 d5 d6 d7
        rcases hh : holdsS op a0 a1 with _ | _
        all_goals
          rw [hh] at HD HF
          clear hh
          go_wp2_with fail
          go_quiet (fail)
          go_wp2_with (go_at_call 41; refine (HD.out _).mono ?_; rintro e w' ⟨rfl, rfl⟩)
          go_ret2
          rw [HEV.out, HF.out]
          exact ⟨rfl, below_dn HB.out _⟩
      have c3 : kidsS op = 1 := by
        rcases Int.lt_or_le (kidsS op) 2 with h | h
        · rcases Int.lt_or_le (kidsS op) 1 with h' | h'
          · have h'' : kidsS op = 0 := by omega
            unfold kidsS at h''
            rw [if_neg c0] at h''
            split at h''
            · omega
            · split at h'' <;> omega
          · omega
        · exfalso
          unfold kidsS at h
          rw [if_neg c0, if_neg (by omega)] at h
          split at h <;> omega
      have HF : Hid (finS (getS f) op n a0 a1 = unS op a0) := by unfold Hid finS; rw [if_neg c0, if_neg c1, if_neg c2, if_pos c3]
      have HD := Lib.hid (fun W => single_any op a0 c3 c1 s01 s02 W)
      rw [← HF.out] at HD
      have c4' : op < 17 := by omega
      clear c0 c1 c2 c3 c4 hkk d3 d4 d5 d6 d7
      go_wp2_with fail
      go_quiet (fail)
      go_wp2_with (go_at_call 42; refine (HD.out _).mono ?_; rintro e w1 ⟨rfl, hb⟩; have HN := Lib.hid hb; clear hb)
      go_ret2
      rw [HEV.out]
      exact ⟨rfl, (below_dn HB.out _).trans (HN.out.mono HB.out.size)⟩
theorem evalR_any (b : Nat) (f : Int → Int) (hf : Vf f) : ∀ (t : Tr) (m : Nat), rightS m t = true → EvOfR b f t := by
  intro t
  induction t with
  | none_ => intro m h; cases m <;> cases h
  | mk op n k kid ih =>
    intro m h
    rcases m with _ | m
    · cases h
    · exact evalR_step b f hf m op n k kid h fun i hi => ih i m ((rightS_kids h).2.2 i hi)
theorem Eval_ref (B b : Nat) (f : Int → Int) (hf : Vf f) (t : Tr) (v : Value) (w : World) (hr : Rd w w.heap.size t v) (hs : Sr w B b f) :
    Calls Tryz.prog 10 #[v, .pointer (some ⟨b, 0, none⟩)] w fun e w' => e = .returned (.tuple #[.int .i64 (EvalS (getS f) t).1, .int .i64 (EvalS (getS f) t).2]) ∧ Below w.heap.size w w' := by
  have HR := Lib.hid hr
  have HS := Lib.hid hs
  have hbs := hs.lt
  have HX := Lib.hid (fun W (hb : Below w.heap.size w W) => Right_ref t v W (HR.out.below hb hb.size))
  have HE : Hid (rightS 16 t = true → ∀ W, Below w.heap.size w W → Calls Tryz.prog 22 #[v, .pointer (some ⟨b, 0, none⟩)] W fun e w' => e = .returned (.tuple #[.int .i64 (evalS (getS f) t).1, .int .i64 (evalS (getS f) t).2]) ∧ Below W.heap.size W w') :=
    fun h W hb => evalR_any b f hf t 16 h v W B (HR.out.below hb hb.size) (HS.out.below hb hbs)
  rcases t with _ | ⟨op, n, k, kid⟩
  · exact hr.elim
  obtain ⟨A, c, rfl, hop, hn, hk, hkids⟩ := hr.open_
  clear hr hs hkids
  unfold EvalS
  rcases hh : rightS 16 (.mk op n k kid) with _ | _
  · rw [if_neg (by decide)]
    rw [hh] at HX
    clear HE hh
    go_enter Tryz.func10, Tryz.ntmps10
    go_wp2_with (go_at_call 7; refine (HX.out _ (below_box' _ (Nat.le_refl _))).mono ?_; rintro e w1 ⟨rfl, hb⟩; have HN := Lib.hid hb; clear hb)
    go_ret2
    exact ⟨rfl, (below_box' _ (Nat.le_refl _)).trans (HN.out.mono (by simp))⟩
  · rw [if_pos rfl]
    rw [hh] at HX
    have HE2 := Lib.hid (HE.out hh)
    clear HE hh
    go_enter Tryz.func10, Tryz.ntmps10
    go_wp2_with (first | (go_at_call 7; refine (HX.out _ (below_box' _ (Nat.le_refl _))).mono ?_; rintro e w1 ⟨rfl, hb⟩; have HN := Lib.hid ((below_box' _ (Nat.le_refl _)).trans (hb.mono (World.size_le_alloc _ _))); have hbx := hb.cell (p := ⟨w.heap.size, 0, none⟩) (by simp); have hby := hb.cell (p := ⟨w.heap.size, 1, none⟩) (by simp); have hbz := hb.cell (p := ⟨w.heap.size, 2, none⟩) (by simp); clear hb) | (go_at_call 22; refine (HE2.out _ HN.out).mono ?_; rintro e w2 ⟨rfl, hb⟩; have HM := Lib.hid hb; clear hb))
    go_ret2
    exact ⟨rfl, HN.out.trans (HM.out.mono HN.out.size)⟩
end Go.Proofs.YtdipainocdgfgaaGreatDoor
