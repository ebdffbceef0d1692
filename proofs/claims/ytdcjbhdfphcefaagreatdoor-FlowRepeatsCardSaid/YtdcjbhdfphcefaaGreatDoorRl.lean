/- The law of repeated programs on the plain machine: five blocks, a call of a program of two. No program in sight. Conditions: those that each lemma names. -/
import Derived.Test.YtdcjbhdfphcefaaGreatDoorSk
namespace Go.Proofs.YtdcjbhdfphcefaaGreatDoor
set_option linter.unusedVariables false
set_option linter.unusedSimpArgs false

/-- The machine ahead of all. -/
def rm0 : MS := ⟨0, 0, [], sto0, 0, false, 0⟩
/-- The blocks of the law. -/
def rCall (mc : Bool) (n v : Int) : Bk := ⟨0, 0, false, if mc then [(71, numT 65000000), (80, numT 7000000), (76, numT (n * 1000000)), (65, numT v)] else [(77, numT 98000000), (80, numT 7000000), (76, numT (n * 1000000))], numT 0, numT 0, 0⟩
def oneT : Tr := .mk 1 0 1 fun _ => numT 1000000
def rBs (mc : Bool) (n v : Int) : List Bk := [rCall mc n v, wordB false 0 89 0, ⟨6, 0, false, [], numT 0, numT 0, 7⟩, ⟨0, 0, false, [(88, oneT)], numT 0, numT 0, 0⟩, ⟨1, 0, false, [], numT 1000000, numT 5, 0⟩]
def rL (mc : Bool) (n v : Int) : Lb := ⟨rBs mc n v, [⟨0, 0, 2⟩, ⟨7, 2, 5⟩], [-1, -1, -1, -1, -1]⟩
def rArgs (mc : Bool) (v : Int) : List (Int × Int) := if mc then [(65, v)] else [(77, 98000000)]
/-- The machine in the called program, behind its words. -/
def rM (mc : Bool) (v left : Int) (σ : Sto) (s : Nat) : MS := ⟨1, 4, [⟨1, 0, 1, left, rArgs mc v, mc⟩], σ, s, false, 0⟩
/-- The store there. -/
structure rS (mc : Bool) (v : Int) (σ : Sto) : Prop where
  gl : σ.gl = fun _ => 0
  lv : if mc = true then ∃ g, σ.lv = [fun _ => 0, g] else ∃ g, σ.lv = [g]
section
variable {n v : Int}
theorem r_valid (mc : Bool) (hn : 1 ≤ n ∧ n ≤ 20) (hv : 0 ≤ v ∧ v < 1000000000) : ∀ b ∈ rBs mc n v, validS b = true := by
  have q0 : rightS 16 (numT 0) = true := num_right _ (by omega) (by omega)
  have q1 : rightS 16 (numT 65000000) = true := num_right _ (by omega) (by omega)
  have q2 : rightS 16 (numT 7000000) = true := num_right _ (by omega) (by omega)
  have q3 : rightS 16 (numT (n * 1000000)) = true := num_right _ (by omega) (by omega)
  have q4 : rightS 16 (numT v) = true := num_right _ (by omega) (by omega)
  have q5 : rightS 16 (numT 98000000) = true := num_right _ (by omega) (by omega)
  have q6 : rightS 16 (numT 1000000) = true := num_right _ (by omega) (by omega)
  have q7 : rightS 16 (numT 5) = true := num_right _ (by omega) (by omega)
  have q8 : rightS 16 oneT = true := by decide
  have z : noneS (numT 0) = true := by decide
  intro b hb
  simp only [rBs, List.mem_cons, List.not_mem_nil, or_false] at hb
  rcases hb with rfl | rfl | rfl | rfl | rfl
  · cases mc <;> simp [validS, rCall, headS, wordS, partS, leftK, xK, tailS, q1, q2, q3, q4, q5, z]
  · simp [validS, wordB, headS, wordS, partS, leftK, xK, tailS, q0, z]
  · simp [validS, headS, partS, leftK, xK, tailS, z]
  · simp [validS, headS, wordS, partS, leftK, xK, tailS, q8, z]
  · simp [validS, headS, partS, leftK, xK, tailS, q6, q7]
theorem r_build (mc : Bool) (hn : 1 ≤ n ∧ n ≤ 20) (hv : 0 ≤ v ∧ v < 1000000000) : buildS (rBs mc n v) = (rL mc n v, 5, 0) :=
  build_skel (sk := [⟨0, 0, false, [], .none_, .none_, 0⟩, ⟨0, 0, false, [], .none_, .none_, 0⟩, ⟨6, 0, false, [], .none_, .none_, 7⟩, ⟨0, 0, false, [], .none_, .none_, 0⟩, ⟨1, 0, false, [], .none_, .none_, 0⟩]) (x := 5) rfl (by show 5 ≤ 2000; omega) (r_valid mc hn hv) (by kernel_rfl)
theorem r_new (mc : Bool) : newS (rL mc n v) = some (rm0) := rfl
theorem whole_mk2 {k n : Int} (h : -1000000000000000 ≤ n ∧ n ≤ 1000000000000000) (e : n = k * 1000000) : wholeS n = (k, true) := by
  unfold wholeS
  rw [if_pos ⟨vld_mk h.1 h.2, by omega⟩]
  congr 1
  omega
theorem r_find (mc : Bool) : findS (rL mc n v) 7 = (1, true) := rfl
theorem vals_cons (f : Int → Int) (c a : Int) (r : List (Int × Tr)) (q : List (Int × Int)) (h : 0 ≤ a ∧ a < 1000000000000000) (hr : valsS f r = (q, 0)) : valsS f ((c, numT a) :: r) = ((c, a) :: q, 0) := by
  rw [valsS, eval_num _ a h.1 h.2, hr]
  simp
theorem r_lvl (v : Int) : lvlS [(65, v)] 1 = v := rfl
theorem r_push (v : Int) (hv : 0 ≤ v ∧ v < 1000000000) (σ : Sto) (h : σ.lv.length ≠ 9) : pushE σ [(65, v)] = 0 := by
  unfold pushE
  rw [if_neg h]
  have e : locS 65 = 1 := rfl
  simp [argsE, e, vld_mk (show -1000000000000000 ≤ v by omega) (show v ≤ 1000000000000000 by omega)]
/-- The store behind the call. -/
def rSto (mc : Bool) (v : Int) : Sto := if mc then ⟨[fun _ => 0, lvlS [(65, v)]], fun _ => 0⟩ else sto0
/-- The call. -/
theorem r_call (mc : Bool) (hn : 1 ≤ n ∧ n ≤ 20) (hv : 0 ≤ v ∧ v < 1000000000) (sk : Bool) : roundM (rL mc n v) sk (rm0) = (⟨1, 2, [⟨1, 0, 1, n - 1, rArgs mc v, mc⟩], rSto mc v, 1, false, 0⟩, none) := by
  refine round_thru rfl rfl (by decide) (by show (0 : Int) ≤ 0 ∧ (0 : Int) < 2; omega) ?_ rfl
  have eb : (rL mc n v).blk ((rm0).pos.toNat) = rCall mc n v := rfl
  obtain ⟨m1, hm1⟩ : ∃ m1 : MS, m1 = { rm0 with steps := (rm0).steps + 1 } := ⟨_, rfl⟩
  rw [eb, ← hm1]
  have es : m1.sto = sto0 := by rw [hm1]; rfl
  have eca : m1.calls = [] := by rw [hm1]; rfl
  have w1 : wholeS 7000000 = (7, true) := whole_mk2 (by omega) (by omega)
  have w2 : wholeS (n * 1000000) = (n, true) := whole_mk2 (by omega) rfl
  have fd := r_find (n := n) (v := v) mc
  cases mc
  · have hw : (rCall false n v).words = [(77, numT 98000000), (80, numT 7000000), (76, numT (n * 1000000))] := rfl
    have ev : valsS m1.sto.f [(77, numT 98000000), (80, numT 7000000), (76, numT (n * 1000000))] = ([(77, 98000000), (80, 7000000), (76, n * 1000000)], 0) :=
      vals_cons _ _ _ _ _ (by omega) (vals_cons _ _ _ _ _ (by omega) (vals_cons _ _ _ _ _ (by omega) rfl))
    have ec : ctlS [(77, 98000000), (80, 7000000), (76, n * 1000000)] = (1, 98) := rfl
    have en : enS [(77, 98000000), (80, 7000000), (76, n * 1000000)] = ⟨7000000, n * 1000000, 1, 1, [(77, 98000000)]⟩ := rfl
    have ef : fitsS [(77, 98000000), (80, 7000000), (76, n * 1000000)] false = true := rfl
    have ee : enterE (rL false n v) m1 [(77, 98000000), (80, 7000000), (76, n * 1000000)] false = 0 := by
      unfold enterE
      simp only [ef, en, w1, w2, fd, eca]
      simp
      omega
    rw [exM_words _ _ _ _ (by rfl) rfl (by rw [hw]; simp), hw, words_call _ _ _ _ 98 ev ec (.inl rfl)]
    show (enterM _ _ _ false, none, enterE _ _ _ false) = _
    rw [ee, enter_ok _ _ _ _ ee, en]
    dsimp only
    rw [w1, w2, fd, hm1]
    rfl
  · have hw : (rCall true n v).words = [(71, numT 65000000), (80, numT 7000000), (76, numT (n * 1000000)), (65, numT v)] := rfl
    have ev : valsS m1.sto.f [(71, numT 65000000), (80, numT 7000000), (76, numT (n * 1000000)), (65, numT v)] = ([(71, 65000000), (80, 7000000), (76, n * 1000000), (65, v)], 0) :=
      vals_cons _ _ _ _ _ (by omega) (vals_cons _ _ _ _ _ (by omega) (vals_cons _ _ _ _ _ (by omega) (vals_cons _ _ _ _ _ (by omega) rfl)))
    have ec : ctlS [(71, 65000000), (80, 7000000), (76, n * 1000000), (65, v)] = (1, 65) := rfl
    have en : enS [(71, 65000000), (80, 7000000), (76, n * 1000000), (65, v)] = ⟨7000000, n * 1000000, 1, 1, [(65, v)]⟩ := rfl
    have ef : fitsS [(71, 65000000), (80, 7000000), (76, n * 1000000), (65, v)] true = true := rfl
    have hp := r_push v hv sto0 (by decide)
    have ee : enterE (rL true n v) m1 [(71, 65000000), (80, 7000000), (76, n * 1000000), (65, v)] true = 0 := by
      unfold enterE
      simp only [ef, en, w1, w2, fd, eca, es]
      simp
      rw [hp]
      omega
    rw [exM_words _ _ _ _ (by rfl) rfl (by rw [hw]; simp), hw, words_call _ _ _ _ 65 ev ec (.inr rfl)]
    show (enterM _ _ _ true, none, enterE _ _ _ true) = _
    rw [ee, enter_ok _ _ _ _ ee, en]
    dsimp only
    have e3 : pushX sto0 [(65, v)] = rSto true v := by unfold pushX; rw [if_pos hp]; rfl
    rw [w1, w2, fd, es, e3, hm1]
    rfl
/-- The head of the called program. -/
theorem r_head (mc : Bool) (sk : Bool) (cs : List Cl) (σ : Sto) (s : Nat) (hs : s < 20000) : roundM (rL mc n v) sk ⟨1, 2, cs, σ, s, false, 0⟩ = (⟨1, 3, cs, σ, (s + 1 : Nat), false, 0⟩, none) := by
  refine round_thru rfl rfl (by dsimp only; omega) (by show (0 : Int) ≤ 2 ∧ (2 : Int) < 5; omega) ?_ rfl
  rfl
theorem eval_one (σ : Sto) : EvalS (getS σ.f) oneT = (σ.f 1, 0) := rfl
/-- Its words. -/
theorem r_body (mc : Bool) (sk : Bool) (cs : List Cl) (σ : Sto) (s : Nat) (hs : s < 20000) : roundM (rL mc n v) sk ⟨1, 3, cs, σ, s, false, 0⟩ = (⟨1, 4, cs, σ, (s + 1 : Nat), false, 0⟩, some ((1, 3, [(88, σ.f 1)]), 0)) := by
  refine round_tell rfl rfl (by dsimp only; omega) (by show (0 : Int) ≤ 3 ∧ (3 : Int) < 5; omega) ?_ rfl
  have eb : (rL mc n v).blk 3 = ⟨0, 0, false, [(88, oneT)], numT 0, numT 0, 0⟩ := rfl
  show exeM _ _ _ ((rL mc n v).blk 3) = _
  rw [eb]
  have ev : valsS σ.f [(88, oneT)] = ([(88, σ.f 1)], 0) := by simp [valsS, eval_one]
  have ec : ctlS [(88, σ.f 1)] = (0, 0) := by simp [ctlS, ctl1, isC]
  rw [exM_words _ _ _ _ (by rfl) rfl (by simp)]
  dsimp only
  rw [words_tell _ _ _ _ ev ec]
  simp [isC]
/-- The first step. -/
theorem r_first (mc : Bool) (hn : 1 ≤ n ∧ n ≤ 20) (hv : 0 ≤ v ∧ v < 1000000000) (sk : Bool) : nextS (rL mc n v) sk (rm0) = (rM mc v (n - 1) (rSto mc v) 3, (1, 3, [(88, if mc then v else 0)]), 0) := by
  have e : restM (rm0) = 19999 + 1 + 1 + 1 := rfl
  unfold nextS
  rw [e, nextM_succ, r_call mc hn hv]
  dsimp only
  have h2 : roundM (rL mc n v) sk ⟨1, 2, [⟨1, 0, 1, n - 1, rArgs mc v, mc⟩], rSto mc v, 1, false, 0⟩ = (⟨1, 3, [⟨1, 0, 1, n - 1, rArgs mc v, mc⟩], rSto mc v, 2, false, 0⟩, none) := r_head mc sk _ _ 1 (by omega)
  have h3 : roundM (rL mc n v) sk ⟨1, 3, [⟨1, 0, 1, n - 1, rArgs mc v, mc⟩], rSto mc v, 2, false, 0⟩ = (⟨1, 4, [⟨1, 0, 1, n - 1, rArgs mc v, mc⟩], rSto mc v, 3, false, 0⟩, some ((1, 3, [(88, (rSto mc v).f 1)]), 0)) := r_body mc sk _ _ 2 (by omega)
  rw [nextM_succ, h2]
  dsimp only
  rw [nextM_succ, h3]
  have ef : (rSto mc v).f 1 = if mc then v else 0 := by cases mc <;> rfl
  rw [ef]
  rfl
theorem rSto_ok (mc : Bool) (v : Int) : rS mc v (rSto mc v) := by
  cases mc
  · exact ⟨rfl, fun _ => 0, rfl⟩
  · exact ⟨rfl, _, rfl⟩
end
section
variable {n v : Int}
theorem set_one (σ : Sto) : setX σ 1 5 = ⟨σ.lv.set (σ.lv.length - 1) (upd σ.top 1 5), σ.gl⟩ := rfl
/-- The assignment. -/
theorem r_set (mc : Bool) (sk : Bool) (cs : List Cl) (σ : Sto) (s : Nat) (hs : s < 20000) : roundM (rL mc n v) sk ⟨1, 4, cs, σ, s, false, 0⟩ = (⟨1, 5, cs, setX σ 1 5, (s + 1 : Nat), false, 0⟩, none) := by
  refine round_thru rfl rfl (by dsimp only; omega) (by show (0 : Int) ≤ 4 ∧ (4 : Int) < 5; omega) ?_ rfl
  rfl
theorem rS.set {mc : Bool} {σ : Sto} (h : rS mc v σ) : rS mc v (setX σ 1 5) ∧ (mc = false → (setX σ 1 5).f 1 = 5) := by
  rw [set_one]
  have hl := h.lv
  refine ⟨⟨h.gl, ?_⟩, fun hm => ?_⟩
  · cases mc
    · obtain ⟨g, e⟩ := hl
      rw [e]
      exact ⟨_, rfl⟩
    · obtain ⟨g, e⟩ := hl
      rw [e]
      exact ⟨_, rfl⟩
  · subst hm
    obtain ⟨g, e⟩ := hl
    rw [e]
    rfl
/-- The program's end, if it is to be executed once more. -/
theorem r_again (mc : Bool) (hv : 0 ≤ v ∧ v < 1000000000) (sk : Bool) (left : Int) (hl : 0 < left) (σ : Sto) (h : rS mc v σ) (s : Nat) (hs : s < 20000) : roundM (rL mc n v) sk ⟨1, 5, [⟨1, 0, 1, left, rArgs mc v, mc⟩], σ, s, false, 0⟩ = (⟨1, 2, [⟨1, 0, 1, left - 1, rArgs mc v, mc⟩], if mc then rSto mc v else σ, (s + 1 : Nat), false, 0⟩, none) := by
  refine round_back rfl rfl (by dsimp only; omega) (by show (5 : Int) ≤ 5; omega) ?_ rfl
  have hlv := h.lv
  cases mc
  · unfold leaveM
    simp [hl]
    rfl
  · obtain ⟨g, e⟩ := hlv
    have e1 : popE σ = 0 := by unfold popE; rw [e]; rfl
    have e2 : popX σ = sto0 := by unfold popX; rw [e, h.gl]; rfl
    have hp := r_push v hv sto0 (by decide)
    have e3 : pushX sto0 [(65, v)] = rSto true v := by unfold pushX; rw [if_pos hp]; rfl
    unfold leaveM
    simp [hl, e1, e2, rArgs, hp, e3]
    rfl
/-- Once more. -/
theorem r_step (mc : Bool) (hv : 0 ≤ v ∧ v < 1000000000) (sk : Bool) (left : Int) (hl : 0 < left) (σ : Sto) (h : rS mc v σ) (s : Nat) (hs : s < 10000) :
    ∃ σ', rS mc v σ' ∧ nextS (rL mc n v) sk (rM mc v left σ s) = (rM mc v (left - 1) σ' (s + 4), (1, 3, [(88, if mc then v else 5)]), 0) := by
  refine ⟨if mc then rSto mc v else setX σ 1 5, ?_, ?_⟩
  · cases mc
    · exact h.set.1
    · exact rSto_ok true v
  have e : restM (rM mc v left σ s) = (19998 - s) + 1 + 1 + 1 + 1 := by
    unfold restM
    rw [if_neg (by simp [rM]), if_neg (by simp [rM])]
    simp only [rM]
    omega
  unfold nextS
  rw [e, nextM_succ]
  unfold rM
  rw [r_set mc sk _ σ s (by omega)]
  dsimp only
  rw [nextM_succ, r_again mc hv sk left hl _ h.set.1 (s + 1) (by omega)]
  dsimp only
  rw [nextM_succ, r_head mc sk _ _ (s + 1 + 1) (by omega)]
  dsimp only
  rw [nextM_succ, r_body mc sk _ _ (s + 1 + 1 + 1) (by omega)]
  have ef : (if mc = true then rSto mc v else setX σ 1 5).f 1 = if mc then v else 5 := by
    cases mc
    · exact h.set.2 rfl
    · rfl
  rw [ef]
/-- The end of the calls. -/
theorem r_done (mc : Bool) (sk : Bool) (σ : Sto) (h : rS mc v σ) (s : Nat) (hs : s < 20000) : ∃ σ', roundM (rL mc n v) sk ⟨1, 5, [⟨1, 0, 1, 0, rArgs mc v, mc⟩], σ, s, false, 0⟩ = (⟨0, 1, [], σ', (s + 1 : Nat), false, 0⟩, none) := by
  have hlv := h.lv
  cases mc
  · refine ⟨σ, round_back rfl rfl (by dsimp only; omega) (by show (5 : Int) ≤ 5; omega) ?_ rfl⟩
    unfold leaveM
    simp
  · obtain ⟨g, e⟩ := hlv
    have e1 : popE σ = 0 := by unfold popE; rw [e]; rfl
    refine ⟨popX σ, round_back rfl rfl (by dsimp only; omega) (by show (5 : Int) ≤ 5; omega) ?_ rfl⟩
    unfold leaveM
    simp [e1]
theorem r_tail (mc : Bool) (sk : Bool) (σ : Sto) (s : Nat) (hs : s < 20000) : roundM (rL mc n v) sk ⟨0, 1, [], σ, s, false, 0⟩ = (⟨0, 2, [], σ, (s + 1 : Nat), false, 0⟩, some ((1, 1, [(89, 0)]), 0)) := by
  refine round_tell rfl rfl (by dsimp only; omega) (by show (0 : Int) ≤ 1 ∧ (1 : Int) < 2; omega) ?_ rfl
  rfl
theorem r_last (mc : Bool) (sk : Bool) (σ : Sto) (h : rS mc v σ) (s : Nat) (hs : s < 10000) :
    ∃ σ', nextS (rL mc n v) sk (rM mc v 0 σ s) = (⟨0, 2, [], σ', ((s + 3 : Nat) : Int), false, 0⟩, (1, 1, [(89, 0)]), 0) := by
  obtain ⟨σ', hd⟩ := r_done (n := n) mc sk _ h.set.1 (s + 1) (by omega)
  refine ⟨σ', ?_⟩
  have e : restM (rM mc v 0 σ s) = (19999 - s) + 1 + 1 + 1 := by
    unfold restM
    rw [if_neg (by simp [rM]), if_neg (by simp [rM])]
    simp only [rM]
    omega
  unfold nextS
  rw [e, nextM_succ]
  unfold rM
  rw [r_set mc sk _ σ s (by omega)]
  dsimp only
  rw [nextM_succ, hd]
  dsimp only
  rw [nextM_succ, r_tail mc sk _ (s + 1 + 1) (by omega)]
end
end Go.Proofs.YtdcjbhdfphcefaaGreatDoor
