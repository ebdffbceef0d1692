/- Plain laws of evaluation: what evalS is when a part fails, when none does; its bounds. No program in sight. Conditions: none beyond each lemma's own premises. -/
import Derived.Test.YtdipainocdgfgaaDoorPle2
namespace Go.Proofs.YtdipainocdgfgaaDoor
set_option linter.unusedVariables false
set_option linter.unusedSimpArgs false

theorem evalS_ok {V : Int → Int × Int} {op n : Int} {k : Nat} {kid : Nat → Tr} (hk : k ≤ 2) (h : ∀ x, x < k → (evalS V (kid x)).2 = 0) :
    evalS V (.mk op n k kid) = finS V op n (if 0 < k then (evalS V (kid 0)).1 else 0) (if 1 < k then (evalS V (kid 1)).1 else 0) := by
  have c : k = 0 ∨ k = 1 ∨ k = 2 := by omega
  rcases c with rfl | rfl | rfl
  · simp [evalS]
  · have h0 := h 0 (by omega)
    simp [evalS, h0]
  · have h0 := h 0 (by omega)
    have h1 := h 1 (by omega)
    simp [evalS, h0, h1]
theorem evalS_err {V : Int → Int × Int} {op n : Int} {k j : Nat} {kid : Nat → Tr} (hk : k ≤ 2) (hj : j < k) (h : ∀ x, x < j → (evalS V (kid x)).2 = 0) (he : (evalS V (kid j)).2 ≠ 0) :
    evalS V (.mk op n k kid) = (0, (evalS V (kid j)).2) := by
  have c : j = 0 ∨ j = 1 := by omega
  rcases c with rfl | rfl
  · have hk0 : k ≠ 0 := by omega
    simp [evalS, he, hk0]
  · have h0 := h 0 (by omega)
    have hk2 : k = 2 := by omega
    subst hk2
    simp [evalS, h0, he]
theorem kidsS_two {op : Int} {k : Nat} (h : (k : Int) = kidsS op) (h0 : op ≠ 0) (h1 : kidsS op ≠ 1) : (3 ≤ op ∧ op ≤ 7) ∨ op = 11 ∨ (17 ≤ op ∧ op ≤ 25) := by
  unfold kidsS at h h1
  rw [if_neg h0] at h h1
  by_cases c2 : (3 ≤ op ∧ op ≤ 7) ∨ op = 11 ∨ (17 ≤ op ∧ op ≤ 25)
  · exact c2
  rw [if_neg c2] at h h1
  by_cases c1 : 1 ≤ op ∧ op ≤ 25
  · rw [if_pos c1] at h1; omega
  · rw [if_neg c1] at h; omega
def Sml (z : Int) : Prop := -10000000000000000 ≤ z ∧ z ≤ 10000000000000000
theorem chk_sml (z : Int) : Sml (chk z).1 := by
  rcases h : vld z
  · rw [chk_no h]; unfold Sml; omega
  · rw [chk_yes h]; have := vld_yes h; unfold Sml; dsimp only; omega
theorem sgnd_sml (z : Int) (b : Bool) (h0 : 0 ≤ z) (h1 : z ≤ 10000000000000000) : Sml (sgnd z b).1 := by
  unfold sgnd Sml
  rcases b with _ | _
  · rw [if_neg (by decide)]; split <;> dsimp only <;> omega
  · rw [if_pos rfl]; split <;> dsimp only <;> omega
theorem sc_sml (s : Int) (h1 : -9223372036854775000 ≤ s) (h2 : s ≤ 9223372036854775000) : Sml (mdS s 1000000 1073741824 2).1 := by
  unfold mdS
  have e1 : mg s ≤ 9223372036854775000 := by unfold mg; omega
  have e0 : 0 ≤ mg s := by unfold mg; omega
  have e2 : mg 1000000 = 1000000 := rfl
  have e3 : mg 1073741824 = 1073741824 := rfl
  have hA : 0 ≤ mdA s 1000000 1073741824 2 ∧ mdA s 1000000 1073741824 2 ≤ 10000000000000000 := by
    unfold mdA
    rw [e2, e3]
    split <;> omega
  exact sgnd_sml _ _ hA.1 hA.2
theorem add_sml (a b : Int) : Sml (addS a b).1 := by unfold addS; split <;> first | exact chk_sml _ | (unfold Sml; dsimp only; omega)
theorem sub_sml (a b : Int) : Sml (subS a b).1 := by unfold subS; split <;> first | exact chk_sml _ | (unfold Sml; dsimp only; omega)
theorem sca_sml (a b c : Int) : Sml (scaS a b c).1 := by unfold scaS; split <;> first | exact chk_sml _ | (unfold Sml; dsimp only; omega)
theorem mul_sml (a b : Int) : Sml (mulS a b).1 := by unfold mulS; split <;> first | exact sca_sml _ _ _ | (unfold Sml; dsimp only; omega)
theorem div_sml (a b : Int) : Sml (divS a b).1 := by
  unfold divS
  split
  · split <;> first | exact sca_sml _ _ _ | (unfold Sml; dsimp only; omega)
  · unfold Sml; dsimp only; omega
theorem mod_sml (a b : Int) : Sml (modS a b).1 := by
  rcases h : (vld a && vld b)
  · rw [modS_no h]; unfold Sml; dsimp only; omega
  · simp only [Bool.and_eq_true] at h
    by_cases hb : b = 0
    · subst hb; rw [modS_zero h.1]; unfold Sml; dsimp only; omega
    · rw [modS_yes h.1 h.2 hb]
      have h1 := Int.emod_nonneg a hb
      have h2 := Int.emod_lt a hb
      have h3 := vld_yes h.2
      unfold Sml; dsimp only; omega
theorem ar_sml (op a b : Int) : Sml (arS op a b).1 := by
  unfold arS
  repeat' split
  · exact add_sml a b
  · exact sub_sml a b
  · exact mul_sml a b
  · exact div_sml a b
  · exact mod_sml a b
theorem zero_sml : Sml 0 := by unfold Sml; omega
theorem sqrt_sml (a : Int) : Sml (sqrtS a).1 := by
  unfold sqrtS
  rcases h : vld a
  · exact zero_sml
  · have hv := vld_yes h
    rw [if_pos rfl]
    by_cases h0 : a < 0
    · rw [if_pos h0]; exact zero_sml
    · rw [if_neg h0]
      have h1 := isq_small (x := a * 1000000) (by omega) (by omega)
      have h2 := (isq_spec (a * 1000000) (by omega)).1
      have h3 := rup_bd (a * 1000000) 2 (isq (a * 1000000))
      unfold Sml; dsimp only; omega
theorem round_sml (a : Int) : Sml (roundS a).1 := by
  unfold roundS
  rcases h : vld a
  · exact zero_sml
  · have hv := vld_yes h
    rw [if_pos rfl]
    unfold Sml rnd
    dsimp only
    rw [if_neg (by omega), if_neg (by omega)]
    omega
theorem fix_sml (a : Int) : Sml (fixS a).1 := by
  unfold fixS
  rcases h : vld a
  · exact zero_sml
  · have hv := vld_yes h
    rw [if_pos rfl]
    unfold Sml rnd
    dsimp only
    split
    · rw [if_neg (by omega), if_pos rfl]; omega
    · rw [if_pos rfl]; omega
theorem fup_sml (a : Int) : Sml (fupS a).1 := by
  unfold fupS
  rcases h : vld a
  · exact zero_sml
  · have hv := vld_yes h
    rw [if_pos rfl]
    unfold Sml rnd
    dsimp only
    split
    · rw [if_pos rfl]; omega
    · rw [if_neg (by omega), if_pos rfl]; omega
theorem tan_sml (s c : Int) : Sml (tanS s c).1 := by
  unfold tanS
  split
  · exact zero_sml
  · split
    · rename_i h
      simp only [Bool.and_eq_true] at h
      have := vld_yes h.2
      unfold Sml; dsimp only; omega
    · exact zero_sml
theorem un_sml (op a : Int) (h : Sml a) : Sml (unS op a).1 := by
  have hs := sinS_bd a
  unfold unS
  repeat' split
  · unfold Sml at *; dsimp only; omega
  · unfold Sml at *; dsimp only; omega
  · exact sqrt_sml a
  · exact round_sml a
  · exact fix_sml a
  · exact fup_sml a
  · exact sc_sml _ hs.1.1 hs.1.2
  · exact sc_sml _ hs.2.1 hs.2.2
  · exact tan_sml _ _
theorem dir_sml (y x : Int) : Sml (dirS y x).1 := by
  unfold dirS
  split
  · exact zero_sml
  · have := angS_bd (hvF 64 (x, y)).1 (hvF 64 (x, y)).2
    unfold Sml; dsimp only; omega
theorem fin_sml {V : Int → Int × Int} (hV : ∀ n, Sml (V n).1) {op n a b : Int} (hn : numS op n = true) (ha : Sml a) : Sml (finS V op n a b).1 := by
  unfold finS
  by_cases c0 : op = 0
  · rw [if_pos c0]
    unfold numS at hn
    rw [if_pos c0] at hn
    have := of_decide_eq_true hn
    unfold Sml; dsimp only; omega
  rw [if_neg c0]
  by_cases c1 : op = 1
  · rw [if_pos c1]
    split
    · exact hV _
    · exact zero_sml
  rw [if_neg c1]
  by_cases c2 : op = 11
  · rw [if_pos c2]; exact dir_sml _ _
  rw [if_neg c2]
  by_cases c3 : kidsS op = 1
  · rw [if_pos c3]; exact un_sml _ _ ha
  rw [if_neg c3]
  by_cases c4 : 17 ≤ op
  · rw [if_pos c4]
    dsimp only
    split <;> (unfold Sml; omega)
  · rw [if_neg c4]; exact ar_sml _ _ _
theorem eval_sml {V : Int → Int × Int} (hV : ∀ n, Sml (V n).1) : ∀ (t : Tr) (m : Nat), rightS m t = true → Sml (evalS V t).1 := by
  intro t
  induction t with
  | none_ => intro m h; cases m <;> cases h
  | mk op n k kid ih =>
    intro m h
    rcases m with _ | m
    · cases h
    obtain ⟨h1, h2, h3⟩ := rightS_kids h
    have hb := kidsS_bd op
    simp only [evalS]
    by_cases k0 : k = 0
    · rw [if_pos k0]; exact fin_sml hV h2 zero_sml
    rw [if_neg k0]
    have s0 := ih 0 m (h3 0 (by omega))
    split
    · exact zero_sml
    split
    · exact fin_sml hV h2 s0
    split
    · exact zero_sml
    · exact fin_sml hV h2 s0
end Go.Proofs.YtdipainocdgfgaaDoor
