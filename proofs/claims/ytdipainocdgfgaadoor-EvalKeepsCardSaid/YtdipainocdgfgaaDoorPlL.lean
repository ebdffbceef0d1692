/- Plain laws of the values of composed trees: for EvalErrors, EvalLogic, EvalAlgebra. Conditions: the parts are well formed and at most 4 deep. -/
import Derived.Test.YtdipainocdgfgaaDoorAw
namespace Go.Proofs.YtdipainocdgfgaaDoor
set_option linter.unusedVariables false
set_option linter.unusedSimpArgs false

theorem rt_two {m : Nat} {op : Int} {s t : Tr} (h : kidsS op = 2) (h0 : op ≠ 0) (hs : rightS m s = true) (ht : rightS m t = true) : rightS (m + 1) (twoT op s t) = true :=
  rightS_mk (by rw [h]; rfl) (by unfold numS; rw [if_neg h0]; rfl) fun i _ => by
    unfold pairT
    by_cases e : i = 0
    · rw [if_pos e]; exact hs
    · rw [if_neg e]; exact ht
theorem rt_un {m : Nat} {op : Int} {t : Tr} (h : kidsS op = 1) (h0 : op ≠ 0) (ht : rightS m t = true) : rightS (m + 1) (unT op t) = true :=
  rightS_mk (by rw [h]; rfl) (by unfold numS; rw [if_neg h0]; rfl) fun _ _ => ht
theorem val_of {m : Nat} {t : Tr} (hm : m ≤ 16) (h : rightS m t = true) : valS t = evalS (getS zf) t := by
  unfold valS EvalS
  rw [if_pos (rightS_mono hm h)]
theorem val_two {m : Nat} {op : Int} {s t : Tr} (hm : m ≤ 15) (h : kidsS op = 2) (h0 : op ≠ 0) (hs : rightS m s = true) (ht : rightS m t = true) :
    valS (twoT op s t) = if (valS s).2 ≠ 0 then (0, (valS s).2) else if (valS t).2 ≠ 0 then (0, (valS t).2) else finS (getS zf) op 0 (valS s).1 (valS t).1 := by
  rw [val_of (m := m + 1) (by omega) (rt_two h h0 hs ht), val_of (m := m) (by omega) hs, val_of (m := m) (by omega) ht]
  unfold twoT
  simp only [evalS, pairT]
  simp
theorem val_un {m : Nat} {op : Int} {t : Tr} (hm : m ≤ 15) (h : kidsS op = 1) (h0 : op ≠ 0) (ht : rightS m t = true) :
    valS (unT op t) = if (valS t).2 ≠ 0 then (0, (valS t).2) else finS (getS zf) op 0 (valS t).1 0 := by
  rw [val_of (m := m + 1) (by omega) (rt_un h h0 ht), val_of (m := m) (by omega) ht]
  unfold unT
  simp only [evalS, oneT]
  simp
theorem sg_comm (a b : Int) : sg a b = sg b a := by
  unfold sg
  by_cases h : a = 0 ∨ b = 0
  · have h' : b = 0 ∨ a = 0 := h.symm
    rw [if_pos h, if_pos h']
  · have h' : ¬ (b = 0 ∨ a = 0) := fun k => h k.symm
    rw [if_neg h, if_neg h']
    by_cases c : (a < 0 ↔ b < 0)
    · have c' : (b < 0 ↔ a < 0) := c.symm
      rw [if_pos c, if_pos c']
    · have c' : ¬ (b < 0 ↔ a < 0) := fun k => c k.symm
      rw [if_neg c, if_neg c']
theorem mdS_comm (a b c mode : Int) : mdS a b c mode = mdS b a c mode := by
  unfold mdS mdA ngt
  rw [sg_comm a b, Int.mul_comm (mg a) (mg b)]
theorem mul_comm_S (a b : Int) : mulS a b = mulS b a := by
  unfold mulS scaS
  rw [mdS_comm a b, Bool.and_comm]
theorem add_comm_S (a b : Int) : addS a b = addS b a := by
  unfold addS
  rw [Int.add_comm, Bool.and_comm]
theorem vld_neg (b : Int) : vld (-b) = vld b := by
  rcases h : vld b
  · have := vld_no h; exact vld_out (by omega)
  · have := vld_yes h; exact vld_mk (by omega) (by omega)
theorem sub_add_S (a b : Int) : subS a b = addS a (-b) := by
  unfold subS addS
  rw [vld_neg, show a + -b = a - b by omega]
theorem fin_ar (V : Int → Int × Int) (op n a b : Int) (h : 3 ≤ op ∧ op ≤ 7) : finS V op n a b = arS op a b := by
  have hk : kidsS op = 2 := by unfold kidsS; rw [if_neg (by omega), if_pos (by omega)]
  unfold finS
  rw [if_neg (by omega), if_neg (by omega), if_neg (by omega), if_neg (by omega), if_neg (by omega)]
theorem fin_holds (V : Int → Int × Int) (op n a b : Int) (h : 17 ≤ op ∧ op ≤ 25) : finS V op n a b = (if holdsS op a b then 1000000 else 0, 0) := by
  have hk : kidsS op = 2 := by unfold kidsS; rw [if_neg (by omega), if_pos (by omega)]
  unfold finS
  rw [if_neg (by omega), if_neg (by omega), if_neg (by omega), if_neg (by omega), if_pos (by omega)]
theorem kids_ar {op : Int} (h : (3 ≤ op ∧ op ≤ 7) ∨ op = 11 ∨ (17 ≤ op ∧ op ≤ 25)) : kidsS op = 2 := by
  unfold kidsS; rw [if_neg (by omega), if_pos h]
theorem fin_neg (V : Int → Int × Int) (n a b : Int) : finS V 2 n a b = (-a, 0) := rfl
theorem fin_abs (V : Int → Int × Int) (n a b : Int) : finS V 13 n a b = (max a (-a), 0) := rfl
/-- EvalErrors in plain words. -/
theorem errors_law (op : Int) (h : 3 ≤ op ∧ op ≤ 7) (s t : Tr) (hs : rightS 4 s = true) (ht : rightS 4 t = true) :
    ((valS s).2 ≠ 0 → valS (twoT op s t) = (0, (valS s).2) ∧ valS (unT 13 s) = (0, (valS s).2)) ∧
    ((valS s).2 = 0 → (valS t).2 ≠ 0 → valS (twoT op s t) = (0, (valS t).2)) ∧
    ((valS s).2 = 0 → (valS (unT 13 s)).2 = 0 ∧ 0 ≤ (valS (unT 13 s)).1) := by
  have h2 := val_two (m := 4) (op := op) (by omega) (kids_ar (.inl h)) (by omega) hs ht
  have h1 := val_un (m := 4) (op := 13) (by omega) rfl (by decide) hs
  refine ⟨fun he => ?_, fun he hf => ?_, fun he => ?_⟩
  · rw [h2, h1, if_pos he, if_pos he]; exact ⟨rfl, rfl⟩
  · rw [h2, if_neg (fun k => k he), if_pos hf]
  · rw [h1, if_neg (fun k => k he), fin_abs]
    exact ⟨rfl, by dsimp only; omega⟩
/-- EvalAlgebra in plain words: a and b are the parts' values. -/
theorem algebra_law (s t : Tr) (hs : rightS 4 s = true) (ht : rightS 4 t = true) (he : (valS s).2 = 0) (hf : (valS t).2 = 0) :
    valS (twoT 3 s t) = valS (twoT 3 t s) ∧ valS (twoT 5 s t) = valS (twoT 5 t s) ∧ valS (twoT 4 s t) = valS (twoT 3 s (unT 2 t)) ∧
    (valS (twoT 21 s t)).1 + (valS (twoT 19 s t)).1 + (valS (twoT 17 s t)).1 = 1000000 ∧ (valS (twoT 20 s t)).1 = 1000000 - (valS (twoT 21 s t)).1 ∧
    (valS (twoT 22 s t)).1 = 1000000 - (valS (twoT 19 s t)).1 ∧ (valS (twoT 18 s t)).1 = 1000000 - (valS (twoT 17 s t)).1 := by
  have two : ∀ op, ((3 ≤ op ∧ op ≤ 7) ∨ op = 11 ∨ (17 ≤ op ∧ op ≤ 25)) → valS (twoT op s t) = finS (getS zf) op 0 (valS s).1 (valS t).1 := fun op h => by
    rw [val_two (m := 4) (by omega) (kids_ar h) (by omega) hs ht, if_neg (fun k => k he), if_neg (fun k => k hf)]
  have two' : ∀ op, ((3 ≤ op ∧ op ≤ 7) ∨ op = 11 ∨ (17 ≤ op ∧ op ≤ 25)) → valS (twoT op t s) = finS (getS zf) op 0 (valS t).1 (valS s).1 := fun op h => by
    rw [val_two (m := 4) (by omega) (kids_ar h) (by omega) ht hs, if_neg (fun k => k hf), if_neg (fun k => k he)]
  have un : valS (unT 2 t) = (-(valS t).1, 0) := by
    rw [val_un (m := 4) (by omega) rfl (by decide) ht, if_neg (fun k => k hf), fin_neg]
  have neg : valS (twoT 3 s (unT 2 t)) = addS (valS s).1 (-(valS t).1) := by
    rw [val_two (m := 5) (by omega) rfl (by decide) (rightS_mono (by omega) hs) (rt_un (m := 4) rfl (by decide) ht), if_neg (fun k => k he), if_neg (by rw [un]; simp), un, fin_ar _ _ _ _ _ (by omega)]
    rfl
  rw [neg, two 3 (by omega), two' 3 (by omega), two 5 (by omega), two' 5 (by omega), two 4 (by omega), two 21 (by omega), two 19 (by omega), two 17 (by omega), two 20 (by omega), two 22 (by omega), two 18 (by omega)]
  rw [fin_ar _ 3 _ _ _ (by omega), fin_ar _ 3 _ _ _ (by omega), fin_ar _ 5 _ _ _ (by omega), fin_ar _ 5 _ _ _ (by omega), fin_ar _ 4 _ _ _ (by omega), fin_holds _ 21 _ _ _ (by omega), fin_holds _ 19 _ _ _ (by omega), fin_holds _ 17 _ _ _ (by omega), fin_holds _ 20 _ _ _ (by omega), fin_holds _ 22 _ _ _ (by omega), fin_holds _ 18 _ _ _ (by omega)]
  generalize (valS s).1 = a
  generalize (valS t).1 = b
  have e17 : holdsS 17 a b = (a == b) := rfl
  have e18 : holdsS 18 a b = (a != b) := rfl
  have e19 : holdsS 19 a b = decide (b < a) := rfl
  have e20 : holdsS 20 a b = decide (b ≤ a) := rfl
  have e21 : holdsS 21 a b = decide (a < b) := rfl
  have e22 : holdsS 22 a b = decide (a ≤ b) := rfl
  rw [e17, e18, e19, e20, e21, e22]
  refine ⟨add_comm_S a b, mul_comm_S a b, sub_add_S a b, ?_⟩
  dsimp only
  rcases Int.lt_trichotomy a b with h | h | h
  · have n1 : ¬ b < a := by omega
    have n2 : ¬ b ≤ a := by omega
    have n3 : a ≤ b := by omega
    have n4 : ¬ a = b := by omega
    simp [h, n1, n2, n3, n4]
  · subst h
    simp
  · have n1 : ¬ a < b := by omega
    have n2 : ¬ a ≤ b := by omega
    have n3 : b ≤ a := by omega
    have n4 : ¬ a = b := by omega
    simp [h, n1, n2, n3, n4]
/-- EvalLogic in plain words. -/
theorem logic_law (s t : Tr) (hs : rightS 4 s = true) (ht : rightS 4 t = true) (he : (valS s).2 = 0) (hf : (valS t).2 = 0) :
    (valS (twoT 23 s t)).1 = (if ((valS s).1 != 0) && ((valS t).1 != 0) then 1000000 else 0) ∧ (valS (twoT 24 s t)).1 = (if ((valS s).1 != 0) || ((valS t).1 != 0) then 1000000 else 0) ∧ (valS (twoT 25 s t)).1 = (if ((valS s).1 != 0) != ((valS t).1 != 0) then 1000000 else 0) := by
  have two : ∀ op, ((3 ≤ op ∧ op ≤ 7) ∨ op = 11 ∨ (17 ≤ op ∧ op ≤ 25)) → valS (twoT op s t) = finS (getS zf) op 0 (valS s).1 (valS t).1 := fun op h => by
    rw [val_two (m := 4) (by omega) (kids_ar h) (by omega) hs ht, if_neg (fun k => k he), if_neg (fun k => k hf)]
  rw [two 23 (by omega), two 24 (by omega), two 25 (by omega), fin_holds _ 23 _ _ _ (by omega), fin_holds _ 24 _ _ _ (by omega), fin_holds _ 25 _ _ _ (by omega)]
  exact ⟨rfl, rfl, rfl⟩
end Go.Proofs.YtdipainocdgfgaaDoor
