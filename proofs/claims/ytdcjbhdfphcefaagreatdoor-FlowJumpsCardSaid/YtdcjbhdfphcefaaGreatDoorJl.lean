/- The law of jumps on the plain machine: nine blocks with two loops and a jump among them. No program in sight. Conditions: those that each lemma names. -/
import Derived.Test.YtdcjbhdfphcefaaGreatDoorSk
namespace Go.Proofs.YtdcjbhdfphcefaaGreatDoor
set_option linter.unusedVariables false
set_option linter.unusedSimpArgs false

def emB (label : Int) : Bk := ⟨0, label, false, [], numT 0, numT 0, 0⟩
def whB (label n : Int) : Bk := ⟨4, label, false, [], numT 0, numT 1000000, n⟩
def enB (label n : Int) : Bk := ⟨5, label, false, [], numT 0, numT 0, n⟩
def goB (label k : Int) : Bk := ⟨2, label, false, [], numT 0, numT (k * 1000000), 0⟩
def jBs : List Bk := [emB 1, whB 2 1, emB 3, whB 4 2, emB 5, enB 6 2, emB 7, enB 8 1, emB 9]
def jG (i k : Nat) : List Bk := jBs.set i (goB (i + 1) (k + 1))
def jT (i k : Nat) : List Bk := if k ≠ i ∧ ((jG i k).getD k noneB).kind = 0 then (jG i k).set k (wordB false (k + 1) 88 k) else jG i k
def jL (i k : Nat) : Lb := ⟨jT i k, [⟨0, 0, 9⟩], [-1, 7, -1, 5, -1, 3, -1, 1, -1]⟩
def jm (p s : Nat) : MS := ⟨0, p, [], sto0, s, false, 0⟩
def jD (k : Nat) : Int := [0, 0, 1, 1, 2, 2, 1, 1, 0].getD k 0
/-- What the law says of a step and an error. -/
def jLaw (i k : Nat) (r : Stp × Int) : Bool :=
  if jD k > jD i then r.2 == 11 else if ((jT i k).getD k noneB).kind ≠ 0 then r.2 != 11 else r.2 == 0 && r.1.2.1 == (k : Int)
theorem loop_lim (L : Lb) (nx : Nat → Nat) (hstop : (L.prg 0).stop = 9) (h : ∀ p, p < 8 → nx p < 8 ∧ ∀ s, exeM L false (jm p s) (L.blk p) = (jm (nx p) s, none, 0)) : ∀ k f p s, p < 8 → s + k = 20000 → k + 2 ≤ f → (nextM L false f (jm p s)).2 = ((0, 0, []), 10) := by
  intro k
  induction k with
  | zero =>
    intro f p s hp hs hf
    obtain ⟨f, rfl⟩ : ∃ g, f = g + 2 := ⟨f - 2, by omega⟩
    have e : roundM L false (jm p s) = ({ jm p s with err := 10 }, none) := by
      rw [round_eq, if_neg (by simp [jm]), if_neg (by simp [jm]), if_pos (by simp [jm]; omega)]
    rw [nextM_succ, e]
    dsimp only
    rw [nextM_succ, round_eq, if_pos (by simp)]
  | succ k ih =>
    intro f p s hp hs hf
    obtain ⟨f, rfl⟩ : ∃ g, f = g + 1 := ⟨f - 1, by omega⟩
    have e : roundM L false (jm p s) = (jm (nx p) (s + 1), none) := by
      rw [round_eq, if_neg (by simp [jm]), if_neg (by simp [jm]), if_neg (by simp [jm]; omega)]
      unfold afterM
      rw [if_neg (by simp only [jm]; rw [hstop]; omega)]
      have e2 : ({ jm p s with steps := (jm p s).steps + 1 } : MS) = jm p (s + 1) := by simp [jm]
      rw [e2]
      have e3 : (jm p (s + 1)).pos.toNat = p := by simp [jm]
      rw [e3, (h p hp).2 (s + 1)]
      rfl
    rw [nextM_succ, e]
    dsimp only
    exact ih f (nx p) (s + 1) (h p hp).1 (by omega) (by omega)
theorem all8 {P : Nat → Prop} (h0 : P 0) (h1 : P 1) (h2 : P 2) (h3 : P 3) (h4 : P 4) (h5 : P 5) (h6 : P 6) (h7 : P 7) : ∀ p, p < 8 → P p := by
  intro p hp
  match p, hp with
  | 0, _ => exact h0
  | 1, _ => exact h1
  | 2, _ => exact h2
  | 3, _ => exact h3
  | 4, _ => exact h4
  | 5, _ => exact h5
  | 6, _ => exact h6
  | 7, _ => exact h7
  | n + 8, h => omega
/-- Where the machine goes on that never ends. -/
def jN (i k p : Nat) : Nat := if p = i then k else if p = 5 then 3 else if p = 7 then 1 else p + 1
theorem jl_lim (i k : Nat) (h : ∀ p, p < 8 → jN i k p < 8 ∧ ∀ s, exeM (jL i k) false (jm p s) ((jL i k).blk p) = (jm (jN i k p) s, none, 0)) : (nextS (jL i k) false (jm 0 0)).2 = ((0, 0, []), 10) :=
  loop_lim (jL i k) (jN i k) rfl h 20000 _ 0 0 (by omega) rfl (Nat.le_refl _)
theorem jl_valid (i k : Nat) (hi : i = 0 ∨ i = 2 ∨ i = 4) (hk : k < 9) : ∀ b ∈ jT i k, validS b = true := by
  have h : ∀ i ∈ [0, 2, 4], ∀ k ∈ List.range 9, ∀ b ∈ jT i k, validS b = true := by decide +kernel
  exact h i (by simpa using hi) k (List.mem_range.2 hk)
theorem jT_len (i k : Nat) : (jT i k).length = 9 := by
  unfold jT
  split <;> simp [jG, jBs]
theorem jlB (i k : Nat) (hi : i = 0 ∨ i = 2 ∨ i = 4) (hk : k < 9) (h : buildFrom ((jT i k).map skel) ((jT i k).map skel) 0 (startB ((jT i k).map skel)) = (⟨[⟨0, 0, 9⟩], [-1, 7, -1, 5, -1, 3, -1, 1, -1], []⟩, 9, 0)) : buildS (jT i k) = (jL i k, 9, 0) := by
  have q := build_skel rfl (by rw [jT_len]; omega) (jl_valid i k hi hk) h
  rw [jT_len] at q
  exact q
theorem jl_0_0_n : jLaw 0 0 (nextS (jL 0 0) false (jm 0 0)).2 = true := by
  rw [jl_lim 0 0 (by refine all8 ?_ ?_ ?_ ?_ ?_ ?_ ?_ ?_ <;> exact ⟨by decide, fun s => by kernel_rfl⟩)]
  decide +kernel
theorem jl_0_1_n : jLaw 0 1 (nextS (jL 0 1) false (jm 0 0)).2 = true := by
  rw [jl_lim 0 1 (by refine all8 ?_ ?_ ?_ ?_ ?_ ?_ ?_ ?_ <;> exact ⟨by decide, fun s => by kernel_rfl⟩)]
  decide +kernel
theorem jl_0_2_n : jLaw 0 2 (nextS (jL 0 2) false (jm 0 0)).2 = true := by decide +kernel
theorem jl_0_3_n : jLaw 0 3 (nextS (jL 0 3) false (jm 0 0)).2 = true := by decide +kernel
theorem jl_0_4_n : jLaw 0 4 (nextS (jL 0 4) false (jm 0 0)).2 = true := by decide +kernel
theorem jl_0_5_n : jLaw 0 5 (nextS (jL 0 5) false (jm 0 0)).2 = true := by decide +kernel
theorem jl_0_6_n : jLaw 0 6 (nextS (jL 0 6) false (jm 0 0)).2 = true := by decide +kernel
theorem jl_0_7_n : jLaw 0 7 (nextS (jL 0 7) false (jm 0 0)).2 = true := by decide +kernel
theorem jl_0_8_n : jLaw 0 8 (nextS (jL 0 8) false (jm 0 0)).2 = true := by decide +kernel
theorem jl_2_0_n : jLaw 2 0 (nextS (jL 2 0) false (jm 0 0)).2 = true := by decide +kernel
theorem jl_2_1_n : jLaw 2 1 (nextS (jL 2 1) false (jm 0 0)).2 = true := by
  rw [jl_lim 2 1 (by refine all8 ?_ ?_ ?_ ?_ ?_ ?_ ?_ ?_ <;> exact ⟨by decide, fun s => by kernel_rfl⟩)]
  decide +kernel
theorem jl_2_2_n : jLaw 2 2 (nextS (jL 2 2) false (jm 0 0)).2 = true := by
  rw [jl_lim 2 2 (by refine all8 ?_ ?_ ?_ ?_ ?_ ?_ ?_ ?_ <;> exact ⟨by decide, fun s => by kernel_rfl⟩)]
  decide +kernel
theorem jl_2_3_n : jLaw 2 3 (nextS (jL 2 3) false (jm 0 0)).2 = true := by
  rw [jl_lim 2 3 (by refine all8 ?_ ?_ ?_ ?_ ?_ ?_ ?_ ?_ <;> exact ⟨by decide, fun s => by kernel_rfl⟩)]
  decide +kernel
theorem jl_2_4_n : jLaw 2 4 (nextS (jL 2 4) false (jm 0 0)).2 = true := by decide +kernel
theorem jl_2_5_n : jLaw 2 5 (nextS (jL 2 5) false (jm 0 0)).2 = true := by decide +kernel
theorem jl_2_6_n : jLaw 2 6 (nextS (jL 2 6) false (jm 0 0)).2 = true := by decide +kernel
theorem jl_2_7_n : jLaw 2 7 (nextS (jL 2 7) false (jm 0 0)).2 = true := by
  rw [jl_lim 2 7 (by refine all8 ?_ ?_ ?_ ?_ ?_ ?_ ?_ ?_ <;> exact ⟨by decide, fun s => by kernel_rfl⟩)]
  decide +kernel
theorem jl_2_8_n : jLaw 2 8 (nextS (jL 2 8) false (jm 0 0)).2 = true := by decide +kernel
theorem jl_4_0_n : jLaw 4 0 (nextS (jL 4 0) false (jm 0 0)).2 = true := by decide +kernel
theorem jl_4_1_n : jLaw 4 1 (nextS (jL 4 1) false (jm 0 0)).2 = true := by
  rw [jl_lim 4 1 (by refine all8 ?_ ?_ ?_ ?_ ?_ ?_ ?_ ?_ <;> exact ⟨by decide, fun s => by kernel_rfl⟩)]
  decide +kernel
theorem jl_4_2_n : jLaw 4 2 (nextS (jL 4 2) false (jm 0 0)).2 = true := by decide +kernel
theorem jl_4_3_n : jLaw 4 3 (nextS (jL 4 3) false (jm 0 0)).2 = true := by
  rw [jl_lim 4 3 (by refine all8 ?_ ?_ ?_ ?_ ?_ ?_ ?_ ?_ <;> exact ⟨by decide, fun s => by kernel_rfl⟩)]
  decide +kernel
theorem jl_4_4_n : jLaw 4 4 (nextS (jL 4 4) false (jm 0 0)).2 = true := by
  rw [jl_lim 4 4 (by refine all8 ?_ ?_ ?_ ?_ ?_ ?_ ?_ ?_ <;> exact ⟨by decide, fun s => by kernel_rfl⟩)]
  decide +kernel
theorem jl_4_5_n : jLaw 4 5 (nextS (jL 4 5) false (jm 0 0)).2 = true := by
  rw [jl_lim 4 5 (by refine all8 ?_ ?_ ?_ ?_ ?_ ?_ ?_ ?_ <;> exact ⟨by decide, fun s => by kernel_rfl⟩)]
  decide +kernel
theorem jl_4_6_n : jLaw 4 6 (nextS (jL 4 6) false (jm 0 0)).2 = true := by decide +kernel
theorem jl_4_7_n : jLaw 4 7 (nextS (jL 4 7) false (jm 0 0)).2 = true := by
  rw [jl_lim 4 7 (by refine all8 ?_ ?_ ?_ ?_ ?_ ?_ ?_ ?_ <;> exact ⟨by decide, fun s => by kernel_rfl⟩)]
  decide +kernel
theorem jl_4_8_n : jLaw 4 8 (nextS (jL 4 8) false (jm 0 0)).2 = true := by decide +kernel
theorem jl_law (i k : Nat) (hi : i = 0 ∨ i = 2 ∨ i = 4) (hk : k < 9) : buildS (jT i k) = (jL i k, 9, 0) ∧ newS (jL i k) = some (jm 0 0) ∧ jLaw i k (nextS (jL i k) false (jm 0 0)).2 = true := by
  rcases hi with rfl | rfl | rfl
  · match k, hk with
    | 0, _ => exact ⟨jlB 0 0 (by omega) (by omega) (by kernel_rfl), by kernel_rfl, jl_0_0_n⟩
    | 1, _ => exact ⟨jlB 0 1 (by omega) (by omega) (by kernel_rfl), by kernel_rfl, jl_0_1_n⟩
    | 2, _ => exact ⟨jlB 0 2 (by omega) (by omega) (by kernel_rfl), by kernel_rfl, jl_0_2_n⟩
    | 3, _ => exact ⟨jlB 0 3 (by omega) (by omega) (by kernel_rfl), by kernel_rfl, jl_0_3_n⟩
    | 4, _ => exact ⟨jlB 0 4 (by omega) (by omega) (by kernel_rfl), by kernel_rfl, jl_0_4_n⟩
    | 5, _ => exact ⟨jlB 0 5 (by omega) (by omega) (by kernel_rfl), by kernel_rfl, jl_0_5_n⟩
    | 6, _ => exact ⟨jlB 0 6 (by omega) (by omega) (by kernel_rfl), by kernel_rfl, jl_0_6_n⟩
    | 7, _ => exact ⟨jlB 0 7 (by omega) (by omega) (by kernel_rfl), by kernel_rfl, jl_0_7_n⟩
    | 8, _ => exact ⟨jlB 0 8 (by omega) (by omega) (by kernel_rfl), by kernel_rfl, jl_0_8_n⟩
    | n + 9, h => omega
  · match k, hk with
    | 0, _ => exact ⟨jlB 2 0 (by omega) (by omega) (by kernel_rfl), by kernel_rfl, jl_2_0_n⟩
    | 1, _ => exact ⟨jlB 2 1 (by omega) (by omega) (by kernel_rfl), by kernel_rfl, jl_2_1_n⟩
    | 2, _ => exact ⟨jlB 2 2 (by omega) (by omega) (by kernel_rfl), by kernel_rfl, jl_2_2_n⟩
    | 3, _ => exact ⟨jlB 2 3 (by omega) (by omega) (by kernel_rfl), by kernel_rfl, jl_2_3_n⟩
    | 4, _ => exact ⟨jlB 2 4 (by omega) (by omega) (by kernel_rfl), by kernel_rfl, jl_2_4_n⟩
    | 5, _ => exact ⟨jlB 2 5 (by omega) (by omega) (by kernel_rfl), by kernel_rfl, jl_2_5_n⟩
    | 6, _ => exact ⟨jlB 2 6 (by omega) (by omega) (by kernel_rfl), by kernel_rfl, jl_2_6_n⟩
    | 7, _ => exact ⟨jlB 2 7 (by omega) (by omega) (by kernel_rfl), by kernel_rfl, jl_2_7_n⟩
    | 8, _ => exact ⟨jlB 2 8 (by omega) (by omega) (by kernel_rfl), by kernel_rfl, jl_2_8_n⟩
    | n + 9, h => omega
  · match k, hk with
    | 0, _ => exact ⟨jlB 4 0 (by omega) (by omega) (by kernel_rfl), by kernel_rfl, jl_4_0_n⟩
    | 1, _ => exact ⟨jlB 4 1 (by omega) (by omega) (by kernel_rfl), by kernel_rfl, jl_4_1_n⟩
    | 2, _ => exact ⟨jlB 4 2 (by omega) (by omega) (by kernel_rfl), by kernel_rfl, jl_4_2_n⟩
    | 3, _ => exact ⟨jlB 4 3 (by omega) (by omega) (by kernel_rfl), by kernel_rfl, jl_4_3_n⟩
    | 4, _ => exact ⟨jlB 4 4 (by omega) (by omega) (by kernel_rfl), by kernel_rfl, jl_4_4_n⟩
    | 5, _ => exact ⟨jlB 4 5 (by omega) (by omega) (by kernel_rfl), by kernel_rfl, jl_4_5_n⟩
    | 6, _ => exact ⟨jlB 4 6 (by omega) (by omega) (by kernel_rfl), by kernel_rfl, jl_4_6_n⟩
    | 7, _ => exact ⟨jlB 4 7 (by omega) (by omega) (by kernel_rfl), by kernel_rfl, jl_4_7_n⟩
    | 8, _ => exact ⟨jlB 4 8 (by omega) (by omega) (by kernel_rfl), by kernel_rfl, jl_4_8_n⟩
    | n + 9, h => omega
end Go.Proofs.YtdcjbhdfphcefaaGreatDoor
