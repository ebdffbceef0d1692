/- The numbers that a call of cncref01 holds, and product, rounded. Conditions: the integers are those of their kind. -/
import Derived.Test.YtdipainocdgfgaaGreatDoorR
import Derived.Test.YtdipainocdgfgaaGreatDoorJ
namespace Go.Proofs.YtdipainocdgfgaaGreatDoor
set_option linter.unusedVariables false
set_option linter.unusedSimpArgs false
open Go.RowKit

theorem nd_mul (N M : Nat) : nd (N * M) ≤ nd N + nd M := nd_le (by rw [P_add]; exact Nat.mul_lt_mul'' (lt_P_nd N) (lt_P_nd M))
theorem nd_add (N M : Nat) : nd (N + M) ≤ nd N + nd M + 1 := by
  refine nd_le ?_
  have h1 := Nat.lt_of_lt_of_le (lt_P_nd N) (P_mono (show nd N ≤ nd N + nd M by omega))
  have h2 := Nat.lt_of_lt_of_le (lt_P_nd M) (P_mono (show nd M ≤ nd N + nd M by omega))
  rw [P_succ]
  omega
abbrev Ent := Option Addr × Nat × Nat × Nat
/-- The numbers held: where, how many digits, which number, a bound of the digits. -/
def Held (w : World) (l : List Ent) : Prop := ∀ t ∈ l, Nums w w.heap.size t.1 t.2.1 t.2.2.1 ∧ t.2.1 ≤ t.2.2.2
theorem Held.below {w w' : World} {l : List Ent} (h : Held w l) (hb : Below w.heap.size w w') : Held w' l := fun t ht =>
  ⟨((h t ht).1.below hb (Nat.le_refl _)).more hb.size, (h t ht).2⟩
theorem Held.tail {w : World} {l : List Ent} {t : Ent} (h : Held w (t :: l)) : Held w l := fun u hu => h u (.tail _ hu)
theorem Held.more {w w' : World} {l : List Ent} {A : Option Addr} {n V k : Nat} (h : Held w l) (hn : Nums w' w'.heap.size A n V) (hk : n ≤ k) (hb : Below w.heap.size w w') : Held w' ((A, n, V, k) :: l) := fun u hu => by
  rcases List.mem_cons.1 hu with rfl | hu
  · exact ⟨hn, hk⟩
  · exact h.below hb u hu
def HeldPost (V k : Nat) (l : List Ent) (w : World) (e : Ending) (w' : World) : Prop :=
  ∃ (A : Option Addr) (n c : Nat), e = .returned (.slice A n c) ∧ Held w' ((A, n, V, k) :: l) ∧ Below w.heap.size w w'
theorem limbs_held (V : Nat) (hV : V < 18446744073709551616) (w : World) (l : List Ent) (hl : Held w l) :
    Calls Tryz.prog 82 #[.int .u64 (V : Nat)] w (HeldPost V 4 l w) :=
  (limbs_ref V hV w).mono fun e w' ⟨A, n, c, he, hn, hb⟩ => ⟨A, n, c, he, hl.more hn (by rw [hn.1]; exact nd_le (k := 4) (by show V < 65536 ^ 4; omega)) hb, hb⟩
theorem mul_held (w : World) (l : List Ent) (hl : Held w l) {A A' : Option Addr} {n m c c' N M a b : Nat} (h1 : (A, n, N, a) ∈ l) (h2 : (A', m, M, b) ∈ l) (ha : a ≤ 100) (hb : b ≤ 100) :
    Calls Tryz.prog 85 #[.slice A n c, .slice A' m c'] w (HeldPost (N * M) (a + b) l w) := by
  obtain ⟨p1, p2⟩ := hl _ h1
  obtain ⟨q1, q2⟩ := hl _ h2
  simp only at p1 p2 q1 q2
  exact (mulN_ref N M A A' n m c c' w.heap.size w p1 q1 (Nat.le_refl _) (by omega) (by omega)).mono fun e w' ⟨A1, n1, c1, he, hn, hb⟩ => ⟨A1, n1, c1, he, hl.more hn (by have := nd_mul N M; have := hn.1; have := p1.1; have := q1.1; omega) hb, hb⟩
theorem add_held (w : World) (l : List Ent) (hl : Held w l) {A A' : Option Addr} {n m c c' N M a b : Nat} (h1 : (A, n, N, a) ∈ l) (h2 : (A', m, M, b) ∈ l) (ha : a ≤ 100) (hb : b ≤ 100) :
    Calls Tryz.prog 86 #[.slice A n c, .slice A' m c'] w (HeldPost (N + M) (a + b + 1) l w) := by
  obtain ⟨p1, p2⟩ := hl _ h1
  obtain ⟨q1, q2⟩ := hl _ h2
  simp only at p1 p2 q1 q2
  exact (addN_ref N M A A' n m c c' w.heap.size w p1 q1 (Nat.le_refl _) (by omega) (by omega)).mono fun e w' ⟨A1, n1, c1, he, hn, hb⟩ => ⟨A1, n1, c1, he, hl.more hn (by have := nd_add N M; have := hn.1; have := p1.1; have := q1.1; omega) hb, hb⟩
theorem cmp_held (w : World) (l : List Ent) (hl : Held w l) {A A' : Option Addr} {n m c c' N M a b : Nat} (h1 : (A, n, N, a) ∈ l) (h2 : (A', m, M, b) ∈ l) (ha : a ≤ 100) (hb : b ≤ 100) :
    Calls Tryz.prog 84 #[.slice A n c, .slice A' m c'] w fun e w' => e = .returned (.int .i64 (cmpN N M)) ∧ Held w' l ∧ Below w.heap.size w w' := by
  obtain ⟨p1, p2⟩ := hl _ h1
  obtain ⟨q1, q2⟩ := hl _ h2
  simp only at p1 p2 q1 q2
  exact (cmpd_ref N M A A' n m c c' w.heap.size w p1 q1 (Nat.le_refl _) (by omega) (by omega)).mono fun e w' ⟨he, hb⟩ => ⟨he, hl.below hb, hb⟩
theorem product_held (a b : Int) (ha1 : -9223372036854775808 ≤ a) (ha2 : a ≤ 9223372036854775807) (hb1 : -9223372036854775808 ≤ b) (hb2 : b ≤ 9223372036854775807) (w : World) (l : List Ent) (hl : Held w l) :
    Calls Tryz.prog 81 #[.int .i64 a, .int .i64 b] w (HeldPost (a.natAbs * b.natAbs) 8 l w) := by
  have HS := Lib.hid hl; clear hl
  have HB : Hid (Below w.heap.size w w) := Below.refl _ _
  have tok1 : True := trivial
  have tok2 : True := trivial
  go_enter Tryz.func81, Tryz.ntmps81
  go_wp2_with (first
    | (go_at_call 83; refine (mag_ref _ (by omega) (by omega) _).mono ?_; rintro e w' ⟨rfl, rfl⟩)
    | (go_at_call 82; clear tok1; refine (limbs_held a.natAbs (by omega) _ _ HS.out).mono ?_; rintro e w1 ⟨A1, n1, c1, rfl, hs, hb⟩; have HN := Lib.hid (below2 HB.out hb); clear HB hb HS; have HB := Lib.hid HN.out; have HS := Lib.hid hs; clear HN hs)
    | (go_at_call 82; clear tok2; refine (limbs_held b.natAbs (by omega) _ _ HS.out).mono ?_; rintro e w1 ⟨A2, n2, c2, rfl, hs, hb⟩; have HN := Lib.hid (below2 HB.out hb); clear HB hb HS; have HB := Lib.hid HN.out; have HS := Lib.hid hs; clear HN hs)
    | (go_at_call 85; refine (mul_held _ _ HS.out (.tail _ (.head _)) (.head _) (by decide) (by decide)).mono ?_; rintro e w1 ⟨A3, n3, c3, rfl, hs, hb⟩; have HN := Lib.hid (below2 HB.out hb); clear HB hb HS; have HB := Lib.hid HN.out; have HS := Lib.hid hs; clear HN hs))
  go_ret
  exact ⟨A3, n3, c3, rfl, fun u hu => by
    rcases List.mem_cons.1 hu with rfl | hu
    · exact HS.out _ (.head _)
    · exact HS.out _ (.tail _ (.tail _ (.tail _ hu))), HB.out⟩
end Go.Proofs.YtdipainocdgfgaaGreatDoor
