/- The contracts of the tape of cncmake: New, Next, Light. What Next returns is some number below the bound: which one is not said. Conditions: the list that came in reads as integers. -/
import Derived.Test.YtdipainocdgfgaaDoorA
import Derived.Deep.QuietTactic
import Derived.BigQuiet
namespace Go.Proofs.YtdipainocdgfgaaDoor
set_option linter.unusedVariables false
set_option linter.unusedSimpArgs false
open Go.RowKit

theorem quiet_add_left {P : Program} {f : FuncId} {args : Array Value} {w : World} {a n : Nat} {v : Value}
    (h : Calls P f args (w.drewN (a + n)) fun e w' => e = .returned v ∧ w.drewN (a + n) = w') :
    Calls P f args (w.drewN (a + n)) fun e w'' => e = .returned v ∧ ∃ m, w'' = w.drewN (a + m) :=
  h.mono fun _ _ ⟨he, hm⟩ => ⟨he, n, hm.symm⟩
theorem quiet_left {P : Program} {f : FuncId} {args : Array Value} {w : World} {n : Nat} {v : Value}
    (h : Calls P f args (w.drewN n) fun e w' => e = .returned v ∧ w.drewN n = w') : Calls P f args (w.drewN n) fun e w'' => e = .returned v ∧ ∃ m, w'' = w.drewN m :=
  h.mono fun _ _ ⟨he, hm⟩ => ⟨he, n, hm.symm⟩
/-- The list that came in: n integers at A, below block B. -/
def LOK (w : World) (B : Nat) (A : Option Addr) (n : Nat) : Prop :=
  n ≤ maxLen ∧ (0 < n → ∃ ab off : Nat, A = some ⟨ab, off, none⟩ ∧ ab < B ∧ ∀ k, k < n → ∃ z : Int, w.cell? ⟨ab, off + k, none⟩ = some (.int .i64 z) ∧ -9223372036854775808 ≤ z ∧ z ≤ 9223372036854775807)
/-- A tape in block b over that list. -/
def TapeOK (w : World) (B b : Nat) (A : Option Addr) (n c : Nat) : Prop :=
  B ≤ b ∧ ∃ k : Nat, k ≤ n ∧ w.heap[b]? = some (.cells #[.slice A n c, .int .i64 (k : Int)] 54 (0, 0))
theorem LOK.below {w w' : World} {B : Nat} {A : Option Addr} {n : Nat} (h : LOK w B A n) (hb : Below B w w') : LOK w' B A n :=
  ⟨h.1, fun hn => by
    obtain ⟨ab, off, e, hl, hc⟩ := h.2 hn
    exact ⟨ab, off, e, hl, fun k hk => by
      obtain ⟨z, h1, h2⟩ := hc k hk
      exact ⟨z, (hb.cell (p := ⟨ab, off + k, none⟩) hl).trans h1, h2⟩⟩⟩

theorem new_any (w : World) (B : Nat) (hB : B ≤ w.heap.size) (A : Option Addr) (n c : Nat) :
    Calls Tryd.prog 12 #[.slice A n c] w fun e w' => e = .returned (.pointer (some ⟨w.heap.size, 0, none⟩)) ∧ w' = w.alloc (.cells #[.slice A n c, .int .i64 0] 54) := by
  go_enter Tryd.func12, Tryd.ntmps12
  go_wp2
  go_ret
  exact ⟨rfl, rfl⟩
theorem TapeOK.new (w : World) (B : Nat) (hB : B ≤ w.heap.size) (A : Option Addr) (n c : Nat) : TapeOK (w.alloc (.cells #[.slice A n c, .int .i64 0] 54)) B w.heap.size A n c :=
  ⟨hB, 0, Nat.zero_le _, heap_alloc_new w _⟩
theorem light_yes (A : Option Addr) (n c : Nat) (h : n ≤ 120) (w : World) :
    Calls Tryd.prog 9 #[.slice A n c] w fun e w' => e = .returned (.bool true) ∧ w = w' := by
  go_enter Tryd.func9, Tryd.ntmps9
  go_wp2
  go_ret
  exact ⟨congrArg (fun q => Ending.returned (.bool q)) (decide_eq_true (by omega)), rfl⟩
theorem light_no (A : Option Addr) (n c : Nat) (h : ¬ n ≤ 120) (w : World) :
    Calls Tryd.prog 9 #[.slice A n c] w fun e w' => e = .returned (.bool false) ∧ w = w' := by
  go_enter Tryd.func9, Tryd.ntmps9
  go_wp2
  go_ret
  exact ⟨congrArg (fun q => Ending.returned (.bool q)) (decide_eq_false (by omega)), rfl⟩

theorem tape_set (w : World) (b : Nat) (x y v : Value) {q q' : Nat} (h : w.heap[b]? = some (.cells #[x, y] 54 (0, 0))) :
    (((w.drewN q).setCell ⟨b, 1, none⟩ v).drewN q').heap[b]? = some (.cells #[x, v] 54 (0, 0)) := by
  show ((w.setCell ⟨b, 1, none⟩ v)).heap[b]? = _
  simp [World.setCell, Array.getElem?_modify, h]
/-- What Next leaves. -/
def NextPost (B b : Nat) (A : Option Addr) (n c : Nat) (m : Int) (w : World) (e : Ending) (w' : World) : Prop :=
  ∃ r : Int, e = .returned (.int .i64 r) ∧ 0 ≤ r ∧ r < m ∧ TapeOK w' B b A n c ∧ Below B w w'
theorem next_any (B b : Nat) (A : Option Addr) (n c : Nat) (m : Int) (w : World) (hl : LOK w B A n) (ht : TapeOK w B b A n c) (hm1 : 1 ≤ m) (hm2 : m ≤ 9223372036854775807) :
    Calls Tryd.prog 27 #[.pointer (some ⟨b, 0, none⟩), .int .i64 m] w (NextPost B b A n c m w) := by
  obtain ⟨hB, k, hk, hh⟩ := ht
  have c0 : w.cell? ⟨b, 0, none⟩ = some (.slice A n c) := cell_of_row w b 0 _ _ _ hh
  have c1 : w.cell? ⟨b, 1, none⟩ = some (.int .i64 (k : Int)) := cell_of_row w b 1 _ _ _ hh
  have cf : w.frozen? ⟨b, 1, none⟩ = false := by simp [World.frozen?, hh]
  have hn := hl.1
  unfold maxLen at hn
  have HH := Lib.hid hh; clear hh
  have HL := Lib.hid hl; clear hl
  by_cases hlt : k < n
  · obtain ⟨ab, off, rfl, hab, hc⟩ := HL.out.2 (by omega)
    obtain ⟨z, hz, z0, z1⟩ := hc k hlt
    clear hc
    have hne : ¬ ab = b := by omega
    go_enter Tryd.func27, Tryd.ntmps27
    go_wp2
    go_quiet (fail)
    go_wp2
    have i1 : (0 : Int) ≤ (k : Int) := by omega
    have i2 : (k : Int) < (n : Int) := by omega
    have i3 : IntKind.i64.wrap (k : Int) = (k : Int) := IntWalk.i64_in _ (by omega)
    have i4 : IntKind.i64.wrap ((k : Int) + 1 - 1) = (k : Int) := by rw [show (k : Int) + 1 - 1 = k by omega]; exact i3
    go_quiet ((go_at_call 17; first | exact quiet_add_left (mod_any _ _ hm1 hm2 z0 z1 _) | exact quiet_left (mod_any _ _ hm1 hm2 z0 z1 _)))
    go_wp2
    go_ret
    have eb := emod_bd z m hm1
    refine ⟨z % m, rfl, eb.1, by omega, ⟨hB, k + 1, by omega, ?_⟩, ?_⟩
    · have e : ((k + 1 : Nat) : Int) = (k : Int) + 1 := by omega
      rw [e]
      exact tape_set w b _ _ _ HH.out
    · exact ⟨rfl, rfl, rfl, by simp [World.setCell], fun j hj => Below.heap_setCell _ _ _ j (by show j ≠ b; omega)⟩
  · have hge : (n : Int) ≤ (k : Int) := by omega
    go_enter Tryd.func27, Tryd.ntmps27
    go_wp2
    go_quiet (fail)
    go_wp2
    go_ret
    exact ⟨0, rfl, by omega, by omega, ⟨hB, k, hk, HH.out⟩, ⟨rfl, rfl, rfl, Nat.le_refl _, fun _ _ => rfl⟩⟩
end Go.Proofs.YtdipainocdgfgaaDoor
