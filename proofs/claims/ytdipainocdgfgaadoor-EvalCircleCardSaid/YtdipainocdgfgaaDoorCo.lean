/- The contracts of cordic: remainder, turned, SinCos, Angle: they return what the plain functions sinS and angS give. Conditions: the integers are ints; the table of the arctangents lies in memory. -/
import Derived.Test.YtdipainocdgfgaaDoorPlv
import Derived.Test.YtdipainocdgfgaaDoorJ
import Derived.Test.YtdipainocdgfgaaDoorRi
import Derived.Deep.QuietTactic
import Derived.BigQuiet
import Derived.Deep.Light
import Derived.Deep.LoopGhost
import Derived.Deep.Cut
import Derived.Deep.CutRange
import Derived.Lib.LaidTab
namespace Go.Proofs.YtdipainocdgfgaaDoor
set_option linter.unusedVariables false
set_option linter.unusedSimpArgs false
open Go.RowKit

/-- The table's cells. -/
def tbC : Array Value := ⟨tb.map fun z => .int .i64 z⟩
theorem tb_all (w : World) : (List.range 26).map (fun j => (Instr.index 83 (.agg tbC) (.int .i64 ((j : Nat) : Int))).run Tryd.prog w) = (List.range 26).map (fun j => .ok (.int .i64 (tbl j)) w) := by kernel_rfl
theorem tb_index (j : Nat) (h : j < 26) (w : World) : (Instr.index 83 (.agg tbC) (.int .i64 (j : Int))).run Tryd.prog w = .ok (.int .i64 (tbl j)) w := by
  have e := congrArg (fun l => l[j]?) (tb_all w)
  simpa [h] using e
/-- The table lies in memory. -/
def Tab (w : World) : Prop := ∃ (t : TypeId) (fr : Nat × Nat), w.heap[(0 : Nat)]? = some (.cells tbC t fr)
theorem Tab.below {w w' : World} {B : Nat} (h : Tab w) (hb : Below B w w') (hB : 0 < B) : Tab w' := by
  obtain ⟨t, fr, h⟩ := h
  exact ⟨t, fr, (hb.block _ hB).trans h⟩
theorem Tab.lt {w : World} (h : Tab w) : 0 < w.heap.size := by
  obtain ⟨t, fr, h⟩ := h
  exact (Array.getElem?_eq_some_iff.1 h).1

theorem rem_any (a b : Int) (h1 : 1 ≤ b) (h2 : b ≤ 9223372036854775807) (ha1 : -9223372036854775808 ≤ a) (ha2 : a ≤ 9223372036854775807) (w : World) :
    Calls Tryd.prog 60 #[.int .i64 a, .int .i64 b] w fun e w' => e = .returned (.int .i64 (a % b)) ∧ w = w' := by
  have hb := tmod_bd a b h1
  have hf := Lib.hid (tmod_fix a b h1)
  go_enter Tryd.func60, Tryd.ntmps60
  go_wp2
  · have hlt : a.tmod b < 0 := by assumption
    go_ret
    exact ⟨ret_int (hf.out.1 hlt), rfl⟩
  · have hlt : 0 ≤ a.tmod b := by assumption
    go_ret
    exact ⟨ret_int (hf.out.2 hlt), rfl⟩

def TLoop (p : Int × Int) (k : Nat) (vx vy vk : Value) : Prop :=
  ∃ (j : Nat) (x y : Int), j ≤ k ∧ (x, y) = trn p j ∧ vx = .int .i64 x ∧ vy = .int .i64 y ∧ vk = .int .i64 ((k - j : Nat) : Int)
theorem turned_any (x y : Int) (k : Nat) (hx1 : -9223372036854775807 ≤ x) (hx2 : x ≤ 9223372036854775807) (hy1 : -9223372036854775807 ≤ y) (hy2 : y ≤ 9223372036854775807) (hk : k ≤ 1000) (w : World) :
    Calls Tryd.prog 63 #[.int .i64 x, .int .i64 y, .int .i64 (k : Int)] w fun e w' => e = .returned (.tuple #[.int .i64 (trn (x, y) k).1, .int .i64 (trn (x, y) k).2]) ∧ w = w' := by
  go_enter Tryd.func63, Tryd.ntmps63
  go_wp2
  go_loop [0, 1, 2] (TLoop (x, y) k) (fun _ _ i => (intOf i).toNat)
  case atStart => exact ⟨0, x, y, by omega, rfl, rfl, rfl, rfl⟩
  case round =>
    obtain ⟨j, x', y', hj, hp, rfl, rfl, rfl⟩ := hrel
    have hb := trn_bd (p := (x, y)) (M := 9223372036854775807) ⟨hx1, hx2⟩ ⟨hy1, hy2⟩ j
    rw [← hp] at hb
    obtain ⟨⟨b1, b2⟩, b3, b4⟩ := hb
    dsimp only at b1 b2 b3 b4
    have HP := Lib.hid hp
    clear hp
    by_cases hlt : j < k
    · obtain ⟨q, hq⟩ : ∃ q : Int, q = ((k - j : Nat) : Int) := ⟨_, rfl⟩
      rw [← hq]
      have hq1 : 0 < q := by omega
      have hq2 : q ≤ 1000 := by omega
      have HQ : Hid (q - 1 = ((k - (j + 1) : Nat) : Int)) := by unfold Hid; omega
      clear hq
      go_wp2
      go_round
      case rel => exact ⟨j + 1, _, _, by omega, by show _ = (-(trn (x, y) j).2, (trn (x, y) j).1); rw [← HP.out], rfl, rfl, by rw [HQ.out]⟩
      case measure => simp [intOf]; omega
    · have hz : k - j = 0 := by omega
      rw [hz]
      have HE : Hid ((x', y') = trn (x, y) k) := by rw [show k = j by omega]; exact HP.out
      clear hz
      go_wp2
      go_ret2
      rw [← HE.out]
      exact ⟨rfl, rfl⟩

def SLoop (z0 : Int) (w : World) (vx vy vz i : Value) (W : World) : Prop :=
  ∃ (k n : Nat) (x y z : Int), k ≤ 26 ∧ (x, y, z) = itS (652032874, 0, z0) k ∧ vx = .int .i64 x ∧ vy = .int .i64 y ∧ vz = .int .i64 z ∧ i = .int .i64 (k : Int) ∧ W = w.drewN n
set_option maxRecDepth 100000 in
theorem sin_walk (a : Int) (ha1 : -9223372036854775808 ≤ a) (ha2 : a ≤ 9223372036854775807) (w : World) (ht : Tab w) :
    Calls Tryd.prog 53 #[.int .i64 a] w fun e w' => e = .returned (.tuple #[.int .i64 (sinS a).1, .int .i64 (sinS a).2]) ∧ ∃ k, w' = w.drewN k := by
  obtain ⟨tt, fr, hg⟩ := ht
  have hr0 := Int.emod_nonneg a (b := 360000000) (by omega)
  have hr1 := Int.emod_lt_of_pos a (b := 360000000) (by omega)
  obtain ⟨r, hr⟩ : ∃ r, r = a % 360000000 := ⟨_, rfl⟩
  rw [← hr] at hr0 hr1
  have HR := Lib.hid hr
  by_cases hz : r - (r + 45000000) / 90000000 * 90000000 = 0
  · have hz' : (r - (r + 45000000) / 90000000 * 90000000 == 0) = true := by simpa using hz
    have hz'' : (r - (r + 45000000) / 90000000 * 90000000 != 0) = false := by simpa using hz
    have hq : 0 ≤ (r + 45000000) / 90000000 ∧ (r + 45000000) / 90000000 ≤ 4 := by omega
    have hqn : (((r + 45000000) / 90000000).toNat : Int) = (r + 45000000) / 90000000 := by omega
    have HT := turned_any 1073741824 0 ((r + 45000000) / 90000000).toNat (by omega) (by omega) (by omega) (by omega) (by omega) w
    rw [hqn] at HT
    have HT := Lib.hid HT
    have HF : Hid (sinS a = ((trn (1073741824, 0) ((r + 45000000) / 90000000).toNat).2, (trn (1073741824, 0) ((r + 45000000) / 90000000).toNat).1)) := by
      show sinS a = _
      unfold sinS scXY scZ scK scR
      rw [← HR.out, if_pos hz]
    clear hz hqn hr
    go_enter Tryd.func53, Tryd.ntmps53
    go_wp2_with (first | (go_at_call 60; refine (rem_any _ _ (by omega) (by omega) (by omega) (by omega) _).mono ?_; rw [← HR.out]; rintro e w' ⟨rfl, rfl⟩) | (go_at_call 63; refine HT.out.mono ?_; rintro e w' ⟨rfl, rfl⟩))
    go_ret2
    rw [HF.out]
    exact ⟨rfl, 0, rfl⟩
  · have hz' : (r - (r + 45000000) / 90000000 * 90000000 == 0) = false := by simpa using hz
    have hz'' : (r - (r + 45000000) / 90000000 * 90000000 != 0) = true := by simpa using hz
    have HNZ := Lib.hid hz
    clear hz hr
    go_enter Tryd.func53, Tryd.ntmps53
    go_wp2_with (first | (go_at_call 60; refine (rem_any _ _ (by omega) (by omega) (by omega) (by omega) _).mono ?_; rw [← HR.out]; rintro e w' ⟨rfl, rfl⟩) | (refine wpList_load_row rfl 83 _ rfl 0 rfl tt _ fr _ hg Tryd.underlying83 rfl (by kernel_rfl) ?_))
    generalize hzz : (r - (r + 45000000) / 90000000 * 90000000) * 1000 = z0
    have hz0 : -100000000000 ≤ z0 ∧ z0 ≤ 100000000000 := by omega
    have HZ0 := Lib.hid hzz
    clear hzz
    go_loopw [6, 7, 9, 26] (SLoop z0 w) (fun _ _ _ i _ => 26 - (intOf i).toNat)
    case atStart => exact ⟨0, 0, _, _, _, by omega, rfl, rfl, rfl, rfl, rfl, rfl⟩
    case round =>
      obtain ⟨k, n, x, y, z, hk, hp, rfl, rfl, rfl, rfl, rfl⟩ := hrel
      have hb := Bd.itS (p := (652032874, 0, z0)) (by refine ⟨?_, ?_, ?_⟩ <;> simp [gr] <;> omega) k
      rw [← hp] at hb
      have HP := Lib.hid hp
      clear hp
      by_cases hlt : k < 26
      · have hnu := Bd.nums hlt hb
        obtain ⟨⟨n1, n2⟩, ⟨n3, n4⟩, ⟨n5, n6⟩, ⟨n7, n8⟩, n9, n10⟩ := hnu
        have HB := Lib.hid hb
        clear hb
        have hix := tb_index k hlt
        have htb := tbl_bd k
        have hdone : ∀ {W : World}, W = w.drewN n → ∀ m, W.drewN m = w.drewN (n + m) := fun h m => by rw [h, World.drewN_drewN]
        by_cases hzz : 0 ≤ z
        · have HE : Hid ((x - y / 2 ^ k, y + x / 2 ^ k, z - tbl k) = itS (652032874, 0, z0) (k + 1)) := by
            show _ = stS k (itS _ k)
            rw [← HP.out]
            unfold stS
            rw [if_pos hzz]
          clear hdone
          go_wp2_with fail
          go_quiet (fail)
          go_wp2_with fail
          exact ⟨⟨k + 1, _, _, _, _, by omega, HE.out, rfl, rfl, rfl, by go_num, rfl⟩, by simp [intOf]; omega⟩
        · have HE : Hid ((x + y / 2 ^ k, y - x / 2 ^ k, z + tbl k) = itS (652032874, 0, z0) (k + 1)) := by
            show _ = stS k (itS _ k)
            rw [← HP.out]
            unfold stS
            rw [if_neg hzz]
          clear hdone
          go_wp2_with fail
          go_quiet (fail)
          go_wp2_with fail
          exact ⟨⟨k + 1, _, _, _, _, by omega, HE.out, rfl, rfl, rfl, by go_num, rfl⟩, by simp [intOf]; omega⟩
      · have hk26 : k = 26 := by omega
        subst hk26
        obtain ⟨⟨b1, b2⟩, ⟨b3, b4⟩, b5, b6⟩ := hb
        dsimp only at b1 b2 b3 b4
        have g := gr_26
        have hq : 0 ≤ (r + 45000000) / 90000000 ∧ (r + 45000000) / 90000000 ≤ 4 := by omega
        have hqn : (((r + 45000000) / 90000000).toNat : Int) = (r + 45000000) / 90000000 := by omega
        have HT := turned_any x y ((r + 45000000) / 90000000).toNat (by omega) (by omega) (by omega) (by omega) (by omega) (w.drewN n)
        rw [hqn] at HT
        have HT := Lib.hid HT
        have HF : Hid (sinS a = ((trn (x, y) ((r + 45000000) / 90000000).toNat).2, (trn (x, y) ((r + 45000000) / 90000000).toNat).1)) := by
          show sinS a = _
          unfold sinS scXY scZ scK scR
          rw [← HR.out, if_neg HNZ.out, HZ0.out, ← HP.out]
        clear hqn b5 b6
        go_wp2_with (go_at_call 63; refine HT.out.mono ?_; rintro e w' ⟨rfl, rfl⟩)
        go_ret2
        rw [HF.out]
        exact ⟨rfl, _, rfl⟩
end Go.Proofs.YtdipainocdgfgaaDoor
