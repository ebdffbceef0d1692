/- The contract of floorRoot of wide: the floor of the square root. Conditions: the number has two words. -/
import Derived.Test.YtdipainocdgfgaaDoorK
import Derived.Deep.LoopGhost
import Derived.Deep.DeepCutAuto
namespace Go.Proofs.YtdipainocdgfgaaDoor
set_option linter.unusedVariables false
set_option linter.unusedSimpArgs false
open Go.RowKit

theorem past1 {w : World} {p : Addr} {v : Value} (h : w.cell? p = some v) (hp : p.block < w.heap.size) (o : Obj) : (w.alloc o).cell? p = some v := (World.cell?_alloc_lt w o p hp).trans h
theorem past3 {w : World} {p : Addr} {v : Value} (h : w.cell? p = some v) (hp : p.block < w.heap.size) (o1 o2 o3 : Obj) : (((w.alloc o1).alloc o2).alloc o3).cell? p = some v :=
  past1 (past1 (past1 h hp o1) (by rw [World.size_alloc]; omega) o2) (by rw [World.size_alloc, World.size_alloc]; omega) o3
theorem past1d {w : World} {p : Addr} {v : Value} (h : w.cell? p = some v) (hp : p.block < w.heap.size) (o : Obj) : (w.alloc o).drew.cell? p = some v := past1 h hp o
theorem past3d {w : World} {p : Addr} {v : Value} (h : w.cell? p = some v) (hp : p.block < w.heap.size) (o1 o2 o3 : Obj) : (((w.alloc o1).alloc o2).alloc o3).drew.cell? p = some v := past3 h hp o1 o2 o3
theorem cm_le {y x : Int} (h : y ≤ x) : cm y x ≤ 0 := by
  unfold cm; split
  · omega
  · split <;> omega
/-- What the loop of floorRoot keeps. -/
def SRel (x : Int) (B : Nat) (w0 : World) (r b : Value) (w : World) : Prop :=
  ∃ (k : Nat) (n : Int), r = .int .u64 n ∧ b = .int .u64 (2 ^ k / 2) ∧ k ≤ 64 ∧ 0 ≤ n ∧ n + 2 ^ k ≤ 18446744073709551616 ∧ n % 2 ^ k = 0 ∧ n * n ≤ x ∧ x < (n + 2 ^ k) * (n + 2 ^ k) ∧
    w.cell? ⟨B, 0, none⟩ = some (.int .u64 (hiW x)) ∧ w.cell? ⟨B, 1, none⟩ = some (.int .u64 (loW x)) ∧ Below B w0 w ∧ B < w.heap.size

set_option maxHeartbeats 1000000 in
theorem floorRoot_any (x : Int) (x0 : 0 ≤ x) (x1 : x < 340282366920938463463374607431768211456) (w : World) :
    Calls Tryd.prog 77 #[.agg #[.int .u64 (hiW x), .int .u64 (loW x)]] w fun e w' => (∃ r : Int, e = .returned (.int .u64 r) ∧ 0 ≤ r ∧ r ≤ 18446744073709551615 ∧ r * r ≤ x ∧ x < (r + 1) * (r + 1)) ∧ Below w.heap.size w w' := by
  have p1 := hiW_nonneg x0
  have p2 := hiW_le x1
  have p3 := loW_nonneg x
  have p4 := loW_le x
  go_enter Tryd.func77, Tryd.ntmps77
  go_wp2
  go_loopw [3, 4] (SRel x w.heap.size w) (fun _ b _ => (intOf b).toNat)
  case atStart =>
    refine ⟨64, 0, rfl, rfl, by omega, by omega, by omega, by omega, by omega, ?_, ?_, ?_, ?_, ?_⟩
    · have : ((0 : Int) + 2 ^ 64) * (0 + 2 ^ 64) = 340282366920938463463374607431768211456 := by decide
      omega
    · simp [World.cell?_alloc_new]
    · simp [World.cell?_alloc_new]
    · exact (Below.refl _ _).alloc (Nat.le_refl _) _
    · simp
  case round =>
    obtain ⟨k, n, rfl, rfl, hk, hn0, hn1, hn2, hn3, hn4, hc0, hc1, hb3, hsz⟩ := hrel
    have HB3 := Lib.hid hb3; clear hb3
    have HL := Lib.hid hn3; clear hn3
    have HU := Lib.hid hn4; clear hn4
    have HM := Lib.hid hn2; clear hn2
    rcases k with _ | j
    · go_wp2
      go_ret
      refine ⟨⟨n, rfl, hn0, by omega, HL.out, ?_⟩, HB3.out⟩
      have := HU.out; simpa using this
    · have hpow : (2 : Int) ^ (j + 1) = 2 ^ j * 2 := Int.pow_succ 2 j
      have hp : (0 : Int) < 2 ^ j := Int.pow_pos (by decide)
      have hor := or_join n (2 ^ j) (j + 1) hn0 (by omega) HM.out (by omega) (by omega) (by omega)
      have hnb : Hid ((n + 2 ^ j) % 2 ^ j = 0 ∧ n % 2 ^ j = 0) := by
        have h1 := Int.emod_emod_of_dvd n (show (2 : Int) ^ j ∣ 2 ^ (j + 1) from ⟨2, hpow⟩)
        rw [HM.out] at h1
        simp at h1
        exact ⟨by simp [← h1], h1.symm⟩
      obtain ⟨b, hb⟩ : ∃ b, b = (2 : Int) ^ j := ⟨_, rfl⟩
      rw [← hb] at hor hp hnb hpow
      have HU2 : Hid (x < (n + b * 2) * (n + b * 2)) := by have := HU.out; rw [hpow] at this; exact this
      rw [hpow] at hn1
      have ed : (2 : Int) ^ (j + 1) / 2 = b := by rw [hpow]; omega
      have HBB := Lib.hid hb; clear hb hpow HU HM
      have hs0 := prod_nonneg (show 0 ≤ n + b by omega) (show 0 ≤ n + b by omega)
      have hs1 := prod_lt (show 0 ≤ n + b by omega) (show 0 ≤ n + b by omega) (by omega) (by omega)
      obtain ⟨y, hy⟩ : ∃ y, (n + b) * (n + b) = y := ⟨_, rfl⟩
      rw [hy] at hs0 hs1
      have HY2 := Lib.hid hy
      by_cases hle : y ≤ x
      · have hcm := cm_le hle
        go_wp2
        go_region_held3 (fun w' => w'.cell? ⟨w.heap.size, 0, none⟩ = some (.int .u64 (hiW x)) ∧ w'.cell? ⟨w.heap.size, 1, none⟩ = some (.int .u64 (loW x))) (first | exact ⟨hc0, hc1⟩ | exact ⟨past1 hc0 hsz _, past1 hc1 hsz _⟩ | exact ⟨past1d hc0 hsz _, past1d hc1 hsz _⟩ | exact ⟨past3d hc0 hsz _ _ _, past3d hc1 hsz _ _ _⟩ | exact ⟨past3 hc0 hsz _ _ _, past3 hc1 hsz _ _ _⟩)
          (first
            | (go_at_call 65; refine (product_any _ _ (by omega) (by omega) (by omega) (by omega) _).mono ?_; rintro e w' ⟨rfl, rfl⟩)
            | (go_at_call 80; refine (compare_any _ _ (by omega) (by omega) (by omega) (by omega) _).mono ?_; rintro e w' ⟨rfl, rfl⟩))
        go_wp2
        refine ⟨⟨j, n + b, rfl, by rw [HBB.out], by omega, by omega, by rw [← HBB.out]; omega, by rw [← HBB.out]; exact hnb.out.1, by rw [HY2.out]; exact hle, by rw [← HBB.out]; exact by have := HU2.out; rw [show n + b + b = n + b * 2 by omega]; exact this, past3d hc0 hsz _ _ _, past3d hc1 hsz _ _ _, HB3.out.trans ((((Below.refl _ _).alloc (Nat.le_of_lt (Nat.lt_of_le_of_lt (Nat.le_refl _) hsz)) _).alloc (by rw [World.size_alloc]; omega) _).alloc (by rw [World.size_alloc, World.size_alloc]; omega) _).drew, by simp; omega⟩, ?_⟩
        simp [intOf, ed]
        omega
      · have hcm : 0 < cm y x := by rw [cm_gt (by omega)]; omega
        go_wp2
        go_region_held3 (fun w' => w'.cell? ⟨w.heap.size, 0, none⟩ = some (.int .u64 (hiW x)) ∧ w'.cell? ⟨w.heap.size, 1, none⟩ = some (.int .u64 (loW x))) (first | exact ⟨hc0, hc1⟩ | exact ⟨past1 hc0 hsz _, past1 hc1 hsz _⟩ | exact ⟨past1d hc0 hsz _, past1d hc1 hsz _⟩ | exact ⟨past3d hc0 hsz _ _ _, past3d hc1 hsz _ _ _⟩ | exact ⟨past3 hc0 hsz _ _ _, past3 hc1 hsz _ _ _⟩)
          (first
            | (go_at_call 65; refine (product_any _ _ (by omega) (by omega) (by omega) (by omega) _).mono ?_; rintro e w' ⟨rfl, rfl⟩)
            | (go_at_call 80; refine (compare_any _ _ (by omega) (by omega) (by omega) (by omega) _).mono ?_; rintro e w' ⟨rfl, rfl⟩))
        go_wp2
        refine ⟨⟨j, n, rfl, by rw [HBB.out], by omega, by omega, by rw [← HBB.out]; omega, by rw [← HBB.out]; exact hnb.out.2, HL.out, by rw [← HBB.out]; exact by rw [HY2.out]; omega, past3d hc0 hsz _ _ _, past3d hc1 hsz _ _ _, HB3.out.trans ((((Below.refl _ _).alloc (Nat.le_of_lt (Nat.lt_of_le_of_lt (Nat.le_refl _) hsz)) _).alloc (by rw [World.size_alloc]; omega) _).alloc (by rw [World.size_alloc, World.size_alloc]; omega) _).drew, by simp; omega⟩, ?_⟩
        simp [intOf, ed]
        omega
end Go.Proofs.YtdipainocdgfgaaDoor
