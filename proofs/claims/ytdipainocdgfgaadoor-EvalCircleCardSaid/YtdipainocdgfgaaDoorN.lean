/- The contracts of root, Root and Cmp of wide, and of Sqrt of fixed. Conditions: the integers are those of their kind. -/
import Derived.Test.YtdipainocdgfgaaDoorM
import Derived.Test.YtdipainocdgfgaaDoorH
import Derived.Shelf.Spec.BitsCarry
namespace Go.Proofs.YtdipainocdgfgaaDoor
set_option linter.unusedVariables false
set_option linter.unusedSimpArgs false
open Go.RowKit

/-- The borrow, under a name. -/
def bor (x y : Int) : Int := if x < y then 1 else 0
theorem bor_bd (x y : Int) : 0 ≤ bor x y ∧ bor x y ≤ 1 := by unfold bor; split <;> omega
theorem sub64 (x y b : Int) (hx : 0 ≤ x) (hy : 0 ≤ y) (hy' : y ≤ 18446744073709551615) (hb0 : 0 ≤ b) (hb : b ≤ 1) (w : World) : (callFunc 78 #[.int .u64 x, .int .u64 y, .int .u64 b]).run Tryd.prog w =
    .ok (.value (.tuple #[.int .u64 (loW (x - y - b)), .int .u64 (bor x (y + b))])) w := by
  obtain ⟨x, rfl⟩ := Int.eq_ofNat_of_zero_le hx
  obtain ⟨y, rfl⟩ := Int.eq_ofNat_of_zero_le hy
  obtain ⟨b, rfl⟩ := Int.eq_ofNat_of_zero_le hb0
  have e1 : (((x + 18446744073709551616 - y - b) % 18446744073709551616 : Nat) : Int) = loW ((x : Int) - y - b) := by unfold loW; omega
  have e2 : ((if x < y + b then 1 else 0 : Nat) : Int) = bor (x : Int) ((y : Int) + b) := by unfold bor; split <;> split <;> omega
  rw [← e1, ← e2]
  rw [run_callFunc_extern Tryd.func78 (by kernel_rfl) (by kernel_rfl) (by kernel_rfl) (e := sub64Entry) (by kernel_rfl), run_sub64 x y b (by omega)]
  rfl
theorem sub64_0 (x y : Int) (hx : 0 ≤ x) (hy : 0 ≤ y) (hy' : y ≤ 18446744073709551615) (w : World) : (callFunc 78 #[.int .u64 x, .int .u64 y, .int .u64 0]).run Tryd.prog w =
    .ok (.value (.tuple #[.int .u64 (loW (x - y)), .int .u64 (bor x y)])) w := by
  have h := sub64 x y 0 hx hy hy' (Int.le_refl 0) (by decide) w
  rwa [Int.sub_zero, Int.add_zero] at h

/-- The difference of two numbers of two words. -/
theorem sub_hilo (x y : Int) (h : y ≤ x) (hy : 0 ≤ y) (hx : x < 340282366920938463463374607431768211456) : loW (loW x - loW y) = loW (x - y) ∧ loW (hiW x - hiW y - bor (loW x) (loW y)) = hiW (x - y) := by
  unfold bor
  split <;> (unfold loW hiW at *; constructor <;> omega)

/-- Is the root rounded up? D: what is left. -/
def upS (mode D r : Int) : Bool := if mode = 1 then decide (0 < D) else decide (mode = 2) && decide (r < D)
/-- The root, rounded. -/
def rup (x mode r : Int) : Int := r + if upS mode (x - r * r) r then 1 else 0
theorem root_any (x mode : Int) (x0 : 0 ≤ x) (x1 : x < 85070591730234615865843651857942052864) (hm0 : 0 ≤ mode) (hm1 : mode ≤ 2) (w : World) :
    Calls Tryd.prog 74 #[.agg #[.int .u64 (hiW x), .int .u64 (loW x)], .int .i64 mode] w fun e w' => (∃ r : Int, 0 ≤ r ∧ r ≤ 9223372036854775807 ∧ r * r ≤ x ∧ x < (r + 1) * (r + 1) ∧ e = .returned (.tuple #[.int .i64 (sgnd (rup x mode r) false).1, .bool (sgnd (rup x mode r) false).2])) ∧ Below w.heap.size w w' := by
  have p1 := hiW_nonneg x0
  have p2 := hiW_le (show x < 340282366920938463463374607431768211456 by omega)
  have p3 := loW_nonneg x
  have p4 := loW_le x
  go_enter Tryd.func74, Tryd.ntmps74
  go_wp2_with (first | (go_at_call 77; refine (floorRoot_any x x0 (by omega) _).mono ?_; rintro e w1 ⟨⟨r, rfl, hr0, hr1, hr2, hr3⟩, hb⟩; have HB := Lib.hid hb; clear hb; have HR2 := Lib.hid hr2; clear hr2; have HR3 := Lib.hid hr3; clear hr3) | (go_at_call 75; fail))
  have hc0 : w1.cell? ⟨w.heap.size, 0, none⟩ = some (.int .u64 (hiW x)) := (HB.out.cell (p := ⟨w.heap.size, 0, none⟩) (by simp)).trans (by simp [World.cell?_alloc_new])
  have hc1 : w1.cell? ⟨w.heap.size, 1, none⟩ = some (.int .u64 (loW x)) := (HB.out.cell (p := ⟨w.heap.size, 1, none⟩) (by simp)).trans (by simp [World.cell?_alloc_new])
  have hrb : r ≤ 9223372036854775807 := by
    rcases Int.lt_or_le r 9223372036854775808 with h | h
    · omega
    · have := Int.mul_le_mul h h (by decide) (by omega)
      have h2 := HR2.out
      omega
  obtain ⟨y, hy⟩ : ∃ y, r * r = y := ⟨_, rfl⟩
  have hy0 : 0 ≤ y := by rw [← hy]; exact Int.mul_nonneg hr0 hr0
  have hyx : y ≤ x := by rw [← hy]; exact HR2.out
  have hD2 : x - y ≤ 2 * r := by
    have h3 := HR3.out
    have e : (r + 1) * (r + 1) = r * r + r + r + 1 := by rw [Int.mul_add, Int.add_mul]; omega
    rw [e, hy] at h3
    omega
  obtain ⟨t1, t2⟩ := sub_hilo x y hyx hy0 (by omega)
  have q1 := hiW_nonneg hy0
  have q2 := hiW_le (show y < 340282366920938463463374607431768211456 by omega)
  have q3 := loW_nonneg y
  have q4 := loW_le y
  obtain ⟨D, hD⟩ : ∃ D, x - y = D := ⟨_, rfl⟩
  rw [hD] at t1 t2 hD2
  have hD0 : 0 ≤ D := by omega
  have t3 : loW D = D := by unfold loW; omega
  have t4 : hiW D = 0 := by unfold hiW; omega
  rw [t3] at t1
  rw [t4] at t2
  have HF : Hid (∀ u : Int, sgnd (r + u) false = sgnd (r + u) false) := fun _ => rfl
  have HD := Lib.hid hD
  have HX := Lib.hid hyx
  clear hD hyx t3 t4
  have hUp : Hid (upS mode (x - r * r) r = upS mode D r) := by unfold Hid; rw [hy, HD.out]
  have hmode : mode = 0 ∨ mode = 1 ∨ mode = 2 := by omega
  have hcase : (0 < D ∧ r < D) ∨ (0 < D ∧ D ≤ r) ∨ (D ≤ 0 ∧ D ≤ r) := by omega
  rcases hmode with rfl | rfl | rfl
  all_goals
    rcases hcase with ⟨d1, d2⟩ | ⟨d1, d2⟩ | ⟨d1, d2⟩
    all_goals
      go_wp2_with (first | (go_at_call 75; refine (mul64_any _ _ (by omega) (by omega) (by omega) (by omega) _).mono ?_; rintro e w' ⟨rfl, rfl⟩) | simp only [sub64_0 (loW x) (loW y) p3 q3 q4] | simp only [sub64 (hiW x) (hiW y) (bor (loW x) (loW y)) p1 q1 q2 (bor_bd _ _).1 (bor_bd _ _).2] | (go_at_call 70; refine (signed_any _ _ (by omega) (by omega) _).mono ?_; rintro e w' ⟨rfl, rfl⟩))
      go_ret2
      refine ⟨⟨r, hr0, hrb, HR2.out, HR3.out, ?_⟩, ((Below.refl _ _).alloc (Nat.le_refl _) _).trans (HB.out.mono (by simp))⟩
      unfold rup
      rw [hUp.out]
      first
        | (rw [show upS _ D r = true from by unfold upS; simp; omega]; rfl)
        | (rw [show upS _ D r = false from by unfold upS; simp; try omega]; simp only [Bool.false_eq_true, if_false, Int.add_zero]; rfl)

theorem Root_any (a b mode : Int) (a0 : 0 ≤ a) (a1 : a ≤ 9223372036854775807) (b0 : 0 ≤ b) (b1 : b ≤ 9223372036854775807) (hm0 : 0 ≤ mode) (hm1 : mode ≤ 2) (w : World) :
    Calls Tryd.prog 61 #[.int .i64 a, .int .i64 b, .int .i64 mode] w fun e w' => (∃ r : Int, 0 ≤ r ∧ r ≤ 9223372036854775807 ∧ r * r ≤ a * b ∧ a * b < (r + 1) * (r + 1) ∧ e = .returned (.tuple #[.int .i64 (sgnd (rup (a * b) mode r) false).1, .bool (sgnd (rup (a * b) mode r) false).2])) ∧ Below w.heap.size w w' := by
  have x0 := Int.mul_nonneg a0 b0
  have x1 : a * b < 85070591730234615865843651857942052864 := by have := Int.mul_le_mul a1 b1 b0 (by decide); omega
  go_enter Tryd.func61, Tryd.ntmps61
  go_wp2_with (first | (go_at_call 64; refine (known_yes _ hm0 hm1 _).mono ?_; rintro e w' ⟨rfl, rfl⟩) | (go_at_call 65; refine (product_any _ _ (by omega) (by omega) (by omega) (by omega) _).mono ?_; rintro e w' ⟨rfl, rfl⟩) | (go_at_call 74; refine (root_any _ _ x0 x1 hm0 hm1 _).mono ?_; rintro e w1 ⟨⟨r, hr0, hr1, hr2, hr3, rfl⟩, hb⟩; have HB := Lib.hid hb; clear hb; have HR2 := Lib.hid hr2; clear hr2; have HR3 := Lib.hid hr3; clear hr3))
  go_ret2
  exact ⟨⟨r, hr0, hr1, HR2.out, HR3.out, rfl⟩, ((Below.refl _ _).alloc (Nat.le_refl _) _).trans (HB.out.mono (by simp))⟩
end Go.Proofs.YtdipainocdgfgaaDoor
