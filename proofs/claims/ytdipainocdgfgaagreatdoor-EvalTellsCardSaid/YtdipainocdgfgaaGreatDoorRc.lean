/- The contracts of cncref03: table, turned, SinCos, Angle: they return what the plain functions sinS and angS give. Conditions: the integers are ints; the point of Angle is not the origin and its coordinates are at most 2^40. -/
import Derived.Test.YtdipainocdgfgaaGreatDoorCo
import Derived.Test.YtdipainocdgfgaaGreatDoorPlw
import Derived.Test.YtdipainocdgfgaaGreatDoorJ
namespace Go.Proofs.YtdipainocdgfgaaGreatDoor
set_option linter.unusedVariables false
set_option linter.unusedSimpArgs false
open Go.RowKit

theorem tbC_at {j : Nat} (h : j < 26) : tbC[j]? = some (.int .i64 (tbl j)) := by
  have e : (List.range 26).map (fun j => tbC[j]?) = (List.range 26).map (fun j => some (.int .i64 (tbl j))) := by kernel_rfl
  have e := congrArg (fun l => l[j]?) e
  simpa [h] using e
/-- What table leaves. -/
def TabPost (w : World) (e : Ending) (w' : World) : Prop :=
  e = .returned (.slice (some ⟨w.heap.size, 0, none⟩) 26 26) ∧ (∀ j : Nat, j < 26 → w'.cell? ⟨w.heap.size, j, none⟩ = some (.int .i64 (tbl j))) ∧ Below w.heap.size w w'
theorem table_ref (w : World) : Calls Tryz.prog 89 #[] w (TabPost w) := by
  go_enter Tryz.func89, Tryz.ntmps89
  go_wp2
  go_ret
  exact ⟨rfl, fun j hj => (cell_of_row _ _ _ _ _ _ (heap_alloc_new w (.cells tbC 3))).trans (tbC_at hj), below_box' _ (Nat.le_refl _)⟩
def TLoopR (p : Int × Int) (k : Nat) (vx vy vi : Value) : Prop :=
  ∃ (j : Nat) (x y : Int), j ≤ k ∧ (x, y) = trn p j ∧ vx = .int .i64 x ∧ vy = .int .i64 y ∧ vi = .int .i64 (j : Int)
theorem turned_ref (x y : Int) (k : Nat) (hx1 : -9223372036854775807 ≤ x) (hx2 : x ≤ 9223372036854775807) (hy1 : -9223372036854775807 ≤ y) (hy2 : y ≤ 9223372036854775807) (hk : k ≤ 1000) (w : World) :
    Calls Tryz.prog 90 #[.int .i64 x, .int .i64 y, .int .i64 (k : Int)] w fun e w' => e = .returned (.tuple #[.int .i64 (trn (x, y) k).1, .int .i64 (trn (x, y) k).2]) ∧ w = w' := by
  go_enter Tryz.func90, Tryz.ntmps90
  go_wp2
  go_loop [0, 1, 8] (TLoopR (x, y) k) (fun _ _ i => k - (intOf i).toNat)
  case atStart => exact ⟨0, x, y, by omega, rfl, rfl, rfl, rfl⟩
  case round =>
    obtain ⟨j, x', y', hj, hp, rfl, rfl, rfl⟩ := hrel
    have hb := trn_bd (p := (x, y)) (M := 9223372036854775807) ⟨hx1, hx2⟩ ⟨hy1, hy2⟩ j
    rw [← hp] at hb
    obtain ⟨⟨b1, b2⟩, b3, b4⟩ := hb
    dsimp only at b1 b2 b3 b4
    have HP := Lib.hid hp
    clear hp
    by_cases hlt : j < k
    · go_wp2
      go_round
      case rel => exact ⟨j + 1, _, _, by omega, by show _ = (-(trn (x, y) j).2, (trn (x, y) j).1); rw [← HP.out], rfl, rfl, by go_num⟩
      case measure => simp [intOf]; omega
    · have HE : Hid ((x', y') = trn (x, y) k) := by rw [show k = j by omega]; exact HP.out
      go_wp2
      go_ret2
      rw [← HE.out]
      exact ⟨rfl, rfl⟩
theorem u64_k {k : Nat} (h : k ≤ 26) : IntKind.u64.wrap (k : Int) = (k : Int) := by
  unfold IntKind.wrap
  simp [IntKind.bits, IntKind.signed]
  omega
def SLoopR (z0 : Int) (g : Nat) (w : World) (vx vy vz i : Value) (W : World) : Prop :=
  ∃ (k : Nat) (x y z : Int), k ≤ 26 ∧ (x, y, z) = itS (652032874, 0, z0) k ∧ vx = .int .i64 x ∧ vy = .int .i64 y ∧ vz = .int .i64 z ∧ i = .int .i64 (k : Int) ∧ (∀ j : Nat, j < 26 → W.cell? ⟨g, j, none⟩ = some (.int .i64 (tbl j))) ∧ Below w.heap.size w W
set_option maxRecDepth 100000 in
set_option maxHeartbeats 4000000 in
theorem sin_ref (a : Int) (ha1 : -9223372036854775808 ≤ a) (ha2 : a ≤ 9223372036854775807) (w : World) :
    Calls Tryz.prog 62 #[.int .i64 a] w fun e w' => e = .returned (.tuple #[.int .i64 (sinS a).1, .int .i64 (sinS a).2]) ∧ Below w.heap.size w w' := by
  have hr0 := Int.emod_nonneg a (b := 360000000) (by omega)
  have hr1 := Int.emod_lt_of_pos a (b := 360000000) (by omega)
  obtain ⟨r, hr⟩ : ∃ r, r = a % 360000000 := ⟨_, rfl⟩
  rw [← hr] at hr0 hr1
  have HR := Lib.hid hr
  by_cases hz : r - (r + 45000000) / 90000000 * 90000000 = 0
  · have hz' : (r - (r + 45000000) / 90000000 * 90000000 == 0) = true := by simpa using hz
    have hz'' : (r - (r + 45000000) / 90000000 * 90000000 != 0) = false := by simpa using hz
    have hq : 0 ≤ (r + 45000000) / 90000000 ∧ (r + 45000000) / 90000000 ≤ 4 := by omega
    have hqn : (((r + 45000000) / 90000000).toNat : Int) = (r + 45000000) / 90000000 := by omega
    have HT := turned_ref 1073741824 0 ((r + 45000000) / 90000000).toNat (by omega) (by omega) (by omega) (by omega) (by omega) w
    rw [hqn] at HT
    have HT := Lib.hid HT
    have HF : Hid (sinS a = ((trn (1073741824, 0) ((r + 45000000) / 90000000).toNat).2, (trn (1073741824, 0) ((r + 45000000) / 90000000).toNat).1)) := by
      show sinS a = _
      unfold sinS scXY scZ scK scR
      rw [← HR.out, if_pos hz]
    clear hz hqn hr
    go_enter Tryz.func62, Tryz.ntmps62
    go_wp2_with (first | (go_at_call 18; refine (mod_any _ _ (by omega) (by omega) (by omega) (by omega) _).mono ?_; rw [← HR.out]; rintro e w' ⟨rfl, rfl⟩) | (go_at_call 90; refine HT.out.mono ?_; rintro e w' ⟨rfl, rfl⟩))
    go_ret2
    rw [HF.out]
    exact ⟨rfl, Below.refl _ _⟩
  · have hz' : (r - (r + 45000000) / 90000000 * 90000000 == 0) = false := by simpa using hz
    have hz'' : (r - (r + 45000000) / 90000000 * 90000000 != 0) = true := by simpa using hz
    have HNZ := Lib.hid hz
    clear hz hr
    go_enter Tryz.func62, Tryz.ntmps62
    go_wp2_with (first | (go_at_call 18; refine (mod_any _ _ (by omega) (by omega) (by omega) (by omega) _).mono ?_; rw [← HR.out]; rintro e w' ⟨rfl, rfl⟩) | (go_at_call 89; refine (table_ref _).mono ?_; rintro e w1 ⟨rfl, hc, hb⟩; have HC := Lib.hid hc; have HB := Lib.hid hb; clear hc hb))
    generalize hzz : (r - (r + 45000000) / 90000000 * 90000000) * 1000 = z0
    have hz0 : -100000000000 ≤ z0 ∧ z0 ≤ 100000000000 := by omega
    have HZ0 := Lib.hid hzz
    clear hzz
    go_loopw [7, 8, 9, 11] (SLoopR z0 w.heap.size w) (fun _ _ _ i _ => 26 - (intOf i).toNat)
    case atStart => exact ⟨0, _, _, _, by omega, rfl, rfl, rfl, rfl, rfl, HC.out, HB.out⟩
    case round =>
      obtain ⟨k, x, y, z, hk, hp, rfl, rfl, rfl, rfl, hc, hbw⟩ := hrel
      have hb := Bd.itS (p := (652032874, 0, z0)) (by refine ⟨?_, ?_, ?_⟩ <;> simp [gr] <;> omega) k
      rw [← hp] at hb
      have HP := Lib.hid hp
      have HCW := Lib.hid hc
      have HBW := Lib.hid hbw
      clear hp hc hbw
      by_cases hlt : k < 26
      · have hnu := Bd.nums hlt hb
        obtain ⟨⟨n1, n2⟩, ⟨n3, n4⟩, ⟨n5, n6⟩, ⟨n7, n8⟩, n9, n10⟩ := hnu
        clear hb
        have hix := HCW.out k hlt
        have hku := u64_k hk
        have htb := tbl_bd k
        by_cases hzz : 0 ≤ z
        · have HE : Hid ((x - y / 2 ^ k, y + x / 2 ^ k, z - tbl k) = itS (652032874, 0, z0) (k + 1)) := by
            show _ = stS k (itS _ k)
            rw [← HP.out]
            unfold stS
            rw [if_pos hzz]
          go_wp2_with fail
          go_quiet (fail)
          go_wp2_with fail
          exact ⟨⟨k + 1, _, _, _, by omega, HE.out, rfl, rfl, rfl, by go_num, HCW.out, below_dn HBW.out _⟩, by simp [intOf]; omega⟩
        · have HE : Hid ((x + y / 2 ^ k, y - x / 2 ^ k, z + tbl k) = itS (652032874, 0, z0) (k + 1)) := by
            show _ = stS k (itS _ k)
            rw [← HP.out]
            unfold stS
            rw [if_neg hzz]
          go_wp2_with fail
          go_quiet (fail)
          go_wp2_with fail
          exact ⟨⟨k + 1, _, _, _, by omega, HE.out, rfl, rfl, rfl, by go_num, HCW.out, below_dn HBW.out _⟩, by simp [intOf]; omega⟩
      · have hk26 : k = 26 := by omega
        subst hk26
        obtain ⟨⟨b1, b2⟩, ⟨b3, b4⟩, b5, b6⟩ := hb
        dsimp only at b1 b2 b3 b4
        have g := gr_26
        have hq : 0 ≤ (r + 45000000) / 90000000 ∧ (r + 45000000) / 90000000 ≤ 4 := by omega
        have hqn : (((r + 45000000) / 90000000).toNat : Int) = (r + 45000000) / 90000000 := by omega
        have HT := turned_ref x y ((r + 45000000) / 90000000).toNat (by omega) (by omega) (by omega) (by omega) (by omega) wr
        rw [hqn] at HT
        have HT := Lib.hid HT
        have HF : Hid (sinS a = ((trn (x, y) ((r + 45000000) / 90000000).toNat).2, (trn (x, y) ((r + 45000000) / 90000000).toNat).1)) := by
          show sinS a = _
          unfold sinS scXY scZ scK scR
          rw [← HR.out, if_neg HNZ.out, HZ0.out, ← HP.out]
        clear hqn b5 b6
        go_wp2_with (go_at_call 90; refine HT.out.mono ?_; rintro e w' ⟨rfl, rfl⟩)
        go_ret2
        rw [HF.out]
        exact ⟨rfl, HBW.out⟩
def ALoopR (p0 : P3) (g : Nat) (w : World) (va vb vz i : Value) (W : World) : Prop :=
  ∃ (k : Nat) (x y z : Int), k ≤ 26 ∧ (x, y, z) = itA p0 k ∧ va = .int .i64 x ∧ vb = .int .i64 y ∧ vz = .int .i64 z ∧ i = .int .i64 (k : Int) ∧ (∀ j : Nat, j < 26 → W.cell? ⟨g, j, none⟩ = some (.int .i64 (tbl j))) ∧ Below w.heap.size w W
def QLoopR (p : Int × Int) (vu vv vk : Value) : Prop :=
  ∃ (j : Nat) (u v : Int), j ≤ kq p ∧ (u, v) = qp p j ∧ vk = .int .i64 (j : Int) ∧ vu = .int .i64 u ∧ vv = .int .i64 v
set_option maxRecDepth 100000 in
set_option maxHeartbeats 4000000 in
theorem angle_ref (x y : Int) (hx1 : -1099511627776 ≤ x) (hx2 : x ≤ 1099511627776) (hy1 : -1099511627776 ≤ y) (hy2 : y ≤ 1099511627776) (h0 : x ≠ 0 ∨ y ≠ 0) (w : World) :
    Calls Tryz.prog 59 #[.int .i64 x, .int .i64 y] w fun e w' => e = .returned (.tuple #[.int .i64 (angS x y), .bool true]) ∧ Below w.heap.size w w' := by
  have HS : Hid (Sec (qp (x, y) (kq (x, y)))) := kq_in _ h0
  have HNS : Hid (∀ j, j < kq (x, y) → ¬ Sec (qp (x, y) j)) := kq_out _
  have hk3 := kq_le (x, y)
  have hqb := qp_bd (p := (x, y)) (M := 1099511627776) ⟨hx1, hx2⟩ ⟨hy1, hy2⟩
  have HQB := Lib.hid hqb
  clear hqb
  have hxy : (x == 0) = false ∨ ((x == 0) = true ∧ (y == 0) = false) := by
    rcases h0 with h | h
    · exact .inl (by simpa using h)
    · rcases hx0 : (x == 0)
      · exact .inl rfl
      · exact .inr ⟨rfl, by simpa using h⟩
  clear h0
  rcases hxy with hx0 | ⟨hx0, hy0⟩
  all_goals
    go_enter Tryz.func59, Tryz.ntmps59
    go_wp2
    go_loop [6, 7, 8] (QLoopR (x, y)) (fun _ _ j => kq (x, y) - (intOf j).toNat)
    case atStart => exact ⟨0, x, y, by omega, rfl, rfl, rfl, rfl⟩
    case round =>
      obtain ⟨j, u, v, hj, hp, rfl, rfl, rfl⟩ := hrel
      have hb := HQB.out j
      rw [← hp] at hb
      obtain ⟨⟨u1, u2⟩, v1, v2⟩ := hb
      dsimp only at u1 u2 v1 v2
      by_cases hlt : j < kq (x, y)
      · have hns := HNS.out j hlt
        rw [← hp] at hns
        have hc : u ≤ 0 ∨ (0 < u ∧ v < -u) ∨ (0 < u ∧ -u ≤ v ∧ u ≤ v) := by unfold Sec at hns; dsimp only at hns; omega
        have HP : Hid ((v, -u) = qp (x, y) (j + 1)) := by show _ = ((qp (x, y) j).2, -(qp (x, y) j).1); rw [← hp]
        clear hp hns
        rcases hc with c | ⟨c, c'⟩ | ⟨c, c', c''⟩
        all_goals
          (try have dd : decide (v < u) = false := decide_eq_false (by omega))
          go_wp2
          go_round
          case rel => exact ⟨j + 1, v, -u, by omega, HP.out, by go_num, rfl, rfl⟩
          case measure => simp [intOf]; omega
      · have hje : j = kq (x, y) := by omega
        have hs := HS.out
        rw [← hje, ← hp] at hs
        obtain ⟨c1, c2, c3⟩ := hs
        dsimp only at c1 c2 c3
        have HP : Hid (qp (x, y) (kq (x, y)) = (u, v)) := by rw [← hje]; exact hp.symm
        have HJ : Hid (((kq (x, y) : Nat) : Int) = (j : Int)) := by rw [hje]; rfl
        clear hp hje
        by_cases hv : v = 0
        · have HF : Hid (angS x y = ((j : Int) * 90000000) % 360000000) := by
            unfold Hid angS angR
            rw [HJ.out, HP.out, if_pos hv, Int.add_zero]
          have hv' : (v == 0) = true := by simpa using hv
          have hv'' : (v != 0) = false := by simpa using hv
          clear hv
          go_wp2_with (go_at_call 18; refine (mod_any _ _ (by omega) (by omega) (by omega) (by omega) _).mono ?_; rintro e w' ⟨rfl, rfl⟩)
          go_ret2
          rw [HF.out]
          exact ⟨rfl, Below.refl _ _⟩
        · have hv' : (v == 0) = false := by simpa using hv
          have hv'' : (v != 0) = true := by simpa using hv
          have HNV := Lib.hid hv
          clear hv
          go_wp2_with (go_at_call 89; refine (table_ref _).mono ?_; rintro e w1 ⟨rfl, hc, hb⟩; have HC := Lib.hid hc; have HB := Lib.hid hb; clear hc hb)
          have hB0 : Bd 0 (u * 1048576, v * 1048576, 0) := by refine ⟨?_, ?_, ?_⟩ <;> simp [gr] <;> omega
          have HB0 := Lib.hid hB0
          clear hB0
          obtain ⟨p0, hp0⟩ : ∃ p0 : P3, p0 = (u * 1048576, v * 1048576, 0) := ⟨_, rfl⟩
          rw [← hp0] at HB0
          have HP0 := Lib.hid hp0
          go_loopw [10, 11, 12, 14] (ALoopR p0 w.heap.size w) (fun _ _ _ i _ => 26 - (intOf i).toNat)
          case atStart => exact ⟨0, _, _, _, by omega, hp0.symm, rfl, rfl, rfl, rfl, HC.out, HB.out⟩
          case round =>
            obtain ⟨k, a, b, z, hk, hp, rfl, rfl, rfl, rfl, hc, hbw⟩ := hrel
            have hb := HB0.out.itA k
            rw [← hp] at hb
            have HPA := Lib.hid hp
            have HCW := Lib.hid hc
            have HBW := Lib.hid hbw
            clear hp hp0 hc hbw
            by_cases hlt : k < 26
            · have hnu := Bd.nums hlt hb
              obtain ⟨⟨n1, n2⟩, ⟨n3, n4⟩, ⟨n5, n6⟩, ⟨n7, n8⟩, n9, n10⟩ := hnu
              clear hb
              have hix := HCW.out k hlt
              have hku := u64_k hk
              have htb := tbl_bd k
              by_cases hzz : 0 ≤ b
              · have HE : Hid ((a + b / 2 ^ k, b - a / 2 ^ k, z + tbl k) = itA p0 (k + 1)) := by
                  show _ = stA k (itA _ k)
                  rw [← HPA.out]
                  unfold stA
                  rw [if_pos hzz]
                go_wp2_with fail
                go_quiet (fail)
                go_wp2_with fail
                exact ⟨⟨k + 1, _, _, _, by omega, HE.out, rfl, rfl, rfl, by go_num, HCW.out, below_dn HBW.out _⟩, by simp [intOf]; omega⟩
              · have HE : Hid ((a - b / 2 ^ k, b + a / 2 ^ k, z - tbl k) = itA p0 (k + 1)) := by
                  show _ = stA k (itA _ k)
                  rw [← HPA.out]
                  unfold stA
                  rw [if_neg hzz]
                go_wp2_with fail
                go_quiet (fail)
                go_wp2_with fail
                exact ⟨⟨k + 1, _, _, _, by omega, HE.out, rfl, rfl, rfl, by go_num, HCW.out, below_dn HBW.out _⟩, by simp [intOf]; omega⟩
            · have hk26 : k = 26 := by omega
              subst hk26
              obtain ⟨_, _, b5, b6⟩ := hb
              dsimp only at b5 b6
              have HF : Hid (angS x y = ((j : Int) * 90000000 + (z + 500) / 1000) % 360000000) := by
                unfold Hid angS angR
                rw [HJ.out, HP.out, if_neg HNV.out, ← HP0.out, ← HPA.out]
              have hm := round_1000 (z + 500)
              have hm1 : -2000000000 ≤ (z + 500) / 1000 ∧ (z + 500) / 1000 ≤ 2000000000 := by omega
              obtain ⟨hm2, hm3⟩ := hm1
              go_wp2_with (go_at_call 18; refine (mod_any _ _ (by omega) (by omega) (by omega) (by omega) _).mono ?_; rintro e w' ⟨rfl, rfl⟩)
              go_ret2
              rw [HF.out]
              exact ⟨rfl, HBW.out⟩
end Go.Proofs.YtdipainocdgfgaaGreatDoor
