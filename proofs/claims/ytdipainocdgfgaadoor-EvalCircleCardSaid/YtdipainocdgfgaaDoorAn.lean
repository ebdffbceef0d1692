/- The contract of Angle of cordic: it returns what the plain function angS gives. Conditions: the coordinates are not both 0 and at most 2^40; the table of the arctangents lies in memory. -/
import Derived.Test.YtdipainocdgfgaaDoorCo
import Derived.Test.YtdipainocdgfgaaDoorPlw
namespace Go.Proofs.YtdipainocdgfgaaDoor
set_option linter.unusedVariables false
set_option linter.unusedSimpArgs false
open Go.RowKit

def QLoop (p : Int × Int) (vk vu vv : Value) : Prop :=
  ∃ (j : Nat) (u v : Int), j ≤ kq p ∧ (u, v) = qp p j ∧ vk = .int .i64 (j : Int) ∧ vu = .int .i64 u ∧ vv = .int .i64 v
def ALoop (p0 : P3) (w : World) (va vb vz i : Value) (W : World) : Prop :=
  ∃ (k n : Nat) (x y z : Int), k ≤ 26 ∧ (x, y, z) = itA p0 k ∧ va = .int .i64 x ∧ vb = .int .i64 y ∧ vz = .int .i64 z ∧ i = .int .i64 (k : Int) ∧ W = w.drewN n
set_option maxRecDepth 100000 in
set_option maxHeartbeats 4000000 in
theorem angle_any (x y : Int) (hx1 : -1099511627776 ≤ x) (hx2 : x ≤ 1099511627776) (hy1 : -1099511627776 ≤ y) (hy2 : y ≤ 1099511627776) (h0 : x ≠ 0 ∨ y ≠ 0) (w : World) (ht : Tab w) :
    Calls Tryd.prog 48 #[.int .i64 x, .int .i64 y] w fun e w' => e = .returned (.tuple #[.int .i64 (angS x y), .bool true]) ∧ ∃ k, w' = w.drewN k := by
  obtain ⟨tt, fr, hg⟩ := ht
  have HS : Hid (Sec (qp (x, y) (kq (x, y)))) := kq_in _ h0
  have HNS : Hid (∀ j, j < kq (x, y) → ¬ Sec (qp (x, y) j)) := kq_out _
  have hk3 := kq_le (x, y)
  have hqb := qp_bd (p := (x, y)) (M := 1099511627776) ⟨hx1, hx2⟩ ⟨hy1, hy2⟩
  have HQB := Lib.hid hqb
  clear hqb
  have hxy : (x == 0) = false ∨ ((x == 0) = true ∧ (y == 0) = false) := by
    rcases h0 with h | h
    · exact .inl (by simpa using h)
    · rcases hx0 : (x == 0)
      · exact .inl rfl
      · exact .inr ⟨rfl, by simpa using h⟩
  clear h0
  rcases hxy with hx0 | ⟨hx0, hy0⟩
  all_goals
    go_enter Tryd.func48, Tryd.ntmps48
    go_wp2
    go_loop [6, 7, 8] (QLoop (x, y)) (fun j _ _ => kq (x, y) - (intOf j).toNat)
    case atStart => exact ⟨0, x, y, by omega, rfl, rfl, rfl, rfl⟩
    case round =>
      obtain ⟨j, u, v, hj, hp, rfl, rfl, rfl⟩ := hrel
      have hb := HQB.out j
      rw [← hp] at hb
      obtain ⟨⟨u1, u2⟩, v1, v2⟩ := hb
      dsimp only at u1 u2 v1 v2
      by_cases hlt : j < kq (x, y)
      · have hns := HNS.out j hlt
        rw [← hp] at hns
        have hc : u ≤ 0 ∨ (0 < u ∧ v < -u) ∨ (0 < u ∧ -u ≤ v ∧ u ≤ v) := by unfold Sec at hns; dsimp only at hns; omega
        have HP : Hid ((v, -u) = qp (x, y) (j + 1)) := by show _ = ((qp (x, y) j).2, -(qp (x, y) j).1); rw [← hp]
        clear hp hns
        rcases hc with c | ⟨c, c'⟩ | ⟨c, c', c''⟩
        all_goals
          go_wp2
          go_round
          case rel => exact ⟨j + 1, v, -u, by omega, HP.out, by go_num, rfl, rfl⟩
          case measure => simp [intOf]; omega
      · have hje : j = kq (x, y) := by omega
        have hs := HS.out
        rw [← hje, ← hp] at hs
        obtain ⟨c1, c2, c3⟩ := hs
        dsimp only at c1 c2 c3
        have HP : Hid (qp (x, y) (kq (x, y)) = (u, v)) := by rw [← hje]; exact hp.symm
        have HJ : Hid (((kq (x, y) : Nat) : Int) = (j : Int)) := by rw [hje]; rfl
        clear hp hje
        by_cases hv : v = 0
        · have HF : Hid (angS x y = ((j : Int) * 90000000) % 360000000) := by
            unfold Hid angS angR
            rw [HJ.out, HP.out, if_pos hv, Int.add_zero]
          have hv' : (v == 0) = true := by simpa using hv
          have hv'' : (v != 0) = false := by simpa using hv
          clear hv
          go_wp2_with (go_at_call 60; refine (rem_any _ _ (by omega) (by omega) (by omega) (by omega) _).mono ?_; rintro e w' ⟨rfl, rfl⟩)
          go_ret2
          rw [HF.out]
          exact ⟨rfl, 0, rfl⟩
        · have hv' : (v == 0) = false := by simpa using hv
          have hv'' : (v != 0) = true := by simpa using hv
          have HNV := Lib.hid hv
          clear hv
          go_wp2_with (refine wpList_load_row rfl 83 _ rfl 0 rfl tt _ fr _ hg Tryd.underlying83 rfl (by kernel_rfl) ?_)
          have hB0 : Bd 0 (u * 1048576, v * 1048576, 0) := by refine ⟨?_, ?_, ?_⟩ <;> simp [gr] <;> omega
          have HB0 := Lib.hid hB0
          clear hB0
          obtain ⟨p0, hp0⟩ : ∃ p0 : P3, p0 = (u * 1048576, v * 1048576, 0) := ⟨_, rfl⟩
          rw [← hp0] at HB0
          have HP0 := Lib.hid hp0
          go_loopw [10, 11, 12, 64] (ALoop p0 w) (fun _ _ _ i _ => 26 - (intOf i).toNat)
          case atStart => exact ⟨0, 0, _, _, _, by omega, hp0.symm, rfl, rfl, rfl, rfl, rfl⟩
          case round =>
            obtain ⟨k, n, a, b, z, hk, hp, rfl, rfl, rfl, rfl, rfl⟩ := hrel
            have hb := HB0.out.itA k
            rw [← hp] at hb
            have HPA := Lib.hid hp
            clear hp hp0
            by_cases hlt : k < 26
            · have hnu := Bd.nums hlt hb
              obtain ⟨⟨n1, n2⟩, ⟨n3, n4⟩, ⟨n5, n6⟩, ⟨n7, n8⟩, n9, n10⟩ := hnu
              clear hb
              have hix := tb_index k hlt
              have htb := tbl_bd k
              by_cases hzz : 0 ≤ b
              · have HE : Hid ((a + b / 2 ^ k, b - a / 2 ^ k, z + tbl k) = itA p0 (k + 1)) := by
                  show _ = stA k (itA _ k)
                  rw [← HPA.out]
                  unfold stA
                  rw [if_pos hzz]
                go_wp2_with fail
                go_quiet (fail)
                go_wp2_with fail
                exact ⟨⟨k + 1, _, _, _, _, by omega, HE.out, rfl, rfl, rfl, by go_num, rfl⟩, by simp [intOf]; omega⟩
              · have HE : Hid ((a - b / 2 ^ k, b + a / 2 ^ k, z - tbl k) = itA p0 (k + 1)) := by
                  show _ = stA k (itA _ k)
                  rw [← HPA.out]
                  unfold stA
                  rw [if_neg hzz]
                go_wp2_with fail
                go_quiet (fail)
                go_wp2_with fail
                exact ⟨⟨k + 1, _, _, _, _, by omega, HE.out, rfl, rfl, rfl, by go_num, rfl⟩, by simp [intOf]; omega⟩
            · have hk26 : k = 26 := by omega
              subst hk26
              obtain ⟨_, _, b5, b6⟩ := hb
              dsimp only at b5 b6
              have HF : Hid (angS x y = ((j : Int) * 90000000 + (z + 500) / 1000) % 360000000) := by
                unfold Hid angS angR
                rw [HJ.out, HP.out, if_neg HNV.out, ← HP0.out, ← HPA.out]
              have hm := round_1000 (z + 500)
              have hm1 : -2000000000 ≤ (z + 500) / 1000 ∧ (z + 500) / 1000 ≤ 2000000000 := by omega
              obtain ⟨hm2, hm3⟩ := hm1
              go_wp2_with (go_at_call 60; refine (rem_any _ _ (by omega) (by omega) (by omega) (by omega) _).mono ?_; rintro e w' ⟨rfl, rfl⟩)
              go_ret2
              rw [HF.out]
              exact ⟨rfl, _, rfl⟩
end Go.Proofs.YtdipainocdgfgaaDoor
