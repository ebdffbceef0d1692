/- The contracts of mul, add and product of cncref01. Conditions: the slices read as the digits of their numbers. -/
import Derived.Test.YtdipainocdgfgaaGreatDoorQ
namespace Go.Proofs.YtdipainocdgfgaaGreatDoor
set_option linter.unusedVariables false
set_option linter.unusedSimpArgs false
open Go.RowKit

/-- A row of the call's own, n cells in block g, that holds the digits of V. -/
def Mine (w : World) (B g n V : Nat) : Prop :=
  B ≤ g ∧ g < w.heap.size ∧ ∀ k, k < n → w.cell? ⟨g, k, none⟩ = some (.int .u64 (dg V k : Nat)) ∧ w.frozen? ⟨g, k, none⟩ = false
theorem Mine.drew {w : World} {B g n V : Nat} (h : Mine w B g n V) (k : Nat) : Mine (w.drewN k) B g n V := h
theorem Mine.set_ {w : World} {B g n V j d : Nat} (h : Mine w B g n V) (hj : j < n) (hd : d < 65536) : Mine (w.setCell ⟨g, j, none⟩ (.int .u64 (d : Nat))) B g n (setd V j d) := by
  obtain ⟨h1, h2, h3⟩ := h
  refine ⟨h1, by simpa [World.setCell] using h2, fun k hk => ⟨?_, by rw [World.frozen?_setCell]; exact (h3 k hk).2⟩⟩
  by_cases e : k = j
  · subst e
    rw [setd_at hd]
    exact World.cell?_setCell_same _ _ _ (h3 k hk).1
  · rw [setd_other hd e, World.cell?_setCell_other _ _ _ _ (by intro h; first | exact e (congrArg Addr.off h) | exact e (congrArg Addr.off h).symm)]
    exact (h3 k hk).1
theorem Mine.row {w : World} {B g n V : Nat} (h : Mine w B g n V) : RowN w w.heap.size (some ⟨g, 0, none⟩) n V := fun _ => ⟨g, rfl, h.2.1, fun k hk => (h.2.2 k hk).1⟩
theorem dg_zero (k : Nat) : dg 0 k = 0 := by unfold dg; simp
theorem mine_of_make {w : World} {base : Nat} {e : TypeId} {g n : Nat} (h : w.ownsRow base e 1 (.slice (some ⟨g, 0, none⟩) n n) n (madeCells (Value.int .u64 0).cells (n * 1)).toList) : Mine w base g n 0 := by
  rcases h.2 with ⟨h1, _⟩ | ⟨g', cap, cur, hv, hb, hg, hnc, hm, hcs, hxs⟩
  · cases h1
  · obtain ⟨rfl, rfl⟩ : g' = g ∧ cap = n := by simpa [eq_comm] using hv
    refine ⟨hb, ?_, fun k hk => ⟨?_, by simp [World.frozen?, hg]⟩⟩
    · exact Nat.lt_of_not_le fun hh => by rw [Array.getElem?_eq_none hh] at hg; cases hg
    · have := h.cells (g := g') rfl k (.int .u64 0) (by show (madeCells #[Value.int .u64 0] _).toList[k]? = _; rw [toList_madeCells_one]; rw [List.getElem?_replicate, if_pos (by omega)])
      rw [Go.WideShapes.add_plain] at this
      rw [dg_zero]
      simpa using this

set_option maxHeartbeats 1000000 in
theorem mulN_ref (N M : Nat) (A A' : Option Addr) (n m c c' B : Nat) (w : World) (h1 : Nums w B A n N) (h2 : Nums w B A' m M) (hB : B ≤ w.heap.size) (hn : n ≤ 100) (hm : m ≤ 100) :
    Calls Tryz.prog 85 #[.slice A n c, .slice A' m c'] w (NumsPost (N * M) w) := by
  obtain ⟨i0, hi, hz0, hz1, hz2⟩ := info_parts info64
  obtain ⟨e1, hr1⟩ := h1
  obtain ⟨e2, hr2⟩ := h2
  have HR1 := Lib.hid hr1; clear hr1
  have HR2 := Lib.hid hr2; clear hr2
  have hNP : Hid (N < P n) := by unfold Hid; rw [e1]; exact lt_P_nd N
  have hMP : Hid (M < P m) := by unfold Hid; rw [e2]; exact lt_P_nd M
  clear e1 e2
  go_enter Tryz.func85, Tryz.ntmps85
  go_wp2_with (at_make; refine wpList_make_full _ rfl _ _ 86 rfl w.heap.size 89 i0 (.int .u64 0) 1 Tryz.underlying86 hi hz0 hz1 .i64 .i64 _ _ (n + m) rfl rfl (by omega) (by omega) (by rw [hz2]; omega) (by unfold maxLen; omega) (Nat.le_refl _) ?_; intro w0 hown0 hgrow0)
  have hb0 : Below w.heap.size w w0 := (Below.refl _ _).grown hgrow0 (Nat.le_refl _) (by simp)
  have hm0 := Lib.hid (mine_of_make hown0)
  clear hown0 hgrow0
  go_loopw [6] (fun iv wr => ∃ i V : Nat, iv = .int .i64 (i : Nat) ∧ i ≤ n ∧ V = (N % P i) * M ∧ Mine wr w.heap.size w.heap.size (n + m) V ∧ Below w.heap.size w wr) (fun iv _ => n - (intOf iv).toNat)
  case atStart => exact ⟨0, 0, rfl, Nat.zero_le _, by rw [P_zero, Nat.mod_one, Nat.zero_mul], hm0.out, hb0⟩
  case round =>
    obtain ⟨i, V, rfl, hin, hV, hmine, hnx⟩ := hrel
    clear hm0 hb0
    have HM := Lib.hid hmine; clear hmine
    by_cases hlt : i < n
    · have HV : Hid (V < P (i + m)) := by unfold Hid; rw [hV]; exact row_lt hMP.out
      have HVe := Lib.hid hV; clear hV
      obtain ⟨b, rfl, hb, hcell⟩ := HR1.out (by omega)
      have hci := (hnx.cell (p := ⟨b, i, none⟩) (by show b < _; omega)).trans (hcell i hlt)
      have HC := Lib.hid hcell; clear hcell
      have hyl := dg_lt N i
      go_wp2
      go_loopw [7, 8] (fun cv kv wq => ∃ k c V' : Nat, cv = .int .u64 (c : Nat) ∧ kv = .int .i64 (k : Nat) ∧ k ≤ m ∧ c < 65536 ∧ V' + c * P (i + k) = V + dg N i * P i * (M % P k) ∧ V' < P (i + m) ∧ Mine wq w.heap.size w.heap.size (n + m) V' ∧ Below w.heap.size w wq) (fun _ kv _ => m - (intOf kv).toNat)
      case atStart => exact ⟨0, 0, V, rfl, rfl, Nat.zero_le _, by omega, by rw [P_zero, Nat.mod_one]; simp, HV.out, HM.out, hnx⟩
      case round =>
        obtain ⟨k, c, V', rfl, rfl, hkm, hc, hE, hV', hmine', hnx'⟩ := hrel
        have HE := Lib.hid hE; clear hE
        have HV' := Lib.hid hV'; clear hV'
        have HM' := Lib.hid hmine'; clear hmine'
        by_cases hk : k < m
        · obtain ⟨b', rfl, hb', hcell'⟩ := HR2.out (by omega)
          have c1 := (hnx'.cell (p := ⟨b, i, none⟩) (by show b < _; omega)).trans (HC.out i hlt)
          have c2 := (hnx'.cell (p := ⟨b', k, none⟩) (by show b' < _; omega)).trans (hcell' k hk)
          obtain ⟨c3, c4⟩ := HM'.out.2.2 (i + k) (by omega)
          clear hcell'
          obtain ⟨v, hv⟩ : ∃ v, v = dg V' (i + k) + dg N i * dg M k + c := ⟨_, rfl⟩
          have HS := Lib.hid (mul_step HE.out hv)
          have hfit := mul_fits (dg_lt V' (i + k)) (dg_lt N i) (dg_lt M k) hc
          have hbit := bits_16 v (by omega)
          have hx0 := dg_lt V' (i + k)
          have p0 : (0 : Int) ≤ (dg N i : Int) * (dg M k : Int) := by omega
          have p1 : (dg N i : Int) * (dg M k : Int) ≤ 4294836225 := by omega
          have hv' : (v : Int) = (dg V' (i + k) : Int) + (dg N i : Int) * (dg M k : Int) + (c : Int) := by rw [hv]; push_cast; rfl
          have j1 : (0 : Int) ≤ (i : Int) + (k : Int) := by omega
          have j2 : (i : Int) + (k : Int) < (n : Int) + (m : Int) := by omega
          have j3 : (i : Int) < (n : Int) := by omega
          have j4 : (k : Int) < (m : Int) := by omega
          rw [hv'] at hbit
          have HVN := Lib.hid hv
          clear hv HC
          go_wp2
          go_quiet (fail)
          go_wp2
          go_roundw
          case rel => exact ⟨k + 1, v / 65536, setd V' (i + k) (v % 65536), by go_num, by go_num, by omega, by omega, HS.out, setd_lt (Nat.mod_lt _ (by decide)) (by omega) HV'.out, by rw [show ((dg V' (i + k) : Int) + (dg N i : Int) * (dg M k : Int) + (c : Int)) % 65536 = ((v % 65536 : Nat) : Int) from by omega]; exact Mine.set_ (HM'.out.drew _) (by omega) (Nat.mod_lt _ (by decide)), (below_dn hnx' _).setCell (Nat.le_refl _) _⟩
          case measure => simp [intOf]; omega
        · obtain rfl : k = m := by omega
          have hrow := mul_row (by rw [HE.out, HVe.out]) hMP.out HV'.out
          have hd0 := hrow.1
          have HS := Lib.hid hrow.2
          clear hrow
          obtain ⟨c3, c4⟩ := HM'.out.2.2 (i + k) (by omega)
          rw [hd0] at c3
          have j1 : (0 : Int) ≤ (i : Int) + (k : Int) := by omega
          have j2 : (i : Int) + (k : Int) < (n : Int) + (k : Int) := by omega
          go_wp2
          go_roundw
          case rel => exact ⟨i + 1, setd V' (i + k) c, by go_num, by omega, HS.out, HM'.out.set_ (by omega) hc, hnx'.setCell (Nat.le_refl _) _⟩
          case measure => simp [intOf]; omega
    · obtain rfl : i = n := by omega
      rw [Nat.mod_eq_of_lt hNP.out] at hV
      have hlt : V < P (i + m) := by rw [hV, P_add]; exact Nat.mul_lt_mul'' hNP.out hMP.out
      have HVe := Lib.hid hV; clear hV
      have HVl := Lib.hid hlt
      clear hlt
      go_wp2_with (go_at_call 107; refine (cut_ref V _ _ _ wr.heap.size _ HM.out.row HVl.out (Nat.le_refl _) (by omega)).mono ?_; rintro e w' ⟨A1, n1, c1, rfl, hnums, rfl⟩; have HN := Lib.hid hnums; clear hnums)
      go_ret
      rw [← HVe.out]
      exact ⟨A1, n1, c1, rfl, HN.out, hnx⟩

theorem own_cap {w : World} {base : Nat} {e : TypeId} {n cap : Nat} {A : Option Addr} {xs : List Value} (h : w.ownsRow base e 1 (.slice A n cap) n xs) : n ≤ cap := by
  rcases h.2 with ⟨h1, h2⟩ | ⟨g', cap', cur, hv, hb, hg, hnc, _⟩
  · omega
  · obtain ⟨_, rfl⟩ : A = some ⟨g', 0, none⟩ ∧ cap = cap' := by simpa using hv
    exact hnc
theorem own_cast {w : World} {base : Nat} {e : TypeId} {v : Value} {n : Nat} {xs : List Value} {a b : Int} (h : w.ownsRow base e 1 v n (xs ++ [.int .u64 a])) (hab : a = b) : w.ownsRow base e 1 v n (xs ++ [.int .u64 b]) := hab ▸ h
set_option maxHeartbeats 1000000 in
theorem addN_ref (N M : Nat) (A A' : Option Addr) (n m c c' B : Nat) (w : World) (h1 : Nums w B A n N) (h2 : Nums w B A' m M) (hB : B ≤ w.heap.size) (hn : n ≤ 100) (hm : m ≤ 100) :
    Calls Tryz.prog 86 #[.slice A n c, .slice A' m c'] w (NumsPost (N + M) w) := by
  obtain ⟨i0, hi, hz0, hz1, hz2⟩ := info_parts info64
  obtain ⟨e1, hr1⟩ := h1
  obtain ⟨e2, hr2⟩ := h2
  have HR1 := Lib.hid hr1; clear hr1
  have HR2 := Lib.hid hr2; clear hr2
  have hNP : Hid (N < P n) := by unfold Hid; rw [e1]; exact lt_P_nd N
  have hMP : Hid (M < P m) := by unfold Hid; rw [e2]; exact lt_P_nd M
  clear e1 e2
  go_enter Tryz.func86, Tryz.ntmps86
  go_wp2
  go_loopw [5, 6, 7] (fun lv cv iv wr => ∃ (i k : Nat) (C : Option Addr) (cap : Nat), lv = .slice C i cap ∧ cv = .int .u64 (k : Nat) ∧ iv = .int .i64 (i : Nat) ∧ i ≤ 101 ∧ N / P i + M / P i + k = (N + M) / P i ∧ wr.ownsRow w.heap.size 89 1 (.slice C i cap) i (rowL (N + M) i) ∧ Below w.heap.size w wr) (fun _ _ iv _ => 102 - (intOf iv).toNat)
  case atStart => exact ⟨0, 0, none, 0, rfl, rfl, rfl, Nat.zero_le _, by rw [P_zero]; simp, World.ownsRow_nil _ _ _ _, Below.refl _ _⟩
  case round =>
    obtain ⟨i, k, C, cap, rfl, rfl, rfl, hi1, hE, hown, hnx⟩ := hrel
    have hk1 := add_carry hE
    have HS := Lib.hid (add_step hE)
    have HE := Lib.hid hE; clear hE
    have hsize := hnx.size
    obtain ⟨v, hv⟩ : ∃ v, v = k + dg N i + dg M i := ⟨_, rfl⟩
    rw [← hv] at HS
    have d1 := dg_lt N i
    have d2 := dg_lt M i
    have hbit := bits_16 v (by omega)
    by_cases a1 : i < n
    · by_cases a2 : i < m
      · obtain ⟨b, rfl, hb, hcell⟩ := HR1.out (by omega)
        have c3 := (hnx.cell (p := ⟨b, i, none⟩) (by show b < _; omega)).trans (hcell i (by omega))
        clear hcell
        obtain ⟨b', rfl, hb', hcell'⟩ := HR2.out (by omega)
        have c4 := (hnx.cell (p := ⟨b', i, none⟩) (by show b' < _; omega)).trans (hcell' i (by omega))
        clear hcell'
        have hv' : (v : Int) = (k : Int) + (dg N i : Int) + (dg M i : Int) := by omega
        rw [hv'] at hbit
        clear hv
        go_wp2_with (first | (at_builtin; refine wpList_append_own _ rfl (.tmp 46) (.tmp 49) 86 rfl w.heap.size 89 i0 (.int .u64 0) 1 8 Tryz.underlying86 hi hz0 hz1 hz2 rfl (by decide) _ _ _ rfl (hown.alloc _) ⟨wr.heap.size, 0, none⟩ 1 1 [.int .u64 _] rfl rfl (cell_one_new _ _ _) (by intro u hu; simp at hu; subst hu; rfl) (by unfold maxLen; omega) (by omega) (by simp; omega) ?_; intro v1 w1 hown1 hgrow1 hnil1))
        obtain ⟨A1, c1, rfl⟩ := own_shape hown1
        go_roundw
        case rel => exact ⟨i + 1, v / 65536, A1, c1, rfl, by go_num, by go_num, by omega, HS.out.2, by rw [rowL_succ, ← HS.out.1]; exact own_cast hown1 (by omega), (hnx.alloc (by omega) _).grown hgrow1 (by simp; omega) (fun j hj => (hown.lt j hj).1)⟩
        case measure => simp [intOf]; omega
      · have z2 : dg M i = 0 := dg_high hMP.out (by omega)
        obtain ⟨b, rfl, hb, hcell⟩ := HR1.out (by omega)
        have c3 := (hnx.cell (p := ⟨b, i, none⟩) (by show b < _; omega)).trans (hcell i (by omega))
        clear hcell
        have hv' : (v : Int) = (k : Int) + (dg N i : Int) := by omega
        rw [hv'] at hbit
        clear hv
        go_wp2_with (first | (at_builtin; refine wpList_append_own _ rfl (.tmp 46) (.tmp 49) 86 rfl w.heap.size 89 i0 (.int .u64 0) 1 8 Tryz.underlying86 hi hz0 hz1 hz2 rfl (by decide) _ _ _ rfl (hown.alloc _) ⟨wr.heap.size, 0, none⟩ 1 1 [.int .u64 _] rfl rfl (cell_one_new _ _ _) (by intro u hu; simp at hu; subst hu; rfl) (by unfold maxLen; omega) (by omega) (by simp; omega) ?_; intro v1 w1 hown1 hgrow1 hnil1))
        obtain ⟨A1, c1, rfl⟩ := own_shape hown1
        go_roundw
        case rel => exact ⟨i + 1, v / 65536, A1, c1, rfl, by go_num, by go_num, by omega, HS.out.2, by rw [rowL_succ, ← HS.out.1]; exact own_cast hown1 (by omega), (hnx.alloc (by omega) _).grown hgrow1 (by simp; omega) (fun j hj => (hown.lt j hj).1)⟩
        case measure => simp [intOf]; omega
    · have z1 : dg N i = 0 := dg_high hNP.out (by omega)
      by_cases a2 : i < m
      · obtain ⟨b', rfl, hb', hcell'⟩ := HR2.out (by omega)
        have c4 := (hnx.cell (p := ⟨b', i, none⟩) (by show b' < _; omega)).trans (hcell' i (by omega))
        clear hcell'
        have hv' : (v : Int) = (k : Int) + (dg M i : Int) := by omega
        rw [hv'] at hbit
        clear hv
        go_wp2_with (first | (at_builtin; refine wpList_append_own _ rfl (.tmp 46) (.tmp 49) 86 rfl w.heap.size 89 i0 (.int .u64 0) 1 8 Tryz.underlying86 hi hz0 hz1 hz2 rfl (by decide) _ _ _ rfl (hown.alloc _) ⟨wr.heap.size, 0, none⟩ 1 1 [.int .u64 _] rfl rfl (cell_one_new _ _ _) (by intro u hu; simp at hu; subst hu; rfl) (by unfold maxLen; omega) (by omega) (by simp; omega) ?_; intro v1 w1 hown1 hgrow1 hnil1))
        obtain ⟨A1, c1, rfl⟩ := own_shape hown1
        go_roundw
        case rel => exact ⟨i + 1, v / 65536, A1, c1, rfl, by go_num, by go_num, by omega, HS.out.2, by rw [rowL_succ, ← HS.out.1]; exact own_cast hown1 (by omega), (hnx.alloc (by omega) _).grown hgrow1 (by simp; omega) (fun j hj => (hown.lt j hj).1)⟩
        case measure => simp [intOf]; omega
      · have z2 : dg M i = 0 := dg_high hMP.out (by omega)
        by_cases a3 : 0 < k
        · have hi2 : i ≤ 100 := Nat.le_of_not_lt fun hh => by
            have e0 : i = 101 := by omega
            subst e0
            have h3 := HE.out
            rw [div_lt_P (Nat.lt_of_lt_of_le hNP.out (P_mono (by omega))), div_lt_P (Nat.lt_of_lt_of_le hMP.out (P_mono (by omega)))] at h3
            have h4 : N + M < P 101 := by
              have h5 := Nat.lt_of_lt_of_le hNP.out (P_mono hn)
              have h6 := Nat.lt_of_lt_of_le hMP.out (P_mono hm)
              have h7 : P 101 = P 100 * 65536 := P_succ 100
              omega
            rw [div_lt_P h4] at h3
            omega
          have hv' : (v : Int) = (k : Int) := by omega
          rw [hv'] at hbit
          clear hv
          go_wp2_with (first | (at_builtin; refine wpList_append_own _ rfl (.tmp 46) (.tmp 49) 86 rfl w.heap.size 89 i0 (.int .u64 0) 1 8 Tryz.underlying86 hi hz0 hz1 hz2 rfl (by decide) _ _ _ rfl (hown.alloc _) ⟨wr.heap.size, 0, none⟩ 1 1 [.int .u64 _] rfl rfl (cell_one_new _ _ _) (by intro u hu; simp at hu; subst hu; rfl) (by unfold maxLen; omega) (by omega) (by simp; omega) ?_; intro v1 w1 hown1 hgrow1 hnil1))
          obtain ⟨A1, c1, rfl⟩ := own_shape hown1
          go_roundw
          case rel => exact ⟨i + 1, v / 65536, A1, c1, rfl, by go_num, by go_num, by omega, HS.out.2, by rw [rowL_succ, ← HS.out.1]; exact own_cast hown1 (by omega), (hnx.alloc (by omega) _).grown hgrow1 (by simp; omega) (fun j hj => (hown.lt j hj).1)⟩
          case measure => simp [intOf]; omega
        · have h3 : (N + M) / P i = 0 := by
            have h3 := HE.out
            rw [div_lt_P (Nat.lt_of_lt_of_le hNP.out (P_mono (by omega))), div_lt_P (Nat.lt_of_lt_of_le hMP.out (P_mono (by omega)))] at h3
            omega
          have HL := Lib.hid (lt_P h3)
          have hcap := own_cap hown
          have HO := Lib.hid (row_own hown)
          clear h3
          go_wp2_with (go_at_call 107; refine (cut_ref (N + M) _ _ _ wr.heap.size _ HO.out HL.out (by omega) (by omega)).mono ?_; rintro e w' ⟨A1, n1, c1, rfl, hnums, rfl⟩; have HN := Lib.hid hnums; clear hnums)
          go_ret
          exact ⟨A1, n1, c1, rfl, HN.out, hnx⟩
end Go.Proofs.YtdipainocdgfgaaGreatDoor
