/- The contracts of the small functions of cncref01: mag, sign, right, limbs, cut, cmp. A slice of digits stands for a number. Conditions: the integers are those of their kind; a slice reads as the digits of its number. -/
import Derived.Test.YtdipainocdgfgaaGreatDoorE
import Derived.Test.YtdipainocdgfgaaGreatDoorG
import Derived.Test.YtdipainocdgfgaaGreatDoorPln
import Derived.Deep.QuietTactic
import Derived.BigQuiet
import Derived.Deep.AppendLies
import Derived.Maps.AppendAt
namespace Go.Proofs.YtdipainocdgfgaaGreatDoor
set_option linter.unusedVariables false
set_option linter.unusedSimpArgs false
open Go.RowKit

theorem bits_16 (x : Nat) (h : x < 18446744073709551616) : bits .and .u64 (x : Int) 65535 = ((x % 65536 : Nat) : Int) := by
  have h' := u64_and_nat x 65535 (by omega) (by omega)
  have e : x &&& 65535 = x % 65536 := Nat.and_two_pow_sub_one_eq_mod x 16
  rw [e] at h'
  exact h'
/-- A row of cells that holds the first n digits of V, below block B. -/
def RowN (w : World) (B : Nat) (A : Option Addr) (n V : Nat) : Prop :=
  0 < n → ∃ b, A = some ⟨b, 0, none⟩ ∧ b < B ∧ ∀ k, k < n → w.cell? ⟨b, k, none⟩ = some (.int .u64 (dg V k : Nat))
/-- A slice that stands for the number V. -/
def Nums (w : World) (B : Nat) (A : Option Addr) (n V : Nat) : Prop := n = nd V ∧ RowN w B A n V
theorem RowN.below {w w' : World} {B C n V : Nat} {A : Option Addr} (h : RowN w B A n V) (hb : Below C w w') (hBC : B ≤ C) : RowN w' B A n V := fun hn => by
  obtain ⟨b, e, hl, hc⟩ := h hn
  exact ⟨b, e, hl, fun k hk => (hb.cell (p := ⟨b, k, none⟩) (Nat.lt_of_lt_of_le hl hBC)).trans (hc k hk)⟩
theorem RowN.more {w : World} {B C n V : Nat} {A : Option Addr} (h : RowN w B A n V) (hBC : B ≤ C) : RowN w C A n V := fun hn => by
  obtain ⟨b, e, hl, hc⟩ := h hn
  exact ⟨b, e, by omega, hc⟩
theorem Nums.below {w w' : World} {B C n V : Nat} {A : Option Addr} (h : Nums w B A n V) (hb : Below C w w') (hBC : B ≤ C) : Nums w' B A n V := ⟨h.1, h.2.below hb hBC⟩
theorem Nums.more {w : World} {B C n V : Nat} {A : Option Addr} (h : Nums w B A n V) (hBC : B ≤ C) : Nums w C A n V := ⟨h.1, h.2.more hBC⟩

/-- What a function leaves that returns the number V. -/
def NumsPost (V : Nat) (w : World) (e : Ending) (w' : World) : Prop :=
  ∃ (A : Option Addr) (n c : Nat), e = .returned (.slice A n c) ∧ Nums w' w'.heap.size A n V ∧ Below w.heap.size w w'

theorem mg_abs (n : Int) : mg n = (n.natAbs : Int) := by
  by_cases h : n < 0
  · have := mg_neg h; omega
  · have := mg_pos (show 0 ≤ n by omega); omega
theorem mag_ref (n : Int) (h1 : -9223372036854775808 ≤ n) (h2 : n ≤ 9223372036854775807) (w : World) :
    Calls Tryz.prog 83 #[.int .i64 n] w fun e w' => e = .returned (.int .u64 (n.natAbs : Nat)) ∧ w = w' := by
  by_cases h : n < 0
  · go_enter Tryz.func83, Tryz.ntmps83
    go_wp2
    go_ret
    exact ⟨ret_int (by omega), rfl⟩
  · go_enter Tryz.func83, Tryz.ntmps83
    go_wp2
    go_ret
    exact ⟨ret_int (by omega), rfl⟩
theorem right_yes (m : Int) (h0 : 0 ≤ m) (h1 : m ≤ 2) (w : World) :
    Calls Tryz.prog 80 #[.int .i64 m] w fun e w' => e = .returned (.bool true) ∧ w = w' := by
  have hm : m = 0 ∨ m = 1 ∨ m = 2 := by omega
  rcases hm with rfl | rfl | rfl
  all_goals
    go_enter Tryz.func80, Tryz.ntmps80
    go_wp2
    go_ret
    exact ⟨rfl, rfl⟩
theorem sign_ref (a b : Int) (w : World) :
    Calls Tryz.prog 88 #[.int .i64 a, .int .i64 b] w fun e w' => e = .returned (.int .i64 (sg a b)) ∧ w = w' := by
  by_cases ha : a = 0
  · subst ha
    rw [sg_zero (Or.inl rfl)]
    go_enter Tryz.func88, Tryz.ntmps88
    go_wp2
    go_ret
    exact ⟨rfl, rfl⟩
  · by_cases hb : b = 0
    · subst hb
      rw [sg_zero (Or.inr rfl)]
      go_enter Tryz.func88, Tryz.ntmps88
      go_wp2
      go_ret
      exact ⟨rfl, rfl⟩
    · have ha' : (a == 0) = false := by simpa using ha
      have hb' : (b == 0) = false := by simpa using hb
      by_cases h1 : a < 0
      · by_cases h2 : b < 0
        · rw [sg_pos ha hb (by omega)]
          go_enter Tryz.func88, Tryz.ntmps88
          go_wp2
          go_ret
          exact ⟨rfl, rfl⟩
        · rw [sg_neg ha hb (by omega)]
          go_enter Tryz.func88, Tryz.ntmps88
          go_wp2
          go_ret
          exact ⟨rfl, rfl⟩
      · by_cases h2 : b < 0
        · rw [sg_neg ha hb (by omega)]
          go_enter Tryz.func88, Tryz.ntmps88
          go_wp2
          go_ret
          exact ⟨rfl, rfl⟩
        · rw [sg_pos ha hb (by omega)]
          go_enter Tryz.func88, Tryz.ntmps88
          go_wp2
          go_ret
          exact ⟨rfl, rfl⟩

/-- The first j digits, as values. -/
def rowL (V j : Nat) : List Value := (List.range j).map fun k => .int .u64 (dg V k : Nat)
theorem rowL_length (V j : Nat) : (rowL V j).length = j := by unfold rowL; simp
theorem rowL_succ (V j : Nat) : rowL V (j + 1) = rowL V j ++ [.int .u64 (dg V j : Nat)] := by unfold rowL; rw [List.range_succ, List.map_append]; rfl
theorem rowL_get {V j k : Nat} (h : k < j) : (rowL V j)[k]? = some (.int .u64 (dg V k : Nat)) := by unfold rowL; simp [h]
theorem info64 : (Tryz.prog.info? 89).map (fun i => (i.zero, i.size, i.bytes)) = some (some (.int .u64 0), 1, 8) := by kernel_rfl
/-- A row of the call's own, read as digits. -/
theorem row_own {w : World} {base V j : Nat} {A : Option Addr} {c : Nat} {e : TypeId} (h : w.ownsRow base e 1 (.slice A j c) j (rowL V j)) : RowN w w.heap.size A j V := fun hn => by
  obtain ⟨g, cap, hv, _, hlt⟩ := h.form hn
  have hA : A = some ⟨g, 0, none⟩ := by injection hv
  subst hA
  refine ⟨g, rfl, hlt, fun k hk => ?_⟩
  have := h.cells (g := g) rfl k _ (rowL_get hk)
  rw [Go.WideShapes.add_plain] at this
  simpa using this

theorem own_shape {w : World} {base : Nat} {e : TypeId} {size : Nat} {v : Value} {n : Nat} {xs : List Value} (h : w.ownsRow base e size v n xs) : ∃ a c, v = .slice a n c := by
  rcases h.2 with ⟨rfl, rfl⟩ | ⟨g, cap, cur, rfl, _⟩
  · exact ⟨none, 0, rfl⟩
  · exact ⟨_, cap, rfl⟩

set_option maxHeartbeats 400000 in
theorem limbs_ref (V : Nat) (hV : V < 18446744073709551616) (w : World) :
    Calls Tryz.prog 82 #[.int .u64 (V : Nat)] w (NumsPost V w) := by
  obtain ⟨i0, hi, hz0, hz1, hz2⟩ := info_parts info64
  have hnd : nd V ≤ 4 := nd_le (k := 4) (by show V < 65536 ^ 4; omega)
  go_enter Tryz.func82, Tryz.ntmps82
  go_wp2
  go_loopw [0, 3] (fun nv lv wr => ∃ (j x : Nat) (A : Option Addr) (c : Nat), lv = .slice A j c ∧ j ≤ nd V ∧ nv = .int .u64 (x : Nat) ∧ x = V / P j ∧ x < 18446744073709551616 ∧ wr.ownsRow w.heap.size 89 1 lv j (rowL V j) ∧ Below w.heap.size w wr) (fun nv _ _ => (intOf nv).toNat)
  case atStart => exact ⟨0, V, none, 0, rfl, Nat.zero_le _, rfl, (div_zero V).symm, hV, World.ownsRow_nil _ _ _ _, Below.refl _ _⟩
  case round =>
    obtain ⟨j, x, A, c, rfl, hj, rfl, hx, hx1, hown, hnx⟩ := hrel
    have HX := Lib.hid hx; clear hx
    have hsize := hnx.size
    by_cases hpos : 0 < x
    · have hjn : j < nd V := (lt_nd j V).2 (by rw [← HX.out]; exact hpos)
      have hb := bits_16 x hx1
      have hd : Hid (x % 65536 = dg V j) := by unfold Hid dg; rw [HX.out]
      go_wp2_with (first
        | (at_builtin; refine wpList_append_own _ rfl (.tmp 6) (.tmp 9) 86 rfl w.heap.size 89 i0 (.int .u64 0) 1 8 Tryz.underlying86 hi hz0 hz1 hz2 rfl (by decide) _ _ _ rfl (hown.alloc _) ⟨wr.heap.size, 0, none⟩ 1 1 [.int .u64 ((x % 65536 : Nat) : Int)] rfl rfl (cell_one_new _ _ _) (by intro u hu; simp at hu; subst hu; rfl) (by unfold maxLen; omega) (by omega) (by simp; omega) ?_; intro v1 w1 hown1 hgrow1 hnil1))
      obtain ⟨A1, c1, rfl⟩ := own_shape hown1
      go_roundw
      case rel => exact ⟨j + 1, x / 65536, A1, c1, rfl, hjn, by go_num, by rw [div_succ, HX.out], by omega, by rw [rowL_succ, ← hd.out]; exact hown1, (hnx.alloc (by omega) _).grown hgrow1 (by simp; omega) (fun j hj => (hown.lt j hj).1)⟩
      case measure => simp [intOf]; omega
    · have hjn : ¬ j < nd V := fun h => hpos (by rw [HX.out]; exact (lt_nd j V).1 h)
      obtain rfl : j = nd V := by omega
      go_wp2
      go_ret
      exact ⟨A, nd V, c, rfl, ⟨rfl, row_own hown⟩, hnx⟩

def lenV : Value → Nat
  | .slice _ n _ => n
  | _ => 0
/-- What cut returns. -/
def CutPost (V : Nat) (w : World) (B : Nat) (e : Ending) (w' : World) : Prop :=
  ∃ (A : Option Addr) (n c : Nat), e = .returned (.slice A n c) ∧ Nums w' B A n V ∧ w = w'
theorem cut_ref (V : Nat) (A : Option Addr) (n c B : Nat) (w : World) (hr : RowN w B A n V) (hV : V < P n) (hc : n ≤ c) (hn : n ≤ 1000) :
    Calls Tryz.prog 107 #[.slice A n c] w (CutPost V w B) := by
  have HR := Lib.hid hr; clear hr
  go_enter Tryz.func107, Tryz.ntmps107
  go_wp2
  go_loop [0] (fun v => ∃ m, v = .slice A m c ∧ m ≤ n ∧ V < P m) (fun v => lenV v)
  case atStart => exact ⟨n, rfl, Nat.le_refl _, hV⟩
  case round =>
    obtain ⟨m, rfl, hm, hP⟩ := hrel
    have HP := Lib.hid hP; clear hP
    rcases m with _ | k
    · go_wp2
      go_ret
      have h0 : V = 0 := by have := HP.out; rw [P_zero] at this; omega
      exact ⟨A, 0, c, rfl, ⟨by rw [h0, nd_zero], fun h => absurd h (by omega)⟩, rfl⟩
    · obtain ⟨b, rfl, hb, hcell⟩ := HR.out (by omega)
      have hk := hcell k (by omega)
      have HC := Lib.hid hcell; clear hcell
      have hlt := dg_lt V k
      by_cases hd : dg V k = 0
      · have hd' : ((dg V k : Int) == 0) = true := by simp; omega
        have HD := Lib.hid hd; clear hd
        go_wp2
        go_round
        case rel => exact ⟨k, rfl, by omega, lt_of_top HP.out HD.out⟩
        case measure => simp [lenV]
      · have hd' : ((dg V k : Int) == 0) = false := by simp; omega
        have HD := Lib.hid hd; clear hd
        go_wp2
        go_ret
        exact ⟨_, k + 1, c, rfl, ⟨(nd_of_top HP.out HD.out).symm, fun _ => ⟨b, rfl, hb, fun j hj => HC.out j (by omega)⟩⟩, rfl⟩

/-- What the loop of cmp keeps. -/
theorem cmpd_ref (N M : Nat) (A A' : Option Addr) (n n' c c' B : Nat) (w : World) (h1 : Nums w B A n N) (h2 : Nums w B A' n' M) (hB : B ≤ w.heap.size) (hn : n ≤ 1000) (hn' : n' ≤ 1000) :
    Calls Tryz.prog 84 #[.slice A n c, .slice A' n' c'] w fun e w' => e = .returned (.int .i64 (cmpN N M)) ∧ Below w.heap.size w w' := by
  obtain ⟨e1, hr1⟩ := h1
  obtain ⟨e2, hr2⟩ := h2
  have HR1 := Lib.hid hr1; clear hr1
  have HR2 := Lib.hid hr2; clear hr2
  by_cases hlt : n < n'
  · rw [cmpN_lt (lt_of_nd (by omega))]
    go_enter Tryz.func84, Tryz.ntmps84
    go_wp2
    go_ret
    exact ⟨rfl, Below.refl _ _⟩
  by_cases hgt : n' < n
  · rw [cmpN_gt (lt_of_nd (by omega))]
    go_enter Tryz.func84, Tryz.ntmps84
    go_wp2
    go_ret
    exact ⟨rfl, Below.refl _ _⟩
  obtain rfl : n' = n := by omega
  have HE1 := Lib.hid e1; clear e1
  have HE2 := Lib.hid e2; clear e2
  go_enter Tryz.func84, Tryz.ntmps84
  go_wp2
  go_loopw [5] (fun v wr => ∃ (k : Nat) (z : Int), k ≤ n' ∧ v = .int .i64 z ∧ z + 1 = k ∧ N / P k = M / P k ∧ Below w.heap.size w wr) (fun v _ => (intOf v + 1).toNat)
  case atStart => exact ⟨n', _, Nat.le_refl _, rfl, by omega, by rw [div_lt_P (V := N) (HE1.out ▸ lt_P_nd N), div_lt_P (V := M) (HE2.out ▸ lt_P_nd M)], Below.refl _ _⟩
  case round =>
    obtain ⟨k, z, hk, rfl, hz, hq, hnx⟩ := hrel
    have HQ := Lib.hid hq; clear hq
    by_cases hk0 : k = 0
    · subst hk0
      obtain rfl : z = -1 := by omega
      go_wp2
      go_ret
      have := HQ.out
      rw [div_zero, div_zero] at this
      exact ⟨by rw [cmpN_eq this]; rfl, hnx⟩
    · obtain ⟨j, rfl⟩ : ∃ j, k = j + 1 := ⟨k - 1, by omega⟩
      obtain rfl : z = (j : Int) := by omega
      obtain ⟨b, rfl, hb, hcell⟩ := HR1.out (by omega)
      obtain ⟨b', rfl, hb', hcell'⟩ := HR2.out (by omega)
      have h1 := (hnx.cell (p := ⟨b, j, none⟩) (by show b < _; omega)).trans (hcell j (by omega))
      have h2 := (hnx.cell (p := ⟨b', j, none⟩) (by show b' < _; omega)).trans (hcell' j (by omega))
      have i1 : (0 : Int) ≤ (j : Int) := by omega
      have i2 : (j : Int) < (n' : Int) := by omega
      clear hcell hcell'
      have l1 := dg_lt N j
      have l2 := dg_lt M j
      have HCA := Lib.hid (cmp_at HQ.out)
      by_cases c1 : dg N j < dg M j
      · have h3 := Lib.hid (cmpN_lt (HCA.out.1 c1))
        go_wp2
        go_quiet (fail)
        go_wp2
        go_ret
        exact ⟨by rw [h3.out]; rfl, below_dn hnx _⟩
      · by_cases c2 : dg M j < dg N j
        · have h3 := Lib.hid (cmpN_gt (HCA.out.2.1 c2))
          go_wp2
          go_quiet (fail)
          go_wp2
          go_quiet (fail)
          go_wp2
          go_ret
          exact ⟨by rw [h3.out]; rfl, below_dn (below_dn hnx _) _⟩
        · have c3 := Lib.hid (HCA.out.2.2 (by omega))
          go_wp2
          go_quiet (fail)
          go_wp2
          go_quiet (fail)
          go_wp2
          go_roundw
          case rel => exact ⟨j, (j : Int) - 1, by omega, by go_num, by omega, c3.out, below_dn hnx _⟩
          case measure => simp [intOf]
end Go.Proofs.YtdipainocdgfgaaGreatDoor
