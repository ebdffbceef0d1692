/- The contract of Format of fixed: it returns the text fmtS; it makes new blocks only. Conditions: the integer is one; the table of the powers of ten lies in memory. -/
import Derived.Test.YteljackkojcniaaDoorC
import Derived.Test.YteljackkojcniaaDoorShelf
import Derived.Maps.AppendAt
import Derived.Deep.DeepMust
import Derived.Laws.IdiomStrings
namespace Go.Proofs.YteljackkojcniaaDoor
open Go.RowKit Go.PlainAid
set_option linter.unusedVariables false

theorem info_u8 : (Tryd.prog.info? 5).map (fun i => (i.zero, i.size, i.bytes)) = some (some (.int .u8 0), 1, 1) := by kernel_rfl

/-- string(out), out a row of the call's own. -/
theorem conv_own (w : World) (B : Nat) (v : Value) (l : List UInt8) (hl : 0 < l.length) (hown : w.ownsRow B 5 1 v l.length (Lib.byteCells l)) :
    (convert 50 9 v).run Tryd.prog w = .ok (.string ⟨l.toArray⟩) w := by
  rcases hown.2 with ⟨rfl, h⟩ | ⟨g, cap, cur, rfl, hg, hh, r⟩
  · omega
  · exact run_convert_bytes_back w 50 9 5 ⟨g, 0, none⟩ cap l Tryd.underlying50 Tryd.underlying5 Tryd.underlying9 (fun j hj => hown.cells (g := g) rfl j _ (by unfold Lib.byteCells; rw [List.getElem?_map, List.getElem?_eq_getElem hj]; rfl))

def Tab (w : World) : Prop := Lib.TabIs Tryd.prog w "internal/strconv.uint64pow10" .u64 Lib.pow10Tab

/-- AppendInt of a whole part, onto a row of few bytes. -/
theorem app_int (B : Nat) (i : Int) (h0 : 0 ≤ i) (h1 : i ≤ 9223372036854775807) (sv : Value) (l : List UInt8) (hl : l.length ≤ 100) (w : World) (hown : w.ownsRow B 5 1 sv l.length (Lib.byteCells l)) (hBw : B ≤ w.heap.size) (htab : Lib.TabBelow Tryd.prog B w "internal/strconv.uint64pow10" .u64 Lib.pow10Tab) :
    Calls Tryd.prog 56 #[sv, .int .i64 i, .int .i64 10] w fun e w' => ∃ v', e = .returned v' ∧ w'.ownsRow B 5 1 v' (l ++ Lib.decDigits i.toNat).length (Lib.byteCells (l ++ Lib.decDigits i.toNat)) ∧ Below B w w' := by
  refine (Tryd.strconv_AppendInt_10 B l.length i (by omega) h1 sv (Lib.byteCells l) w hown hBw (by omega) htab).mono ?_
  rintro e w' ⟨v', he, ho, hb, _⟩
  have e1 : Lib.itoa i = Lib.decDigits i.toNat := by unfold Lib.itoa; rw [if_neg (by omega)]
  rw [e1] at ho
  exact ⟨v', he, by rw [List.length_append, Lib.byteCells_append]; exact ho, hb⟩

/-- A digit's cell. -/
theorem cells_snoc (l : List UInt8) (d : Int) (h0 : 0 ≤ d) (h1 : d ≤ 9) : Lib.byteCells l ++ [.int .u8 (48 + d)] = Lib.byteCells (l ++ [UInt8.ofNat (48 + d.toNat)]) := by
  rw [Lib.byteCells_append]
  congr 1
  unfold Lib.byteCells
  have e : ((UInt8.ofNat (48 + d.toNat)).toNat : Int) = 48 + d := by
    rw [UInt8.toNat_ofNat']; omega
  simp only [List.map_cons, List.map_nil, e]

/-- append(out, c) of one byte, out a row of the call's own. -/
theorem append_byte {ops : Array Oper} {rest : List Oper} {o : Oper} {a : Act} {Q : Exit → Act → World → Prop} (s x : Operand) (hgd : o.guard = none)
    (ho : o.op = .call { callee := .builtin .append, args := #[s, x], argTypes := #[50, 50] }) (B : Nat) (v : Value) (l : List UInt8) (d : Int) (w : World)
    (hs : a.eval s = v) (hown : w.ownsRow B 5 1 v l.length (Lib.byteCells l)) (hx : a.eval x = .slice (some ⟨w.heap.size, 0, none⟩) 1 1) (hB : B ≤ w.heap.size) (hl : l.length ≤ 1000)
    (h : ∀ v' w', w'.ownsRow B 5 1 v' (l.length + 1) (Lib.byteCells l ++ [.int .u8 d]) → Below B w w' → wpList Tryd.prog ops Q rest (a.put o.dst v') w') :
    wpList Tryd.prog ops Q (o :: rest) a (w.alloc (.cells #[.int .u8 d] 5)) := by
  obtain ⟨i0, hi, hz0, hz1, hz2⟩ := info_parts info_u8
  refine wpList_append_own _ hgd s x 50 ho B 5 i0 (.int .u8 0) 1 1 Tryd.underlying50 hi hz0 hz1 hz2 rfl (by decide) v _ _ hs (hown.alloc _) ⟨w.heap.size, 0, none⟩ 1 1 [.int .u8 d] hx rfl (cell_one_new _ _ _) ?_ ?_ ?_ ?_ ?_
  · intro u hu; simp at hu; subst hu; rfl
  · unfold maxLen; omega
  · omega
  · rw [World.size_alloc]; omega
  · intro v' w' ho' hg _
    exact h v' w' ho' (((Below.refl _ _).alloc hB _).grown hg (by rw [World.size_alloc]; omega) (fun k hk => (hown.lt k hk).1))

/-- What the loop of Format keeps: T is the whole text. -/
def FRel (B : Nat) (w0 : World) (T : List UInt8) (out rest unit : Value) (w : World) : Prop :=
  ∃ (k : Nat) (r : Int) (l : List UInt8), rest = .int .i64 r ∧ unit = .int .i64 (10 ^ k / 10) ∧ k ≤ 6 ∧ 0 ≤ r ∧ r < 10 ^ k ∧ l.length + k ≤ 40 ∧ 0 < l.length ∧ T = l ++ fr k r.toNat ∧ w.ownsRow B 5 1 out l.length (Lib.byteCells l) ∧ Below B w0 w

theorem FRel.step {B : Nat} {w0 w' : World} {T : List UInt8} {v' : Value} {k : Nat} {r : Int} {l : List UInt8} (hk : k + 1 ≤ 6) (h0 : 0 < r) (h1 : r < 10 ^ (k + 1)) (hl : l.length + (k + 1) ≤ 40) (hT : T = l ++ fr (k + 1) r.toNat)
    (ho : w'.ownsRow B 5 1 v' (l.length + 1) (Lib.byteCells l ++ [.int .u8 (48 + r / 10 ^ k)])) (hb : Below B w0 w') :
    FRel B w0 T v' (.int .i64 (r % 10 ^ k)) (.int .i64 (10 ^ k / 10)) w' := by
  have hp : (0 : Int) < 10 ^ k := Int.pow_pos (by decide)
  have h10 : (10 : Int) ^ (k + 1) = 10 ^ k * 10 := Int.pow_succ 10 k
  have hd0 : 0 ≤ r / 10 ^ k := Int.ediv_nonneg (by omega) (by omega)
  have hd1 : r / 10 ^ k < 10 := Int.ediv_lt_of_lt_mul hp (by omega)
  rw [cells_snoc l _ hd0 (by omega)] at ho
  obtain ⟨m, rfl⟩ := Int.eq_ofNat_of_zero_le (show 0 ≤ r by omega)
  have e1 : ((m : Int) / 10 ^ k).toNat = m / 10 ^ k := by
    have : ((m : Int) / 10 ^ k) = ((m / 10 ^ k : Nat) : Int) := by push_cast; rfl
    omega
  have e2 : ((m : Int) % 10 ^ k).toNat = m % 10 ^ k := by
    have : ((m : Int) % 10 ^ k) = ((m % 10 ^ k : Nat) : Int) := by push_cast; rfl
    omega
  refine ⟨k, (m : Int) % 10 ^ k, l ++ [UInt8.ofNat (48 + ((m : Int) / 10 ^ k).toNat)], rfl, rfl, by omega, Int.emod_nonneg _ (by omega), Int.emod_lt_of_pos _ hp, by simp; omega, by simp, ?_, by simpa using ho, hb⟩
  rw [hT, e1, e2]
  simp only [Int.toNat_natCast]
  rw [fr, if_neg (by omega)]
  simp

theorem own_minus {B : Nat} {v : Value} {w : World} (h : w.ownsRow B 5 1 v (([] : List UInt8).length + 1) (Lib.byteCells [] ++ [.int .u8 45])) : w.ownsRow B 5 1 v ([45] : List UInt8).length (Lib.byteCells [45]) := h

set_option maxRecDepth 100000 in
set_option maxHeartbeats 1000000 in
theorem format_any_pos (n : Int) (h : vld n = true) (h0 : 0 ≤ n) (w : World) (ht : Tab w) :
    Calls Tryd.prog 26 #[.int .i64 n] w fun e w' => e = .returned (.string (fmtS n)) ∧ Below w.heap.size w w' := by
  have k := vld_yes h
  have EF : Hid (fmtS n = ⟨(fmtP n.toNat).toArray⟩) := by unfold Hid; exact fmtS_pos h h0
  have htb := Lib.hid (Lib.tabBelow_of_tabIs ht)
  have pl := dec_len (n / 1000000) (by omega) (by omega)
  have pl0 : 0 < (Lib.decDigits (n / 1000000).toNat).length := by rw [Lib.decDigits_length]; exact Lib.nDigits_pos _
  have pl1 : 0 < ([] ++ Lib.decDigits (n / 1000000).toNat).length := by rw [List.length_append]; omega
  have pl2 : ([] ++ Lib.decDigits (n / 1000000).toNat).length ≤ 100 := by rw [List.length_append]; simp; omega
  by_cases hr : n % 1000000 = 0
  · have hr' : ¬ 0 < n % 1000000 := by omega
    have HR := Lib.hid hr; clear hr
    go_enter Tryd.func26, Tryd.ntmps26
    go_wp2_with (first | (go_at_call 24; refine (valid_any _ _).mono ?_; rintro e w' ⟨rfl, rfl⟩) | (go_at_call 56; refine (app_int w.heap.size (n / 1000000) (by omega) (by omega) _ [] (by decide) w (World.ownsRow_nil w _ _ _) (Nat.le_refl _) htb.out).mono ?_; rintro e w1 ⟨v1, rfl, hown1, hb1⟩; have hcv := conv_own w1 w.heap.size v1 _ pl1 hown1; clear hown1; have HB := Lib.hid hb1; clear hb1))
    go_ret
    exact ⟨by rw [EF.out, ← fmt_whole n (by omega) HR.out]; rfl, HB.out⟩
  · have q0 : 0 < n % 1000000 := by omega
    have HR := Lib.hid hr; clear hr
    have HT : Hid (fmtP n.toNat = ([] ++ Lib.decDigits (n / 1000000).toNat ++ [46]) ++ fr 6 (n % 1000000).toNat) := by
      unfold Hid fmtP tailD; rw [if_neg (by omega), show (n / 1000000).toNat = n.toNat / 1000000 by omega, show (n % 1000000).toNat = n.toNat % 1000000 by omega]; simp
    go_enter Tryd.func26, Tryd.ntmps26
    go_wp2_with (first | (go_at_call 24; refine (valid_any _ _).mono ?_; rintro e w' ⟨rfl, rfl⟩) | (go_at_call 56; refine (app_int w.heap.size (n / 1000000) (by omega) (by omega) _ [] (by decide) w (World.ownsRow_nil w _ _ _) (Nat.le_refl _) htb.out).mono ?_; rintro e w1 ⟨v1, rfl, hown1, hb1⟩; have HB := Lib.hid hb1; clear hb1; have HO := Lib.hid hown1; clear hown1) | (at_builtin; refine append_byte (.tmp 24) (.tmp 25) rfl rfl w.heap.size v1 _ 46 w1 rfl HO.out rfl HB.out.size (by omega) ?_; intro v2 w2 hown2 hb2; have HO2 := Lib.hid hown2; clear hown2; have HB2 := Lib.hid hb2; clear hb2))
    go_loopw [3, 4, 5] (FRel w.heap.size w (fmtP n.toNat)) (fun _ _ u _ => (intOf u).toNat)
    case atStart => exact ⟨6, n % 1000000, [] ++ Lib.decDigits (n / 1000000).toNat ++ [46], rfl, rfl, by omega, by omega, by omega, by simp; omega, by simp, HT.out, by have := HO2.out; simpa [Lib.byteCells] using this, HB.out.trans HB2.out⟩
    case round =>
      obtain ⟨k', r, l, rfl, rfl, hk, hr0, hr1, hl, hl0, hT3, ho3, hb3⟩ := hrel
      have HT3 := Lib.hid hT3; clear hT3
      have HO3 := Lib.hid ho3; clear ho3
      have HB3 := Lib.hid hb3; clear hb3
      by_cases hpos : 0 < r
      · have hk' : k' = 1 ∨ k' = 2 ∨ k' = 3 ∨ k' = 4 ∨ k' = 5 ∨ k' = 6 := by
          rcases k' with _ | k'
          · simp at hr1; omega
          · omega
        rcases hk' with rfl | rfl | rfl | rfl | rfl | rfl
        · have hd0 : 0 ≤ r := by omega
          have hd1 : r ≤ 9 := by omega
          go_wp2_with (at_builtin; refine append_byte (.tmp 31) (.tmp 37) rfl rfl w.heap.size u3 l (48 + r) wr rfl HO3.out rfl HB3.out.size (by omega) ?_; intro v3 w3 ho4 hb4; have HO4 := Lib.hid ho4; clear ho4; have HB4 := Lib.hid hb4; clear hb4)
          go_roundw
          case rel => have h := FRel.step (k := 0) (by omega) hpos hr1 hl HT3.out (by have := HO4.out; simpa using this) (HB3.out.trans HB4.out); rw [Int.pow_zero, Int.emod_one] at h; exact h
          case measure => simp [intOf]
        · have hd0 : 0 ≤ r / 10 := by omega
          have hd1 : r / 10 ≤ 9 := by omega
          go_wp2_with (at_builtin; refine append_byte (.tmp 31) (.tmp 37) rfl rfl w.heap.size u3 l (48 + r / 10) wr rfl HO3.out rfl HB3.out.size (by omega) ?_; intro v3 w3 ho4 hb4; have HO4 := Lib.hid ho4; clear ho4; have HB4 := Lib.hid hb4; clear hb4)
          go_roundw
          case rel => exact FRel.step (k := 1) (by omega) hpos hr1 hl HT3.out HO4.out (HB3.out.trans HB4.out)
          case measure => simp [intOf]
        · have hd0 : 0 ≤ r / 100 := by omega
          have hd1 : r / 100 ≤ 9 := by omega
          go_wp2_with (at_builtin; refine append_byte (.tmp 31) (.tmp 37) rfl rfl w.heap.size u3 l (48 + r / 100) wr rfl HO3.out rfl HB3.out.size (by omega) ?_; intro v3 w3 ho4 hb4; have HO4 := Lib.hid ho4; clear ho4; have HB4 := Lib.hid hb4; clear hb4)
          go_roundw
          case rel => exact FRel.step (k := 2) (by omega) hpos hr1 hl HT3.out HO4.out (HB3.out.trans HB4.out)
          case measure => simp [intOf]
        · have hd0 : 0 ≤ r / 1000 := by omega
          have hd1 : r / 1000 ≤ 9 := by omega
          go_wp2_with (at_builtin; refine append_byte (.tmp 31) (.tmp 37) rfl rfl w.heap.size u3 l (48 + r / 1000) wr rfl HO3.out rfl HB3.out.size (by omega) ?_; intro v3 w3 ho4 hb4; have HO4 := Lib.hid ho4; clear ho4; have HB4 := Lib.hid hb4; clear hb4)
          go_roundw
          case rel => exact FRel.step (k := 3) (by omega) hpos hr1 hl HT3.out HO4.out (HB3.out.trans HB4.out)
          case measure => simp [intOf]
        · have hd0 : 0 ≤ r / 10000 := by omega
          have hd1 : r / 10000 ≤ 9 := by omega
          go_wp2_with (at_builtin; refine append_byte (.tmp 31) (.tmp 37) rfl rfl w.heap.size u3 l (48 + r / 10000) wr rfl HO3.out rfl HB3.out.size (by omega) ?_; intro v3 w3 ho4 hb4; have HO4 := Lib.hid ho4; clear ho4; have HB4 := Lib.hid hb4; clear hb4)
          go_roundw
          case rel => exact FRel.step (k := 4) (by omega) hpos hr1 hl HT3.out HO4.out (HB3.out.trans HB4.out)
          case measure => simp [intOf]
        · have hd0 : 0 ≤ r / 100000 := by omega
          have hd1 : r / 100000 ≤ 9 := by omega
          go_wp2_with (at_builtin; refine append_byte (.tmp 31) (.tmp 37) rfl rfl w.heap.size u3 l (48 + r / 100000) wr rfl HO3.out rfl HB3.out.size (by omega) ?_; intro v3 w3 ho4 hb4; have HO4 := Lib.hid ho4; clear ho4; have HB4 := Lib.hid hb4; clear hb4)
          go_roundw
          case rel => exact FRel.step (k := 5) (by omega) hpos hr1 hl HT3.out HO4.out (HB3.out.trans HB4.out)
          case measure => simp [intOf]
      · obtain rfl : r = 0 := by omega
        have hT4 : Hid (fmtP n.toNat = l) := by have h := HT3.out; simp only [Int.toNat_zero, fr_zero, List.append_nil] at h; exact h
        have hcv := conv_own wr w.heap.size u3 l hl0 HO3.out
        go_wp2
        go_ret
        exact ⟨by rw [EF.out, hT4.out]; rfl, HB3.out⟩

set_option maxRecDepth 100000 in
set_option maxHeartbeats 1000000 in
theorem format_any_neg (n : Int) (h : vld (-n) = true) (h0 : 0 < n) (w : World) (ht : Tab w) :
    Calls Tryd.prog 26 #[.int .i64 (-n)] w fun e w' => e = .returned (.string (fmtS (-n))) ∧ Below w.heap.size w w' := by
  have k := vld_yes h
  have EF : Hid (fmtS (-n) = ⟨([45] ++ fmtP n.toNat).toArray⟩) := by unfold Hid; rw [← fmtS_neg h (by omega), Int.neg_neg, fmtS_pos (vld_mk (by omega) (by omega)) (show 0 ≤ n by omega)]; exact cat_mk [45] _
  have htb := Lib.hid (Lib.tabBelow_of_tabIs ht)
  have pl := dec_len (n / 1000000) (by omega) (by omega)
  have pl0 : 0 < (Lib.decDigits (n / 1000000).toNat).length := by rw [Lib.decDigits_length]; exact Lib.nDigits_pos _
  have pl1 : 0 < ([45] ++ Lib.decDigits (n / 1000000).toNat).length := by rw [List.length_append]; omega
  have pl2 : ([45] ++ Lib.decDigits (n / 1000000).toNat).length ≤ 100 := by rw [List.length_append]; simp; omega
  by_cases hr : n % 1000000 = 0
  · have hr' : ¬ 0 < n % 1000000 := by omega
    have HR := Lib.hid hr; clear hr
    go_enter Tryd.func26, Tryd.ntmps26
    go_wp2_with (first | (go_at_call 24; refine (valid_any _ _).mono ?_; rintro e w' ⟨rfl, rfl⟩) | (at_builtin; refine append_byte (.tmp 11) (.tmp 12) rfl rfl w.heap.size (.slice none 0 0) [] 45 w rfl (World.ownsRow_nil w _ _ _) rfl (Nat.le_refl _) (by decide) ?_; intro va wa hoa hba; have HOA := Lib.hid (own_minus hoa); clear hoa; have HBA := Lib.hid hba; clear hba) | (go_at_call 56; refine (app_int w.heap.size (n / 1000000) (by omega) (by omega) _ [45] (by decide) wa HOA.out HBA.out.size (htb.out.on HBA.out)).mono ?_; rintro e w1 ⟨v1, rfl, hown1, hb1⟩; have hcv := conv_own w1 w.heap.size v1 _ pl1 hown1; clear hown1; have HB := Lib.hid hb1; clear hb1))
    go_ret
    exact ⟨by rw [EF.out, ← fmt_whole n (by omega) HR.out]; rfl, (HBA.out.trans HB.out)⟩
  · have q0 : 0 < n % 1000000 := by omega
    have HR := Lib.hid hr; clear hr
    have HT : Hid ([45] ++ fmtP n.toNat = ([45] ++ Lib.decDigits (n / 1000000).toNat ++ [46]) ++ fr 6 (n % 1000000).toNat) := by
      unfold Hid fmtP tailD; rw [if_neg (by omega), show (n / 1000000).toNat = n.toNat / 1000000 by omega, show (n % 1000000).toNat = n.toNat % 1000000 by omega]; simp
    go_enter Tryd.func26, Tryd.ntmps26
    go_wp2_with (first | (go_at_call 24; refine (valid_any _ _).mono ?_; rintro e w' ⟨rfl, rfl⟩) | (at_builtin; refine append_byte (.tmp 11) (.tmp 12) rfl rfl w.heap.size (.slice none 0 0) [] 45 w rfl (World.ownsRow_nil w _ _ _) rfl (Nat.le_refl _) (by decide) ?_; intro va wa hoa hba; have HOA := Lib.hid (own_minus hoa); clear hoa; have HBA := Lib.hid hba; clear hba) | (go_at_call 56; refine (app_int w.heap.size (n / 1000000) (by omega) (by omega) _ [45] (by decide) wa HOA.out HBA.out.size (htb.out.on HBA.out)).mono ?_; rintro e w1 ⟨v1, rfl, hown1, hb1⟩; have HB := Lib.hid hb1; clear hb1; have HO := Lib.hid hown1; clear hown1) | (at_builtin; refine append_byte (.tmp 24) (.tmp 25) rfl rfl w.heap.size v1 _ 46 w1 rfl HO.out rfl (HBA.out.trans HB.out).size (by omega) ?_; intro v2 w2 hown2 hb2; have HO2 := Lib.hid hown2; clear hown2; have HB2 := Lib.hid hb2; clear hb2))
    go_loopw [3, 4, 5] (FRel w.heap.size w ([45] ++ fmtP n.toNat)) (fun _ _ u _ => (intOf u).toNat)
    case atStart => exact ⟨6, n % 1000000, [45] ++ Lib.decDigits (n / 1000000).toNat ++ [46], rfl, rfl, by omega, by omega, by omega, by simp; omega, by simp, HT.out, by have := HO2.out; simpa [Lib.byteCells] using this, (HBA.out.trans HB.out).trans HB2.out⟩
    case round =>
      obtain ⟨k', r, l, rfl, rfl, hk, hr0, hr1, hl, hl0, hT3, ho3, hb3⟩ := hrel
      have HT3 := Lib.hid hT3; clear hT3
      have HO3 := Lib.hid ho3; clear ho3
      have HB3 := Lib.hid hb3; clear hb3
      by_cases hpos : 0 < r
      · have hk' : k' = 1 ∨ k' = 2 ∨ k' = 3 ∨ k' = 4 ∨ k' = 5 ∨ k' = 6 := by
          rcases k' with _ | k'
          · simp at hr1; omega
          · omega
        rcases hk' with rfl | rfl | rfl | rfl | rfl | rfl
        · have hd0 : 0 ≤ r := by omega
          have hd1 : r ≤ 9 := by omega
          go_wp2_with (at_builtin; refine append_byte (.tmp 31) (.tmp 37) rfl rfl w.heap.size u3 l (48 + r) wr rfl HO3.out rfl HB3.out.size (by omega) ?_; intro v3 w3 ho4 hb4; have HO4 := Lib.hid ho4; clear ho4; have HB4 := Lib.hid hb4; clear hb4)
          go_roundw
          case rel => have h := FRel.step (k := 0) (by omega) hpos hr1 hl HT3.out (by have := HO4.out; simpa using this) (HB3.out.trans HB4.out); rw [Int.pow_zero, Int.emod_one] at h; exact h
          case measure => simp [intOf]
        · have hd0 : 0 ≤ r / 10 := by omega
          have hd1 : r / 10 ≤ 9 := by omega
          go_wp2_with (at_builtin; refine append_byte (.tmp 31) (.tmp 37) rfl rfl w.heap.size u3 l (48 + r / 10) wr rfl HO3.out rfl HB3.out.size (by omega) ?_; intro v3 w3 ho4 hb4; have HO4 := Lib.hid ho4; clear ho4; have HB4 := Lib.hid hb4; clear hb4)
          go_roundw
          case rel => exact FRel.step (k := 1) (by omega) hpos hr1 hl HT3.out HO4.out (HB3.out.trans HB4.out)
          case measure => simp [intOf]
        · have hd0 : 0 ≤ r / 100 := by omega
          have hd1 : r / 100 ≤ 9 := by omega
          go_wp2_with (at_builtin; refine append_byte (.tmp 31) (.tmp 37) rfl rfl w.heap.size u3 l (48 + r / 100) wr rfl HO3.out rfl HB3.out.size (by omega) ?_; intro v3 w3 ho4 hb4; have HO4 := Lib.hid ho4; clear ho4; have HB4 := Lib.hid hb4; clear hb4)
          go_roundw
          case rel => exact FRel.step (k := 2) (by omega) hpos hr1 hl HT3.out HO4.out (HB3.out.trans HB4.out)
          case measure => simp [intOf]
        · have hd0 : 0 ≤ r / 1000 := by omega
          have hd1 : r / 1000 ≤ 9 := by omega
          go_wp2_with (at_builtin; refine append_byte (.tmp 31) (.tmp 37) rfl rfl w.heap.size u3 l (48 + r / 1000) wr rfl HO3.out rfl HB3.out.size (by omega) ?_; intro v3 w3 ho4 hb4; have HO4 := Lib.hid ho4; clear ho4; have HB4 := Lib.hid hb4; clear hb4)
          go_roundw
          case rel => exact FRel.step (k := 3) (by omega) hpos hr1 hl HT3.out HO4.out (HB3.out.trans HB4.out)
          case measure => simp [intOf]
        · have hd0 : 0 ≤ r / 10000 := by omega
          have hd1 : r / 10000 ≤ 9 := by omega
          go_wp2_with (at_builtin; refine append_byte (.tmp 31) (.tmp 37) rfl rfl w.heap.size u3 l (48 + r / 10000) wr rfl HO3.out rfl HB3.out.size (by omega) ?_; intro v3 w3 ho4 hb4; have HO4 := Lib.hid ho4; clear ho4; have HB4 := Lib.hid hb4; clear hb4)
          go_roundw
          case rel => exact FRel.step (k := 4) (by omega) hpos hr1 hl HT3.out HO4.out (HB3.out.trans HB4.out)
          case measure => simp [intOf]
        · have hd0 : 0 ≤ r / 100000 := by omega
          have hd1 : r / 100000 ≤ 9 := by omega
          go_wp2_with (at_builtin; refine append_byte (.tmp 31) (.tmp 37) rfl rfl w.heap.size u3 l (48 + r / 100000) wr rfl HO3.out rfl HB3.out.size (by omega) ?_; intro v3 w3 ho4 hb4; have HO4 := Lib.hid ho4; clear ho4; have HB4 := Lib.hid hb4; clear hb4)
          go_roundw
          case rel => exact FRel.step (k := 5) (by omega) hpos hr1 hl HT3.out HO4.out (HB3.out.trans HB4.out)
          case measure => simp [intOf]
      · obtain rfl : r = 0 := by omega
        have hT4 : Hid ([45] ++ fmtP n.toNat = l) := by have h := HT3.out; simp only [Int.toNat_zero, fr_zero, List.append_nil] at h; exact h
        have hcv := conv_own wr w.heap.size u3 l hl0 HO3.out
        go_wp2
        go_ret
        exact ⟨by rw [EF.out, hT4.out]; rfl, HB3.out⟩

theorem format_any (n : Int) (hn1 : -9223372036854775808 ≤ n) (hn2 : n ≤ 9223372036854775807) (w : World) (ht : Tab w) :
    Calls Tryd.prog 26 #[.int .i64 n] w fun e w' => e = .returned (.string (fmtS n)) ∧ Below w.heap.size w w' := by
  rcases h : vld n with _ | _
  · rw [fmtS_none h]
    go_enter Tryd.func26, Tryd.ntmps26
    go_wp2_with (go_at_call 24; refine (valid_any _ _).mono ?_; rintro e w' ⟨rfl, rfl⟩)
    go_ret
    exact ⟨rfl, Below.refl _ _⟩
  · by_cases h0 : n < 0
    · have e := format_any_neg (-n) (by rw [Int.neg_neg]; exact h) (by omega) w ht
      rw [Int.neg_neg] at e
      exact e
    · exact format_any_pos n h (by omega) w ht
end Go.Proofs.YteljackkojcniaaDoor
