/- Plain words and laws of the text that Format writes. No program in sight. Conditions: none beyond each lemma's own premises. -/
import Derived.Test.YteljackkojcniaaDoorPl
import Derived.Test.YteljackkojcniaaDoorPlb
import Derived.Lib.ItoaLen
import Derived.Lib.ItoaMem
import Derived.Lib.Strings
namespace Go.Proofs.YteljackkojcniaaDoor
open Go.PlainAid

theorem dec_len (n : Int) (h0 : 0 ≤ n) (h1 : n ≤ 9223372036854775807) : (Lib.decDigits n.toNat).length ≤ 21 := by
  have := Lib.itoa_length_le n (by omega) h1
  unfold Lib.itoa at this
  rwa [if_neg (by omega)] at this
theorem dec_big (m : Int) (h : 9 < m) : Lib.decDigits m.toNat = Lib.decDigits (m / 10).toNat ++ [UInt8.ofNat (48 + (m % 10).toNat)] := by
  rw [Lib.decDigits, dif_neg (by omega)]
  rw [show m.toNat / 10 = (m / 10).toNat by omega, show m.toNat % 10 = (m % 10).toNat by omega]
theorem dec_small (m : Int) (h0 : 0 ≤ m) (h : m ≤ 9) : Lib.decDigits m.toNat = [UInt8.ofNat (48 + m.toNat)] := by
  rw [Lib.decDigits, dif_pos (by omega)]
/-- The ten digits. -/
def ten : ByteArray := ⟨#[48, 49, 50, 51, 52, 53, 54, 55, 56, 57]⟩
theorem ten_at (d : Nat) (h : d < 10) : ten.extract d (d + 1) = ⟨#[UInt8.ofNat (48 + d)]⟩ := by
  match d, h with
  | 0, _ => rfl
  | 1, _ => rfl
  | 2, _ => rfl
  | 3, _ => rfl
  | 4, _ => rfl
  | 5, _ => rfl
  | 6, _ => rfl
  | 7, _ => rfl
  | 8, _ => rfl
  | 9, _ => rfl
theorem cat_mk (a b : List UInt8) : (⟨a.toArray⟩ : ByteArray) ++ ⟨b.toArray⟩ = ⟨(a ++ b).toArray⟩ := by
  apply ByteArray.ext
  simp
theorem dig_cat (d : Int) (h0 : 0 ≤ d) (h1 : d ≤ 9) (l : List UInt8) : (⟨#[48, 49, 50, 51, 52, 53, 54, 55, 56, 57]⟩ : ByteArray).extract d.toNat (d + 1).toNat ++ ⟨l.toArray⟩ = ⟨(UInt8.ofNat (48 + d.toNat) :: l).toArray⟩ := by
  have e : (d + 1).toNat = d.toNat + 1 := by omega
  have := ten_at d.toNat (by omega)
  unfold ten at this
  rw [e, this]
  exact cat_mk [UInt8.ofNat (48 + d.toNat)] l

/-- k digits of r, with zeros ahead. -/
def pad : Nat → Nat → List UInt8
  | 0, _ => []
  | k + 1, r => UInt8.ofNat (48 + r / 10 ^ k) :: pad k (r % 10 ^ k)
/-- The digits of the fraction, as far as there is a rest. -/
def fr : Nat → Nat → List UInt8
  | 0, _ => []
  | k + 1, r => if r = 0 then [] else UInt8.ofNat (48 + r / 10 ^ k) :: fr k (r % 10 ^ k)
theorem fr_zero : ∀ k, fr k 0 = []
  | 0 => rfl
  | k + 1 => by rw [fr, if_pos rfl]
theorem pad_zero : ∀ k, pad k 0 = List.replicate k 48
  | 0 => rfl
  | k + 1 => by rw [pad, Nat.zero_div, Nat.zero_mod, pad_zero k]; rfl
theorem fr_len : ∀ k r, (fr k r).length ≤ k
  | 0, _ => Nat.le_refl _
  | k + 1, r => by
    rw [fr]
    by_cases h : r = 0
    · rw [if_pos h]; simp
    · rw [if_neg h]; have := fr_len k (r % 10 ^ k); simp; omega
theorem pad_fr : ∀ k r, pad k r = fr k r ++ List.replicate (k - (fr k r).length) 48
  | 0, _ => rfl
  | k + 1, r => by
    by_cases h : r = 0
    · subst h; rw [fr_zero, pad_zero]; simp
    · rw [pad, fr, if_neg h, pad_fr k]; simp
theorem byte_ne {d : Nat} (h : 0 < d) (h' : d ≤ 9) : UInt8.ofNat (48 + d) ≠ 48 := by
  intro e
  have := congrArg UInt8.toNat e
  simp at this
  omega
/-- The last digit of a fraction is not 0. -/
theorem fr_last : ∀ k r, 0 < r → r < 10 ^ k → ∃ l c, fr k r = l ++ [c] ∧ c ≠ 48
  | 0, r, h, h' => by simp at h'; omega
  | k + 1, r, h, h' => by
    rw [fr, if_neg (by omega)]
    have hp : 0 < 10 ^ k := Nat.pos_of_ne_zero (by simp)
    rw [Nat.pow_succ] at h'
    by_cases h0 : r % 10 ^ k = 0
    · rw [h0, fr_zero]
      have hd := Nat.div_add_mod r (10 ^ k)
      have h1 : 0 < r / 10 ^ k := by
        rcases Nat.eq_zero_or_pos (r / 10 ^ k) with e | e
        · rw [e] at hd; simp at hd; omega
        · exact e
      have h2 : r / 10 ^ k < 10 := Nat.div_lt_of_lt_mul (by omega)
      exact ⟨[], _, rfl, byte_ne h1 (by omega)⟩
    · obtain ⟨l, c, e, hc⟩ := fr_last k (r % 10 ^ k) (by omega) (Nat.mod_lt _ hp)
      exact ⟨_ :: l, c, by rw [e]; rfl, hc⟩
theorem dec_pad (r : Nat) (h : r < 1000000) : Lib.decDigits (1000000 + r) = 49 :: pad 6 r := by
  have b : ∀ u : Nat, ¬ u < 10 → Lib.decDigits u = Lib.decDigits (u / 10) ++ [UInt8.ofNat (48 + u % 10)] := fun u hu => by rw [Lib.decDigits, dif_neg hu]
  rw [b _ (by omega), b _ (by omega), b _ (by omega), b _ (by omega), b _ (by omega), b _ (by omega), Lib.decDigits, dif_pos (by omega)]
  simp only [pad, List.cons_append, List.nil_append]
  have e1 : (1000000 + r) / 10 / 10 / 10 / 10 / 10 / 10 = 1 := by omega
  have e2 : (1000000 + r) / 10 / 10 / 10 / 10 / 10 % 10 = r / 10 ^ 5 := by omega
  have e3 : (1000000 + r) / 10 / 10 / 10 / 10 % 10 = r % 10 ^ 5 / 10 ^ 4 := by omega
  have e4 : (1000000 + r) / 10 / 10 / 10 % 10 = r % 10 ^ 5 % 10 ^ 4 / 10 ^ 3 := by omega
  have e5 : (1000000 + r) / 10 / 10 % 10 = r % 10 ^ 5 % 10 ^ 4 % 10 ^ 3 / 10 ^ 2 := by omega
  have e6 : (1000000 + r) / 10 % 10 = r % 10 ^ 5 % 10 ^ 4 % 10 ^ 3 % 10 ^ 2 / 10 ^ 1 := by omega
  have e7 : (1000000 + r) % 10 = r % 10 ^ 5 % 10 ^ 4 % 10 ^ 3 % 10 ^ 2 % 10 ^ 1 / 10 ^ 0 := by omega
  rw [e1, e2, e3, e4, e5, e6, e7]
  rfl
/-- What stands behind the whole part. -/
def tailD (r : Nat) : List UInt8 := if r = 0 then [] else 46 :: fr 6 r
/-- The text of a number that is not negative. -/
def fmtP (n : Nat) : List UInt8 := Lib.decDigits (n / 1000000) ++ tailD (n % 1000000)
/-- What Format returns. -/
def fmtL (n : Int) : List UInt8 := if vld n then (if n < 0 then 45 :: fmtP n.natAbs else fmtP n.natAbs) else []
def fmtS (n : Int) : ByteArray := ⟨(fmtL n).toArray⟩

/-- A fraction with i zeros behind it. -/
def tz (r i : Nat) : ByteArray := ⟨(fr 6 r ++ List.replicate i 48).toArray⟩
theorem tz_size (r i : Nat) : (tz r i).size = (fr 6 r).length + i := by
  unfold tz; show (fr 6 r ++ List.replicate i 48).toArray.size = _; simp
theorem bt_mk (l : List UInt8) (k : Nat) (c : UInt8) (h : l[k]? = some c) : bt ⟨l.toArray⟩ k = (c.toNat : Int) := by
  obtain ⟨hl, e⟩ := List.getElem?_eq_some_iff.1 h
  have hl' : k < (⟨l.toArray⟩ : ByteArray).size := by show k < l.toArray.size; simpa using hl
  unfold bt; rw [dif_pos hl']
  have e2 : (⟨l.toArray⟩ : ByteArray)[k]'hl' = l[k]'hl := rfl
  rw [e2, e]
theorem tz_bt_zero (r i k : Nat) (h : k = (fr 6 r).length + i) : bt (tz r (i + 1)) k = 48 :=
  bt_mk _ k 48 (by rw [List.getElem?_append_right (by omega), List.getElem?_replicate, if_pos (by omega)])
theorem tz_bt_last (r k : Nat) (h0 : 0 < r) (h1 : r < 1000000) (h : k + 1 = (fr 6 r).length) : bt (tz r 0) k ≠ 48 := by
  obtain ⟨l, c, e, hc⟩ := fr_last 6 r h0 h1
  have hk : k = l.length := by rw [e] at h; simp at h; exact h
  have e2 : bt (tz r 0) k = (c.toNat : Int) := bt_mk _ k c (by rw [e, hk]; simp)
  rw [e2]
  intro h
  exact hc (UInt8.toNat_inj.1 (by simpa using (Int.ofNat_inj.1 h)))
theorem fr_pos (r : Nat) (h0 : 0 < r) (h1 : r < 1000000) : 1 ≤ (fr 6 r).length := by
  obtain ⟨l, c, e, hc⟩ := fr_last 6 r h0 h1
  rw [e]; simp
theorem tz_cut (r i k : Nat) (h : k = (fr 6 r).length + i) : (tz r (i + 1)).extract 0 k = tz r i := by
  apply ByteArray.ext
  apply Array.toList_inj.1
  rw [Lib.extract_data]
  unfold tz
  simp only [List.replicate_succ']
  simp [h, ← List.append_assoc]
theorem tz_start (r : Nat) (h : r < 1000000) : ∃ i, i ≤ 6 ∧ (⟨(Lib.decDigits (1000000 + r)).toArray⟩ : ByteArray).extract 1 (⟨(Lib.decDigits (1000000 + r)).toArray⟩ : ByteArray).size = tz r i := by
  refine ⟨6 - (fr 6 r).length, by omega, ?_⟩
  have hl := fr_len 6 r
  have hs : (⟨(Lib.decDigits (1000000 + r)).toArray⟩ : ByteArray).size = 7 := by
    show (Lib.decDigits (1000000 + r)).toArray.size = 7
    rw [dec_pad r h, pad_fr]; simp; omega
  rw [hs, dec_pad r h, pad_fr]
  apply ByteArray.ext
  apply Array.toList_inj.1
  rw [Lib.extract_data]
  unfold tz
  simp only [List.drop_succ_cons, List.drop_zero]
  exact List.take_of_length_le (by simp; omega)

/-- The seven digits of a million and r. -/
def d7 (r : Int) : ByteArray := ⟨(Lib.decDigits (1000000 + r).toNat).toArray⟩
theorem d7_size (r : Int) (h0 : 0 ≤ r) (h : r < 1000000) : (d7 r).size = 7 := by
  show (Lib.decDigits (1000000 + r).toNat).toArray.size = 7
  have hl := fr_len 6 r.toNat
  rw [show (1000000 + r).toNat = 1000000 + r.toNat by omega, dec_pad r.toNat (by omega), pad_fr]; simp; omega
theorem d7_cut (r : Int) (h0 : 0 ≤ r) (h : r < 1000000) : ∃ i, i ≤ 6 ∧ (d7 r).extract 1 7 = tz r.toNat i := by
  obtain ⟨i, hi, e⟩ := tz_start r.toNat (by omega)
  refine ⟨i, hi, ?_⟩
  have hs := d7_size r h0 h
  rw [← e]
  unfold d7 at hs ⊢
  rw [show (1000000 + r).toNat = 1000000 + r.toNat by omega] at hs ⊢
  rw [hs]
theorem fmt_whole (n : Int) (h0 : 0 ≤ n) (h : n % 1000000 = 0) : Lib.decDigits (n / 1000000).toNat = fmtP n.toNat := by
  unfold fmtP tailD
  rw [if_pos (by omega), show (n / 1000000).toNat = n.toNat / 1000000 by omega, List.append_nil]
theorem fmt_part (n : Int) (h0 : 0 ≤ n) (h : n % 1000000 ≠ 0) : (⟨(Lib.decDigits (n / 1000000).toNat).toArray⟩ : ByteArray) ++ ⟨#[46]⟩ ++ tz (n % 1000000).toNat 0 = ⟨(fmtP n.toNat).toArray⟩ := by
  unfold fmtP tailD tz
  rw [if_neg (by omega), show (n / 1000000).toNat = n.toNat / 1000000 by omega, show (n % 1000000).toNat = n.toNat % 1000000 by omega]
  apply ByteArray.ext
  simp
end Go.Proofs.YteljackkojcniaaDoor
