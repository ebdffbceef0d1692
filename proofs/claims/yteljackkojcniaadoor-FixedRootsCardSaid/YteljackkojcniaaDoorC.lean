/- The contracts of Digits and Format of cncref02. -/
import Derived.Test.YteljackkojcniaaDoorB
import Derived.Test.YteljackkojcniaaDoorPlc
namespace Go.Proofs.YteljackkojcniaaDoor
open Go.RowKit Go.PlainAid
set_option linter.unusedVariables false

theorem digits_ref (n : Int) (h0 : 0 ≤ n) (h1 : n ≤ 9223372036854775807) (w : World) :
    Calls Tryd.prog 57 #[.int .i64 n] w fun e w' => e = .returned (.string ⟨(Lib.decDigits n.toNat).toArray⟩) ∧ w = w' := by
  go_enter Tryd.func57, Tryd.ntmps57
  go_wp2
  go_loop [0, 3] (fun a s => ∃ (m : Int) (l : List UInt8), a = .int .i64 m ∧ s = .string ⟨l.toArray⟩ ∧ 0 ≤ m ∧ m ≤ n ∧ Lib.decDigits n.toNat = Lib.decDigits m.toNat ++ l) (fun a _ => (intOf a).toNat)
  case atStart => exact ⟨n, [], rfl, rfl, by omega, by omega, by simp⟩
  case round =>
    obtain ⟨m, l, rfl, rfl, hm0, hm1, hE⟩ := hrel
    have hll : l.length ≤ 21 := by have := congrArg List.length hE; have := dec_len n h0 h1; simp at *; omega
    have HE := Lib.hid hE; clear hE
    by_cases hlt : 9 < m
    · go_wp2
      go_round
      case rel => exact ⟨m / 10, UInt8.ofNat (48 + (m % 10).toNat) :: l, rfl, by rw [dig_cat _ (by omega) (by omega)], by omega, by omega, by rw [HE.out, dec_big m hlt]; simp⟩
      case measure => simp [intOf]; omega
    · go_wp2
      go_ret
      exact ⟨by rw [dig_cat _ (by omega) (by omega), HE.out, dec_small m hm0 (by omega)]; rfl, rfl⟩

theorem fmtS_none {n : Int} (h : vld n = false) : fmtS n = ⟨#[]⟩ := by unfold fmtS fmtL; rw [h]; rfl
theorem fmtS_neg {n : Int} (h : vld n = true) (h0 : n < 0) : (⟨#[45]⟩ : ByteArray) ++ fmtS (-n) = fmtS n := by
  have h2 := vld_yes h
  unfold fmtS fmtL; rw [h, vld_mk (by omega) (by omega)]; simp only [if_true]
  rw [if_pos h0, if_neg (by omega), show (-n).natAbs = n.natAbs by omega]
  exact cat_mk [45] _
theorem fmtS_pos {n : Int} (h : vld n = true) (h0 : 0 ≤ n) : fmtS n = ⟨(fmtP n.toNat).toArray⟩ := by
  unfold fmtS fmtL; rw [h]; simp only [if_true]
  rw [if_neg (by omega), show n.natAbs = n.toNat by omega]
theorem fmtS_size (n : Int) : (fmtS n).size ≤ 30 := by
  show (fmtL n).toArray.size ≤ 30
  have hp : ∀ u : Nat, u ≤ 1000000000000000 → (fmtP u).length ≤ 28 := fun u hu => by
    unfold fmtP tailD
    have h1 := dec_len ((u / 1000000 : Nat) : Int) (by omega) (by omega)
    simp only [Int.toNat_natCast] at h1
    have h2 := fr_len 6 (u % 1000000)
    by_cases h : u % 1000000 = 0
    · rw [if_pos h]; simp; omega
    · rw [if_neg h]; simp; omega
  unfold fmtL
  rcases h : vld n with _ | _
  · simp
  · have h2 := vld_yes h
    have h3 := hp n.natAbs (by omega)
    by_cases h0 : n < 0
    · simp [h0]; omega
    · simp [h0]; omega

theorem digits_ref7 (r : Int) (h0 : 0 ≤ r) (h1 : r < 1000000) (w : World) :
    Calls Tryd.prog 57 #[.int .i64 (1000000 + r)] w fun e w' => e = .returned (.string (d7 r)) ∧ w = w' := digits_ref _ (by omega) (by omega) w

/-- Format of a number that is not negative. -/
theorem format_ref_pos (n : Int) (h : vld n = true) (h0 : 0 ≤ n) (w : World) :
    Calls Tryd.prog 27 #[.int .i64 n] w fun e w' => e = .returned (.string (fmtS n)) ∧ w = w' := by
  have k := vld_yes h
  rw [fmtS_pos h h0]
  by_cases hr : n % 1000000 = 0
  · have hr' : (n % 1000000 == 0) = true := by simpa using hr
    have HR := Lib.hid hr; clear hr
    go_enter Tryd.func27, Tryd.ntmps27
    go_wp2_with (first | (go_at_call 25; refine (valid_ref _ _).mono ?_; rintro e w' ⟨rfl, rfl⟩) | (go_at_call 57; refine (digits_ref _ (by omega) (by omega) _).mono ?_; rintro e w' ⟨rfl, rfl⟩))
    go_ret
    exact ⟨by rw [fmt_whole n h0 HR.out]; rfl, rfl⟩
  · have hr' : (n % 1000000 == 0) = false := by simpa using hr
    have q0 : 0 < n % 1000000 := by omega
    have q1 : n % 1000000 < 1000000 := by omega
    have p0 := fr_pos (n % 1000000).toNat (by omega) (by omega)
    have p1 := fr_len 6 (n % 1000000).toNat
    have pl := dec_len (n / 1000000) (by omega) (by omega)
    have s7 := d7_size (n % 1000000) (by omega) (by omega)
    have hz := tz_size (n % 1000000).toNat
    obtain ⟨i0, hi0, ecut⟩ := d7_cut (n % 1000000) (by omega) (by omega)
    have HR := Lib.hid hr; clear hr
    have tok1 : True := trivial
    go_enter Tryd.func27, Tryd.ntmps27
    go_wp2_with (first | (go_at_call 25; refine (valid_ref _ _).mono ?_; rintro e w' ⟨rfl, rfl⟩) | (go_at_call 57; have _t := tok1; refine (digits_ref _ (by omega) (by omega) _).mono ?_; rintro e w' ⟨rfl, rfl⟩; clear tok1) | (go_at_call 57; refine (digits_ref7 _ (by omega) (by omega) _).mono ?_; rintro e w' ⟨rfl, rfl⟩))
    go_loop [5] (fun t => ∃ i : Nat, i ≤ 6 ∧ t = .string (tz (n % 1000000).toNat i)) (fun t => match t with | .string s => s.size | _ => 0)
    case atStart => exact ⟨i0, hi0, rfl⟩
    case round =>
      obtain ⟨i, hi, rfl⟩ := hrel
      have hbt := get_bt (tz (n % 1000000).toNat i)
      rcases i with _ | i
      · have hb : (bt (tz (n % 1000000).toNat 0) ((fr 6 (n % 1000000).toNat).length - 1) == 48) = false := by
          have := tz_bt_last (n % 1000000).toNat ((fr 6 (n % 1000000).toNat).length - 1) (by omega) (by omega) (by omega)
          simpa using this
        go_wp2
        go_ret
        exact ⟨by rw [← fmt_part n h0 HR.out]; rfl, rfl⟩
      · have hb := tz_bt_zero (n % 1000000).toNat i ((fr 6 (n % 1000000).toNat).length + i) rfl
        have hc : (tz (n % 1000000).toNat (i + 1)).extract 0 ((fr 6 (n % 1000000).toNat).length + (i + 1) - 1) = tz (n % 1000000).toNat i := tz_cut (n % 1000000).toNat i _ (by omega)
        go_wp2
        refine ⟨⟨i, by omega, congrArg Value.string hc⟩, ?_⟩
        show ((tz (n % 1000000).toNat (i + 1)).extract 0 ((fr 6 (n % 1000000).toNat).length + (i + 1) - 1)).size < (tz (n % 1000000).toNat (i + 1)).size
        rw [hc, tz_size, tz_size]; omega

theorem format_ref (n : Int) (hn1 : -9223372036854775808 ≤ n) (hn2 : n ≤ 9223372036854775807) (w : World) :
    Calls Tryd.prog 27 #[.int .i64 n] w fun e w' => e = .returned (.string (fmtS n)) ∧ w = w' := by
  rcases h : vld n with _ | _
  · rw [fmtS_none h]
    go_enter Tryd.func27, Tryd.ntmps27
    go_wp2_with (go_at_call 25; refine (valid_ref _ _).mono ?_; rintro e w' ⟨rfl, rfl⟩)
    go_ret
    exact ⟨rfl, rfl⟩
  · by_cases h0 : n < 0
    · have k := vld_yes h
      have hs := fmtS_size (-n)
      rw [← fmtS_neg h h0]
      go_enter Tryd.func27, Tryd.ntmps27
      go_wp2_with (first | (go_at_call 25; refine (valid_ref _ _).mono ?_; rintro e w' ⟨rfl, rfl⟩) | (go_at_call 27; refine (format_ref_pos _ (vld_mk (by omega) (by omega)) (by omega) _).mono ?_; rintro e w' ⟨rfl, rfl⟩))
      go_ret
      exact ⟨rfl, rfl⟩
    · exact format_ref_pos n h (by omega) w
end Go.Proofs.YteljackkojcniaaDoor
