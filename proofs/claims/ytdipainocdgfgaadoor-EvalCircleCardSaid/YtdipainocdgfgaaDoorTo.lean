/- The contracts of the tape once more, with a closer frame: only the tape's own block turns. Next, Range, Number, Variable. What they return is some number within bounds: which is not said. Conditions: the list that came in reads as integers. -/
import Derived.Test.YtdipainocdgfgaaDoorT
import Derived.Test.YtdipainocdgfgaaDoorJ
namespace Go.Proofs.YtdipainocdgfgaaDoor
set_option linter.unusedVariables false
set_option linter.unusedSimpArgs false
open Go.RowKit

/-- Only block b, and what is new, has turned. -/
def Only (b : Nat) (w w' : World) : Prop := w'.os = w.os ∧ w'.tape = w.tape ∧ w'.output = w.output ∧ w.heap.size ≤ w'.heap.size ∧ ∀ g, g < w.heap.size → g ≠ b → w'.heap[g]? = w.heap[g]?
theorem Only.refl (b : Nat) (w : World) : Only b w w := ⟨rfl, rfl, rfl, Nat.le_refl _, fun _ _ _ => rfl⟩
theorem Only.trans {b : Nat} {w w1 w2 : World} (h : Only b w w1) (k : Only b w1 w2) : Only b w w2 :=
  ⟨k.1.trans h.1, k.2.1.trans h.2.1, k.2.2.1.trans h.2.2.1, Nat.le_trans h.2.2.2.1 k.2.2.2.1, fun g hg hb => (k.2.2.2.2 g (Nat.lt_of_lt_of_le hg h.2.2.2.1) hb).trans (h.2.2.2.2 g hg hb)⟩
theorem Only.below {b B : Nat} {w w' : World} (h : Only b w w') (hB : B ≤ b) (hw : B ≤ w.heap.size) : Below B w w' := ⟨h.1, h.2.1, h.2.2.1, h.2.2.2.1, fun g hg => h.2.2.2.2 g (by omega) (by omega)⟩
theorem Only.of_below {b : Nat} {w w' : World} (h : Below w.heap.size w w') : Only b w w' := ⟨h.os, h.tape, h.output, h.size, fun g hg _ => h.block g hg⟩
theorem Only.drewN {b : Nat} {w w' : World} (h : Only b w w') (n : Nat) : Only b w (w'.drewN n) := ⟨h.1, h.2.1, h.2.2.1, h.2.2.2.1, h.2.2.2.2⟩
theorem Only.drewL {b n : Nat} {w w' : World} (h : Only b (w.drewN n) w') : Only b w w' := ⟨h.1, h.2.1, h.2.2.1, h.2.2.2.1, h.2.2.2.2⟩
theorem Only.size {b : Nat} {w w' : World} (h : Only b w w') : w.heap.size ≤ w'.heap.size := h.2.2.2.1
def NextO (B b : Nat) (A : Option Addr) (n c : Nat) (lo hi : Int) (w : World) (e : Ending) (w' : World) : Prop :=
  ∃ r : Int, e = .returned (.int .i64 r) ∧ lo ≤ r ∧ r ≤ hi ∧ TapeOK w' B b A n c ∧ Only b w w'
theorem TapeOK.lt {w : World} {B b : Nat} {A : Option Addr} {n c : Nat} (h : TapeOK w B b A n c) : b < w.heap.size := by
  obtain ⟨_, k, _, hh⟩ := h
  exact (Array.getElem?_eq_some_iff.1 hh).1
theorem TapeOK.keep {w w' : World} {B b : Nat} {A : Option Addr} {n c : Nat} (h : TapeOK w B b A n c) (hk : w'.heap[b]? = w.heap[b]?) : TapeOK w' B b A n c := by
  obtain ⟨h1, k, h2, h3⟩ := h
  exact ⟨h1, k, h2, hk.trans h3⟩
theorem TapeOK.below {w w' : World} {B b : Nat} {A : Option Addr} {n c : Nat} (h : TapeOK w B b A n c) (hb : Below w.heap.size w w') : TapeOK w' B b A n c := h.keep (hb.block b h.lt)
theorem nexto_any (B b : Nat) (A : Option Addr) (n c : Nat) (m : Int) (w : World) (hl : LOK w B A n) (ht : TapeOK w B b A n c) (hm1 : 1 ≤ m) (hm2 : m ≤ 9223372036854775807) :
    Calls Tryd.prog 27 #[.pointer (some ⟨b, 0, none⟩), .int .i64 m] w (NextO B b A n c 0 (m - 1) w) := by
  obtain ⟨hB, k, hk, hh⟩ := ht
  have c0 : w.cell? ⟨b, 0, none⟩ = some (.slice A n c) := cell_of_row w b 0 _ _ _ hh
  have c1 : w.cell? ⟨b, 1, none⟩ = some (.int .i64 (k : Int)) := cell_of_row w b 1 _ _ _ hh
  have cf : w.frozen? ⟨b, 1, none⟩ = false := by simp [World.frozen?, hh]
  have hn := hl.1
  unfold maxLen at hn
  have HH := Lib.hid hh; clear hh
  have HL := Lib.hid hl; clear hl
  by_cases hlt : k < n
  · obtain ⟨ab, off, rfl, hab, hc⟩ := HL.out.2 (by omega)
    obtain ⟨z, hz, z0, z1⟩ := hc k hlt
    clear hc
    have hne : ¬ ab = b := by omega
    go_enter Tryd.func27, Tryd.ntmps27
    go_wp2
    go_quiet (fail)
    go_wp2
    have i1 : (0 : Int) ≤ (k : Int) := by omega
    have i2 : (k : Int) < (n : Int) := by omega
    have i3 : IntKind.i64.wrap (k : Int) = (k : Int) := IntWalk.i64_in _ (by omega)
    have i4 : IntKind.i64.wrap ((k : Int) + 1 - 1) = (k : Int) := by rw [show (k : Int) + 1 - 1 = k by omega]; exact i3
    go_quiet ((go_at_call 17; first | exact quiet_add_left (mod_any _ _ hm1 hm2 z0 z1 _) | exact quiet_left (mod_any _ _ hm1 hm2 z0 z1 _)))
    go_wp2
    go_ret
    have eb := emod_bd z m hm1
    refine ⟨z % m, rfl, eb.1, eb.2, ⟨hB, k + 1, by omega, ?_⟩, ?_⟩
    · have e : ((k + 1 : Nat) : Int) = (k : Int) + 1 := by omega
      rw [e]
      exact tape_set w b _ _ _ HH.out
    · exact ⟨rfl, rfl, rfl, by simp [World.setCell], fun j _ hj => Below.heap_setCell _ _ _ j hj⟩
  · have hge : (n : Int) ≤ (k : Int) := by omega
    go_enter Tryd.func27, Tryd.ntmps27
    go_wp2
    go_quiet (fail)
    go_wp2
    go_ret
    exact ⟨0, rfl, by omega, by omega, ⟨hB, k, hk, HH.out⟩, ⟨rfl, rfl, rfl, Nat.le_refl _, fun _ _ _ => rfl⟩⟩
theorem LOK.only {w w' : World} {B b : Nat} {A : Option Addr} {n : Nat} (h : LOK w B A n) (ho : Only b w w') (hB : B ≤ b) (hw : B ≤ w.heap.size) : LOK w' B A n := h.below (ho.below hB hw)
theorem range_any (B b : Nat) (A : Option Addr) (n c : Nat) (lo hi : Int) (w : World) (hl : LOK w B A n) (ht : TapeOK w B b A n c) (h1 : lo ≤ hi) (h2 : -1000000 ≤ lo) (h3 : hi ≤ 1000000) :
    Calls Tryd.prog 39 #[.pointer (some ⟨b, 0, none⟩), .int .i64 lo, .int .i64 hi] w (NextO B b A n c lo hi w) := by
  have HC := Lib.hid (nexto_any B b A n c (hi - lo + 1) w hl ht (by omega) (by omega))
  clear hl ht
  go_enter Tryd.func39, Tryd.ntmps39
  go_wp2_with (go_at_call 27; refine HC.out.mono ?_; rintro e w1 ⟨r, rfl, r0, r1, htp, ho⟩; have HT2 := Lib.hid htp; have HO := Lib.hid ho; clear htp ho)
  go_ret
  exact ⟨_, rfl, by omega, by omega, HT2.out, HO.out⟩
theorem numbero_any (B b : Nat) (A : Option Addr) (n c : Nat) (w : World) (hl : LOK w B A n) (ht : TapeOK w B b A n c) (hw : B ≤ w.heap.size) :
    Calls Tryd.prog 28 #[.pointer (some ⟨b, 0, none⟩)] w (NextO B b A n c 0 999999999999999 w) := by
  have HL := Lib.hid hl; clear hl
  have HTP := Lib.hid ht
  have hBb := ht.1
  clear ht
  have HO : Hid (Only b w w) := Only.refl b w
  go_enter Tryd.func28, Tryd.ntmps28
  go_wp2_with (go_at_call 27; refine (nexto_any B b A n c _ _ (HL.out.only HO.out hBb hw) HTP.out (by omega) (by omega)).mono ?_; rintro e w1 ⟨r, rfl, hr0, hr1, htp, ho⟩; have HN := Lib.hid (HO.out.trans ho); have HT2 := Lib.hid htp; clear HO ho HTP htp; have HO := Lib.hid HN.out; have HTP := Lib.hid HT2.out; clear HN HT2)
  all_goals go_ret
  all_goals exact ⟨_, rfl, by omega, by omega, HTP.out, HO.out⟩
theorem variableo_any (B b : Nat) (A : Option Addr) (n c : Nat) (w : World) (hl : LOK w B A n) (ht : TapeOK w B b A n c) (hw : B ≤ w.heap.size) :
    Calls Tryd.prog 29 #[.pointer (some ⟨b, 0, none⟩)] w (NextO B b A n c 0 6000 w) := by
  have HL := Lib.hid hl; clear hl
  have HTP := Lib.hid ht
  have hBb := ht.1
  clear ht
  have HO : Hid (Only b w w) := Only.refl b w
  go_enter Tryd.func29, Tryd.ntmps29
  go_wp2_with (first
    | (go_at_call 27; refine (nexto_any B b A n c _ _ (HL.out.only HO.out hBb hw) HTP.out (by omega) (by omega)).mono ?_; rintro e w1 ⟨r, rfl, hr0, hr1, htp, ho⟩; have HN := Lib.hid (HO.out.trans ho); have HT2 := Lib.hid htp; clear HO ho HTP htp; have HO := Lib.hid HN.out; have HTP := Lib.hid HT2.out; clear HN HT2)
    | (go_at_call 39; refine (range_any B b A n c _ _ _ (HL.out.only HO.out hBb hw) HTP.out (by omega) (by omega) (by omega)).mono ?_; rintro e w1 ⟨r, rfl, hr0, hr1, htp, ho⟩; have HN := Lib.hid (HO.out.trans ho); have HT2 := Lib.hid htp; clear HO ho HTP htp; have HO := Lib.hid HN.out; have HTP := Lib.hid HT2.out; clear HN HT2))
  all_goals go_ret
  all_goals exact ⟨_, rfl, by omega, by omega, HTP.out, HO.out⟩
end Go.Proofs.YtdipainocdgfgaaDoor
