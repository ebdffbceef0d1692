/- The contract of stores of cnclaw08: two stores that read as one function of the number: which is not said. Conditions: the list that came in reads as integers. -/
import Derived.Test.YtdipainocdgfgaaGreatDoorSr
import Derived.Test.YtdipainocdgfgaaGreatDoorTo
import Derived.Test.YtdipainocdgfgaaGreatDoorRi
import Derived.Deep.Light
import Derived.Deep.LoopGhost
namespace Go.Proofs.YtdipainocdgfgaaGreatDoor
set_option linter.unusedVariables false
set_option linter.unusedSimpArgs false
open Go.RowKit

theorem setF_vf {f : Int → Int} (h : Vf f) (n v : Int) : Vf (setF f n v) := by
  intro k
  unfold setF
  split
  · rename_i hs
    have hv : vld v = true := by
      unfold setS at hs
      split at hs
      · split at hs
        · omega
        · split at hs
          · assumption
          · omega
      · omega
    have := vld_yes hv
    unfold upd
    split
    · omega
    · exact h k
  · exact h k
/-- What stores leaves. -/
def StoresPost (w : World) (e : Ending) (w' : World) : Prop :=
  ∃ (f : Int → Int) (B2 : Nat), e = .returned (.tuple #[.pointer (some ⟨w.heap.size + 1, 0, none⟩), .pointer (some ⟨B2 + 1, 0, none⟩)]) ∧ w.heap.size + 1 < B2 ∧ Vf f ∧ St w' w.heap.size (w.heap.size + 1) f ∧ Sr w' B2 (B2 + 1) f ∧ Below w.heap.size w w'
/-- What its loop keeps. -/
def TwoSt (w0 : World) (B2 bt : Nat) (A : Option Addr) (n c : Nat) (f : Int → Int) (w : World) : Prop :=
  Vf f ∧ St w w0.heap.size (w0.heap.size + 1) f ∧ Sr w B2 (B2 + 1) f ∧ TapeOK w w0.heap.size bt A n c ∧ Below w0.heap.size w0 w
def SsRel (w0 : World) (B2 bt : Nat) (A : Option Addr) (n c : Nat) (i : Value) (w : World) : Prop := ∃ (j : Nat) (f : Int → Int), j ≤ 8 ∧ i = .int .i64 (j : Int) ∧ TwoSt w0 B2 bt A n c f w
theorem TwoSt.only {w0 w w' : World} {B2 bt : Nat} {A : Option Addr} {n c : Nat} {f : Int → Int} (h : TwoSt w0 B2 bt A n c f w) (h1 : w0.heap.size + 1 < B2) (h2 : B2 + 1 < bt) (ht : TapeOK w' w0.heap.size bt A n c) (ho : Only bt w w') : TwoSt w0 B2 bt A n c f w' := by
  obtain ⟨hf, hs, hr, _, hb⟩ := h
  have l1 := hs.lt
  have l2 := hr.lt
  exact ⟨hf, hs.keep fun g _ h => ho.2.2.2.2 g (by omega) (by omega), hr.keep fun g _ h => ho.2.2.2.2 g (by omega) (by omega), ht, hb.trans (ho.below (by omega) hb.size)⟩
set_option maxRecDepth 100000 in
set_option maxHeartbeats 4000000 in
theorem stores_any (A : Option Addr) (n c : Nat) (w : World) (hl : LOK w w.heap.size A n) :
    Calls Tryz.prog 14 #[.slice A n c] w (StoresPost w) := by
  have HL := Lib.hid hl
  clear hl
  go_enter Tryz.func14, Tryz.ntmps14
  go_wp2_with fail
  refine (newStore_any w).mono ?_
  rintro e w1 ⟨rfl, hs, hb⟩
  have z1 := hs.lt
  have HS1 := Lib.hid hs
  have HB1 := Lib.hid hb
  clear hs hb
  go_wp2_with fail
  refine (newStore_anyR w1).mono ?_
  rintro e w2 ⟨rfl, hr, hb⟩
  have z2 := hr.lt
  have HR2 := Lib.hid hr
  have HS2 := Lib.hid (HS1.out.below hb z1)
  have HB2 := Lib.hid (HB1.out.trans (hb.mono HB1.out.size))
  clear hr hb
  go_wp2_with fail
  refine (new_any w2 w.heap.size HB2.out.size A n c).mono ?_
  rintro e w3 ⟨rfl, rfl⟩
  have hbx := below_box' (w := w2) (.cells #[.slice A n c, .int .i64 0] 60) (Nat.le_refl _)
  have H3 : Hid (TwoSt w w1.heap.size w2.heap.size A n c (fun _ => 0) (w2.alloc (.cells #[.slice A n c, .int .i64 0] 60))) :=
    ⟨fun _ => ⟨by show (-1000000000000000 : Int) ≤ 0; decide, by show (0 : Int) ≤ 1000000000000000; decide⟩, HS2.out.below hbx HS2.out.lt, HR2.out.below hbx z2, TapeOK.new w2 _ HB2.out.size A n c, HB2.out.trans (hbx.mono HB2.out.size)⟩
  clear hbx
  go_wp2_with fail
  go_loopw [7] (SsRel w w1.heap.size w2.heap.size A n c) (fun i _ => 8 - (intOf i).toNat)
  case atStart => exact ⟨0, _, by omega, rfl, H3.out⟩
  case round =>
    obtain ⟨j, f, hj, rfl, h4⟩ := hrel
    have H4 := Lib.hid h4
    clear h4
    by_cases hlt : j < 8
    · go_wp2_with fail
      refine (variableo_any w.heap.size w2.heap.size A n c wr (HL.out.below H4.out.2.2.2.2) H4.out.2.2.2.1 H4.out.2.2.2.2.size).mono ?_
      rintro e w5 ⟨v, rfl, v0, v1, htp, ho⟩
      have H5 := Lib.hid (H4.out.only z1 z2 htp ho)
      clear htp ho
      go_wp2_with fail
      refine (numbero_any w.heap.size w2.heap.size A n c w5 (HL.out.below H5.out.2.2.2.2) H5.out.2.2.2.1 H5.out.2.2.2.2.size).mono ?_
      rintro e w6 ⟨x, rfl, x0, x1, htp, ho⟩
      have H6 := Lib.hid (H5.out.only z1 z2 htp ho)
      clear htp ho
      go_wp2_with fail
      refine (nexto_any w.heap.size w2.heap.size A n c 3 w6 (HL.out.below H6.out.2.2.2.2) H6.out.2.2.2.1 (by omega) (by omega)).mono ?_
      rintro e w7 ⟨y, rfl, y0, y1, htp, ho⟩
      have H7 := Lib.hid (H6.out.only z1 z2 htp ho)
      clear htp ho
      rcases hy : (y == 0) with _ | _
      all_goals
        go_wp2_with fail
        refine (set_any w7 w.heap.size (w.heap.size + 1) f v _ H7.out.2.1).mono ?_
        rintro e w8 ⟨rfl, hs, hb, hz, hk⟩
        have hw7 := H7.out.2.2.1.lt
        have HS8 := Lib.hid hs
        have HR8 := Lib.hid (H7.out.2.2.1.keep (w' := w8) fun g h1 h2 => hk g (by omega))
        have HT8 := Lib.hid (H7.out.2.2.2.1.keep (w' := w8) (hk _ (by omega)))
        have HB8 := Lib.hid (H7.out.2.2.2.2.trans hb)
        clear hs hb hz hk
        go_wp2_with fail
        refine (setR_any w8 w1.heap.size (w1.heap.size + 1) f v _ HR8.out).mono ?_
        rintro e w9 ⟨rfl, hr, hb, hz, hk⟩
        have H9 := Lib.hid (show TwoSt w w1.heap.size w2.heap.size A n c (setF f v _) w9 from ⟨setF_vf H7.out.1 v _, HS8.out.below hb z1, hr, HT8.out.keep (hk _ (by omega)), HB8.out.trans (hb.mono HB1.out.size)⟩)
        clear hr hb hz hk
        go_wp2_with fail
        exact ⟨⟨j + 1, _, by omega, by go_num, H9.out⟩, by simp [intOf]; omega⟩
    · go_wp2_with fail
      go_ret2
      exact ⟨f, w1.heap.size, rfl, z1, H4.out.1, H4.out.2.1, H4.out.2.2.1, H4.out.2.2.2.2⟩
end Go.Proofs.YtdipainocdgfgaaGreatDoor
