/- The contracts of value and awake of cnclaw08: what an expression evaluates to with new variables; the sanity check returns true. Conditions: expressions read as trees; the table of the arctangents lies in memory. -/
import Derived.Test.YtdipainocdgfgaaDoorEx
import Derived.Test.YtdipainocdgfgaaDoorEw
namespace Go.Proofs.YtdipainocdgfgaaDoor
set_option linter.unusedVariables false
set_option linter.unusedSimpArgs false
open Go.RowKit

/-- No variable has a value yet. -/
def zf : Int → Int := fun _ => 0
theorem zf_vf : Vf zf := fun n => by unfold zf; omega
/-- What a tree evaluates to with new variables. -/
def valS (t : Tr) : Int × Int := EvalS (getS zf) t
theorem aw1 : valS (twoT 6 (numT 1000000) (numT 0)) = (0, 4) := by decide +kernel
theorem aw2 : valS (twoT 11 (numT 1000000) (numT 0)) = (90000000, 0) := by decide +kernel
theorem newStore_box (w : World) (o : Obj) : Calls Tryd.prog 20 #[] (w.alloc o) fun e w' => e = .returned (.pointer (some ⟨w.heap.size + 1 + 1, 0, none⟩)) ∧ St w' (w.heap.size + 1) (w.heap.size + 1 + 1) zf ∧ Below w.heap.size w w' ∧ ∀ i, w'.cell? ⟨w.heap.size, i, none⟩ = (w.alloc o).cell? ⟨w.heap.size, i, none⟩ := by
  refine (newStore_any (w.alloc o)).mono ?_
  rintro e w' ⟨he, hs, hb⟩
  have hsz : (w.alloc o).heap.size = w.heap.size + 1 := by simp
  rw [hsz] at he hs
  exact ⟨he, hs, (below_box' _ (Nat.le_refl _)).trans (hb.mono (World.size_le_alloc _ _)), fun i => hb.cell (by rw [hsz]; exact Nat.lt_succ_self _)⟩
theorem value_any (t : Tr) (o n : Int) (A : Option Addr) (k c : Nat) (w : World) (hr : Rd w w.heap.size t (.agg #[.int .i64 o, .int .i64 n, .slice A k c])) (ht : Tab w) :
    Calls Tryd.prog 13 #[.agg #[.int .i64 o, .int .i64 n, .slice A k c]] w fun e w' => e = .returned (.tuple #[.int .i64 (valS t).1, .int .i64 (valS t).2]) ∧ Below w.heap.size w w' := by
  have HR := Lib.hid hr
  have HT := Lib.hid ht
  have hts := ht.lt
  clear hr ht
  obtain ⟨r, hv⟩ : ∃ r, r = valS t := ⟨_, rfl⟩
  rw [← hv]
  have HV : Hid (EvalS (getS zf) t = r) := by unfold Hid; rw [hv]; rfl
  clear hv
  have hbx : Hid (Below w.heap.size w (w.alloc (.cells #[.int .i64 o, .int .i64 n, .slice A k c] 27))) := below_box' _ (Nat.le_refl _)
  go_enter Tryd.func13, Tryd.ntmps13
  go_wp2_with (first | (go_at_call 20; refine (newStore_box _ _).mono ?_; rintro e w1 ⟨rfl, hs, hb, hc⟩; have HS := Lib.hid hs; have HN := Lib.hid hb; have c0 := hc 0; have c1 := hc 1; have c2 := hc 2; clear hb hs hc) | (go_at_call 22; refine (Eval_any _ _ zf zf_vf t _ _ (HR.out.below HN.out HN.out.size) (HT.out.below HN.out hts) HS.out).mono ?_; rw [HV.out]; rintro e w2 ⟨rfl, hb⟩; have HM := Lib.hid hb; clear hb))
  go_ret2
  exact ⟨rfl, HN.out.trans (HM.out.mono HN.out.size)⟩
theorem awake_any (w : World) (ht : Tab w) :
    Calls Tryd.prog 10 #[] w fun e w' => e = .returned (.bool true) ∧ Below w.heap.size w w' := by
  have HT := Lib.hid ht
  have hts := ht.lt
  clear ht
  have a1 := aw1
  have a2 := aw2
  unfold valS at a1 a2
  have A1 := Lib.hid a1
  have A2 := Lib.hid a2
  clear a1 a2
  go_enter Tryd.func10, Tryd.ntmps10
  go_wp2_with (first
    | (go_at_call 20; refine (newStore_any _).mono ?_; rintro e w1 ⟨rfl, hs, hb⟩; have HS := Lib.hid hs; have HB := Lib.hid hb; have hz := Lib.hid hs.lt; clear hb hs)
    | (go_at_call 18; refine (numx_any _ _).mono ?_; rintro e w2 ⟨rfl, hb⟩; have HN := Lib.hid (HB.out.trans (hb.mono HB.out.size)); have HS2 := Lib.hid (HS.out.below hb hz.out); have hz2 := Lib.hid HS2.out.lt; clear HB hb HS hz; have HB := Lib.hid HN.out; have HS := Lib.hid HS2.out; have hz := Lib.hid hz2.out; clear HN HS2 hz2)
    | (go_at_call 14; refine (two_any _ _ _ _ _ _ _ _ _ _ _ (numT 1000000) (numT 0) _ (by unfold I64; omega) (Rd.num _ _ _ (by unfold I64; omega) _) (Rd.num _ _ _ (by unfold I64; omega) _)).mono ?_; rintro e w4 ⟨o, n, A, k, c, rfl, hr, hb⟩; have HR := Lib.hid hr; clear hr; have HN := Lib.hid (HB.out.trans (hb.mono HB.out.size)); have HS2 := Lib.hid (HS.out.below hb hz.out); have hz2 := Lib.hid HS2.out.lt; clear HB hb HS hz; have HB := Lib.hid HN.out; have HS := Lib.hid HS2.out; have hz := Lib.hid hz2.out; clear HN HS2 hz2)
    | (go_at_call 22; refine (Eval_any _ _ zf zf_vf _ _ _ HR.out (HT.out.below HB.out hts) HS.out).mono ?_; (first | rw [A1.out] | rw [A2.out]); rintro e w5 ⟨rfl, hb⟩; clear HR; have HN := Lib.hid (HB.out.trans (hb.mono HB.out.size)); have HS2 := Lib.hid (HS.out.below hb hz.out); have hz2 := Lib.hid HS2.out.lt; clear HB hb HS hz; have HB := Lib.hid HN.out; have HS := Lib.hid HS2.out; have hz := Lib.hid hz2.out; clear HN HS2 hz2)
    | (go_at_call 15; refine (truth_any _ _).mono ?_; rintro e w' ⟨rfl, rfl⟩))
  go_ret
  exact ⟨rfl, HB.out⟩
end Go.Proofs.YtdipainocdgfgaaDoor
