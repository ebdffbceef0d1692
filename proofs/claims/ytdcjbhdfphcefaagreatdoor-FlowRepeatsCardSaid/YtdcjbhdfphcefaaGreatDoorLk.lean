/- What the laws' walks share: New with any flag, the steps' cells, frames. Conditions: those that each lemma names. -/
import Derived.Test.YtdcjbhdfphcefaaGreatDoorAx
import Derived.Test.YtdcjbhdfphcefaaGreatDoorWo
namespace Go.Proofs.YtdcjbhdfphcefaaGreatDoor
set_option linter.unusedVariables false
set_option linter.unusedSimpArgs false
open Go.RowKit

/-- A machine that New has made: what its blocks alone decide. -/
def TxS (L : Lb) (sk : Bool) (m : MS) (n0 : Nat) (w' : World) (B : Nat) (F : Fp) : Prop :=
  MX w' B F L sk m ∧ n0 ≤ B ∧ F.av = [] ∧ ∀ w2 : World, w'.heap.size ≤ w2.heap.size → (∀ g, n0 ≤ g → g < w'.heap.size → w2.heap[g]? = w'.heap[g]?) → Tab w2 → Tn w2 → MX w2 B F L sk m
theorem new_ofS {L : Lb} {m : MS} (hm : newS L = some m) (sk : Bool) (w : World) (I : Nat → Prop) (A1 A2 A3 : Option Addr) (c1 c2 c3 : Nat) (h : LzB w I L A1 A2 A3) (ht : Tab w) (htn : Tn w) :
    Calls Tryz.prog 14 #[.agg #[.slice A1 L.bl.length c1, .slice A2 L.pr.length c2, .slice A3 L.mt.length c3], .bool sk] w fun e w' => Below w.heap.size w w' ∧ ∃ (B : Nat) (F : Fp), e = .returned (.tuple #[.pointer (some ⟨F.mb, 0, none⟩), .int .i64 0]) ∧ TxS L sk m w.heap.size w' B F := by
  have q := fnew_any w I L sk A1 A2 A3 c1 c2 c3 h ht htn
  unfold NwPost at q
  rw [hm] at q
  refine q.mono ?_
  rintro e w' ⟨hb, B, F, he, hx, h1, h2, h3⟩
  exact ⟨hb, B, F, he, hx, h1, h2, h3⟩
/-- A machine's walk leaves what lies below its blocks. -/
theorem MP.bel {B : Nat} {F : Fp} {L : Lb} {sk : Bool} {m m' : MS} {w w' : World} (hx : MX w B F L sk m) (h : MP B F L sk m' w w') {b : Nat} (hb : b ≤ B) : Below b w w' := by
  obtain ⟨F', _, _, hc⟩ := h
  exact ⟨hc.os, hc.tape, hc.output, hc.size, fun g hg => hc.block g (by have := hx.Ble; omega) (fun ho => by have := (hx.own_ge g ho).1; omega)⟩
theorem BkS.mono {W : World} {base : Nat} {I I' : Nat → Prop} {C : Option Addr} {cp : Nat} {bs : List Bk} {xs : List Value} (h : BkS W base I C cp bs xs) (hI : ∀ g, g < W.heap.size → I g → I' g) : BkS W base I' C cp bs xs :=
  ⟨h.own, fun q hq => hI q (own_blk h.own hq).2 (h.ownI q hq), fun i b hb => by
    obtain ⟨A, n, c, l0, l1, l2, x0, x1, x2, h1, h2⟩ := h.parts i b hb
    exact ⟨A, n, c, l0, l1, l2, x0, x1, x2, h1, h2.keep (Nat.le_refl _) (fun g hg hi => ⟨hI g hg hi.1, hi.2⟩) fun _ _ _ => rfl⟩⟩
/-- One more block, whose parts lie in blocks of J. -/
theorem BkS.pushJ {W W3 w1 : World} {base : Nat} {I J : Nat → Prop} {C : Option Addr} {cp : Nat} {bs : List Bk} {xs : List Value} {b : Bk} {A : Option Addr} {n c g cap : Nat} {l0 l1 l2 x0 x1 x2 : Value} (h : BkS W base I C cp bs xs)
    (hb : Bz W J b A n l0 l1 l2 x0 x1 x2) (hJ : ∀ q, q < W.heap.size → J q → I q ∧ some q ≠ (Value.slice C bs.length cp).ownBlock) (hI : I W3.heap.size) (hs3 : W.heap.size ≤ W3.heap.size) (k3 : ∀ q, q < W.heap.size → W3.heap[q]? = W.heap[q]?)
    (ho : w1.ownsRow base 54 11 (.slice (some ⟨g, 0, none⟩) (bs.length + 1) cap) (bs.length + 1) (xs ++ cellsB b A n c l0 l1 l2 x0 x1 x2)) (hg : W3.grownBy w1 (Value.slice C bs.length cp).ownBlock) (hl : (Value.slice C bs.length cp).ownBlock = some g ∨ g = W3.heap.size) :
    BkS w1 base I (some ⟨g, 0, none⟩) cap (bs ++ [b]) (xs ++ cellsB b A n c l0 l1 l2 x0 x1 x2) := by
  have hgs := hg.size
  have hlen : (bs ++ [b]).length = bs.length + 1 := by simp
  have hob : ∀ q, (Value.slice C bs.length cp).ownBlock = some q → base ≤ q ∧ q < W.heap.size := fun q hq => own_blk h.own hq
  have kp : ∀ q, q < W.heap.size → (Value.slice C bs.length cp).ownBlock ≠ some q → w1.heap[q]? = W.heap[q]? := fun q hq hn => (hg.block q (by omega) (fun e => hn e.symm)).trans (k3 q hq)
  have hgI : I g := by
    rcases hl with e | e
    · exact h.ownI g e
    · rw [e]; exact hI
  have hgne : ∀ q, q < W.heap.size → some q ≠ (Value.slice C bs.length cp).ownBlock → some q ≠ (Value.slice (some ⟨g, 0, none⟩) (bs ++ [b]).length cap).ownBlock := fun q hq hn e => by
    simp only [Value.ownBlock, Option.some.injEq] at e
    subst e
    rcases hl with e | e
    · exact hn e.symm
    · omega
  refine ⟨by rw [hlen]; exact ho, fun q hq => ?_, fun i b' hb' => ?_⟩
  · simp only [Value.ownBlock, Option.some.injEq] at hq
    rw [← hq]; exact hgI
  have hxl := h.own.1
  have hil := (List.getElem?_eq_some_iff.1 hb').1
  rw [hlen] at hil
  by_cases e : i = bs.length
  · subst e
    have e2 : b' = b := by
      rw [List.getElem?_append_right (Nat.le_refl _), Nat.sub_self] at hb'
      simpa using hb'.symm
    subst e2
    refine ⟨A, n, c, l0, l1, l2, x0, x1, x2, fun j v hv => by rw [app_new hxl]; exact hv, hb.keep (by omega) (fun q hq hi => ⟨(hJ q hq hi).1, hgne q hq (hJ q hq hi).2⟩) fun q hq hi => kp q hq fun e => (hJ q hq hi).2 e.symm⟩
  · rw [List.getElem?_append_left (by omega)] at hb'
    obtain ⟨A, n, c, m0, m1, m2, y0, y1, y2, hp1, hp2⟩ := h.parts i b' hb'
    refine ⟨A, n, c, m0, m1, m2, y0, y1, y2, fun j v hv => ?_, hp2.keep (by omega) (fun q hq hi => ⟨hi.1, hgne q hq hi.2⟩) fun q hq hi => kp q hq fun e => hi.2 e.symm⟩
    have hj : j < 11 := by have := (List.getElem?_eq_some_iff.1 hv).1; simpa [cellsB] using this
    exact (app_atd hxl (by omega)).trans (hp1 j v hv)
/-- What append leaves lies above what was there. -/
theorem grown_bel {b : Nat} {w W W3 w1 : World} {v : Option Nat} (h : Below b w W) (hb : Below W.heap.size W W3) (hg : W3.grownBy w1 v) (hv : ∀ q, v = some q → b ≤ q) (hbw : b ≤ w.heap.size) : Below b w w1 := by
  have k := grown_keep hb hg
  have hs := hb.size
  have hgs := hg.size
  have hc := h.size
  exact ⟨hg.os.trans (hb.os.trans h.os), hg.tape.trans (hb.tape.trans h.tape), hg.output.trans (hb.output.trans h.output), by omega, fun q hq => (k q (by omega) (fun e => by have := hv q e; omega)).trans (h.block q hq)⟩
end Go.Proofs.YtdcjbhdfphcefaaGreatDoor
