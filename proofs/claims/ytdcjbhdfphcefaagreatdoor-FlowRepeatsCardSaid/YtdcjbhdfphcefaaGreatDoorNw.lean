/- The contract of New of package flow. Conditions: the library reads as plain data, closely; it is fine. -/
import Derived.Test.YtdcjbhdfphcefaaGreatDoorNv
import Derived.Test.YtdcjbhdfphcefaaGreatDoorCl
import Derived.Test.YtdcjbhdfphcefaaGreatDoorCn
import Derived.Test.YtdcjbhdfphcefaaGreatDoorRm
namespace Go.Proofs.YtdcjbhdfphcefaaGreatDoor
set_option linter.unusedVariables false
set_option linter.unusedSimpArgs false
open Go.RowKit

/-- What New leaves. -/
def NwPost (L : Lb) (sk : Bool) (w : World) (e : Ending) (w' : World) : Prop :=
  Below w.heap.size w w' ∧ match newS L with
    | none => e = .returned (.tuple #[.pointer none, .int .i64 6])
    | some m => ∃ (B : Nat) (F : Fp), e = .returned (.tuple #[.pointer (some ⟨F.mb, 0, none⟩), .int .i64 0]) ∧ MX w' B F L sk m ∧ w.heap.size ≤ B ∧ F.av = [] ∧
      ∀ w2 : World, w'.heap.size ≤ w2.heap.size → (∀ g, w.heap.size ≤ g → g < w'.heap.size → w2.heap[g]? = w'.heap[g]?) → Tab w2 → Tn w2 → MX w2 B F L sk m
/-- Behind the copies of the library's parts. -/
def NwMid (W1 : World) (L : Lb) (s8 : Value) (W : World) : Prop :=
  ∃ (q : Nat) (C1 C2 C3 : Option Addr) (p1 p2 p3 : Nat), s8 = .pointer (some ⟨q, 0, none⟩) ∧ Below W1.heap.size W1 W ∧ W.heap[q]? = some (.cells #[.slice C1 L.bl.length p1, .slice C2 L.pr.length p2, .slice C3 L.mt.length p3] 32 (0, 0)) ∧ RdLb W W.heap.size L C1 L.bl.length C2 L.pr.length C3 L.mt.length ∧ Lz W (fun g => W1.heap.size ≤ g) C1 L.bl.length L.bl ∧ (∀ ab off : Nat, C2 = some ⟨ab, off, none⟩ → W1.heap.size ≤ ab) ∧ (∀ ab off : Nat, C3 = some ⟨ab, off, none⟩ → W1.heap.size ≤ ab)
theorem own_low {w : World} {b : Nat} {e : TypeId} {sz n cap : Nat} {C : Option Addr} {xs : List Value} (h : w.ownsRow b e sz (.slice C n cap) n xs) (ab off : Nat) (hC : C = some ⟨ab, off, none⟩) : b ≤ ab := own_blkz h (by rw [hC]; rfl)
theorem NwMid.gen {W1 w2 w3 w4 : World} {L : Lb} {C1 C2 C3 : Option Addr} {p1 p2 p3 q b2 b3 : Nat} {nP nI : List Value} {I : Nat → Prop} {z0 z1 z2 : Value} (hf : L.fine) (hp : L.pr.length ≤ 100000) (h1 : ∀ p ∈ L.pr, I64 p.num ∧ I64 p.first ∧ I64 p.stop) (h2 : ∀ x ∈ L.mt, I64 x)
    (hz : Lz w2 I C1 L.bl.length L.bl) (ho2 : w3.ownsRow b2 73 3 (.slice C2 L.pr.length p2) L.pr.length nP) (k3 : ∀ g, g < w2.heap.size → w3.heap[g]? = w2.heap[g]?) (s3 : w2.heap.size ≤ w3.heap.size) (ho3 : w4.ownsRow b3 3 1 (.slice C3 L.mt.length p3) L.mt.length nI) (k4 : ∀ g, g < w3.heap.size → w4.heap[g]? = w3.heap[g]?) (s4 : w3.heap.size ≤ w4.heap.size) (bel : Below W1.heap.size W1 w4)
    (hP : ∀ (i : Nat) (p : Pg), L.pr[i]? = some p → nP[i * 3]? = some (.int .i64 p.num) ∧ nP[i * 3 + 1]? = some (.int .i64 p.first) ∧ nP[i * 3 + 2]? = some (.int .i64 p.stop)) (hI : ∀ (i : Nat) (x : Int), L.mt[i]? = some x → nI[i]? = some (.int .i64 x))
    (hq : w4.heap[q]? = some (.cells #[z0, z1, z2] 32 (0, 0))) (hq1 : W1.heap.size ≤ q) (n1 : ∀ g, I g → g < w2.heap.size → g ≠ q) (n2 : ∀ g, b2 ≤ g → g < w3.heap.size → g ≠ q) (n3 : ∀ g, b3 ≤ g → g ≠ q) (m1 : ∀ g, I g → W1.heap.size ≤ g) (m2 : W1.heap.size ≤ b2) (m3 : W1.heap.size ≤ b3) :
    NwMid W1 L (.pointer (some ⟨q, 0, none⟩)) (((w4.setCell ⟨q, 0, none⟩ (.slice C1 L.bl.length p1)).setCell ⟨q, 1, none⟩ (.slice C2 L.pr.length p2)).setCell ⟨q, 2, none⟩ (.slice C3 L.mt.length p3)) := by
  have hpm : L.pr.length ≤ maxLen := by unfold maxLen; omega
  have hmm : L.mt.length ≤ maxLen := by have := hf.few; unfold maxLen; omega
  have hs : (set3 w4 q 0 (.slice C1 L.bl.length p1) (.slice C2 L.pr.length p2) (.slice C3 L.mt.length p3)).heap.size = w4.heap.size := set3_size _ _ _ _ _ _
  have kf : ∀ g, g ≠ q → (set3 w4 q 0 (.slice C1 L.bl.length p1) (.slice C2 L.pr.length p2) (.slice C3 L.mt.length p3)).heap[g]? = w4.heap[g]? := fun g hg => set3_heap _ _ _ _ _ _ _ hg
  have hLz : Lz (set3 w4 q 0 (.slice C1 L.bl.length p1) (.slice C2 L.pr.length p2) (.slice C3 L.mt.length p3)) (fun g => W1.heap.size ≤ g) C1 L.bl.length L.bl := Lz.keep (w' := set3 w4 q 0 (.slice C1 L.bl.length p1) (.slice C2 L.pr.length p2) (.slice C3 L.mt.length p3)) (by omega) (fun g _ h => m1 g h) (fun g hg hI => (kf g (n1 g hI hg)).trans ((k4 g (by omega)).trans (k3 g hg))) hz
  refine ⟨_, C1, C2, C3, p1, p2, p3, rfl, below_set3 bel hq1 0 _ _ _, set_resz hq, ⟨hLz.rd, ?_, ?_⟩, hLz, fun ab off e => Nat.le_trans m2 (own_low ho2 ab off e), fun ab off e => Nat.le_trans m3 (own_low ho3 ab off e)⟩
  · refine rdP_own (b := b2) (owns_keep ho2 fun g hg hv => (kf g (n2 g (own_blkz ho2 hv) hg)).trans (k4 g hg)) hP hpm h1
  · refine rdI_own (b := b3) (owns_keep ho3 fun g hg hv => kf g (n3 g (own_blkz ho3 hv))) hI hmm h2
theorem NwMid.late2 {W1 w2 w3 w4 : World} {L : Lb} {C1 C2 C3 : Option Addr} {p1 p2 p3 b2 b3 : Nat} {nP nI : List Value} {I : Nat → Prop} (hf : L.fine) (hp : L.pr.length ≤ 100000) (h1 : ∀ p ∈ L.pr, I64 p.num ∧ I64 p.first ∧ I64 p.stop) (h2 : ∀ x ∈ L.mt, I64 x)
    (hz : Lz w2 I C1 L.bl.length L.bl) (ho2 : w3.ownsRow b2 73 3 (.slice C2 L.pr.length p2) L.pr.length nP) (k3 : ∀ g, g < w2.heap.size → w3.heap[g]? = w2.heap[g]?) (s3 : w2.heap.size ≤ w3.heap.size) (ho3 : w4.ownsRow b3 3 1 (.slice C3 L.mt.length p3) L.mt.length nI) (k4 : ∀ g, g < w3.heap.size → w4.heap[g]? = w3.heap[g]?) (s4 : w3.heap.size ≤ w4.heap.size) (bel : Below W1.heap.size W1 w4)
    (hP : ∀ (i : Nat) (p : Pg), L.pr[i]? = some p → nP[i * 3]? = some (.int .i64 p.num) ∧ nP[i * 3 + 1]? = some (.int .i64 p.first) ∧ nP[i * 3 + 2]? = some (.int .i64 p.stop)) (hI : ∀ (i : Nat) (x : Int), L.mt[i]? = some x → nI[i]? = some (.int .i64 x)) (m1 : ∀ g, I g → W1.heap.size ≤ g) (m2 : W1.heap.size ≤ b2) (m3 : W1.heap.size ≤ b3) :
    NwMid W1 L (.pointer (some ⟨w4.heap.size, 0, none⟩)) (w4.alloc (.cells #[.slice C1 L.bl.length p1, .slice C2 L.pr.length p2, .slice C3 L.mt.length p3] 32)) := by
  have b5 : Below w4.heap.size w4 (w4.alloc (.cells #[.slice C1 L.bl.length p1, .slice C2 L.pr.length p2, .slice C3 L.mt.length p3] 32)) := (Below.refl _ _).alloc (Nat.le_refl _) _
  have hpm : L.pr.length ≤ maxLen := by unfold maxLen; omega
  have hmm : L.mt.length ≤ maxLen := by have := hf.few; unfold maxLen; omega
  have hs := b5.size
  have hLz : Lz (w4.alloc (.cells #[.slice C1 L.bl.length p1, .slice C2 L.pr.length p2, .slice C3 L.mt.length p3] 32)) (fun g => W1.heap.size ≤ g) C1 L.bl.length L.bl := Lz.keep (by omega) (fun g _ h => m1 g h) (fun g hg _ => (b5.block g (by omega)).trans ((k4 g (by omega)).trans (k3 g hg))) hz
  refine ⟨_, C1, C2, C3, p1, p2, p3, rfl, bel.trans (b5.mono bel.size), heap_alloc_new _ _, ⟨hLz.rd, ?_, ?_⟩, hLz, fun ab off e => Nat.le_trans m2 (own_low ho2 ab off e), fun ab off e => Nat.le_trans m3 (own_low ho3 ab off e)⟩
  · exact rdP_own (owns_keep ho2 fun g hg _ => (b5.block g (by omega)).trans (k4 g hg)) hP hpm h1
  · exact rdI_own (owns_keep ho3 fun g hg _ => b5.block g hg) hI hmm h2
theorem mx_start {wc w5 : World} {L : Lb} {sk : Bool} {k : Nat} {first : Int} {C1 C2 C3 : Option Addr} {p1 p2 p3 : Nat} (hrd : RdLb wc wc.heap.size L C1 L.bl.length C2 L.pr.length C3 L.mt.length) (hf : L.fine) (ht : Tab wc) (htn : Tn wc) (hsx : Sx w5 (wc.heap.size + 1) wc.heap.size ⟨[fun _ => 0], fun _ => 0⟩) (hb : Below wc.heap.size wc w5) (hk : k < L.pr.length) (h1 : 0 ≤ first) (h2 : first ≤ 100000) :
    MX (w5.alloc (.cells #[.slice C1 L.bl.length p1, .slice C2 L.pr.length p2, .slice C3 L.mt.length p3, .bool sk, .int .i64 (k : Int), .int .i64 first, .slice none 0 0, .pointer (some ⟨wc.heap.size + 1, 0, none⟩), .int .i64 0, .bool false, .int .i64 0] 81)) wc.heap.size ⟨w5.heap.size, wc.heap.size + 1, wc.heap.size, none, []⟩ L sk (startM (k, first)) := by
  have b5 : Below w5.heap.size w5 (w5.alloc (.cells #[.slice C1 L.bl.length p1, .slice C2 L.pr.length p2, .slice C3 L.mt.length p3, .bool sk, .int .i64 (k : Int), .int .i64 first, .slice none 0 0, .pointer (some ⟨wc.heap.size + 1, 0, none⟩), .int .i64 0, .bool false, .int .i64 0] 81)) := (Below.refl _ _).alloc (Nat.le_refl _) _
  have hl := hsx.lt
  have hbb := hb.trans (b5.mono hb.size)
  refine ⟨by dsimp only; omega, by dsimp only; omega, by dsimp only; omega, by dsimp only; omega, by dsimp only; omega, fun x hx => (by cases hx), ht.below hbb ht.lt, ht.lt, htn.below hbb htn.lt, htn.lt, hf, hsx.below b5, ⟨fun f hf => ?_, Vf.zero⟩, ?_, hk, ⟨by show (0 : Int) ≤ 0; omega, by show (0 : Int) ≤ 20000; omega⟩, trivial, by show 0 ≤ 8; omega, fun c hc => (by cases hc), ?_⟩
  · have : f = fun _ => 0 := by simpa [startM] using hf
    rw [this]; exact Vf.zero
  · show I64 first
    unfold I64; omega
  · exact ⟨C1, C2, C3, none, p1, p2, p3, 0, [], heap_alloc_new _ _, hrd.below hbb, World.ownsRow_nil _ _ _ _, fun g hg => (by cases hg), rfl, fun i c hc => (by cases hc)⟩
theorem Rz.rdB {w : World} {I : Nat → Prop} {B : Nat} (hB : ∀ g, I g → g < w.heap.size → g < B) {t : Tr} : ∀ {v : Value}, Rz w I t v → Rd w B t v := by
  induction t with
  | none_ => intro v h; exact h.elim
  | mk op n k kid ih =>
    intro v ⟨A, c, h1, h2, h3, h4, h5⟩
    refine ⟨A, c, h1, h2, h3, h4, fun h => ?_⟩
    rcases h5 with ⟨_, h5⟩ | ⟨g, e, hi, hl, hr⟩
    · omega
    refine ⟨g, 0, e, hB g hi hl, fun i hi' => ?_⟩
    obtain ⟨x, y, z, c1, c2, c3, c4⟩ := hr i hi'
    rw [Nat.zero_add]
    exact ⟨x, y, z, c1, c2, c3, ih i c4⟩
theorem Wz.rdB {w : World} {I : Nat → Prop} {B : Nat} (hB : ∀ g, I g → g < w.heap.size → g < B) {A : Option Addr} {k : Nat} {ws : List (Int × Tr)} (h : Wz w I A k ws) : RdW w B A k ws := by
  obtain ⟨h1, h2, h3, h4⟩ := h
  refine ⟨h1, h2, h3, fun hp => ?_⟩
  rcases h4 with ⟨_, h4⟩ | ⟨g, e, hi, hl, hr⟩
  · omega
  refine ⟨g, 0, e, hB g hi hl, fun i x hx => ?_⟩
  obtain ⟨c, t⟩ := x
  obtain ⟨c0, x, y, z, c1, c2, c3, c4⟩ := hr i c t hx
  rw [Nat.zero_add]
  exact ⟨c0, x, y, z, c1, c2, c3, c4.rdB hB⟩
theorem Kz.rdB {w : World} {I : Nat → Prop} {B : Nat} (hB : ∀ g, I g → g < w.heap.size → g < B) {g o : Nat} {b : Bk} (h : Kz w I g o b) : RdK w B g o b := by
  obtain ⟨A, k, c, l0, l1, l2, x0, x1, x2, h1, h2⟩ := h
  exact ⟨A, k, c, l0, l1, l2, x0, x1, x2, h1, h2.kind, h2.label, h2.n, h2.words.rdB hB, h2.left.rdB hB, h2.x.rdB hB⟩
theorem Lz.rdB {w : World} {I : Nat → Prop} {B : Nat} (hB : ∀ g, I g → g < w.heap.size → g < B) {A : Option Addr} {k : Nat} {l : List Bk} (h : Lz w I A k l) : RdL w B A k l := by
  obtain ⟨h1, h2, h4⟩ := h
  refine ⟨h1, h2, fun hp => ?_⟩
  rcases h4 with ⟨_, h4⟩ | ⟨g, e, hi, hl, hr⟩
  · omega
  refine ⟨g, 0, e, hB g hi hl, fun i b hb => ?_⟩
  rw [Nat.zero_add]
  exact (hr i b hb).rdB fun j hj hl => hB j hj.1 hl
theorem RdP.low {w w' : World} {B : Nat} {A : Option Addr} {k : Nat} {l : List Pg} (h : RdP w B A k l) (hk : ∀ ab off : Nat, A = some ⟨ab, off, none⟩ → ab < B → w'.heap[ab]? = w.heap[ab]?) : RdP w' B A k l := by
  obtain ⟨h1, h2, h3, h4⟩ := h
  refine ⟨h1, h2, h3, fun hp => ?_⟩
  obtain ⟨ab, off, e, hab, hc⟩ := h4 hp
  have q := hk ab off e hab
  exact ⟨ab, off, e, hab, fun i p hi => ⟨(cell_hp q).trans (hc i p hi).1, (cell_hp q).trans (hc i p hi).2.1, (cell_hp q).trans (hc i p hi).2.2⟩⟩
theorem RdI.low {w w' : World} {B : Nat} {A : Option Addr} {k : Nat} {l : List Int} (h : RdI w B A k l) (hk : ∀ ab off : Nat, A = some ⟨ab, off, none⟩ → ab < B → w'.heap[ab]? = w.heap[ab]?) : RdI w' B A k l := by
  obtain ⟨h1, h2, h3, h4⟩ := h
  refine ⟨h1, h2, h3, fun hp => ?_⟩
  obtain ⟨ab, off, e, hab, hc⟩ := h4 hp
  have q := hk ab off e hab
  exact ⟨ab, off, e, hab, fun i p hi => (cell_hp q).trans (hc i p hi)⟩
/-- The new machine reads alike in each world that keeps the blocks that New has made. -/
theorem mx_low {wc w5 w2 : World} {L : Lb} {sk : Bool} {k n : Nat} {first : Int} {C1 C2 C3 : Option Addr} {p1 p2 p3 : Nat} (hrd : RdLb wc wc.heap.size L C1 L.bl.length C2 L.pr.length C3 L.mt.length) (hf : L.fine) (ht : Tab wc) (htn : Tn wc) (hsx : Sx w5 (wc.heap.size + 1) wc.heap.size ⟨[fun _ => 0], fun _ => 0⟩) (hb : Below wc.heap.size wc w5) (hk : k < L.pr.length) (h1 : 0 ≤ first) (h2 : first ≤ 100000)
    (hn : n ≤ wc.heap.size) (hlz : Lz wc (fun g => n ≤ g) C1 L.bl.length L.bl) (hl2 : ∀ ab off : Nat, C2 = some ⟨ab, off, none⟩ → n ≤ ab) (hl3 : ∀ ab off : Nat, C3 = some ⟨ab, off, none⟩ → n ≤ ab)
    (hs : (w5.alloc (.cells #[.slice C1 L.bl.length p1, .slice C2 L.pr.length p2, .slice C3 L.mt.length p3, .bool sk, .int .i64 (k : Int), .int .i64 first, .slice none 0 0, .pointer (some ⟨wc.heap.size + 1, 0, none⟩), .int .i64 0, .bool false, .int .i64 0] 81)).heap.size ≤ w2.heap.size)
    (hkk : ∀ g, n ≤ g → g < (w5.alloc (.cells #[.slice C1 L.bl.length p1, .slice C2 L.pr.length p2, .slice C3 L.mt.length p3, .bool sk, .int .i64 (k : Int), .int .i64 first, .slice none 0 0, .pointer (some ⟨wc.heap.size + 1, 0, none⟩), .int .i64 0, .bool false, .int .i64 0] 81)).heap.size → w2.heap[g]? = (w5.alloc (.cells #[.slice C1 L.bl.length p1, .slice C2 L.pr.length p2, .slice C3 L.mt.length p3, .bool sk, .int .i64 (k : Int), .int .i64 first, .slice none 0 0, .pointer (some ⟨wc.heap.size + 1, 0, none⟩), .int .i64 0, .bool false, .int .i64 0] 81)).heap[g]?)
    (ht2 : Tab w2) (htn2 : Tn w2) : MX w2 wc.heap.size ⟨w5.heap.size, wc.heap.size + 1, wc.heap.size, none, []⟩ L sk (startM (k, first)) := by
  have h := mx_start (sk := sk) (p1 := p1) (p2 := p2) (p3 := p3) hrd hf ht htn hsx hb hk h1 h2
  have hnew := heap_alloc_new w5 (.cells #[.slice C1 L.bl.length p1, .slice C2 L.pr.length p2, .slice C3 L.mt.length p3, .bool sk, .int .i64 (k : Int), .int .i64 first, .slice none 0 0, .pointer (some ⟨wc.heap.size + 1, 0, none⟩), .int .i64 0, .bool false, .int .i64 0] 81)
  have b5 : Below w5.heap.size w5 (w5.alloc (.cells #[.slice C1 L.bl.length p1, .slice C2 L.pr.length p2, .slice C3 L.mt.length p3, .bool sk, .int .i64 (k : Int), .int .i64 first, .slice none 0 0, .pointer (some ⟨wc.heap.size + 1, 0, none⟩), .int .i64 0, .bool false, .int .i64 0] 81)) := (Below.refl _ _).alloc (Nat.le_refl _) _
  generalize (w5.alloc (.cells #[.slice C1 L.bl.length p1, .slice C2 L.pr.length p2, .slice C3 L.mt.length p3, .bool sk, .int .i64 (k : Int), .int .i64 first, .slice none 0 0, .pointer (some ⟨wc.heap.size + 1, 0, none⟩), .int .i64 0, .bool false, .int .i64 0] 81)) = W at hs hkk h hnew b5
  have hl := hsx.lt
  have hbs := hb.size
  have hWs := b5.size
  have hmb := h.lt
  have kc : ∀ g, n ≤ g → g < wc.heap.size → w2.heap[g]? = wc.heap[g]? := fun g h1 h2 => (hkk g h1 (by omega)).trans ((b5.block g (by omega)).trans (hb.block g h2))
  refine ⟨h.mb_ge, h.sb_ge, h.lb_ge, h.ne1, h.ne2, fun x hx => (by cases hx), ht2, h.tabB, htn2, h.tnB, h.fine, h.sto.keep (hkk _ (by dsimp only; omega) (by dsimp only; omega)) (hkk _ (by dsimp only; omega) (by dsimp only; omega)), h.vf, h.pos, h.prog, h.steps, h.err, h.few, h.calls, ?_⟩
  refine ⟨C1, C2, C3, none, p1, p2, p3, 0, [], (hkk w5.heap.size (by omega) hmb).trans hnew, ⟨?_, ?_, ?_⟩, World.ownsRow_nil _ _ _ _, fun g hg => (by cases hg), rfl, fun i c hc => (by cases hc)⟩
  · exact Lz.rdB (I := fun g => n ≤ g ∧ g < wc.heap.size) (fun g hg _ => hg.2) (Lz.keep (w := wc) (by omega) (fun g hg hi => ⟨hi, hg⟩) (fun g hg hi => kc g hi hg) hlz)
  · exact hrd.pr.low fun ab off e hab => kc ab (hl2 ab off e) hab
  · exact hrd.mt.low fun ab off e hab => kc ab (hl3 ab off e) hab
def NwRel (W0 : World) (L : Lb) (i : Value) (W : World) : Prop := ∃ k : Nat, k ≤ L.pr.length ∧ i = .int .i64 (k : Int) ∧ Below W0.heap.size W0 W ∧ newFrom L.bl.length L.pr 0 = newFrom L.bl.length (L.pr.drop k) k
set_option maxRecDepth 100000 in
set_option maxHeartbeats 40000000 in
theorem fnew_any (w : World) (I : Nat → Prop) (L : Lb) (sk : Bool) (A1 A2 A3 : Option Addr) (c1 c2 c3 : Nat) (h : LzB w I L A1 A2 A3) (ht : Tab w) (htn : Tn w) :
    Calls Tryz.prog 14 #[.agg #[.slice A1 L.bl.length c1, .slice A2 L.pr.length c2, .slice A3 L.mt.length c3], .bool sk] w (NwPost L sk w) := by
  have HL := Lib.hid h
  have HT := Lib.hid ht
  have HTN := Lib.hid htn
  obtain ⟨W0, hW0⟩ : ∃ W0, W0 = w.alloc (.cells #[.slice A1 L.bl.length c1, .slice A2 L.pr.length c2, .slice A3 L.mt.length c3] 32) := ⟨_, rfl⟩
  have HB0 : Hid (Below w.heap.size w W0) := by unfold Hid; rw [hW0]; exact (Below.refl _ _).alloc (Nat.le_refl _) _
  have hbx : W0.heap[w.heap.size]? = some (.cells #[.slice A1 L.bl.length c1, .slice A2 L.pr.length c2, .slice A3 L.mt.length c3] 32 (0, 0)) := by rw [hW0]; exact heap_alloc_new _ _
  have hx0 := hlS hbx
  have b1 : W0.cell? ⟨w.heap.size, 1, none⟩ = some (.slice A2 L.pr.length c2) := cell_of_row W0 _ 1 _ _ _ hbx
  have HBX := Lib.hid hbx
  have hpl := h.prN
  have hbl : L.bl.length ≤ 100000 := h.fine.bl
  have hml : L.mt.length ≤ 100000 := h.fine.few
  obtain ⟨nP, nP1, nP2, nP3, nP4⟩ := h.pr.news
  obtain ⟨nI, nI1, nI2, nI3, nI4⟩ := h.mt.news
  have NP1 := Lib.hid nP1; have NP2 := Lib.hid nP2; have NP3 := Lib.hid nP3; have NP4 := Lib.hid nP4
  have NI1 := Lib.hid nI1; have NI2 := Lib.hid nI2; have NI3 := Lib.hid nI3; have NI4 := Lib.hid nI4
  have HRP := Lib.hid h.pr
  clear h ht htn nP1 nP2 nP3 nP4 nI1 nI2 nI3 nI4 hbx
  have HR0 : Hid (NwRel W0 L (.int .i64 0) W0) := ⟨0, by omega, rfl, Below.refl _ _, rfl⟩
  go_enter Tryz.func14, Tryz.ntmps14
  go_wp2_with fail
  rw [← hW0]
  clear hW0
  go_loopw [12] (NwRel W0 L) (fun i _ => L.pr.length - (intOf i).toNat)
  case atStart => exact HR0.out
  case round =>
    obtain ⟨k, hk, rfl, hb, her⟩ := hrel
    have HB := Lib.hid hb
    have HER := Lib.hid her
    clear hb her b1
    have HSW : Hid (W0.heap.size ≤ wr.heap.size) := HB.out.size
    have HD0 : Hid (∀ W, Below wr.heap.size wr W → W.cell? ⟨w.heap.size, 0, none⟩ = some (.slice A1 L.bl.length c1) ∧ W.cell? ⟨w.heap.size, 1, none⟩ = some (.slice A2 L.pr.length c2) ∧ W.cell? ⟨w.heap.size, 2, none⟩ = some (.slice A3 L.mt.length c3)) := fun W hW =>
      have q : ∀ i, W.cell? ⟨w.heap.size, i, none⟩ = W0.cell? ⟨w.heap.size, i, none⟩ := fun i => (hW.cell (p := ⟨w.heap.size, i, none⟩) (Nat.lt_of_lt_of_le hx0 HSW.out)).trans (HB.out.cell (p := ⟨w.heap.size, i, none⟩) hx0)
      ⟨(q 0).trans (cell_of_row W0 _ 0 _ _ _ HBX.out), (q 1).trans (cell_of_row W0 _ 1 _ _ _ HBX.out), (q 2).trans (cell_of_row W0 _ 2 _ _ _ HBX.out)⟩
    have HAL : Hid (∀ o : Obj, Below wr.heap.size wr (wr.alloc o)) := fun o => (Below.refl _ _).alloc (Nat.le_refl _) o
    have d0 : ∀ o : Obj, (wr.alloc o).cell? ⟨w.heap.size, 0, none⟩ = some (.slice A1 L.bl.length c1) := fun o => (HD0.out _ (HAL.out o)).1
    by_cases hlt : k < L.pr.length
    · obtain ⟨ab, off, rfl, hab, hc⟩ := HRP.out.2.2.2 (by omega)
      obtain ⟨⟨num, first, stop⟩, hx⟩ : ∃ x, L.pr[k]? = some x := ⟨_, List.getElem?_eq_getElem hlt⟩
      obtain ⟨y0, y1, y2⟩ := hc k _ hx
      dsimp only at y0 y1 y2
      have hbw : Below w.heap.size w wr := HB0.out.trans (HB.out.mono (by omega))
      have HBW := Lib.hid hbw
      have z0 := (hbw.cell (p := ⟨ab, off + k * 3, none⟩) hab).trans y0
      have z1 := (hbw.cell (p := ⟨ab, off + k * 3 + 1, none⟩) hab).trans y1
      have z2 := (hbw.cell (p := ⟨ab, off + k * 3 + 2, none⟩) hab).trans y2
      have hcase : newFrom L.bl.length L.pr 0 = if 0 ≤ first ∧ first < stop ∧ stop ≤ (L.bl.length : Int) then some (k, first) else newFrom L.bl.length (L.pr.drop (k + 1)) (k + 1) := by
        rw [HER.out, drop_at hx]; rfl
      have HCS := Lib.hid hcase
      have HX := Lib.hid hx
      clear hc y0 y1 y2 hcase hbw hx
      by_cases hgo : 0 ≤ first ∧ first < stop ∧ stop ≤ (L.bl.length : Int)
      · obtain ⟨g1, g2, g3⟩ := hgo
        have HNS : Hid (newS L = some (startM (k, first))) := by unfold Hid newS; rw [HCS.out, if_pos ⟨g1, g2, g3⟩]; rfl
        go_upto_region 5 with (fail)
        clear d0
        obtain ⟨W1, hW1⟩ : ∃ W1, W1 = wr.alloc (.cells #[.int .i64 num, .int .i64 first, .int .i64 stop] 73) := ⟨_, rfl⟩
        rw [← hW1]
        have HB1 : Hid (Below wr.heap.size wr W1) := by unfold Hid; rw [hW1]; exact HAL.out _
        have X1 : Hid (W1.heap[wr.heap.size]? = some (.cells #[.int .i64 num, .int .i64 first, .int .i64 stop] 73 (0, 0))) := by unfold Hid; rw [hW1]; exact heap_alloc_new _ _
        have HX1 : Hid (wr.heap.size < W1.heap.size) := hlS X1.out
        have hSx : w.heap.size < W1.heap.size := Nat.lt_of_lt_of_le (Nat.lt_of_lt_of_le hx0 HSW.out) HB1.out.size
        have S0 : Hid (W1.drew.cell? ⟨w.heap.size, 0, none⟩ = some (.slice A1 L.bl.length c1) ∧ W1.drew.cell? ⟨w.heap.size, 1, none⟩ = some (.slice (some ⟨ab, off, none⟩) L.pr.length c2) ∧ W1.drew.cell? ⟨w.heap.size, 2, none⟩ = some (.slice A3 L.mt.length c3)) := HD0.out _ (below_dn HB1.out 1)
        have HBw1 : Hid (Below w.heap.size w W1) := HBW.out.trans (HB1.out.mono (Nat.le_trans (Nat.le_of_lt hx0) HSW.out))
        have HC1 : Hid (∀ W, Below W1.heap.size W1 W → Calls Tryz.prog 31 #[.slice A1 L.bl.length c1] W fun e w' => ∃ (C : Option Addr) (cp : Nat), e = .returned (.slice C L.bl.length cp) ∧ Lz w' (fun g => W.heap.size ≤ g) C L.bl.length L.bl ∧ Below W.heap.size W w') :=
          fun W hW => lcopy_any W I A1 c1 L.bl (Lz.keep (Nat.le_trans HBw1.out.size hW.size) (fun _ _ h => h) (fun g hg _ => (hW.block g (Nat.lt_of_lt_of_le hg HBw1.out.size)).trans (HBw1.out.block g hg)) HL.out.bl) HL.out.slim hbl
        have HBn : Hid (Below W1.heap.size W1 W1.drew) := below_dn (Below.refl _ _) 1
        have HC2 : Hid (∀ W, Below W1.heap.size W1 W → Calls Tryz.prog 32 #[.slice (some ⟨ab, off, none⟩) L.pr.length c2] W fun e w' => ∃ (C : Option Addr) (cp : Nat), e = .returned (.slice C L.pr.length cp) ∧ w'.ownsRow W.heap.size 73 3 (.slice C L.pr.length cp) L.pr.length nP ∧ Below W.heap.size W w') :=
          fun W hW => clonePr W _ _ c2 nP NP1.out (by omega) (NP2.out W (HBw1.out.trans (hW.mono HBw1.out.size))) NP3.out HL.out.prA
        have HC3 : Hid (∀ W, Below W1.heap.size W1 W → Calls Tryz.prog 33 #[.slice A3 L.mt.length c3] W fun e w' => ∃ (C : Option Addr) (cp : Nat), e = .returned (.slice C L.mt.length cp) ∧ w'.ownsRow W.heap.size 3 1 (.slice C L.mt.length cp) L.mt.length nI ∧ Below W.heap.size W w') :=
          fun W hW => cloneIn W _ _ c3 nI NI1.out (by omega) (NI2.out W (HBw1.out.trans (hW.mono HBw1.out.size))) NI3.out HL.out.mtA
        clear hW1
        have HKP : Hid (∀ W, Below W1.heap.size W1 W → W.cell? ⟨w.heap.size, 0, none⟩ = some (.slice A1 L.bl.length c1) ∧ W.cell? ⟨w.heap.size, 1, none⟩ = some (.slice (some ⟨ab, off, none⟩) L.pr.length c2) ∧ W.cell? ⟨w.heap.size, 2, none⟩ = some (.slice A3 L.mt.length c3)) := fun W hW => HD0.out W (HB1.out.trans (hW.mono (Nat.le_of_lt HX1.out)))
        go_cut [8] from 35 to 44 (NwMid W1 L)
        case first =>
          go_region_held3 (fun w' => w'.cell? ⟨w.heap.size, 0, none⟩ = some (.slice A1 L.bl.length c1) ∧ w'.cell? ⟨w.heap.size, 1, none⟩ = some (.slice (some ⟨ab, off, none⟩) L.pr.length c2) ∧ w'.cell? ⟨w.heap.size, 2, none⟩ = some (.slice A3 L.mt.length c3)) (first | with_reducible exact S0.out | exact HKP.out _ HBn.out | exact HKP.out _ (HBn.out.alloc HBn.out.size _) | exact HKP.out _ (below_set3 HBn.out (Nat.le_refl _) 0 _ _ _) | exact HKP.out _ (below_set3 HBn.out HS2.out 0 _ _ _) | exact HKP.out _ (below_set3 HBn.out (Nat.le_trans HS2.out HS3.out) 0 _ _ _) | fail) (first | (go_at_call 31; refine (HC1.out _ (by first | exact HBn.out | exact HBn.out.alloc HBn.out.size _)).mono ?_; rintro e w2 ⟨C1, p1, rfl, hz, hb⟩; have HZ1 := Lib.hid hz; have HBm : Hid (Below W1.heap.size W1 w2) := (by first | exact HBn.out.trans (hb.mono HBn.out.size) | exact (HBn.out.alloc HBn.out.size _).trans (hb.mono (HBn.out.alloc HBn.out.size _).size)); (first | (have E1 := Lib.hid ((hb.block W1.heap.size (by simp)).trans (heap_alloc_new W1.drew _))) | skip); have HS2 : Hid (W1.heap.size ≤ w2.heap.size) := HBm.out.size; clear HBn; have HBn := Lib.hid HBm.out; clear hz hb HBm) | (go_at_call 32; refine (HC2.out _ (by first | exact HBn.out | exact HBn.out.alloc HBn.out.size _)).mono ?_; rintro e w3 ⟨C2, p2, rfl, ho, hb⟩; have HO2 := Lib.hid ho; have HK3 := Lib.hid ((by first | exact fun g hg => hb.block g hg | exact fun g hg => (hb.block g (by simp; omega)).trans (Below.heap_alloc _ _ g hg)) : ∀ g, g < w2.heap.size → w3.heap[g]? = w2.heap[g]?); have HS3 := Lib.hid ((by first | exact hb.size | exact Nat.le_trans (by simp) hb.size) : w2.heap.size ≤ w3.heap.size); (first | (have E2 := Lib.hid ((HK3.out _ (hlS E1.out)).trans E1.out)) | (have E2 := Lib.hid ((hb.block w2.heap.size (by simp)).trans (heap_alloc_new w2 _))) | skip); have HBm : Hid (Below W1.heap.size W1 w3) := (by first | exact HBn.out.trans (hb.mono HBn.out.size) | exact (HBn.out.alloc HBn.out.size _).trans (hb.mono (HBn.out.alloc HBn.out.size _).size)); clear HBn; have HBn := Lib.hid HBm.out; clear ho hb HBm) | (go_at_call 33; refine (HC3.out _ (by first | exact HBn.out | exact HBn.out.alloc HBn.out.size _)).mono ?_; rintro e w4 ⟨C3, p3, rfl, ho, hb⟩; have HO3 := Lib.hid ho; have HK4 := Lib.hid ((by first | exact fun g hg => hb.block g hg | exact fun g hg => (hb.block g (by simp; omega)).trans (Below.heap_alloc _ _ g hg)) : ∀ g, g < w3.heap.size → w4.heap[g]? = w3.heap[g]?); have HS4 := Lib.hid ((by first | exact hb.size | exact Nat.le_trans (by simp) hb.size) : w3.heap.size ≤ w4.heap.size); (first | (have E3 := Lib.hid ((HK4.out _ (hlS E2.out)).trans E2.out)) | (have E3 := Lib.hid ((hb.block w3.heap.size (by simp)).trans (heap_alloc_new w3 _))) | skip); have HBm : Hid (Below W1.heap.size W1 w4) := (by first | exact HBn.out.trans (hb.mono HBn.out.size) | exact (HBn.out.alloc HBn.out.size _).trans (hb.mono (HBn.out.alloc HBn.out.size _).size)); clear HBn; have HBn := Lib.hid HBm.out; (first | (have y0 := cell_of_row w4 _ 0 _ _ _ E3.out; have y1 := cell_of_row w4 _ 1 _ _ _ E3.out; have y2 := cell_of_row w4 _ 2 _ _ _ E3.out; have yf := froz3 E3.out) | skip); clear ho hb HBm))
          all_goals go_wp2_with fail
          all_goals go_meet
          have HP64 := Lib.hid HRP.out.2.2.1
          have HI64 := Lib.hid HL.out.mt.2.2.1
          all_goals first | exact NwMid.late2 HL.out.fine hpl HRP.out.2.2.1 HL.out.mt.2.2.1 HZ1.out HO2.out HK3.out HS3.out HO3.out HK4.out HS4.out HBn.out NP4.out NI4.out (fun g hg => by have := HS2.out; have := HS3.out; (try simp at hg); omega) (by have := HS2.out; have := HS3.out; (try simp); omega) (by have := HS2.out; have := HS3.out; (try simp); omega) | exact NwMid.gen HL.out.fine hpl HRP.out.2.2.1 HL.out.mt.2.2.1 HZ1.out HO2.out HK3.out HS3.out HO3.out HK4.out HS4.out HBn.out NP4.out NI4.out E3.out (by have := HS2.out; have := HS3.out; omega) (fun g hg hl => by have := HS2.out; have := HS3.out; (try have := hlS E1.out); (try have := hlS E2.out); (try simp at hg); omega) (fun g hg hl => by have := HS2.out; have := HS3.out; (try have := hlS E1.out); (try have := hlS E2.out); (try simp at hg); omega) (fun g hg => by have := HS2.out; have := HS3.out; (try have := hlS E1.out); (try have := hlS E2.out); (try simp at hg); omega) (fun g hg => by have := HS2.out; have := HS3.out; (try simp at hg); omega) (by have := HS2.out; have := HS3.out; (try simp); omega) (by have := HS2.out; have := HS3.out; (try simp); omega)
        case rest =>
          obtain ⟨q, C1, C2, C3, p1, p2, p3, rfl, hbw, hq, hrd, hlz, hl2, hl3⟩ := hcut
          have HRD := Lib.hid hrd
          have HLZ := Lib.hid hlz
          have HL2 := Lib.hid hl2
          have HL3 := Lib.hid hl3
          have HSX1 : Hid (w.heap.size ≤ W1.heap.size) := Nat.le_of_lt hSx
          clear hlz hl2 hl3
          have hqs := hlS hq
          have hws := hbw.size
          have HBC : Hid (Below w.heap.size w wc) := HBw1.out.trans (hbw.mono HBw1.out.size)
          have e4 := (hbw.cell (p := ⟨wr.heap.size, 1, none⟩) HX1.out).trans (cell_of_row W1 _ 1 _ _ _ X1.out)
          have s0 : wc.drew.cell? ⟨q, 0, none⟩ = some (.slice C1 L.bl.length p1) ∧ wc.drew.cell? ⟨q, 1, none⟩ = some (.slice C2 L.pr.length p2) ∧ wc.drew.cell? ⟨q, 2, none⟩ = some (.slice C3 L.mt.length p3) ∧ wc.drew.cell? ⟨wr.heap.size, 1, none⟩ = some (.int .i64 first) := ⟨cell_of_row wc _ 0 _ _ _ hq, cell_of_row wc _ 1 _ _ _ hq, cell_of_row wc _ 2 _ _ _ hq, e4⟩
          have S0 := Lib.hid s0
          have HNV := Lib.hid (newStore_any wc.drew)
          have hxr : wr.heap.size < wc.heap.size := Nat.lt_of_lt_of_le HX1.out hws
          clear s0 e4 hq hrd hbw HKP HC1 HC2 HC3 HBn X1 z0 z1 z2
          go_wp2_with fail
          go_region_held3 (fun w' => w'.cell? ⟨q, 0, none⟩ = some (.slice C1 L.bl.length p1) ∧ w'.cell? ⟨q, 1, none⟩ = some (.slice C2 L.pr.length p2) ∧ w'.cell? ⟨q, 2, none⟩ = some (.slice C3 L.mt.length p3) ∧ w'.cell? ⟨wr.heap.size, 1, none⟩ = some (.int .i64 first)) (first | with_reducible exact S5.out | with_reducible exact S0.out | exact S6.out _ | fail) (first | (go_at_call 34; refine HNV.out.mono ?_; rintro e w5 ⟨rfl, hsx, hb⟩; have HSX := Lib.hid hsx; have HB5 : Hid (Below wc.heap.size wc w5) := ⟨hb.os, hb.tape, hb.output, hb.size, hb.block⟩; have S5 : Hid (w5.cell? ⟨q, 0, none⟩ = some (.slice C1 L.bl.length p1) ∧ w5.cell? ⟨q, 1, none⟩ = some (.slice C2 L.pr.length p2) ∧ w5.cell? ⟨q, 2, none⟩ = some (.slice C3 L.mt.length p3) ∧ w5.cell? ⟨wr.heap.size, 1, none⟩ = some (.int .i64 first)) := ⟨(HB5.out.cell (p := ⟨q, 0, none⟩) hqs).trans S0.out.1, (HB5.out.cell (p := ⟨q, 1, none⟩) hqs).trans S0.out.2.1, (HB5.out.cell (p := ⟨q, 2, none⟩) hqs).trans S0.out.2.2.1, (HB5.out.cell (p := ⟨wr.heap.size, 1, none⟩) hxr).trans S0.out.2.2.2⟩; have hbl5 : ∀ g, g < wc.heap.size → g < w5.heap.size := (fun g hg => Nat.lt_of_lt_of_le hg HB5.out.size); have S6 : Hid (∀ o : Obj, (w5.alloc o).cell? ⟨q, 0, none⟩ = some (.slice C1 L.bl.length p1) ∧ (w5.alloc o).cell? ⟨q, 1, none⟩ = some (.slice C2 L.pr.length p2) ∧ (w5.alloc o).cell? ⟨q, 2, none⟩ = some (.slice C3 L.mt.length p3) ∧ (w5.alloc o).cell? ⟨wr.heap.size, 1, none⟩ = some (.int .i64 first)) := (fun o => ⟨(cell_hp (Below.heap_alloc _ o q (hbl5 q hqs))).trans S5.out.1, (cell_hp (Below.heap_alloc _ o q (hbl5 q hqs))).trans S5.out.2.1, (cell_hp (Below.heap_alloc _ o q (hbl5 q hqs))).trans S5.out.2.2.1, (cell_hp (Below.heap_alloc _ o _ (hbl5 _ hxr))).trans S5.out.2.2.2⟩); clear hsx hb hbl5))
          go_wp2_with fail
          go_ret2
          refine ⟨?_, ?_⟩
          · exact HBC.out.trans ((HB5.out.alloc HB5.out.size _).mono HBC.out.size)
          · rw [HNS.out]
            exact ⟨wc.heap.size, ⟨w5.heap.size, wc.heap.size + 1, wc.heap.size, none, []⟩, rfl, mx_start HRD.out HL.out.fine (HT.out.below HBC.out HT.out.lt) (HTN.out.below HBC.out HTN.out.lt) HSX.out HB5.out hlt g1 (by omega), HBC.out.size, rfl, fun w2 hs2 hk2 ht2 htn2 => mx_low HRD.out HL.out.fine (HT.out.below HBC.out HT.out.lt) (HTN.out.below HBC.out HTN.out.lt) HSX.out HB5.out hlt g1 (by omega) HBC.out.size (Lz.keep (Nat.le_refl _) (fun g _ hg => Nat.le_trans HSX1.out hg) (fun _ _ _ => rfl) HLZ.out) (fun ab off e => Nat.le_trans HSX1.out (HL2.out ab off e)) (fun ab off e => Nat.le_trans HSX1.out (HL3.out ab off e)) hs2 hk2 ht2 htn2⟩
      · have E1 : Hid (newFrom L.bl.length L.pr 0 = newFrom L.bl.length (L.pr.drop (k + 1)) (k + 1)) := by unfold Hid; rw [HCS.out, if_neg hgo]
        have hno : first < 0 ∨ (0 ≤ first ∧ stop ≤ first) ∨ ((0 ≤ first ∧ first < stop) ∧ (L.bl.length : Int) < stop) := by omega
        clear hgo HCS
        rcases hno with g1 | ⟨g1, g2⟩ | ⟨⟨g1, g2⟩, g3⟩
        all_goals
          go_wp2_with fail
          exact ⟨⟨k + 1, by omega, by go_num, HB.out.alloc HB.out.size _, E1.out⟩, by simp only [intOf]; omega⟩
    · have hke : k = L.pr.length := by omega
      subst hke
      have E1 : Hid (newS L = none) := by
        unfold Hid newS
        rw [HER.out, List.drop_length]; rfl
      go_wp2_with fail
      go_ret2
      refine ⟨HB0.out.trans (HB.out.mono (by omega)), ?_⟩
      rw [E1.out]
      exact rfl
end Go.Proofs.YtdcjbhdfphcefaaGreatDoor
