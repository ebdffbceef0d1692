/- Short names. -/
import Derived.Lib.Hide
namespace Go.Proofs.YtdcjbhdfphcefaaGreatDoor
set_option linter.all false
open Go.RowKit
theorem _root_.Go.RowKit.Hid.o{p:Prop}(h:Hid p):p:=h
theorem _root_.Go.RowKit.Below.cel{b:Nat}{w w':World}(h:Below b w w')(g j:Nat)(hg:g<b):w'.cell? ⟨g,j,none⟩=w.cell? ⟨g,j,none⟩:=h.cell (p:=⟨g,j,none⟩) hg
theorem cekC{w w':World}(g j:Nat)(h:w'.heap[g]? =w.heap[g]?):w'.cell? ⟨g,j,none⟩=w.cell? ⟨g,j,none⟩:=World.cell?_of_block (a:=⟨g,j,none⟩) h
theorem cekF{w w':World}(g j:Nat)(h:w'.heap[g]? =w.heap[g]?):w'.frozen? ⟨g,j,none⟩=w.frozen? ⟨g,j,none⟩:=World.frozen?_of_block (a:=⟨g,j,none⟩) h
abbrev OA:=Option Addr
abbrev LI:=List (Int×Int)
abbrev LV:=List Value
abbrev Bw(w W:World):Prop:=Below w.heap.size w W
theorem _root_.Go.RowKit.Below.tm{w w1 w2:World}(h:Below w.heap.size w w1)(k:Below w1.heap.size w1 w2):Below w.heap.size w w2:=h.trans (k.mono h.size)
theorem _root_.Go.RowKit.Below.ct{b:Nat}{w w':World}{g j:Nat}{v:Option Value}(h:Below b w w')(hg:g<b)(q:w.cell? ⟨g,j,none⟩=v):w'.cell? ⟨g,j,none⟩=v:=(h.cell (p:=⟨g,j,none⟩) hg).trans q
theorem nB(w:World)(o:Obj):Below w.heap.size w (w.alloc o):=(Below.refl _ _).alloc (Nat.le_refl _) _
theorem unB{b:Nat}{w w1 W:World}(h:Below b w1 W)(e1:w1.os=w.os:=by rfl)(e2:w1.tape=w.tape:=by rfl)(e3:w1.output=w.output:=by rfl)(e4:w1.heap=w.heap:=by rfl):Below b w W:=
 ⟨h.os.trans e1,h.tape.trans e2,h.output.trans e3,by rw[<-e4];exact h.size,λg hg=>by rw[<-e4];exact h.block g hg⟩
theorem mo0{P:Program}{f:FuncId}{args:Array Value}{w:World}{v:Ending}{Q:Ending->World->Prop}(h:Calls P f args w λe w'=>e=v/\w=w')(k:Q v w):Calls P f args w Q:=h.mono (by rintro e w' ⟨rfl,rfl⟩;exact k)
theorem newW(w:World)(a:Array Value)(t:TypeId):∃W,W=w.alloc (.cells a t)/\Hid (Below w.heap.size w W)/\W.heap[w.heap.size]? =some (.cells a t (0,0)):=
 ⟨_,rfl,(Below.refl _ _).alloc (Nat.le_refl _) _,heap_alloc_new _ _⟩
theorem newWH(w:World)(a:Array Value)(t:TypeId):∃W,W=w.alloc (.cells a t)/\Hid (Below w.heap.size w W)/\Hid (W.heap[w.heap.size]? =some (.cells a t (0,0))):=newW w a t
section
variable {w:World} {g:Nat} {t:TypeId} {fr:Nat×Nat} {l:List Value} {a0 a1 a2 a3 a4 a5 a6:Value}
theorem ce0(h:w.heap[g]? =some (.cells ⟨a0::l⟩ t fr)):w.cell? ⟨g,0,none⟩=some a0:=cell_of_row w g 0 _ _ _ h
theorem ce1(h:w.heap[g]? =some (.cells ⟨a0::a1::l⟩ t fr)):w.cell? ⟨g,1,none⟩=some a1:=cell_of_row w g 1 _ _ _ h
theorem ce2(h:w.heap[g]? =some (.cells ⟨a0::a1::a2::l⟩ t fr)):w.cell? ⟨g,2,none⟩=some a2:=cell_of_row w g 2 _ _ _ h
theorem ce3(h:w.heap[g]? =some (.cells ⟨a0::a1::a2::a3::l⟩ t fr)):w.cell? ⟨g,3,none⟩=some a3:=cell_of_row w g 3 _ _ _ h
theorem ce4(h:w.heap[g]? =some (.cells ⟨a0::a1::a2::a3::a4::l⟩ t fr)):w.cell? ⟨g,4,none⟩=some a4:=cell_of_row w g 4 _ _ _ h
theorem ce5(h:w.heap[g]? =some (.cells ⟨a0::a1::a2::a3::a4::a5::l⟩ t fr)):w.cell? ⟨g,5,none⟩=some a5:=cell_of_row w g 5 _ _ _ h
theorem ce6(h:w.heap[g]? =some (.cells ⟨a0::a1::a2::a3::a4::a5::a6::l⟩ t fr)):w.cell? ⟨g,6,none⟩=some a6:=cell_of_row w g 6 _ _ _ h
end
theorem L0{α:Type _}{l:List α}{i:Nat}{a:α}:l.toArray.setIfInBounds i a=(l.set i a).toArray:=by simp only[List.setIfInBounds_toArray]
theorem L4{α:Type _}{a b:α}{l:List α}:(a::l).set 0 b=b::l:=rfl
theorem L5{α:Type _}{a b:α}{l:List α}{i:Nat}:(a::l).set (i+1) b=a::l.set i b:=rfl
abbrev Hd:= @Lib.hid
abbrev Ro:= @cell_of_row
abbrev Le:= @Nat.le_refl
abbrev Bf:= @Below.refl
abbrev Lt:= @Nat.lt_of_lt_of_le
abbrev Bj:= @Below.heap_setCell
abbrev Gg:= @List.getElem?_eq_getElem
abbrev Hn:= @heap_alloc_new
abbrev Iq:= @if_neg
abbrev Ip:= @if_pos
abbrev Gu:= @List.getElem?_eq_some_iff
abbrev Gd:= @List.getD_eq_getElem?_getD
abbrev Df:= @decide_eq_false
abbrev Dt:= @decide_eq_true
abbrev Wf:= @World.frozen?_of_block
abbrev Wb:= @World.cell?_of_block
abbrev Bm:= @Below.heap_alloc
abbrev Ly:= @Nat.le_trans
abbrev Ez:= @List.eq_nil_of_length_eq_zero
abbrev Mg:= @List.mem_of_getElem?
abbrev Oi:= @Option.some.injEq
abbrev Ga:= @List.getElem?_append_right
abbrev Gc:= @List.getElem?_append_left
abbrev Mt:= @List.mem_singleton
abbrev Ag:= @Array.getElem?_eq_some_iff
abbrev Ah:= @Array.getElem?_setIfInBounds
abbrev Ma:= @List.mem_append
abbrev Oj:= @Option.some.inj
abbrev Gt:= @List.getElem?_take
abbrev Mu:= @List.mem_cons_self
abbrev Ie:= @Int.emod_lt_of_pos
abbrev Lq:= @Nat.zero_le
abbrev Dl:= @List.drop_length
abbrev La:= @List.length_append
abbrev Lc:= @List.length_cons
abbrev Io:= @Int.emod_nonneg
abbrev Ij:= @Int.eq_ofNat_of_zero_le
abbrev Ll:= @Nat.le_of_lt
abbrev Im:= @Int.mul_nonneg
abbrev Lr:= @List.length_take
abbrev On:= @Option.map_none
abbrev Om:= @Option.map_some
abbrev Ob:= @Option.bind_some
abbrev Vs:= @Value.slice.injEq
abbrev Wl:= @World.cell?_alloc_lt
abbrev Du:= @decide_eq_true_eq
abbrev Ta:= @List.take_add_one
abbrev Ld:= @List.length_dropLast
abbrev Nz:= @Nat.eq_zero_or_pos
abbrev At:= @Array.getElem?_toList
abbrev Il:= @Int.lt_or_le
abbrev Tm:= @List.take_length
abbrev It:= @Int.toNat_natCast
abbrev Gm:= @List.getElem?_map
abbrev Ba1:= @Bool.and_eq_true
abbrev Pj:= @Prod.mk.injEq
abbrev Nc:= @Nat.add_sub_cancel_left
abbrev Mm:= @List.mem_cons_of_mem
end Go.Proofs.YtdcjbhdfphcefaaGreatDoor
