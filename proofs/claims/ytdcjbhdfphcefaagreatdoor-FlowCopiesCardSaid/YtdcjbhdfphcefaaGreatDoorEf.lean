/- The contract of Expr of cncstage, its result read closely: some well-formed expression of at most the given depth: which is not said. Conditions: the list that came in reads as integers; the depth is from 1 to 16. -/
import Derived.Test.YtdcjbhdfphcefaaGreatDoorSk
import Derived.Test.YtdcjbhdfphcefaaGreatDoorTn
import Derived.Deep.RegionHeld3
import Derived.Deep.RegionWith
import Derived.Laws.Rows
import Derived.Deep.Cut
import Derived.Deep.CutRange
set_option linter.unusedVariables false
set_option linter.unusedSimpArgs false
namespace Go.Proofs.YtdcjbhdfphcefaaGreatDoor
open Go.RowKit
def pairT(a b:Tr):Nat→Tr:=fun i=>if i=0 then a else b
def oneK(a:Tr):Nat→Tr:=fun _=>a
def twoT(op:Int)(a b:Tr):Tr:=.mk op 0 2 (pairT a b)
def unT(op:Int)(a:Tr):Tr:=.mk op 0 1 (oneK a)
def Rb(w:World)(b:Nat)(t:Tr)(v:Value):Prop:=Rz w (fun g=>b<g) t v
theorem three{w:World}{g:Nat}{x y z:Value}{T:TypeId}(h:w.heap[g]? =some (.cells #[x,y,z] T (0,0))):w.cell? ⟨g,0,none⟩=some x∧w.cell? ⟨g,1,none⟩=some y∧w.cell? ⟨g,2,none⟩=some z:=
 ⟨cell_of_row w g 0 _ _ _ h,cell_of_row w g 1 _ _ _ h,cell_of_row w g 2 _ _ _ h⟩
theorem hltq{w:World}{g:Nat}{x:Obj}(h:w.heap[g]? =some x):g<w.heap.size:=(Array.getElem?_eq_some_iff.1 h).1
theorem froz{w:World}{g:Nat}{cs:Array Value}{T:TypeId}(h:w.heap[g]? =some (.cells cs T (0,0))):∀i,w.frozen? ⟨g,i,none⟩=false:=fun i=>by simp[World.frozen?,h]
theorem cell_lt{w:World}{ab o:Nat}{v:Value}(h:w.cell? ⟨ab,o,none⟩=some v):ab<w.heap.size:=Nat.lt_of_not_le fun hb=>by simp[World.cell?,Array.getElem?_eq_none hb]at h
theorem Only.cell{b:Nat}{w w':World}(h:Only b w w'){ab o:Nat}{v:Value}(hb:ab≠b)(hc:w.cell? ⟨ab,o,none⟩=some v):w'.cell? ⟨ab,o,none⟩=some v:=
 (World.cell?_of_block (a:=⟨ab,o,none⟩) (h.2.2.2.2 ab (cell_lt hc) hb)).trans hc
theorem Rb.keep{w w':World}{b b':Nat}{t:Tr}(hk:∀g,b<g→g<w.heap.size→w'.heap[g]? =w.heap[g]?)(hb:b'≤b){v:Value}(h:Rb w b t v)(hs:w.heap.size≤w'.heap.size):Rb w' b' t v:=
 Rz.keep hs (fun g _ hg=>Nat.lt_of_le_of_lt hb hg) (fun g hg hi=>hk g hi hg) h
theorem Rb.only{w w':World}{b b0 b':Nat}{t:Tr}{v:Value}(h:Rb w b0 t v)(ho:Only b w w')(hb:b≤b0)(hb':b'≤b0):Rb w' b' t v:=h.keep (fun g h1 h2=>ho.2.2.2.2 g h2 (by omega)) hb' ho.2.2.2.1
theorem Rb.num(w:World)(b:Nat)(n:Int)(h:I64 n):Rb w b (numT n) (.agg #[.int .i64 0,.int .i64 n,.slice none 0 0]):=rz_num w _ n h
theorem Rb.lay1{w:World}{b g:Nat}{op o n:Int}{A:Option Addr}{k c c':Nat}{T:TypeId}{a:Tr}(hg:w.heap[g]? =some (.cells #[.int .i64 o,.int .i64 n,.slice A k c] T (0,0)))(hB:b<g)(h:Rb w b a (.agg #[.int .i64 o,.int .i64 n,.slice A k c]))(hop:I64 op):
 Rb w b (unT op a) (.agg #[.int .i64 op,.int .i64 0,.slice (some ⟨g,0,none⟩) 1 c']):=
 ⟨_,_,rfl,hop,by unfold I64;omega,by unfold maxLen;omega,.inr ⟨g,rfl,hB,hltq hg,fun i hi=>by
  obtain rfl:i=0:=by omega
  exact⟨_,_,_,cell_of_row w g 0 _ _ _ hg,cell_of_row w g 1 _ _ _ hg,cell_of_row w g 2 _ _ _ hg,h⟩⟩⟩
theorem Rb.lay2{w:World}{b g:Nat}{op o n o' n':Int}{A A':Option Addr}{k c k' c' c2:Nat}{T:TypeId}{s t:Tr}(hg:w.heap[g]? =some (.cells #[.int .i64 o,.int .i64 n,.slice A k c,.int .i64 o',.int .i64 n',.slice A' k' c'] T (0,0)))(hB:b<g)
 (h:Rb w b s (.agg #[.int .i64 o,.int .i64 n,.slice A k c])) (h':Rb w b t (.agg #[.int .i64 o',.int .i64 n',.slice A' k' c'])) (hop:I64 op):
 Rb w b (twoT op s t) (.agg #[.int .i64 op,.int .i64 0,.slice (some ⟨g,0,none⟩) 2 c2]):=
 ⟨_,_,rfl,hop,by unfold I64;omega,by unfold maxLen;omega,.inr ⟨g,rfl,hB,hltq hg,fun i hi=>by
  have e:i=0∨i=1:=by omega
  rcases e with rfl|rfl
  ·exact⟨_,_,_,cell_of_row w g 0 _ _ _ hg,cell_of_row w g 1 _ _ _ hg,cell_of_row w g 2 _ _ _ hg,h⟩
  ·exact⟨_,_,_,cell_of_row w g 3 _ _ _ hg,cell_of_row w g 4 _ _ _ hg,cell_of_row w g 5 _ _ _ hg,h'⟩⟩⟩
theorem right_num(m:Nat)(n:Int)(h1:0≤n)(h2:n<1000000000000000):rightS (m+1) (numT n)=true:=
 rightS_mk rfl (by unfold numS;rw[if_pos rfl];exact decide_eq_true ⟨h1,h2⟩) fun i hi=>absurd hi (by omega)
theorem right_un{m:Nat}{op:Int}{t:Tr}(h:kidsS op=1)(h0:op≠0)(ht:rightS m t=true):rightS (m+1) (unT op t)=true:=
 rightS_mk (by rw[h];rfl) (by unfold numS;rw[if_neg h0];rfl) fun _ _=>ht
theorem right_two{m:Nat}{op:Int}{s t:Tr}(h:kidsS op=2)(h0:op≠0)(hs:rightS m s=true)(ht:rightS m t=true):rightS (m+1) (twoT op s t)=true:=
 rightS_mk (by rw[h];rfl) (by unfold numS;rw[if_neg h0];rfl) fun i _=>by
  unfold pairT;by_cases e:i=0
  ·rw[if_pos e];exact hs
  ·rw[if_neg e];exact ht
def ExprO(B b:Nat)(A:Option Addr)(n c d:Nat)(w:World)(e:Ending)(w':World):Prop:=
 ∃(t:Tr) (o' n':Int) (A':Option Addr) (k' c':Nat),e=.returned (.agg #[.int .i64 o',.int .i64 n',.slice A' k' c'])∧Rb w' w.heap.size t (.agg #[.int .i64 o',.int .i64 n',.slice A' k' c'])∧rightS d t=true∧TapeOK w' B b A n c∧Only b w w'
theorem Only.set_new{b g:Nat}{w w':World}{i:Nat}{v:Value}(h:Only b w w')(hg:w.heap.size≤g):Only b w (w'.setCell ⟨g,i,none⟩ v):=
 ⟨h.1,h.2.1,h.2.2.1,by have:=h.size;simp[World.setCell];omega,fun j hj hb=>(Below.heap_setCell w' ⟨g,i,none⟩ v j (by show j≠g;omega)).trans (h.2.2.2.2 j hj hb)⟩
theorem set_res{w:World}{g:Nat}{T:TypeId}{x0 x1 x2 x y z:Value}(h:w.heap[g]? =some (.cells #[x0,x1,x2] T (0,0))):
 (((w.setCell ⟨g,0,none⟩ x).setCell ⟨g,1,none⟩ y).setCell ⟨g,2,none⟩ z).heap[g]? =some (.cells #[x,y,z] T (0,0)):=by
 have h1:(w.setCell ⟨g,0,none⟩ x).heap[g]? =some (.cells #[x,x1,x2] T (0,0)):=by simp[World.setCell,Array.getElem?_modify,h]
 have h2:((w.setCell ⟨g,0,none⟩ x).setCell ⟨g,1,none⟩ y).heap[g]? =some (.cells #[x,y,x2] T (0,0)):=by
  generalize w.setCell ⟨g,0,none⟩ x=w1 at h1;simp[World.setCell,Array.getElem?_modify,h1]
 generalize(w.setCell ⟨g,0,none⟩ x).setCell ⟨g,1,none⟩ y=w2 at h2;simp[World.setCell,Array.getElem?_modify,h2]
theorem heap_res(w:World)(g j:Nat)(x y z:Value)(h:j≠g):(((w.setCell ⟨g,0,none⟩ x).setCell ⟨g,1,none⟩ y).setCell ⟨g,2,none⟩ z).heap[j]? =w.heap[j]? :=
 (Below.heap_setCell _ _ _ j h).trans ((Below.heap_setCell _ _ _ j h).trans (Below.heap_setCell _ _ _ j h))
theorem cell_res(w:World)(g j o:Nat)(x y z:Value)(h:j≠g):(((w.setCell ⟨g,0,none⟩ x).setCell ⟨g,1,none⟩ y).setCell ⟨g,2,none⟩ z).cell? ⟨j,o,none⟩=w.cell? ⟨j,o,none⟩:=
 World.cell?_of_block (a:=⟨j,o,none⟩) (heap_res w g j x y z h)
theorem ExprO.of_{B b:Nat}{A:Option Addr}{n c d:Nat}{w W:World}{t:Tr}{o' n':Int}{A':Option Addr}{k' c':Nat}(hbl:b<w.heap.size)(hrb:Rb W w.heap.size t (.agg #[.int .i64 o',.int .i64 n',.slice A' k' c']))(hrt:rightS d t=true)(ht:TapeOK W B b A n c)(ho:Only b w W)(x y z:Value):
 ExprO B b A n c d w (.returned (.agg #[.int .i64 o',.int .i64 n',.slice A' k' c'])) (((W.setCell ⟨w.heap.size,0,none⟩ x).setCell ⟨w.heap.size,1,none⟩ y).setCell ⟨w.heap.size,2,none⟩ z):=
 ⟨t,o',n',A',k',c',rfl,hrb.keep (fun g h1 _=>heap_res W _ g x y z (by omega)) (Nat.le_refl _) (by simp[World.setCell]),hrt,ht.keep (heap_res W _ b x y z (by omega)),((ho.set_new (Nat.le_refl _)).set_new (Nat.le_refl _)).set_new (Nat.le_refl _)⟩
theorem size1e(w:World)(o:Obj):(w.alloc o).heap.size=w.heap.size+1:=by simp
theorem newq(w:World)(o:Obj):(w.alloc o).heap[w.heap.size]? =some o:=heap_alloc_new w o
theorem oldq{w:World}{g:Nat}{x:Obj}(h:w.heap[g]? =some x)(o:Obj):(w.alloc o).heap[g]? =some x:=(Below.heap_alloc w o g (hltq h)).trans h
theorem Only.heap{b g:Nat}{w w':World}{x:Obj}(h:Only b w w')(hg:w.heap[g]? =some x)(hne:g≠b):w'.heap[g]? =some x:=(h.2.2.2.2 g (hltq hg) hne).trans hg
theorem Only.alloc{b:Nat}{w w':World}(h:Only b w w')(o:Obj):Only b w (w'.alloc o):=h.trans (Only.of_below (below_box' o (Nat.le_refl _)))
theorem TapeOK.alloc{w:World}{B b:Nat}{A:Option Addr}{n c:Nat}(h:TapeOK w B b A n c)(o:Obj):TapeOK (w.alloc o) B b A n c:=h.below (below_box' o (Nat.le_refl _))
theorem Only.drew{b:Nat}{w w':World}(h:Only b w w'):Only b w w'.drew:=⟨h.1,h.2.1,h.2.2.1,h.2.2.2.1,h.2.2.2.2⟩
theorem TapeOK.drew{w:World}{B b:Nat}{A:Option Addr}{n c:Nat}(h:TapeOK w B b A n c):TapeOK w.drew B b A n c:=h.keep rfl
def L9:Array Value:= #[.int .i64 2,.int .i64 8,.int .i64 9,.int .i64 10,.int .i64 12,.int .i64 13,.int .i64 14,.int .i64 15,.int .i64 16]
def L18:Array Value:= #[.int .i64 3,.int .i64 4,.int .i64 5,.int .i64 6,.int .i64 7,.int .i64 11,.int .i64 17,.int .i64 18,.int .i64 19,.int .i64 20,.int .i64 21,.int .i64 22,.int .i64 23,.int .i64 24,.int .i64 25,.int .i64 3,.int .i64 4,.int .i64 5]
theorem L9_at{i:Int}(h0:0≤i)(h1:i≤8):∃op:Int,L9[i.toNat]? =some (.int .i64 op)∧kidsS op=1∧op≠0∧I64 op:=by
 have e:i=0∨i=1∨i=2∨i=3∨i=4∨i=5∨i=6∨i=7∨i=8:=by omega
 rcases e with rfl|rfl|rfl|rfl|rfl|rfl|rfl|rfl|rfl
 all_goals exact⟨_,rfl,rfl,by decide,by unfold I64;omega⟩
theorem L18_at{i:Int}(h0:0≤i)(h1:i≤17):∃op:Int,L18[i.toNat]? =some (.int .i64 op)∧kidsS op=2∧op≠0∧I64 op:=by
 have e:i=0∨i=1∨i=2∨i=3∨i=4∨i=5∨i=6∨i=7∨i=8∨i=9∨i=10∨i=11∨i=12∨i=13∨i=14∨i=15∨i=16∨i=17:=by omega
 rcases e with rfl|rfl|rfl|rfl|rfl|rfl|rfl|rfl|rfl|rfl|rfl|rfl|rfl|rfl|rfl|rfl|rfl|rfl
 all_goals exact⟨_,rfl,rfl,by decide,by unfold I64;omega⟩
set_option maxRecDepth 100000 in
set_option maxHeartbeats 8000000 in
theorem expr_any(B b:Nat)(A:Option Addr)(n c:Nat):∀(d:Nat) (w:World),1≤d→d≤16→LOK w B A n→TapeOK w B b A n c→B≤w.heap.size→
 Calls Tryz.prog 46 #[.pointer (some ⟨b,0,none⟩),.int .i64 (d:Int)] w (ExprO B b A n c d w):=by
 intro d;induction d with
 |zero=>intro w h;omega
 |succ d ih=>
  intro w _ hd hl ht hw;obtain⟨q,hq⟩:∃q:Int,q=((d+1:Nat):Int):=⟨_,rfl⟩;rw[←hq];have hq1:1≤q:=by omega
  have hq2:q≤16:=by omega
  have HQ:Hid (q-1=(d:Int)):=by unfold Hid;omega
  have hBb:=ht.1;have hbl:=ht.lt;have hb0:=below_box' (B:=w.heap.size) (w:=w) (.cells #[.int .i64 0,.int .i64 0,.slice none 0 0] 52) (Nat.le_refl _);have ho0:Only b w _:=Only.of_below hb0;have H0:=Lib.hid (nexto_any B b A n c 10 _ (hl.below (hb0.mono hw)) (ht.below hb0) (by omega) (by omega));have HO0:=Lib.hid ho0;have HL:=Lib.hid hl;have hne:w.heap.size≠b:=by omega
  clear hq hl ht hb0 ho0;go_enter Tryz.func46,Tryz.ntmps46;go_wp2_with fail;refine H0.out.mono ?_;rintro e w1 ⟨r,rfl,r0,r1,htp,ho⟩;have HT1:=Lib.hid htp;have HO1:=Lib.hid (HO0.out.trans ho);have R1:=Lib.hid ((ho.2.2.2.2 w.heap.size (by simp) hne).trans (heap_alloc_new w _));clear htp ho;by_cases hbr:q<2∨(2≤q∧r<3)
  ·rcases hbr with h2|⟨h2,h3⟩
   all_goals
    go_wp2_with fail;refine(numbero_any B b A n c _ (HL.out.only HO1.out hBb hw) HT1.out (Nat.le_trans hw HO1.out.size)).mono ?_;rintro e w2 ⟨z,rfl,z0,z1,htp,ho⟩;have HT2:=Lib.hid htp;have HO2:=Lib.hid (HO1.out.trans ho);have R2:=Lib.hid ((ho.2.2.2.2 w.heap.size (hltq R1.out) hne).trans R1.out);obtain⟨c0,c1,c2⟩:=three R2.out;have f0:=froz R2.out;clear htp ho;go_wp2_with fail;exact bodyPost_ret (results_cell_row Tryz.results46 _ _ w.heap.size _ _ _ _ rfl (set_res R2.out) Tryz.underlying52 rfl (by kernel_rfl)) rfl
     (ExprO.of_ hbl (Rb.num _ _ _ (by unfold I64;omega)) (right_num d z (by omega) (by omega)) HT2.out HO2.out _ _ _)
  have h2:2≤q:=by omega
  have h3:3≤r:=by omega
  have hd1:1≤d:=by have:=HQ.out;omega
  clear hbr;by_cases h5:r<5
  ·go_wp2_with fail;refine(variableo_any B b A n c _ (HL.out.only HO1.out hBb hw) HT1.out (Nat.le_trans hw HO1.out.size)).mono ?_;rintro e w2 ⟨z,rfl,z0,z1,htp,ho⟩;have HT2:=Lib.hid htp;have HO2:=Lib.hid (HO1.out.trans ho);have R2:=Lib.hid (ho.heap R1.out hne);clear htp ho;go_wp2_with fail;refine(nexto_any B b A n c 8 _ (HL.out.only (HO2.out.alloc _) hBb hw) (HT2.out.alloc _) (by omega) (by omega)).mono ?_;rintro e w3 ⟨r2,rfl,r20,r21,htp,ho⟩;have HT3:=Lib.hid htp;have HO3:=Lib.hid ((HO2.out.alloc _).trans ho);have hl2:b<w2.heap.size:=Nat.lt_of_lt_of_le hbl HO2.out.size;have R3:=Lib.hid (ho.heap (oldq R2.out _) hne);have X3:=Lib.hid (ho.heap (newq w2 _) (by omega));clear htp ho;obtain⟨x0,x1,x2⟩:=three X3.out;have xf:=froz X3.out;by_cases hr2:r2=0
   ·have hr2':(r2==0)=true:=by simpa using hr2
    clear hr2;go_wp2_with fail;rw[HQ.out];refine(ih w3 hd1 (by omega) (HL.out.only HO3.out hBb hw) HT3.out (Nat.le_trans hw HO3.out.size)).mono ?_;rintro e w4 ⟨t,o',n',A',k',c',rfl,hrb,hrt,htp,ho⟩;have HT4:=Lib.hid htp;have HO4:=Lib.hid (HO3.out.trans ho);have R4:=Lib.hid (ho.heap R3.out hne);have X4:=Lib.hid (ho.heap X3.out (by omega));have HRB:=Lib.hid hrb;have HRT:=Lib.hid hrt;have h34:=ho.size;clear htp ho hrb hrt x0 x1 x2 xf;obtain⟨x0,x1,x2⟩:=three X4.out;have xf:=froz X4.out;go_upto_region 8 with(fail)
    obtain⟨w5,hw5⟩:∃W:World,W=(((w4.setCell ⟨w2.heap.size,0,none⟩ (.int .i64 o')).setCell ⟨w2.heap.size,1,none⟩ (.int .i64 n')).setCell ⟨w2.heap.size,2,none⟩ (.slice A' k' c')):=⟨_,rfl⟩;rw[←hw5];have hrw:=hltq R2.out;have hxw:=hltq X3.out;have X5:w5.heap[w2.heap.size]? =some (.cells #[.int .i64 o',.int .i64 n',.slice A' k' c'] 52 (0,0)):=by rw[hw5];exact set_res X4.out
    have hk5:∀j,j≠w2.heap.size→w5.heap[j]? =w4.heap[j]? :=fun j hj=>by rw[hw5];exact heap_res _ _ _ _ _ _ hj
    have R5:=Lib.hid ((hk5 w.heap.size (by omega)).trans R4.out);have HT5:=Lib.hid (HT4.out.keep (hk5 b (by omega)));have HO5:Hid (Only b w w5):=by rw[hw5];exact((HO4.out.set_new (by omega)).set_new (by omega)).set_new (by omega)
    have HRB5:=Lib.hid (HRB.out.keep (w':=w5) (b':=w.heap.size) (fun g h1 h2=>hk5 g (by omega)) (by omega) (by rw[hw5];simp[World.setCell]));have HX5:=Lib.hid X5;clear hk5 X5 hw5 x0 x1 x2 xf;obtain⟨x0,x1,x2⟩:=three HX5.out;obtain⟨c0,c1,c2⟩:=three (oldq R5.out (.cells #[.int .i64 o',.int .i64 n',.slice A' k' c'] 52));have f0:=froz (oldq R5.out (.cells #[.int .i64 o',.int .i64 n',.slice A' k' c'] 52));go_wp2_with fail;exact bodyPost_ret (results_cell_row Tryz.results46 _ _ w.heap.size _ _ _ _ rfl (set_res (oldq R5.out _)) Tryz.underlying52 rfl (by kernel_rfl)) rfl
     (ExprO.of_ hbl (Rb.lay1 (newq w5 _) (hltq R5.out) (HRB5.out.keep (fun g h1 h2=>Below.heap_alloc _ _ _ h2) (Nat.le_refl _) (by simp)) (by unfold I64;omega)) (right_un rfl (by decide) HRT.out) (HT5.out.alloc _) (HO5.out.alloc _) _ _ _)
   ·have hr2':(r2==0)=false:=by simpa using hr2
    clear hr2;obtain⟨c0,c1,c2⟩:=three (oldq R3.out (.cells #[.int .i64 0,.int .i64 (z*1000000),.slice none 0 0] 52));have f0:=froz (oldq R3.out (.cells #[.int .i64 0,.int .i64 (z*1000000),.slice none 0 0] 52));go_wp2_with fail;exact bodyPost_ret (results_cell_row Tryz.results46 _ _ w.heap.size _ _ _ _ rfl (set_res (oldq R3.out _)) Tryz.underlying52 rfl (by kernel_rfl)) rfl
     (ExprO.of_ hbl (Rb.lay1 (newq w3 _) (hltq R3.out) (Rb.num _ _ _ (by unfold I64;omega)) (by unfold I64;omega)) (right_un rfl (by decide) (rightS_mono (m:=1) hd1 (right_num 0 (z*1000000) (by omega) (by omega)))) (HT3.out.alloc _) (HO3.out.alloc _) _ _ _)
  by_cases h6:r<6
  ·go_upto_region 11 with(fail)
   have hb1:=HO1.out.size;have N9:=Lib.hid (nexto_any B b A n c 9 _ (HL.out.only (HO1.out.alloc (.cells L9 3)).drew hBb hw) (HT1.out.alloc _).drew (by omega) (by omega));have HN1:=Lib.hid (newq w1 (.cells L9 3));have s1:∀i,(w1.alloc (.cells L9 3)).cell? ⟨w1.heap.size,i,none⟩=L9[i]? :=fun i=>cell_of_row _ _ _ _ _ _ HN1.out;have S1:=Lib.hid s1;have HQW:Hid (IntKind.i64.wrap (q-1)=(d:Int)):=by unfold Hid;rw[IntWalk.i64_in _ (by omega)];exact HQ.out
   have s1d:∀i,(w1.alloc (.cells L9 3)).drew.cell? ⟨w1.heap.size,i,none⟩=L9[i]? :=s1;have S1d:=Lib.hid s1d;clear s1d;have hne1:w1.heap.size≠w.heap.size:=by have:=hltq R1.out;omega
   clear s1;go_region_held3(fun w'=>∀i,w'.cell? ⟨w1.heap.size,i,none⟩=L9[i]?) (first|with_reducible exact S5.out|with_reducible exact S4.out|with_reducible exact S3.out|with_reducible exact S2.out|exact S1d.out)
    (first
    |(go_at_call 25;refine N9.out.mono ?_;rintro e w2 ⟨r3,rfl,r30,r31,htp,ho⟩;have HT2:=Lib.hid htp;have HO2:=Lib.hid ((HO1.out.alloc _).drew.trans ho);have R2:=Lib.hid (ho.heap (oldq R1.out (.cells L9 3)) hne);have X2:=Lib.hid (ho.heap HN1.out (by omega));have S2:=Lib.hid (fun i=>cell_of_row w2 _ i _ _ _ X2.out);obtain⟨op,hop,hk1,hop0,hopI⟩:=L9_at r30 (by omega);have hs12:=hltq X2.out;have r32:r3<9:=(by omega);clear htp ho)
    |(go_at_call 46;rw[HQW.out];refine(ih w2 hd1 (by omega) (HL.out.only HO2.out hBb hw) HT2.out (Nat.le_trans hw HO2.out.size)).mono ?_;rintro e w3 ⟨t,o',n',A',k',c',rfl,hrb,hrt,htp,ho⟩;have HT3:=Lib.hid htp;have HO3:=Lib.hid (HO2.out.trans ho);have R3:=Lib.hid (ho.heap R2.out hne);have X3:=Lib.hid (ho.heap X2.out (by omega));have S3:=Lib.hid (fun i=>cell_of_row w3 _ i _ _ _ X3.out);have S4:=Lib.hid (fun i=>cell_of_row _ _ i _ _ _ (oldq X3.out (.cells #[.int .i64 o',.int .i64 n',.slice A' k' c'] 52)));have S5:=Lib.hid (fun i=>(cell_res (w3.alloc (.cells #[.int .i64 o',.int .i64 n',.slice A' k' c'] 52)) w.heap.size w1.heap.size i (.int .i64 op) (.int .i64 0) (.slice (some ⟨w3.heap.size,0,none⟩) 1 1) hne1).trans (S4.out i));have HRB:=Lib.hid hrb;have HRT:=Lib.hid hrt;have h23:=ho.size;have c3:=three (oldq R3.out (.cells #[.int .i64 o',.int .i64 n',.slice A' k' c'] 52));have f0:=froz (oldq R3.out (.cells #[.int .i64 o',.int .i64 n',.slice A' k' c'] 52));obtain⟨c0,c1,c2⟩:=c3;clear htp ho hrb hrt))
   go_wp2_with fail;exact bodyPost_ret (results_cell_row Tryz.results46 _ _ w.heap.size _ _ _ _ rfl (set_res (oldq R3.out _)) Tryz.underlying52 rfl (by kernel_rfl)) rfl
    (ExprO.of_ hbl (Rb.lay1 (newq w3 _) (hltq R3.out) (HRB.out.keep (fun g h1 h2=>Below.heap_alloc _ _ _ h2) (Nat.le_trans HO2.out.size (Nat.le_refl _)) (by simp)) hopI) (right_un hk1 hop0 HRT.out) (HT3.out.alloc _) (HO3.out.alloc _) _ _ _)
  ·go_wp2_with fail;have HN1:=Lib.hid (newq w1 (.cells L18 3));have hne1:w1.heap.size≠b:=by have:=HO1.out.size;omega
   refine(nexto_any B b A n c 18 _ (HL.out.only (HO1.out.alloc (.cells L18 3)) hBb hw) (HT1.out.alloc _) (by omega) (by omega)).mono ?_;rintro e w2 ⟨r3,rfl,r30,r31,htp,ho⟩;have HT2:=Lib.hid htp;have HO2:=Lib.hid ((HO1.out.alloc _).trans ho);have R2:=Lib.hid (ho.heap (oldq R1.out (.cells L18 3)) hne);have X2:=Lib.hid (ho.heap HN1.out hne1);obtain⟨op,hop,hk1,hop0,hopI⟩:=L18_at r30 (by omega);have xc:=(cell_of_row w2 _ _ _ _ _ X2.out).trans hop;have r32:r3<18:=by omega
   clear htp ho hop;go_wp2_with fail;rw[HQ.out];refine(ih w2 hd1 (by omega) (HL.out.only HO2.out hBb hw) HT2.out (Nat.le_trans hw HO2.out.size)).mono ?_;rintro e w3 ⟨t,o',n',A',k',c',rfl,hrb,hrt,htp,ho⟩;have HT3:=Lib.hid htp;have HO3:=Lib.hid (HO2.out.trans ho);have R3:=Lib.hid (ho.heap R2.out hne);have HRB:=Lib.hid hrb;have HRT:=Lib.hid hrt;have h23:=ho.size;clear htp ho hrb hrt xc;go_upto_region 15 with(fail)
   have hw3:w.heap.size<w3.heap.size:=hltq R3.out;have hne3:w3.heap.size≠w.heap.size:=by omega
   have HQW:Hid (IntKind.i64.wrap (q-1)=(d:Int)):=by unfold Hid;rw[IntWalk.i64_in _ (by omega)];exact HQ.out
   have X3:=Lib.hid (newq w3 (.cells #[.int .i64 o',.int .i64 n',.slice A' k' c'] 52));have s0:(w3.alloc (.cells #[.int .i64 o',.int .i64 n',.slice A' k' c'] 52)).drew.cell? ⟨w3.heap.size,0,none⟩=some (.int .i64 o')∧(w3.alloc (.cells #[.int .i64 o',.int .i64 n',.slice A' k' c'] 52)).drew.cell? ⟨w3.heap.size,1,none⟩=some (.int .i64 n')∧(w3.alloc (.cells #[.int .i64 o',.int .i64 n',.slice A' k' c'] 52)).drew.cell? ⟨w3.heap.size,2,none⟩=some (.slice A' k' c'):=three X3.out;have S0:=Lib.hid s0;clear s0;have E4:=Lib.hid (ih (w3.alloc (.cells #[.int .i64 o',.int .i64 n',.slice A' k' c'] 52)).drew hd1 (by omega) (HL.out.only (HO3.out.alloc (.cells #[.int .i64 o',.int .i64 n',.slice A' k' c'] 52)).drew hBb hw) (HT3.out.alloc _).drew (Nat.le_trans hw (HO3.out.alloc (.cells #[.int .i64 o',.int .i64 n',.slice A' k' c'] 52)).drew.size));have HO3a:=Lib.hid (HO3.out.alloc (.cells #[.int .i64 o',.int .i64 n',.slice A' k' c'] 52)).drew;have R3a:=Lib.hid (oldq R3.out (.cells #[.int .i64 o',.int .i64 n',.slice A' k' c'] 52));have hne3b:w3.heap.size≠b:=by omega
   have HRB3:=Lib.hid (HRB.out.keep (w':=(w3.alloc (.cells #[.int .i64 o',.int .i64 n',.slice A' k' c'] 52)).drew) (fun g h1 h2=>Below.heap_alloc _ _ _ h2) (Nat.le_refl _) (by simp));go_region_held3(fun w'=>w'.cell? ⟨w3.heap.size,0,none⟩=some (.int .i64 o')∧w'.cell? ⟨w3.heap.size,1,none⟩=some (.int .i64 n')∧w'.cell? ⟨w3.heap.size,2,none⟩=some (.slice A' k' c')) (first|with_reducible exact S6.out|with_reducible exact S5.out|with_reducible exact S4.out|exact S0.out)
    (first
    |(go_at_call 46;rw[HQW.out];refine E4.out.mono ?_;rintro e w4 ⟨t2,o2,n2,A2,k2,c2,rfl,hrb,hrt,htp,ho⟩;have HT4:=Lib.hid htp;have HO4:=Lib.hid (HO3a.out.trans ho);have R4:=Lib.hid (ho.heap R3a.out hne);have X4:=Lib.hid (ho.heap X3.out hne3b);have S4:=Lib.hid (three X4.out);have X5:=Lib.hid (oldq X4.out (.cells #[.int .i64 o',.int .i64 n',.slice A' k' c',.int .i64 o2,.int .i64 n2,.slice A2 k2 c2] 52));have S5:=Lib.hid (three X5.out);have S6:=Lib.hid (show _∧_∧_ from⟨(cell_res (w4.alloc (.cells #[.int .i64 o',.int .i64 n',.slice A' k' c',.int .i64 o2,.int .i64 n2,.slice A2 k2 c2] 52)) w.heap.size w3.heap.size 0 (.int .i64 op) (.int .i64 0) (.slice (some ⟨w4.heap.size,0,none⟩) 2 2) hne3).trans S5.out.1,(cell_res (w4.alloc (.cells #[.int .i64 o',.int .i64 n',.slice A' k' c',.int .i64 o2,.int .i64 n2,.slice A2 k2 c2] 52)) w.heap.size w3.heap.size 1 (.int .i64 op) (.int .i64 0) (.slice (some ⟨w4.heap.size,0,none⟩) 2 2) hne3).trans S5.out.2.1,(cell_res (w4.alloc (.cells #[.int .i64 o',.int .i64 n',.slice A' k' c',.int .i64 o2,.int .i64 n2,.slice A2 k2 c2] 52)) w.heap.size w3.heap.size 2 (.int .i64 op) (.int .i64 0) (.slice (some ⟨w4.heap.size,0,none⟩) 2 2) hne3).trans S5.out.2.2⟩);have HRB4:=Lib.hid (HRB3.out.only (b':=w.heap.size) ho (Nat.le_trans (Nat.le_of_lt hbl) HO2.out.size) HO2.out.size);have HRC:=Lib.hid hrb;have HRT2:=Lib.hid hrt;have c3:=three (oldq R4.out (.cells #[.int .i64 o',.int .i64 n',.slice A' k' c',.int .i64 o2,.int .i64 n2,.slice A2 k2 c2] 52));have f0:=froz (oldq R4.out (.cells #[.int .i64 o',.int .i64 n',.slice A' k' c',.int .i64 o2,.int .i64 n2,.slice A2 k2 c2] 52));obtain⟨c0,c1,c2'⟩:=c3;clear htp ho hrb hrt))
   go_wp2_with fail;exact bodyPost_ret (results_cell_row Tryz.results46 _ _ w.heap.size _ _ _ _ rfl (set_res (oldq R4.out _)) Tryz.underlying52 rfl (by kernel_rfl)) rfl
    (ExprO.of_ hbl (Rb.lay2 (newq w4 _) (hltq R4.out) (HRB4.out.keep (fun g h1 h2=>Below.heap_alloc _ _ _ h2) (Nat.le_refl _) (by simp)) (HRC.out.keep (fun g h1 h2=>Below.heap_alloc _ _ _ h2) (by show w.heap.size≤(w3.alloc _).heap.size;rw[size1e];omega) (by simp)) hopI) (right_two hk1 hop0 HRT.out HRT2.out) (HT4.out.alloc _) (HO4.out.alloc _) _ _ _)
end Go.Proofs.YtdcjbhdfphcefaaGreatDoor
