/- The contract. -/
import Derived.Test.YtdcjbhdfphcefaaGreatDoorNv
import Derived.Test.YtdcjbhdfphcefaaGreatDoorTn
import Derived.Test.YtdcjbhdfphcefaaGreatDoorCt
import Derived.Test.YtdcjbhdfphcefaaGreatDoorPa
import Derived.Deep.CutBlock
namespace Go.Proofs.YtdcjbhdfphcefaaGreatDoor
set_option linter.all false
set_option maxRecDepth 100000
set_option maxHeartbeats 16000000
open Go.Proofs.Tryz
open Go.RowKit
theorem fU(B b:Nat)(A:OA)(n c:Nat)(w:World)(hl:LOK w B A n)(ht:TapeOK w B b A n c)(hw:B≤w.heap.size):
 Calls prog 57 #[.pointer (some ⟨b,0,none⟩)] w (NextO B b A n c 0 6000 w):=by
 have HL:=Hd hl;clear hl;have HTP:=Hd ht;have hBb:=ht.1;clear ht;have HO:Hid (Only b w w):=Only.refl b w;go_enter func57,ntmps57;go_wp2_with(first
  |(go_at_call 25;refine(aW B b A n c _ _ (HL.o.only HO.o hBb hw) HTP.o (by omega) (by omega)).mono ?_;rintro e w1 ⟨r,rfl,hr0,hr1,htp,ho⟩;have HN:=Hd (HO.o.trans ho);have HT2:=Hd htp;clear HO ho HTP htp;have HO:=Hd HN.o;have HTP:=Hd HT2.o;clear HN HT2)
  |(go_at_call 28;refine(cC B b A n c _ _ _ (HL.o.only HO.o hBb hw) HTP.o (by omega) (by omega) (by omega)).mono ?_;rintro e w1 ⟨r,rfl,hr0,hr1,htp,ho⟩;have HN:=Hd (HO.o.trans ho);have HT2:=Hd htp;clear HO ho HTP htp;have HO:=Hd HN.o;have HTP:=Hd HT2.o;clear HN HT2))
 all_goals go_ret
 all_goals exact⟨_,rfl,by omega,by omega,HTP.o,HO.o⟩
theorem iG{t:Tr}:∀{m m':Nat},m≤m'→rightS m t=true→rightS m' t=true:=by
 induction t with
 |none_=>intro m m' _ h;cases m<;>cases h
 |mk op n k kid ih=>
  intro m m' hm h;rcases m with _|m
  ·cases h
  rcases m' with _|m'
  ·omega
  obtain⟨h1,h2,h3⟩:=cH h;exact bV h1 h2 fun i hi=>ih i (by omega) (h3 i hi)
def pairT(a b:Tr):Nat→Tr:=fun i=>if i=0 then a else b
def oneK(a:Tr):Nat→Tr:=fun _=>a
def twoT(op:Int)(a b:Tr):Tr:=.mk op 0 2 (pairT a b)
def unT(op:Int)(a:Tr):Tr:=.mk op 0 1 (oneK a)
def Rb(w:World)(b:Nat)(t:Tr)(v:Value):Prop:=Rz w (fun g=>b<g) t v
theorem three{w:World}{g:Nat}{x y z:Value}{T:TypeId}(h:w.heap[g]? =some (.cells #[x,y,z] T (0,0))):w.cell? ⟨g,0,none⟩=some x∧w.cell? ⟨g,1,none⟩=some y∧w.cell? ⟨g,2,none⟩=some z:=
 ⟨Ro w g 0 _ _ _ h,Ro w g 1 _ _ _ h,Ro w g 2 _ _ _ h⟩
theorem hltq{w:World}{g:Nat}{x:Obj}(h:w.heap[g]? =some x):g<w.heap.size:=(Ag.1 h).1
theorem froz{w:World}{g:Nat}{cs:Array Value}{T:TypeId}(h:w.heap[g]? =some (.cells cs T (0,0))):∀i,w.frozen? ⟨g,i,none⟩=false:=fun i=>by simp[World.frozen?,h]
theorem pV{w:World}{ab o:Nat}{v:Value}(h:w.cell? ⟨ab,o,none⟩=some v):ab<w.heap.size:=Nat.lt_of_not_le fun hb=>by simp[World.cell?,Array.getElem?_eq_none hb]at h
theorem Only.cell{b:Nat}{w w':World}(h:Only b w w'){ab o:Nat}{v:Value}(hb:ab≠b)(hc:w.cell? ⟨ab,o,none⟩=some v):w'.cell? ⟨ab,o,none⟩=some v:=
 (cekC ab o (h.2.2.2.2 ab (pV hc) hb)).trans hc
theorem Rb.keep{w w':World}{b b':Nat}{t:Tr}(hk:∀g,b<g→g<w.heap.size→w'.heap[g]? =w.heap[g]?)(hb:b'≤b){v:Value}(h:Rb w b t v)(hs:w.heap.size≤w'.heap.size):Rb w' b' t v:=
 Rz.keep hs (fun g _ hg=>Nat.lt_of_le_of_lt hb hg) (fun g hg hi=>hk g hi hg) h
theorem Rb.only{w w':World}{b b0 b':Nat}{t:Tr}{v:Value}(h:Rb w b0 t v)(ho:Only b w w')(hb:b≤b0)(hb':b'≤b0):Rb w' b' t v:=h.keep (fun g h1 h2=>ho.2.2.2.2 g h2 (by omega)) hb' ho.2.2.2.1
theorem Rb.num(w:World)(b:Nat)(n:Int)(h:I64 n):Rb w b (numT n) (.agg #[.int .i64 0,.int .i64 n,.slice none 0 0]):=bN w _ n h
theorem Rb.lay1{w:World}{b g:Nat}{op o n:Int}{A:OA}{k c c':Nat}{T:TypeId}{a:Tr}(hg:w.heap[g]? =some (.cells #[.int .i64 o,.int .i64 n,.slice A k c] T (0,0)))(hB:b<g)(h:Rb w b a (.agg #[.int .i64 o,.int .i64 n,.slice A k c]))(hop:I64 op):
 Rb w b (unT op a) (.agg #[.int .i64 op,.int .i64 0,.slice (some ⟨g,0,none⟩) 1 c']):=
 ⟨_,_,rfl,hop,by unfold I64;omega,by unfold maxLen;omega,.inr ⟨g,rfl,hB,hltq hg,fun i hi=>by
  obtain rfl:i=0:=by omega
  exact⟨_,_,_,Ro w g 0 _ _ _ hg,Ro w g 1 _ _ _ hg,Ro w g 2 _ _ _ hg,h⟩⟩⟩
theorem Rb.lay2{w:World}{b g:Nat}{op o n o' n':Int}{A A':OA}{k c k' c' c2:Nat}{T:TypeId}{s t:Tr}(hg:w.heap[g]? =some (.cells #[.int .i64 o,.int .i64 n,.slice A k c,.int .i64 o',.int .i64 n',.slice A' k' c'] T (0,0)))(hB:b<g)
 (h:Rb w b s (.agg #[.int .i64 o,.int .i64 n,.slice A k c])) (h':Rb w b t (.agg #[.int .i64 o',.int .i64 n',.slice A' k' c'])) (hop:I64 op):
 Rb w b (twoT op s t) (.agg #[.int .i64 op,.int .i64 0,.slice (some ⟨g,0,none⟩) 2 c2]):=
 ⟨_,_,rfl,hop,by unfold I64;omega,by unfold maxLen;omega,.inr ⟨g,rfl,hB,hltq hg,fun i hi=>by
  have e:i=0∨i=1:=by omega
  rcases e with rfl|rfl
  ·exact⟨_,_,_,Ro w g 0 _ _ _ hg,Ro w g 1 _ _ _ hg,Ro w g 2 _ _ _ hg,h⟩
  ·exact⟨_,_,_,Ro w g 3 _ _ _ hg,Ro w g 4 _ _ _ hg,Ro w g 5 _ _ _ hg,h'⟩⟩⟩
theorem cU(m:Nat)(n:Int)(h1:0≤n)(h2:n<1000000000000000):rightS (m+1) (numT n)=true:=
 bV rfl (by unfold numS;rw[Ip rfl];exact Dt ⟨h1,h2⟩) fun i hi=>absurd hi (by omega)
theorem cW{m:Nat}{op:Int}{t:Tr}(h:kidsS op=1)(h0:op≠0)(ht:rightS m t=true):rightS (m+1) (unT op t)=true:=
 bV (by rw[h];rfl) (by unfold numS;rw[Iq h0];rfl) fun _ _=>ht
theorem mL{m:Nat}{op:Int}{s t:Tr}(h:kidsS op=2)(h0:op≠0)(hs:rightS m s=true)(ht:rightS m t=true):rightS (m+1) (twoT op s t)=true:=
 bV (by rw[h];rfl) (by unfold numS;rw[Iq h0];rfl) fun i _=>by
  unfold pairT;by_cases e:i=0
  ·rw[Ip e];exact hs
  ·rw[Iq e];exact ht
def ExprO(B b:Nat)(A:OA)(n c d:Nat)(w:World)(e:Ending)(w':World):Prop:=
 ∃(t:Tr) (o' n':Int) (A':OA) (k' c':Nat),e=.returned (.agg #[.int .i64 o',.int .i64 n',.slice A' k' c'])∧Rb w' w.heap.size t (.agg #[.int .i64 o',.int .i64 n',.slice A' k' c'])∧rightS d t=true∧TapeOK w' B b A n c∧Only b w w'
theorem Only.set_new{b g:Nat}{w w':World}{i:Nat}{v:Value}(h:Only b w w')(hg:w.heap.size≤g):Only b w (w'.setCell ⟨g,i,none⟩ v):=
 ⟨h.1,h.2.1,h.2.2.1,by have:=h.size;simp[World.setCell];omega,fun j hj hb=>(Bj w' ⟨g,i,none⟩ v j (by show j≠g;omega)).trans (h.2.2.2.2 j hj hb)⟩
theorem cV{w:World}{g:Nat}{T:TypeId}{x0 x1 x2 x y z:Value}(h:w.heap[g]? =some (.cells #[x0,x1,x2] T (0,0))):
 (((w.setCell ⟨g,0,none⟩ x).setCell ⟨g,1,none⟩ y).setCell ⟨g,2,none⟩ z).heap[g]? =some (.cells #[x,y,z] T (0,0)):=by
 have h1:(w.setCell ⟨g,0,none⟩ x).heap[g]? =some (.cells #[x,x1,x2] T (0,0)):=by simp[World.setCell,Array.getElem?_modify,h]
 have h2:((w.setCell ⟨g,0,none⟩ x).setCell ⟨g,1,none⟩ y).heap[g]? =some (.cells #[x,y,x2] T (0,0)):=by
  generalize w.setCell ⟨g,0,none⟩ x=w1 at h1;simp[World.setCell,Array.getElem?_modify,h1]
 generalize(w.setCell ⟨g,0,none⟩ x).setCell ⟨g,1,none⟩ y=w2 at h2;simp[World.setCell,Array.getElem?_modify,h2]
theorem dY(w:World)(g j:Nat)(x y z:Value)(h:j≠g):(((w.setCell ⟨g,0,none⟩ x).setCell ⟨g,1,none⟩ y).setCell ⟨g,2,none⟩ z).heap[j]? =w.heap[j]? :=
 (Bj _ _ _ j h).trans ((Bj _ _ _ j h).trans (Bj _ _ _ j h))
theorem fI(w:World)(g j o:Nat)(x y z:Value)(h:j≠g):(((w.setCell ⟨g,0,none⟩ x).setCell ⟨g,1,none⟩ y).setCell ⟨g,2,none⟩ z).cell? ⟨j,o,none⟩=w.cell? ⟨j,o,none⟩:=
 cekC j o (dY w g j x y z h)
theorem ExprO.of_{B b:Nat}{A:OA}{n c d:Nat}{w W:World}{t:Tr}{o' n':Int}{A':OA}{k' c':Nat}(hbl:b<w.heap.size)(hrb:Rb W w.heap.size t (.agg #[.int .i64 o',.int .i64 n',.slice A' k' c']))(hrt:rightS d t=true)(ht:TapeOK W B b A n c)(ho:Only b w W)(x y z:Value):
 ExprO B b A n c d w (.returned (.agg #[.int .i64 o',.int .i64 n',.slice A' k' c'])) (((W.setCell ⟨w.heap.size,0,none⟩ x).setCell ⟨w.heap.size,1,none⟩ y).setCell ⟨w.heap.size,2,none⟩ z):=
 ⟨t,o',n',A',k',c',rfl,hrb.keep (fun g h1 _=>dY W _ g x y z (by omega)) (Le _) (by simp[World.setCell]),hrt,ht.keep (dY W _ b x y z (by omega)),((ho.set_new (Le _)).set_new (Le _)).set_new (Le _)⟩
theorem size1e(w:World)(o:Obj):(w.alloc o).heap.size=w.heap.size+1:=by simp
theorem newq(w:World)(o:Obj):(w.alloc o).heap[w.heap.size]? =some o:=Hn w o
theorem oldq{w:World}{g:Nat}{x:Obj}(h:w.heap[g]? =some x)(o:Obj):(w.alloc o).heap[g]? =some x:=(Bm w o g (hltq h)).trans h
theorem Only.heap{b g:Nat}{w w':World}{x:Obj}(h:Only b w w')(hg:w.heap[g]? =some x)(hne:g≠b):w'.heap[g]? =some x:=(h.2.2.2.2 g (hltq hg) hne).trans hg
theorem Only.alloc{b:Nat}{w w':World}(h:Only b w w')(o:Obj):Only b w (w'.alloc o):=h.trans (Only.of_below (aE o (Le _)))
theorem TapeOK.alloc{w:World}{B b:Nat}{A:OA}{n c:Nat}(h:TapeOK w B b A n c)(o:Obj):TapeOK (w.alloc o) B b A n c:=h.below (aE o (Le _))
theorem Only.drew{b:Nat}{w w':World}(h:Only b w w'):Only b w w'.drew:=⟨h.1,h.2.1,h.2.2.1,h.2.2.2.1,h.2.2.2.2⟩
theorem TapeOK.drew{w:World}{B b:Nat}{A:OA}{n c:Nat}(h:TapeOK w B b A n c):TapeOK w.drew B b A n c:=h.keep rfl
def L9:Array Value:= #[.int .i64 2,.int .i64 8,.int .i64 9,.int .i64 10,.int .i64 12,.int .i64 13,.int .i64 14,.int .i64 15,.int .i64 16]
def L18:Array Value:= #[.int .i64 3,.int .i64 4,.int .i64 5,.int .i64 6,.int .i64 7,.int .i64 11,.int .i64 17,.int .i64 18,.int .i64 19,.int .i64 20,.int .i64 21,.int .i64 22,.int .i64 23,.int .i64 24,.int .i64 25,.int .i64 3,.int .i64 4,.int .i64 5]
theorem qsP{i:Int}(h0:0≤i)(h1:i≤8):∃op:Int,L9[i.toNat]? =some (.int .i64 op)∧kidsS op=1∧op≠0∧I64 op:=by
 have e:i=0∨i=1∨i=2∨i=3∨i=4∨i=5∨i=6∨i=7∨i=8:=by omega
 rcases e with rfl|rfl|rfl|rfl|rfl|rfl|rfl|rfl|rfl
 all_goals exact⟨_,rfl,rfl,by decide,by unfold I64;omega⟩
theorem qgK{i:Int}(h0:0≤i)(h1:i≤17):∃op:Int,L18[i.toNat]? =some (.int .i64 op)∧kidsS op=2∧op≠0∧I64 op:=by
 have e:i=0∨i=1∨i=2∨i=3∨i=4∨i=5∨i=6∨i=7∨i=8∨i=9∨i=10∨i=11∨i=12∨i=13∨i=14∨i=15∨i=16∨i=17:=by omega
 rcases e with rfl|rfl|rfl|rfl|rfl|rfl|rfl|rfl|rfl|rfl|rfl|rfl|rfl|rfl|rfl|rfl|rfl|rfl
 all_goals exact⟨_,rfl,rfl,by decide,by unfold I64;omega⟩
theorem dK(B b:Nat)(A:OA)(n c:Nat):∀(d:Nat) (w:World),1≤d→d≤16→LOK w B A n→TapeOK w B b A n c→B≤w.heap.size→
 Calls prog 46 #[.pointer (some ⟨b,0,none⟩),.int .i64 (d:Int)] w (ExprO B b A n c d w):=by
 intro d;induction d with
 |zero=>intro w h;omega
 |succ d ih=>
  intro w _ hd hl ht hw;obtain⟨q,hq⟩:∃q:Int,q=((d+1:Nat):Int):=⟨_,rfl⟩;rw[←hq];have hq1:1≤q:=by omega
  have hq2:q≤16:=by omega
  have HQ:Hid (q-1=(d:Int)):=by unfold Hid;omega
  have hBb:=ht.1;have hbl:=ht.lt;have hb0:=aE (B:=w.heap.size) (w:=w) (.cells #[.int .i64 0,.int .i64 0,.slice none 0 0] 52) (Le _);have ho0:Only b w _:=Only.of_below hb0;have H0:=Hd (aW B b A n c 10 _ (hl.below (hb0.mono hw)) (ht.below hb0) (by omega) (by omega));have HO0:=Hd ho0;have HL:=Hd hl;have hne:w.heap.size≠b:=by omega
  clear hq hl ht hb0 ho0;go_enter func46,ntmps46;go_wp2_with fail;refine H0.o.mono ?_;rintro e w1 ⟨r,rfl,r0,r1,htp,ho⟩;have HT1:=Hd htp;have HO1:=Hd (HO0.o.trans ho);have R1:=Hd ((ho.2.2.2.2 w.heap.size (by simp) hne).trans (Hn w _));clear htp ho;by_cases hbr:q<2∨(2≤q∧r<3)
  ·rcases hbr with h2|⟨h2,h3⟩
   all_goals
    go_wp2_with fail;refine(eX B b A n c _ (HL.o.only HO1.o hBb hw) HT1.o (Ly hw HO1.o.size)).mono ?_;rintro e w2 ⟨z,rfl,z0,z1,htp,ho⟩;have HT2:=Hd htp;have HO2:=Hd (HO1.o.trans ho);have R2:=Hd ((ho.2.2.2.2 w.heap.size (hltq R1.o) hne).trans R1.o);obtain⟨c0,c1,c2⟩:=three R2.o;have f0:=froz R2.o;clear htp ho;go_wp2_with fail;exact bodyPost_ret (results_cell_row results46 _ _ w.heap.size _ _ _ _ rfl (cV R2.o) underlying52 rfl (by kernel_rfl)) rfl
     (ExprO.of_ hbl (Rb.num _ _ _ (by unfold I64;omega)) (cU d z (by omega) (by omega)) HT2.o HO2.o _ _ _)
  have h2:2≤q:=by omega
  have h3:3≤r:=by omega
  have hd1:1≤d:=by have:=HQ.o;omega
  clear hbr;by_cases h5:r<5
  ·go_wp2_with fail;refine(fU B b A n c _ (HL.o.only HO1.o hBb hw) HT1.o (Ly hw HO1.o.size)).mono ?_;rintro e w2 ⟨z,rfl,z0,z1,htp,ho⟩;have HT2:=Hd htp;have HO2:=Hd (HO1.o.trans ho);have R2:=Hd (ho.heap R1.o hne);clear htp ho;go_wp2_with fail;refine(aW B b A n c 8 _ (HL.o.only (HO2.o.alloc _) hBb hw) (HT2.o.alloc _) (by omega) (by omega)).mono ?_;rintro e w3 ⟨r2,rfl,r20,r21,htp,ho⟩;have HT3:=Hd htp;have HO3:=Hd ((HO2.o.alloc _).trans ho);have hl2:b<w2.heap.size:=Lt hbl HO2.o.size;have R3:=Hd (ho.heap (oldq R2.o _) hne);have X3:=Hd (ho.heap (newq w2 _) (by omega));clear htp ho;obtain⟨x0,x1,x2⟩:=three X3.o;have xf:=froz X3.o;by_cases hr2:r2=0
   ·have hr2':(r2==0)=true:=by simpa using hr2
    clear hr2;go_wp2_with fail;rw[HQ.o];refine(ih w3 hd1 (by omega) (HL.o.only HO3.o hBb hw) HT3.o (Ly hw HO3.o.size)).mono ?_;rintro e w4 ⟨t,o',n',A',k',c',rfl,hrb,hrt,htp,ho⟩;have HT4:=Hd htp;have HO4:=Hd (HO3.o.trans ho);have R4:=Hd (ho.heap R3.o hne);have X4:=Hd (ho.heap X3.o (by omega));have HRB:=Hd hrb;have HRT:=Hd hrt;have h34:=ho.size;clear htp ho hrb hrt x0 x1 x2 xf;obtain⟨x0,x1,x2⟩:=three X4.o;have xf:=froz X4.o;go_upto_region 8 with(fail)
    obtain⟨w5,hw5⟩:∃W:World,W=(((w4.setCell ⟨w2.heap.size,0,none⟩ (.int .i64 o')).setCell ⟨w2.heap.size,1,none⟩ (.int .i64 n')).setCell ⟨w2.heap.size,2,none⟩ (.slice A' k' c')):=⟨_,rfl⟩;rw[←hw5];have hrw:=hltq R2.o;have hxw:=hltq X3.o;have X5:w5.heap[w2.heap.size]? =some (.cells #[.int .i64 o',.int .i64 n',.slice A' k' c'] 52 (0,0)):=by rw[hw5];exact cV X4.o
    have hk5:∀j,j≠w2.heap.size→w5.heap[j]? =w4.heap[j]? :=fun j hj=>by rw[hw5];exact dY _ _ _ _ _ _ hj
    have R5:=Hd ((hk5 w.heap.size (by omega)).trans R4.o);have HT5:=Hd (HT4.o.keep (hk5 b (by omega)));have HO5:Hid (Only b w w5):=by rw[hw5];exact((HO4.o.set_new (by omega)).set_new (by omega)).set_new (by omega)
    have HRB5:=Hd (HRB.o.keep (w':=w5) (b':=w.heap.size) (fun g h1 h2=>hk5 g (by omega)) (by omega) (by rw[hw5];simp[World.setCell]));have HX5:=Hd X5;clear hk5 X5 hw5 x0 x1 x2 xf;obtain⟨x0,x1,x2⟩:=three HX5.o;obtain⟨c0,c1,c2⟩:=three (oldq R5.o (.cells #[.int .i64 o',.int .i64 n',.slice A' k' c'] 52));have f0:=froz (oldq R5.o (.cells #[.int .i64 o',.int .i64 n',.slice A' k' c'] 52));go_wp2_with fail;exact bodyPost_ret (results_cell_row results46 _ _ w.heap.size _ _ _ _ rfl (cV (oldq R5.o _)) underlying52 rfl (by kernel_rfl)) rfl
     (ExprO.of_ hbl (Rb.lay1 (newq w5 _) (hltq R5.o) (HRB5.o.keep (fun g h1 h2=>Bm _ _ _ h2) (Le _) (by simp)) (by unfold I64;omega)) (cW rfl (by decide) HRT.o) (HT5.o.alloc _) (HO5.o.alloc _) _ _ _)
   ·have hr2':(r2==0)=false:=by simpa using hr2
    clear hr2;obtain⟨c0,c1,c2⟩:=three (oldq R3.o (.cells #[.int .i64 0,.int .i64 (z*1000000),.slice none 0 0] 52));have f0:=froz (oldq R3.o (.cells #[.int .i64 0,.int .i64 (z*1000000),.slice none 0 0] 52));go_wp2_with fail;exact bodyPost_ret (results_cell_row results46 _ _ w.heap.size _ _ _ _ rfl (cV (oldq R3.o _)) underlying52 rfl (by kernel_rfl)) rfl
     (ExprO.of_ hbl (Rb.lay1 (newq w3 _) (hltq R3.o) (Rb.num _ _ _ (by unfold I64;omega)) (by unfold I64;omega)) (cW rfl (by decide) (iG (m:=1) hd1 (cU 0 (z*1000000) (by omega) (by omega)))) (HT3.o.alloc _) (HO3.o.alloc _) _ _ _)
  by_cases h6:r<6
  ·go_upto_region 11 with(fail)
   have hb1:=HO1.o.size;have N9:=Hd (aW B b A n c 9 _ (HL.o.only (HO1.o.alloc (.cells L9 3)).drew hBb hw) (HT1.o.alloc _).drew (by omega) (by omega));have HN1:=Hd (newq w1 (.cells L9 3));have s1:∀i,(w1.alloc (.cells L9 3)).cell? ⟨w1.heap.size,i,none⟩=L9[i]? :=fun i=>Ro _ _ _ _ _ _ HN1.o;have S1:=Hd s1;have HQW:Hid (IntKind.i64.wrap (q-1)=(d:Int)):=by unfold Hid;rw[IntWalk.i64_in _ (by omega)];exact HQ.o
   have s1d:∀i,(w1.alloc (.cells L9 3)).drew.cell? ⟨w1.heap.size,i,none⟩=L9[i]? :=s1;have S1d:=Hd s1d;clear s1d;have hne1:w1.heap.size≠w.heap.size:=by have:=hltq R1.o;omega
   clear s1;go_region_held3(fun w'=>∀i,w'.cell? ⟨w1.heap.size,i,none⟩=L9[i]?) (first|with_reducible exact S5.o|with_reducible exact S4.o|with_reducible exact S3.o|with_reducible exact S2.o|exact S1d.o)
    (first
    |(go_at_call 25;refine N9.o.mono ?_;rintro e w2 ⟨r3,rfl,r30,r31,htp,ho⟩;have HT2:=Hd htp;have HO2:=Hd ((HO1.o.alloc _).drew.trans ho);have R2:=Hd (ho.heap (oldq R1.o (.cells L9 3)) hne);have X2:=Hd (ho.heap HN1.o (by omega));have S2:=Hd (fun i=>Ro w2 _ i _ _ _ X2.o);obtain⟨op,hop,hk1,hop0,hopI⟩:=qsP r30 (by omega);have hs12:=hltq X2.o;have r32:r3<9:=(by omega);clear htp ho)
    |(go_at_call 46;rw[HQW.o];refine(ih w2 hd1 (by omega) (HL.o.only HO2.o hBb hw) HT2.o (Ly hw HO2.o.size)).mono ?_;rintro e w3 ⟨t,o',n',A',k',c',rfl,hrb,hrt,htp,ho⟩;have HT3:=Hd htp;have HO3:=Hd (HO2.o.trans ho);have R3:=Hd (ho.heap R2.o hne);have X3:=Hd (ho.heap X2.o (by omega));have S3:=Hd (fun i=>Ro w3 _ i _ _ _ X3.o);have S4:=Hd (fun i=>Ro _ _ i _ _ _ (oldq X3.o (.cells #[.int .i64 o',.int .i64 n',.slice A' k' c'] 52)));have S5:=Hd (fun i=>(fI (w3.alloc (.cells #[.int .i64 o',.int .i64 n',.slice A' k' c'] 52)) w.heap.size w1.heap.size i (.int .i64 op) (.int .i64 0) (.slice (some ⟨w3.heap.size,0,none⟩) 1 1) hne1).trans (S4.o i));have HRB:=Hd hrb;have HRT:=Hd hrt;have h23:=ho.size;have c3:=three (oldq R3.o (.cells #[.int .i64 o',.int .i64 n',.slice A' k' c'] 52));have f0:=froz (oldq R3.o (.cells #[.int .i64 o',.int .i64 n',.slice A' k' c'] 52));obtain⟨c0,c1,c2⟩:=c3;clear htp ho hrb hrt))
   go_wp2_with fail;exact bodyPost_ret (results_cell_row results46 _ _ w.heap.size _ _ _ _ rfl (cV (oldq R3.o _)) underlying52 rfl (by kernel_rfl)) rfl
    (ExprO.of_ hbl (Rb.lay1 (newq w3 _) (hltq R3.o) (HRB.o.keep (fun g h1 h2=>Bm _ _ _ h2) (Ly HO2.o.size (Le _)) (by simp)) hopI) (cW hk1 hop0 HRT.o) (HT3.o.alloc _) (HO3.o.alloc _) _ _ _)
  ·go_wp2_with fail;have HN1:=Hd (newq w1 (.cells L18 3));have hne1:w1.heap.size≠b:=by have:=HO1.o.size;omega
   refine(aW B b A n c 18 _ (HL.o.only (HO1.o.alloc (.cells L18 3)) hBb hw) (HT1.o.alloc _) (by omega) (by omega)).mono ?_;rintro e w2 ⟨r3,rfl,r30,r31,htp,ho⟩;have HT2:=Hd htp;have HO2:=Hd ((HO1.o.alloc _).trans ho);have R2:=Hd (ho.heap (oldq R1.o (.cells L18 3)) hne);have X2:=Hd (ho.heap HN1.o hne1);obtain⟨op,hop,hk1,hop0,hopI⟩:=qgK r30 (by omega);have xc:=(Ro w2 _ _ _ _ _ X2.o).trans hop;have r32:r3<18:=by omega
   clear htp ho hop;go_wp2_with fail;rw[HQ.o];refine(ih w2 hd1 (by omega) (HL.o.only HO2.o hBb hw) HT2.o (Ly hw HO2.o.size)).mono ?_;rintro e w3 ⟨t,o',n',A',k',c',rfl,hrb,hrt,htp,ho⟩;have HT3:=Hd htp;have HO3:=Hd (HO2.o.trans ho);have R3:=Hd (ho.heap R2.o hne);have HRB:=Hd hrb;have HRT:=Hd hrt;have h23:=ho.size;clear htp ho hrb hrt xc;go_upto_region 15 with(fail)
   have hw3:w.heap.size<w3.heap.size:=hltq R3.o;have hne3:w3.heap.size≠w.heap.size:=by omega
   have HQW:Hid (IntKind.i64.wrap (q-1)=(d:Int)):=by unfold Hid;rw[IntWalk.i64_in _ (by omega)];exact HQ.o
   have X3:=Hd (newq w3 (.cells #[.int .i64 o',.int .i64 n',.slice A' k' c'] 52));have s0:(w3.alloc (.cells #[.int .i64 o',.int .i64 n',.slice A' k' c'] 52)).drew.cell? ⟨w3.heap.size,0,none⟩=some (.int .i64 o')∧(w3.alloc (.cells #[.int .i64 o',.int .i64 n',.slice A' k' c'] 52)).drew.cell? ⟨w3.heap.size,1,none⟩=some (.int .i64 n')∧(w3.alloc (.cells #[.int .i64 o',.int .i64 n',.slice A' k' c'] 52)).drew.cell? ⟨w3.heap.size,2,none⟩=some (.slice A' k' c'):=three X3.o;have S0:=Hd s0;clear s0;have E4:=Hd (ih (w3.alloc (.cells #[.int .i64 o',.int .i64 n',.slice A' k' c'] 52)).drew hd1 (by omega) (HL.o.only (HO3.o.alloc (.cells #[.int .i64 o',.int .i64 n',.slice A' k' c'] 52)).drew hBb hw) (HT3.o.alloc _).drew (Ly hw (HO3.o.alloc (.cells #[.int .i64 o',.int .i64 n',.slice A' k' c'] 52)).drew.size));have HO3a:=Hd (HO3.o.alloc (.cells #[.int .i64 o',.int .i64 n',.slice A' k' c'] 52)).drew;have R3a:=Hd (oldq R3.o (.cells #[.int .i64 o',.int .i64 n',.slice A' k' c'] 52));have hne3b:w3.heap.size≠b:=by omega
   have HRB3:=Hd (HRB.o.keep (w':=(w3.alloc (.cells #[.int .i64 o',.int .i64 n',.slice A' k' c'] 52)).drew) (fun g h1 h2=>Bm _ _ _ h2) (Le _) (by simp));go_region_held3(fun w'=>w'.cell? ⟨w3.heap.size,0,none⟩=some (.int .i64 o')∧w'.cell? ⟨w3.heap.size,1,none⟩=some (.int .i64 n')∧w'.cell? ⟨w3.heap.size,2,none⟩=some (.slice A' k' c')) (first|with_reducible exact S6.o|with_reducible exact S5.o|with_reducible exact S4.o|exact S0.o)
    (first
    |(go_at_call 46;rw[HQW.o];refine E4.o.mono ?_;rintro e w4 ⟨t2,o2,n2,A2,k2,c2,rfl,hrb,hrt,htp,ho⟩;have HT4:=Hd htp;have HO4:=Hd (HO3a.o.trans ho);have R4:=Hd (ho.heap R3a.o hne);have X4:=Hd (ho.heap X3.o hne3b);have S4:=Hd (three X4.o);have X5:=Hd (oldq X4.o (.cells #[.int .i64 o',.int .i64 n',.slice A' k' c',.int .i64 o2,.int .i64 n2,.slice A2 k2 c2] 52));have S5:=Hd (three X5.o);have S6:=Hd (show _∧_∧_ from⟨(fI (w4.alloc (.cells #[.int .i64 o',.int .i64 n',.slice A' k' c',.int .i64 o2,.int .i64 n2,.slice A2 k2 c2] 52)) w.heap.size w3.heap.size 0 (.int .i64 op) (.int .i64 0) (.slice (some ⟨w4.heap.size,0,none⟩) 2 2) hne3).trans S5.o.1,(fI (w4.alloc (.cells #[.int .i64 o',.int .i64 n',.slice A' k' c',.int .i64 o2,.int .i64 n2,.slice A2 k2 c2] 52)) w.heap.size w3.heap.size 1 (.int .i64 op) (.int .i64 0) (.slice (some ⟨w4.heap.size,0,none⟩) 2 2) hne3).trans S5.o.2.1,(fI (w4.alloc (.cells #[.int .i64 o',.int .i64 n',.slice A' k' c',.int .i64 o2,.int .i64 n2,.slice A2 k2 c2] 52)) w.heap.size w3.heap.size 2 (.int .i64 op) (.int .i64 0) (.slice (some ⟨w4.heap.size,0,none⟩) 2 2) hne3).trans S5.o.2.2⟩);have HRB4:=Hd (HRB3.o.only (b':=w.heap.size) ho (Ly (Ll hbl) HO2.o.size) HO2.o.size);have HRC:=Hd hrb;have HRT2:=Hd hrt;have c3:=three (oldq R4.o (.cells #[.int .i64 o',.int .i64 n',.slice A' k' c',.int .i64 o2,.int .i64 n2,.slice A2 k2 c2] 52));have f0:=froz (oldq R4.o (.cells #[.int .i64 o',.int .i64 n',.slice A' k' c',.int .i64 o2,.int .i64 n2,.slice A2 k2 c2] 52));obtain⟨c0,c1,c2'⟩:=c3;clear htp ho hrb hrt))
   go_wp2_with fail;exact bodyPost_ret (results_cell_row results46 _ _ w.heap.size _ _ _ _ rfl (cV (oldq R4.o _)) underlying52 rfl (by kernel_rfl)) rfl
    (ExprO.of_ hbl (Rb.lay2 (newq w4 _) (hltq R4.o) (HRB4.o.keep (fun g h1 h2=>Bm _ _ _ h2) (Le _) (by simp)) (HRC.o.keep (fun g h1 h2=>Bm _ _ _ h2) (by show w.heap.size≤(w3.alloc _).heap.size;rw[size1e];omega) (by simp)) hopI) (mL hk1 hop0 HRT.o HRT2.o) (HT4.o.alloc _) (HO4.o.alloc _) _ _ _)
open Go.RowKit Go.PlainAid
theorem mV{P:Program}{c:Code}{Q:Exit→Act→World→Prop}{a:Act}{W0:World}(h:∀W,W=W0→Code.wp P c Q a W):Code.wp P c Q a W0:=h _ rfl
def setQ(W:World)(g:Nat):List (Nat×Value)→World
 |[]=>W
 |x::r=>setQ (W.setCell ⟨g,x.1,none⟩ x.2) g r
def setA(cs:Array Value):List (Nat×Value)→Array Value
 |[]=>cs
 |x::r=>setA (cs.setIfInBounds x.1 x.2) r
theorem wO(g:Nat):∀(l:List (Nat×Value)) (W:World),(setQ W g l).heap.size=W.heap.size:=by
 intro l;induction l with
 |nil=>intro W;rfl
 |cons x r ih=>intro W;rw[setQ,ih];simp[World.setCell]
theorem wR(g q:Nat)(h:q≠g):∀(l:List (Nat×Value)) (W:World),(setQ W g l).heap[q]? =W.heap[q]? :=by
 intro l;induction l with
 |nil=>intro W;rfl
 |cons x r ih=>intro W;rw[setQ,ih];exact Bj _ _ _ q h
theorem qbL{g:Nat}{T:TypeId}:∀(l:List (Nat×Value)) (W:World) (cs:Array Value),W.heap[g]? =some (.cells cs T (0,0))→(setQ W g l).heap[g]? =some (.cells (setA cs l) T (0,0)):=by
 intro l;induction l with
 |nil=>intro W cs h;exact h
 |cons x r ih=>intro W cs h;rw[setQ,setA];exact ih _ _ (aD h)
theorem wQ{b g:Nat}{w:World}(hg:w.heap.size≤g):∀(l:List (Nat×Value)) (W:World),Only b w W→Only b w (setQ W g l):=by
 intro l;induction l with
 |nil=>intro W h;exact h
 |cons x r ih=>intro W h;rw[setQ];exact ih _ (Only.set_new h hg)
structure BV(z:Bool)(B tb:Nat)(A:OA)(n c:Nat)(w:World)(bb:Nat)(W:World):Prop where
 lt:w.heap.size<bb
 tp:TapeOK W B tb A n c
 only:Only tb w W
 res:W.heap[w.heap.size]? =some (.cells #[.int .i64 0,.int .i64 0,.bool false,.slice none 0 0,.int .i64 0,.int .i64 0,.slice none 0 0,.int .i64 0,.int .i64 0,.slice none 0 0,.int .i64 0] 54 (0,0))
 blk:∃(bk:Bk) (Aw:OA) (kw cw:Nat) (lo ln:Int) (lA:OA) (lk lc:Nat) (xo xn:Int) (xA:OA) (xk xc:Nat),W.heap[bb]? =some (.cells #[.int .i64 bk.kind,.int .i64 bk.label,.bool bk.skip,.slice Aw kw cw,.int .i64 lo,.int .i64 ln,.slice lA lk lc,.int .i64 xo,.int .i64 xn,.slice xA xk xc,.int .i64 bk.n] 54 (0,0))∧Bz W (fun q=>bb<q) bk Aw kw (.int .i64 lo) (.int .i64 ln) (.slice lA lk lc) (.int .i64 xo) (.int .i64 xn) (.slice xA xk xc)∧(z=true→Aw=none∧kw=0∧cw=0∧bk.words=[])
theorem BV.put{z:Bool}{B tb:Nat}{A:OA}{n c:Nat}{w:World}{bb:Nat}{W w1:World}(h:BV z B tb A n c w bb W)(htb:tb<w.heap.size)(ho:Only tb W w1)(htp:TapeOK w1 B tb A n c){cs:Array Value}(hcs:W.heap[bb]? =some (.cells cs 54 (0,0)))(l:List (Nat×Value))
 {bk:Bk} {Aw:OA} {kw cw:Nat} {lo ln:Int} {lA:OA} {lk lc:Nat} {xo xn:Int} {xA:OA} {xk xc:Nat} (hz:Bz w1 (fun q=>bb<q) bk Aw kw (.int .i64 lo) (.int .i64 ln) (.slice lA lk lc) (.int .i64 xo) (.int .i64 xn) (.slice xA xk xc)) (e:setA cs l= #[.int .i64 bk.kind,.int .i64 bk.label,.bool bk.skip,.slice Aw kw cw,.int .i64 lo,.int .i64 ln,.slice lA lk lc,.int .i64 xo,.int .i64 xn,.slice xA xk xc,.int .i64 bk.n]) (hzz:z=true→Aw=none∧kw=0∧cw=0∧bk.words=[]):BV z B tb A n c w bb (setQ w1 bb l):=by
 have hr:=hlS h.res;have hb:=hlS hcs;have hlt:=h.lt;have hk:∀q,q≠bb→(setQ w1 bb l).heap[q]? =w1.heap[q]? :=fun q hq=>wR _ q hq _ _;refine⟨hlt,htp.keep (hk _ (by omega)),wQ (by omega) _ _ (h.only.trans ho),(hk _ (by omega)).trans ((ho.2.2.2.2 _ hr (by omega)).trans h.res),bk,Aw,kw,cw,lo,ln,lA,lk,lc,xo,xn,xA,xk,xc,?_,hz.keep (Nat.le_of_eq (wO _ _ _).symm) (fun _ _ h=>h) (fun q _ hq=>hk q (by omega)),hzz⟩;rw[←e];exact qbL _ _ _ ((ho.2.2.2.2 _ hb (by omega)).trans hcs)
theorem yM{w w':World}{tb b b':Nat}{t:Tr}{v:Value}(h:Rb w b t v)(ho:Only tb w w')(h1:tb≤b)(h2:b'≤b):Rz w' (fun q=>b'<q) t v:=
 Rz.keep ho.size (fun q _ hq=>by have q1:b<q:=hq;show b'<q;omega) (fun q hq hi=>ho.2.2.2.2 q hq (by have q1:b<q:=hi;omega)) h
theorem rb_ge{w:World}{a b:Nat}{t:Tr}{v:Value}(h:Rb w b t v)(h1:a≤b):Rz w (fun q=>a≤q) t v:=
 Rz.keep (Le _) (fun q _ hq=>by have q1:b<q:=hq;show a≤q;omega) (fun _ _ _=>rfl) h
theorem BV.call{z:Bool}{B tb:Nat}{A:OA}{n c:Nat}{w:World}{bb:Nat}{W w1:World}(h:BV z B tb A n c w bb W)(htb:tb<w.heap.size)(ho:Only tb W w1)(htp:TapeOK w1 B tb A n c):BV z B tb A n c w bb w1:=by
 obtain⟨bk,Aw,kw,cw,lo,ln,lA,lk,lc,xo,xn,xA,xk,xc,hbk,hbz,hzz⟩:=h.blk;exact h.put htb ho htp hbk [] (hbz.keep ho.size (fun _ _ h=>h) fun q hq hi=>ho.2.2.2.2 q hq (by have:=h.lt;omega)) rfl hzz
theorem BV.weak{z:Bool}{B tb:Nat}{A:OA}{n c:Nat}{w:World}{bb:Nat}{W:World}(h:BV z B tb A n c w bb W):BV false B tb A n c w bb W:=by
 obtain⟨bk,Aw,kw,cw,lo,ln,lA,lk,lc,xo,xn,xA,xk,xc,hbk,hbz,_⟩:=h.blk;exact⟨h.lt,h.tp,h.only,h.res,bk,Aw,kw,cw,lo,ln,lA,lk,lc,xo,xn,xA,xk,xc,hbk,hbz,fun e=>by cases e⟩
theorem Bz.only{tb b:Nat}{W w1:World}{bk:Bk}{Aw:OA}{kw:Nat}{l0 l1 l2 x0 x1 x2:Value}(h:Bz W (fun q=>b<q) bk Aw kw l0 l1 l2 x0 x1 x2)(ho:Only tb W w1)(hb:tb≤b):Bz w1 (fun q=>b<q) bk Aw kw l0 l1 l2 x0 x1 x2:=
 h.keep ho.size (fun _ _ h=>h) fun q hq hi=>ho.2.2.2.2 q hq (by omega)
structure BW(B tb:Nat)(A:OA)(n c:Nat)(w:World)(bb:Nat)(bk:Bk)(C:OA)(cw:Nat)(ys:LV)(lo ln:Int)(lA:OA)(lk lc:Nat)(xo xn:Int)(xA:OA)(xk xc:Nat)(W:World):Prop where
 lt:w.heap.size<bb
 tp:TapeOK W B tb A n c
 only:Only tb w W
 res:W.heap[w.heap.size]? =some (.cells #[.int .i64 0,.int .i64 0,.bool false,.slice none 0 0,.int .i64 0,.int .i64 0,.slice none 0 0,.int .i64 0,.int .i64 0,.slice none 0 0,.int .i64 0] 54 (0,0))
 blk:W.heap[bb]? =some (.cells #[.int .i64 bk.kind,.int .i64 bk.label,.bool bk.skip,.slice C bk.words.length cw,.int .i64 lo,.int .i64 ln,.slice lA lk lc,.int .i64 xo,.int .i64 xn,.slice xA xk xc,.int .i64 bk.n] 54 (0,0))
 is:I64 bk.kind∧I64 bk.label∧I64 bk.n
 left:Rz W (fun q=>bb<q∧some q≠(Value.slice C bk.words.length cw).ownBlock) bk.left (.agg #[.int .i64 lo,.int .i64 ln,.slice lA lk lc])
 x:Rz W (fun q=>bb<q∧some q≠(Value.slice C bk.words.length cw).ownBlock) bk.x (.agg #[.int .i64 xo,.int .i64 xn,.slice xA xk xc])
 own:W.ownsRow (bb+1) 57 4 (.slice C bk.words.length cw) bk.words.length ys
 words:∀(i:Nat) (cc:Int) (t:Tr),bk.words[i]? =some (cc,t)→I64 cc∧ys[i*4]? =some (.int .i64 cc)∧∃x y z:Value,ys[i*4+1]? =some x∧ys[i*4+2]? =some y∧ys[i*4+3]? =some z∧Rz W (fun q=>bb<q∧some q≠(Value.slice C bk.words.length cw).ownBlock) t (.agg #[x,y,z])
theorem BV.start{B tb:Nat}{A:OA}{n c:Nat}{w:World}{bb:Nat}{W:World}(h:BV true B tb A n c w bb W):∃(bk:Bk) (lo ln:Int) (lA:OA) (lk lc:Nat) (xo xn:Int) (xA:OA) (xk xc:Nat),bk.words=[]∧BW B tb A n c w bb bk none 0 [] lo ln lA lk lc xo xn xA xk xc W:=by
 obtain⟨bk,Aw,kw,cw,lo,ln,lA,lk,lc,xo,xn,xA,xk,xc,hbk,hbz,hzz⟩:=h.blk;obtain⟨rfl,rfl,rfl,e⟩:=hzz rfl;refine⟨bk,lo,ln,lA,lk,lc,xo,xn,xA,xk,xc,e,h.lt,h.tp,h.only,h.res,?_,⟨hbz.kind,hbz.label,hbz.n⟩,?_,?_,?_,fun i cc t hi=>by rw[e]at hi;simp at hi⟩
 ·rw[e];exact hbk
 ·exact Rz.keep (Le _) (fun q _ hq=>⟨hq,by simp[Value.ownBlock]⟩) (fun _ _ _=>rfl) hbz.left
 ·exact Rz.keep (Le _) (fun q _ hq=>⟨hq,by simp[Value.ownBlock]⟩) (fun _ _ _=>rfl) hbz.x
 ·rw[e];exact World.ownsRow_nil _ _ _ _
section
variable {B tb:Nat} {A:OA} {n c:Nat} {w:World} {bb:Nat} {bk:Bk} {C:OA} {cw:Nat} {ys:LV} {lo ln:Int} {lA:OA} {lk lc:Nat} {xo xn:Int} {xA:OA} {xk xc:Nat} {W:World}
theorem BW.bv(h:BW B tb A n c w bb bk C cw ys lo ln lA lk lc xo xn xA xk xc W)(hn:bk.words.length≤maxLen):BV false B tb A n c w bb W:=by
 have kr:∀{t:Tr} {v:Value},Rz W (fun q=>bb<q∧some q≠(Value.slice C bk.words.length cw).ownBlock) t v→Rz W (fun q=>bb<q) t v:=fun hr=>Rz.keep (Le _) (fun _ _ q=>q.1) (fun _ _ _=>rfl) hr;refine⟨h.lt,h.tp,h.only,h.res,bk,C,bk.words.length,cw,lo,ln,lA,lk,lc,xo,xn,xA,xk,xc,h.blk,⟨h.is.1,h.is.2.1,h.is.2.2,⟨rfl,hn,fun x hx=> ?_,?_⟩,kr h.left,kr h.x⟩,fun e=>by cases e⟩
 ·obtain⟨i,hi⟩:=List.getElem?_of_mem hx;exact(h.words i x.1 x.2 hi).1
 ·rcases h.own.2 with⟨e1,e2⟩|⟨gw,cap',cur,e1,q1,q2,q3,q4,q5,q6⟩
  ·simp only[Vs]at e1;exact .inl ⟨e1.1,e2⟩
  ·simp only[Vs,true_and]at e1;obtain⟨rfl,rfl⟩:=e1;refine .inr ⟨gw,rfl,by omega,hlS q2,fun i' cc t hx=> ?_⟩;have hil:=(Gu.1 hx).1;obtain⟨_,c0,x',y',z',c1,c2,c3,hr'⟩:=h.words i' cc t hx;have hca:∀j,j<bk.words.length*4→W.cell? ⟨gw,j,none⟩=ys[j]? :=fun j hj=>h.own.cellAt j hj;exact⟨(hca _ (by omega)).trans c0,x',y',z',(hca _ (by omega)).trans c1,(hca _ (by omega)).trans c2,(hca _ (by omega)).trans c3,kr hr'⟩
theorem BW.push{W2 W3 w1:World}{cc:Int}{t:Tr}{x y z:Value}{g cap:Nat}(h:BW B tb A n c w bb bk C cw ys lo ln lA lk lc xo xn xA xk xc W)(htb:tb<w.heap.size)(ho:Only tb W W2)(htp:TapeOK W2 B tb A n c)(hr:Rz W2 (fun q=>W.heap.size≤q) t (.agg #[x,y,z]))(hcc:I64 cc)(h3:Bw W2 W3)
 (ho1:w1.ownsRow (bb+1) 57 4 (.slice (some ⟨g,0,none⟩) (bk.words.length+1) cap) (bk.words.length+1) (ys++[.int .i64 cc,x,y,z])) (hg:W3.grownBy w1 (Value.slice C bk.words.length cw).ownBlock) (hl:(Value.slice C bk.words.length cw).ownBlock=some g∨g=W3.heap.size):
 BW B tb A n c w bb {bk with words:=bk.words++[(cc,t)]} (some ⟨g,0,none⟩) cap (ys++[.int .i64 cc,x,y,z]) lo ln lA lk lc xo xn xA xk xc (w1.setCell ⟨bb,3,none⟩ (.slice (some ⟨g,0,none⟩) (bk.words.length+1) cap)):=by
 have hlt:=h.lt;have hbl:=hlS h.blk;have hs2:=ho.size;have hs3:=h3.size;have hgs:=hg.size;have hob:∀q,(Value.slice C bk.words.length cw).ownBlock=some q→bb+1≤q∧q<W.heap.size:=fun q hq=>aI h.own hq;have nb:∀q,q<bb+1→(Value.slice C bk.words.length cw).ownBlock≠some q:=fun q hq e=>by have:=hob q e;omega
 have kp2:∀q,q<W2.heap.size→(Value.slice C bk.words.length cw).ownBlock≠some q→w1.heap[q]? =W2.heap[q]? :=fun q hq hn=>(hg.block q (by omega) (fun e=>hn e.symm)).trans (h3.block q hq);have kp:∀q,q<W.heap.size→q≠tb→(Value.slice C bk.words.length cw).ownBlock≠some q→w1.heap[q]? =W.heap[q]? :=fun q hq ht hn=>(kp2 q (by omega) hn).trans (ho.2.2.2.2 q hq ht);have ks:∀q,q≠bb→(w1.setCell ⟨bb,3,none⟩ (.slice (some ⟨g,0,none⟩) (bk.words.length+1) cap)).heap[q]? =w1.heap[q]? :=fun q hq=>Bj _ _ _ q hq;have hsz1:(w1.setCell ⟨bb,3,none⟩ (.slice (some ⟨g,0,none⟩) (bk.words.length+1) cap)).heap.size=w1.heap.size:=by simp[World.setCell]
 have hlen:(bk.words++[(cc,t)]).length=bk.words.length+1:=by simp
 have hgge:bb+1≤g:=by
  rcases hl with e|e
  ·exact(hob g e).1
  ·omega
 have hnew:∀q,q<W2.heap.size→some q≠(Value.slice C bk.words.length cw).ownBlock→some q≠(Value.slice (some ⟨g,0,none⟩) (bk.words++[(cc,t)]).length cap).ownBlock:=fun q hq hn e=>by
  simp only[Value.ownBlock,Oi]at e;subst e;rcases hl with e|e
  ·exact hn e.symm
  ·omega
 have kr:∀{t':Tr} {v:Value},Rz W (fun q=>bb<q∧some q≠(Value.slice C bk.words.length cw).ownBlock) t' v→Rz (w1.setCell ⟨bb,3,none⟩ (.slice (some ⟨g,0,none⟩) (bk.words.length+1) cap)) (fun q=>bb<q∧some q≠(Value.slice (some ⟨g,0,none⟩) (bk.words++[(cc,t)]).length cap).ownBlock) t' v:=fun hr=>
  hr.keep (by omega) (fun q hq hi=>⟨hi.1,hnew q (by omega) hi.2⟩) fun q hq hi=>(ks q (by have:=hi.1;omega)).trans (kp q hq (by have:=hi.1;omega) fun e=>hi.2 e.symm)
 refine⟨hlt,htp.keep ((ks tb (by omega)).trans (kp2 tb (by omega) (nb tb (by omega)))),?_,(ks _ (by omega)).trans ((kp _ (hlS h.res) (by omega) (nb _ (by omega))).trans h.res),?_,h.is,kr h.left,kr h.x,?_,fun i ci ti hxi=> ?_⟩
 ·exact⟨hg.os.trans (h3.os.trans (ho.1.trans h.only.1)),hg.tape.trans (h3.tape.trans (ho.2.1.trans h.only.2.1)),hg.output.trans (h3.output.trans (ho.2.2.1.trans h.only.2.2.1)),by have:=h.only.size;omega,fun q hq hq2=>(ks q (by omega)).trans ((kp q (by have:=h.only.size;omega) hq2 (nb q (by omega))).trans (h.only.2.2.2.2 q hq hq2))⟩
 ·rw[hlen];have q:=aD (i:=3) (u:=.slice (some ⟨g,0,none⟩) (bk.words.length+1) cap) ((kp _ hbl (by omega) (nb _ (by omega))).trans h.blk);simpa using q
 ·rw[hlen];exact aC ho1 fun q _ hq=>ks q (by simp[Value.ownBlock]at hq;omega)
 ·have hyl:=h.own.1;by_cases e:i=bk.words.length
  ·subst e;rw[Ga (Le _),Nat.sub_self]at hxi;simp at hxi;obtain⟨rfl,rfl⟩:=hxi;refine⟨hcc,(dV (j:=0) hyl).trans rfl,x,y,z,(dV (j:=1) hyl).trans rfl,(dV (j:=2) hyl).trans rfl,(dV (j:=3) hyl).trans rfl,hr.keep (by omega) (fun q hq hi=>⟨by have q2:W.heap.size≤q:=hi;omega,hnew q hq fun e=>by have:=hob q e.symm;have q2:W.heap.size≤q:=hi;omega⟩) fun q hq hi=>(ks q (by have q2:W.heap.size≤q:=hi;omega)).trans (kp2 q hq fun e=>by have:=hob q e;have q2:W.heap.size≤q:=hi;omega)⟩
  ·have hil:=(Gu.1 hxi).1;rw[hlen]at hil;rw[Gc (by omega)]at hxi;obtain⟨hc0,c0,x',y',z',c1,c2,c3,hr'⟩:=h.words i ci ti hxi;exact⟨hc0,(fJ hyl (by omega)).trans c0,x',y',z',(fJ hyl (by omega)).trans c1,(fJ hyl (by omega)).trans c2,(fJ hyl (by omega)).trans c3,kr hr'⟩
end
def BwRel(B tb:Nat)(A:OA)(n c:Nat)(w:World)(bb:Nat)(i:Value)(W:World):Prop:=
 ∃(j:Int) (bk:Bk) (C:OA) (cw:Nat) (ys:LV) (lo ln:Int) (lA:OA) (lk lc:Nat) (xo xn:Int) (xA:OA) (xk xc:Nat),i=.int .i64 j∧0≤j∧(bk.words.length:Int)+j≤3∧BW B tb A n c w bb bk C cw ys lo ln lA lk lc xo xn xA xk xc W
def BkPost(B tb:Nat)(A:OA)(n c:Nat)(w:World)(e:Ending)(w':World):Prop:=
 ∃(bk:Bk) (Aw:OA) (kw cw:Nat) (lo ln:Int) (lA:OA) (lk lc:Nat) (xo xn:Int) (xA:OA) (xk xc:Nat),e=.returned (.agg #[.int .i64 bk.kind,.int .i64 bk.label,.bool bk.skip,.slice Aw kw cw,.int .i64 lo,.int .i64 ln,.slice lA lk lc,.int .i64 xo,.int .i64 xn,.slice xA xk xc,.int .i64 bk.n])∧Bz w' (fun q=>w.heap.size<q) bk Aw kw (.int .i64 lo) (.int .i64 ln) (.slice lA lk lc) (.int .i64 xo) (.int .i64 xn) (.slice xA xk xc)∧TapeOK w' B tb A n c∧Only tb w w'
theorem qlI(B tb:Nat)(A:OA)(n c:Nat)(w:World)(hl:LOK w B A n)(ht:TapeOK w B tb A n c)(hw:B≤w.heap.size):Calls prog 36 #[.pointer (some ⟨tb,0,none⟩)] w (BkPost B tb A n c w):=by
 have HL:=Hd hl;have htb:=ht.lt;have hBt:=ht.1;obtain⟨W1,hW1,HB1,HR1⟩:=newWH w #[.int .i64 0,.int .i64 0,.bool false,.slice none 0 0,.int .i64 0,.int .i64 0,.slice none 0 0,.int .i64 0,.int .i64 0,.slice none 0 0,.int .i64 0] 54;have HS1:Hid (W1.heap.size=w.heap.size+1):=by unfold Hid;rw[hW1];simp
 have HO1:Hid (Only tb w W1):=Only.of_below HB1.o;have HT1:=Hd (ht.below HB1.o);have HN1:=Hd (aW B tb A n c 8 W1 (HL.o.only HO1.o hBt hw) HT1.o (by omega) (by omega));clear hl ht;go_enter func36,ntmps36;go_upto_region 2 with(rw[←hW1];clear hW1;go_at_call 25;refine HN1.o.mono ?_;rintro e w2 ⟨r,rfl,r0,r1,htp,ho⟩;have HT2:=Hd htp;have HO2:=Hd ho;clear htp ho)
 refine mV fun W0 hW0=> ?_;obtain⟨bb,hbb0⟩:∃bb,bb=w2.heap.size:=⟨_,rfl⟩;have HV:Hid (BV true B tb A n c w bb W0):=by
  have hlt2:w.heap.size<w2.heap.size:=Lt (by have:=HS1.o;omega) HO2.o.size;have hb:=(Bf w2.heap.size w2).alloc (Le _) (.cells #[.int .i64 0,.int .i64 0,.bool (r==0),.slice none 0 0,.int .i64 0,.int .i64 0,.slice none 0 0,.int .i64 0,.int .i64 0,.slice none 0 0,.int .i64 0] 54);unfold Hid;rw[hW0,hbb0];refine⟨hlt2,HT2.o.below hb,(HO1.o.trans HO2.o).trans (Only.of_below hb),(hb.block _ hlt2).trans ((HO2.o.2.2.2.2 _ (hlS HR1.o) (by omega)).trans HR1.o),⟨0,0,r==0,[],numT 0,numT 0,0⟩,none,0,0,0,0,none,0,0,0,0,none,0,0,Hn _ _,?_,fun _=>⟨rfl,rfl,rfl,rfl⟩⟩;exact⟨by show I64 0;unfold I64;omega,by show I64 0;unfold I64;omega,by show I64 0;unfold I64;omega,mW _ _,bN _ _ _ (by unfold I64;omega),bN _ _ _ (by unfold I64;omega)⟩
 rw[←hbb0];clear hW0 hbb0;have hr1':r<8:=by omega
 generalize(r==0)=skv;clear hr1' HN1 HT2 HO2 HT1 HR1 HS1;have HN2:=Hd (aW B tb A n c 3 W0 (HL.o.only HV.o.only hBt hw) HV.o.tp (by omega) (by omega));go_upto_if 12 with(go_at_call 25;refine HN2.o.mono ?_;rintro e y0 ⟨r12,rfl,r120,r121,htp,ho⟩;have HVN:=Hd (HV.o.call htb ho htp);clear htp ho HV;have HV:=Hd HVN.o;clear HVN)
 clear HN2 r0 r1 r120 r121;go_cut[] (fun W=>BV true B tb A n c w bb W)
 case first=>
  by_cases h12:r12=0
  ·have g12:(r12==0)=true:=by simp[h12]
   clear h12;obtain⟨bk,Aw,kw,cw,lo,ln,lA,lk,lc,xo,xn,xA,xk,xc,hbk,hbz,hzz⟩:=HV.o.blk;have HZZ:=Hd (hzz rfl);have HBK:=Hd hbk;have HBZ:=Hd hbz;have hbl:=hlS hbk;have hbb:=HV.o.lt;have HE0:Hid (Only tb y0 y0):=Only.refl _ _;clear hbk hbz hzz;go_wp2_with((go_at_call 28;refine(cC B tb A n c 1 6 y0 (HL.o.only (HV.o.only.trans HE0.o) hBt hw) HV.o.tp (by omega) (by omega) (by omega)).mono ?_;rintro e y0 ⟨rl,rfl,rl0,rl1,htprl,horl⟩;have HT0:=Hd htprl;have HY0:=Hd (HE0.o.trans horl);have HBY:=Hd ((HY0.o.2.2.2.2 bb hbl (by omega)).trans HBK.o);have d1:y0.cell? ⟨bb,1,none⟩=some (.int .i64 bk.label):=Ro y0 _ 1 _ _ _ HBY.o;have df:∀i,y0.frozen? ⟨bb,i,none⟩=false:=(fun i=>by simp[World.frozen?,HBY.o]);clear htprl horl));go_meet;have hz:=HBZ.o.only HY0.o (by omega);exact(HV.o.put htb HY0.o HT0.o HBK.o [(1,.int .i64 rl)] (bk:={bk with label:=rl}) ⟨hz.kind,by show I64 rl;unfold I64;omega,hz.n,hz.words,hz.left,hz.x⟩ rfl (fun _=>HZZ.o))
  ·have g12:(r12==0)=false:=by simp[h12]
   go_wp2_with fail;go_meet;exact HV.o
 case rest=>
 have HV:=Hd hcut;clear hcut;have HN3:=Hd (aW B tb A n c 12 wc (HL.o.only HV.o.only hBt hw) HV.o.tp (by omega) (by omega));go_upto_block 0 with(go_at_call 25;refine HN3.o.mono ?_;rintro e y1 ⟨k,rfl,k0,k1,htp,ho⟩;have HVN:=Hd (HV.o.call htb ho htp);clear htp ho HV;have HV:=Hd HVN.o;clear HVN)
 clear HN3;go_cut[] (fun W=>BV false B tb A n c w bb W)
 case first=>
  by_cases hk8:k<8
  ·have hk:k=0∨k=1∨k=2∨k=3∨k=4∨k=5∨k=6∨k=7:=by omega
   rcases hk with rfl|rfl|rfl|rfl|rfl|rfl|rfl|rfl
   iterate 2
    ·obtain⟨bk,Aw,kw,cw,lo,ln,lA,lk,lc,xo,xn,xA,xk,xc,hbk,hbz,hzz⟩:=HV.o.blk;have HZZ:=Hd (hzz rfl);have HBK:=Hd hbk;have HBZ:=Hd hbz;have hbl:=hlS hbk;have hbb:=HV.o.lt;have HE0:Hid (Only tb y1 y1):=Only.refl _ _;have d0:y1.cell? ⟨bb,0,none⟩=some (.int .i64 bk.kind):=Ro y1 _ 0 _ _ _ HBK.o;have df:∀i,y1.frozen? ⟨bb,i,none⟩=false:=fun i=>by simp[World.frozen?,HBK.o]
     clear hbk hbz hzz;have hz:=HBZ.o.only HE0.o (by omega);go_upto_region 13 with(fail)
     refine mV fun X1 hX1=> ?_;have HVN:Hid (BV true B tb A n c w bb X1):=by
      unfold Hid;rw[hX1];have hz:=HBZ.o.only HE0.o (by omega);exact HV.o.put htb HE0.o HV.o.tp HBK.o [(0,.int .i64 1)] (bk:={bk with kind:=1}) ⟨by show I64 1;unfold I64;omega,hz.label,hz.n,hz.words,hz.left,hz.x⟩ rfl (fun _=>HZZ.o)
     clear HV HBK HBZ HZZ hX1 HE0;have HV:=Hd HVN.o;clear HVN;obtain⟨bk,Aw,kw,cw,lo,ln,lA,lk,lc,xo,xn,xA,xk,xc,hbk,hbz,hzz⟩:=HV.o.blk;have HZZ:=Hd (hzz rfl);have HBK:=Hd hbk;have HBZ:=Hd hbz;have hbl:=hlS hbk;have hbb:=HV.o.lt;have HE0:Hid (Only tb X1 X1):=Only.refl _ _;clear hbk hbz hzz;go_upto_region 14 with((go_at_call 57;refine(fU B tb A n c X1 (HL.o.only (HV.o.only.trans HE0.o) hBt hw) HV.o.tp (Ly hw (HV.o.only.trans HE0.o).size)).mono ?_;rintro e y0 ⟨va,rfl,va0,va1,htpva,hova⟩;have wva:IntKind.i64.wrap (va*1000000)=va*1000000:=IntWalk.i64_in _ (by omega);have HT0:=Hd htpva;have HY0:=Hd (HE0.o.trans hova);have HBY:=Hd ((HY0.o.2.2.2.2 bb hbl (by omega)).trans HBK.o);have d4:y0.cell? ⟨bb,4,none⟩=some (.int .i64 lo):=Ro y0 _ 4 _ _ _ HBY.o;have d5:y0.cell? ⟨bb,5,none⟩=some (.int .i64 ln):=Ro y0 _ 5 _ _ _ HBY.o;have d6:y0.cell? ⟨bb,6,none⟩=some (.slice lA lk lc):=Ro y0 _ 6 _ _ _ HBY.o;have df:∀i,y0.frozen? ⟨bb,i,none⟩=false:=(fun i=>by simp[World.frozen?,HBY.o]);clear htpva hova))
     refine mV fun X2 hX2=> ?_;have HVN:Hid (BV true B tb A n c w bb X2):=by
      unfold Hid;rw[hX2];have hz:=HBZ.o.only HY0.o (by omega);exact HV.o.put htb HY0.o HT0.o HBK.o [(4,.int .i64 0),(5,.int .i64 (va*1000000)),(6,.slice none 0 0)] (bk:={bk with left:=numT (va*1000000)}) ⟨hz.kind,hz.label,hz.n,hz.words,(bN _ _ (va*1000000) (by unfold I64;omega)),hz.x⟩ rfl (fun _=>HZZ.o)
     clear HV HBK HBZ HZZ hX2 HE0;have HV:=Hd HVN.o;clear HVN;obtain⟨bk,Aw,kw,cw,lo,ln,lA,lk,lc,xo,xn,xA,xk,xc,hbk,hbz,hzz⟩:=HV.o.blk;have HZZ:=Hd (hzz rfl);have HBK:=Hd hbk;have HBZ:=Hd hbz;have hbl:=hlS hbk;have hbb:=HV.o.lt;have HE0:Hid (Only tb X2 X2):=Only.refl _ _;clear hbk hbz hzz;go_wp2_with((go_at_call 46;refine(dK B tb A n c 4 X2 (by omega) (by omega) (HL.o.only (HV.o.only.trans HE0.o) hBt hw) HV.o.tp (Ly hw (HV.o.only.trans HE0.o).size)).mono ?_;rintro e y0 ⟨txp,oxp,nxp,Axp,kxp,cxp,rfl,hrbxp,-,htpxp,hoxp⟩;have HRBxp:=Hd hrbxp;have HT0:=Hd htpxp;have HY0:=Hd (HE0.o.trans hoxp);have HBY:=Hd ((HY0.o.2.2.2.2 bb hbl (by omega)).trans HBK.o);have d7:y0.cell? ⟨bb,7,none⟩=some (.int .i64 xo):=Ro y0 _ 7 _ _ _ HBY.o;have d8:y0.cell? ⟨bb,8,none⟩=some (.int .i64 xn):=Ro y0 _ 8 _ _ _ HBY.o;have d9:y0.cell? ⟨bb,9,none⟩=some (.slice xA xk xc):=Ro y0 _ 9 _ _ _ HBY.o;have df:∀i,y0.frozen? ⟨bb,i,none⟩=false:=(fun i=>by simp[World.frozen?,HBY.o]);clear htpxp hoxp hrbxp));go_meet;have hz:=HBZ.o.only HY0.o (by omega);exact BV.weak (HV.o.put htb HY0.o HT0.o HBK.o [(7,.int .i64 oxp),(8,.int .i64 nxp),(9,.slice Axp kxp cxp)] (bk:={bk with x:=txp}) ⟨hz.kind,hz.label,hz.n,hz.words,hz.left,(yM HRBxp.o (Only.refl tb _) (by omega) (by omega))⟩ rfl (fun _=>HZZ.o))
   ·obtain⟨bk,Aw,kw,cw,lo,ln,lA,lk,lc,xo,xn,xA,xk,xc,hbk,hbz,hzz⟩:=HV.o.blk;have HZZ:=Hd (hzz rfl);have HBK:=Hd hbk;have HBZ:=Hd hbz;have hbl:=hlS hbk;have hbb:=HV.o.lt;have HE0:Hid (Only tb y1 y1):=Only.refl _ _;have d0:y1.cell? ⟨bb,0,none⟩=some (.int .i64 bk.kind):=Ro y1 _ 0 _ _ _ HBK.o;have df:∀i,y1.frozen? ⟨bb,i,none⟩=false:=fun i=>by simp[World.frozen?,HBK.o]
    clear hbk hbz hzz;have hz:=HBZ.o.only HE0.o (by omega);go_upto_region 17 with(fail)
    refine mV fun X3 hX3=> ?_;have HVN:Hid (BV true B tb A n c w bb X3):=by
     unfold Hid;rw[hX3];have hz:=HBZ.o.only HE0.o (by omega);exact HV.o.put htb HE0.o HV.o.tp HBK.o [(0,.int .i64 2)] (bk:={bk with kind:=2}) ⟨by show I64 2;unfold I64;omega,hz.label,hz.n,hz.words,hz.left,hz.x⟩ rfl (fun _=>HZZ.o)
    clear HV HBK HBZ HZZ hX3 HE0;have HV:=Hd HVN.o;clear HVN;obtain⟨bk,Aw,kw,cw,lo,ln,lA,lk,lc,xo,xn,xA,xk,xc,hbk,hbz,hzz⟩:=HV.o.blk;have HZZ:=Hd (hzz rfl);have HBK:=Hd hbk;have HBZ:=Hd hbz;have hbl:=hlS hbk;have hbb:=HV.o.lt;have HE0:Hid (Only tb X3 X3):=Only.refl _ _;clear hbk hbz hzz;go_wp2_with((go_at_call 28;refine(cC B tb A n c 1 6 X3 (HL.o.only (HV.o.only.trans HE0.o) hBt hw) HV.o.tp (by omega) (by omega) (by omega)).mono ?_;rintro e y0 ⟨ra,rfl,ra0,ra1,htpra,hora⟩;have wra:IntKind.i64.wrap (ra*1000000)=ra*1000000:=IntWalk.i64_in _ (by omega);have HT0:=Hd htpra;have HY0:=Hd (HE0.o.trans hora);have HBY:=Hd ((HY0.o.2.2.2.2 bb hbl (by omega)).trans HBK.o);have d7:y0.cell? ⟨bb,7,none⟩=some (.int .i64 xo):=Ro y0 _ 7 _ _ _ HBY.o;have d8:y0.cell? ⟨bb,8,none⟩=some (.int .i64 xn):=Ro y0 _ 8 _ _ _ HBY.o;have d9:y0.cell? ⟨bb,9,none⟩=some (.slice xA xk xc):=Ro y0 _ 9 _ _ _ HBY.o;have df:∀i,y0.frozen? ⟨bb,i,none⟩=false:=(fun i=>by simp[World.frozen?,HBY.o]);clear htpra hora));go_meet;have hz:=HBZ.o.only HY0.o (by omega);exact BV.weak (HV.o.put htb HY0.o HT0.o HBK.o [(7,.int .i64 0),(8,.int .i64 (ra*1000000)),(9,.slice none 0 0)] (bk:={bk with x:=numT (ra*1000000)}) ⟨hz.kind,hz.label,hz.n,hz.words,hz.left,(bN _ _ (ra*1000000) (by unfold I64;omega))⟩ rfl (fun _=>HZZ.o))
   iterate 2
    ·obtain⟨bk,Aw,kw,cw,lo,ln,lA,lk,lc,xo,xn,xA,xk,xc,hbk,hbz,hzz⟩:=HV.o.blk;have HZZ:=Hd (hzz rfl);have HBK:=Hd hbk;have HBZ:=Hd hbz;have hbl:=hlS hbk;have hbb:=HV.o.lt;have HE0:Hid (Only tb y1 y1):=Only.refl _ _;have d0:y1.cell? ⟨bb,0,none⟩=some (.int .i64 bk.kind):=Ro y1 _ 0 _ _ _ HBK.o;have df:∀i,y1.frozen? ⟨bb,i,none⟩=false:=fun i=>by simp[World.frozen?,HBK.o]
     clear hbk hbz hzz;have hz:=HBZ.o.only HE0.o (by omega);go_upto_region 21 with(fail)
     refine mV fun X4 hX4=> ?_;have HVN:Hid (BV true B tb A n c w bb X4):=by
      unfold Hid;rw[hX4];have hz:=HBZ.o.only HE0.o (by omega);exact HV.o.put htb HE0.o HV.o.tp HBK.o [(0,.int .i64 3)] (bk:={bk with kind:=3}) ⟨by show I64 3;unfold I64;omega,hz.label,hz.n,hz.words,hz.left,hz.x⟩ rfl (fun _=>HZZ.o)
     clear HV HBK HBZ HZZ hX4 HE0;have HV:=Hd HVN.o;clear HVN;obtain⟨bk,Aw,kw,cw,lo,ln,lA,lk,lc,xo,xn,xA,xk,xc,hbk,hbz,hzz⟩:=HV.o.blk;have HZZ:=Hd (hzz rfl);have HBK:=Hd hbk;have HBZ:=Hd hbz;have hbl:=hlS hbk;have hbb:=HV.o.lt;have HE0:Hid (Only tb X4 X4):=Only.refl _ _;clear hbk hbz hzz;go_upto_region 22 with((go_at_call 46;refine(dK B tb A n c 3 X4 (by omega) (by omega) (HL.o.only (HV.o.only.trans HE0.o) hBt hw) HV.o.tp (Ly hw (HV.o.only.trans HE0.o).size)).mono ?_;rintro e y0 ⟨txp,oxp,nxp,Axp,kxp,cxp,rfl,hrbxp,-,htpxp,hoxp⟩;have HRBxp:=Hd hrbxp;have HT0:=Hd htpxp;have HY0:=Hd (HE0.o.trans hoxp);have HBY:=Hd ((HY0.o.2.2.2.2 bb hbl (by omega)).trans HBK.o);have d7:y0.cell? ⟨bb,7,none⟩=some (.int .i64 xo):=Ro y0 _ 7 _ _ _ HBY.o;have d8:y0.cell? ⟨bb,8,none⟩=some (.int .i64 xn):=Ro y0 _ 8 _ _ _ HBY.o;have d9:y0.cell? ⟨bb,9,none⟩=some (.slice xA xk xc):=Ro y0 _ 9 _ _ _ HBY.o;have df:∀i,y0.frozen? ⟨bb,i,none⟩=false:=(fun i=>by simp[World.frozen?,HBY.o]);clear htpxp hoxp hrbxp))
     refine mV fun X5 hX5=> ?_;have HVN:Hid (BV true B tb A n c w bb X5):=by
      unfold Hid;rw[hX5];have hz:=HBZ.o.only HY0.o (by omega);exact HV.o.put htb HY0.o HT0.o HBK.o [(7,.int .i64 oxp),(8,.int .i64 nxp),(9,.slice Axp kxp cxp)] (bk:={bk with x:=txp}) ⟨hz.kind,hz.label,hz.n,hz.words,hz.left,(yM HRBxp.o (Only.refl tb _) (by omega) (by omega))⟩ rfl (fun _=>HZZ.o)
     clear HV HBK HBZ HZZ hX5 HE0;have HV:=Hd HVN.o;clear HVN;obtain⟨bk,Aw,kw,cw,lo,ln,lA,lk,lc,xo,xn,xA,xk,xc,hbk,hbz,hzz⟩:=HV.o.blk;have HZZ:=Hd (hzz rfl);have HBK:=Hd hbk;have HBZ:=Hd hbz;have hbl:=hlS hbk;have hbb:=HV.o.lt;have HE0:Hid (Only tb X5 X5):=Only.refl _ _;clear hbk hbz hzz;go_wp2_with((go_at_call 28;refine(cC B tb A n c 1 6 X5 (HL.o.only (HV.o.only.trans HE0.o) hBt hw) HV.o.tp (by omega) (by omega) (by omega)).mono ?_;rintro e y0 ⟨ra,rfl,ra0,ra1,htpra,hora⟩;have wra:IntKind.i64.wrap (ra*1000000)=ra*1000000:=IntWalk.i64_in _ (by omega);have HT0:=Hd htpra;have HY0:=Hd (HE0.o.trans hora);have HBY:=Hd ((HY0.o.2.2.2.2 bb hbl (by omega)).trans HBK.o);have d4:y0.cell? ⟨bb,4,none⟩=some (.int .i64 lo):=Ro y0 _ 4 _ _ _ HBY.o;have d5:y0.cell? ⟨bb,5,none⟩=some (.int .i64 ln):=Ro y0 _ 5 _ _ _ HBY.o;have d6:y0.cell? ⟨bb,6,none⟩=some (.slice lA lk lc):=Ro y0 _ 6 _ _ _ HBY.o;have df:∀i,y0.frozen? ⟨bb,i,none⟩=false:=(fun i=>by simp[World.frozen?,HBY.o]);clear htpra hora));go_meet;have hz:=HBZ.o.only HY0.o (by omega);exact BV.weak (HV.o.put htb HY0.o HT0.o HBK.o [(4,.int .i64 0),(5,.int .i64 (ra*1000000)),(6,.slice none 0 0)] (bk:={bk with left:=numT (ra*1000000)}) ⟨hz.kind,hz.label,hz.n,hz.words,(bN _ _ (ra*1000000) (by unfold I64;omega)),hz.x⟩ rfl (fun _=>HZZ.o))
   ·obtain⟨bk,Aw,kw,cw,lo,ln,lA,lk,lc,xo,xn,xA,xk,xc,hbk,hbz,hzz⟩:=HV.o.blk;have HZZ:=Hd (hzz rfl);have HBK:=Hd hbk;have HBZ:=Hd hbz;have hbl:=hlS hbk;have hbb:=HV.o.lt;have HE0:Hid (Only tb y1 y1):=Only.refl _ _;clear hbk hbz hzz;go_wp2_with(first|(go_at_call 46;refine(dK B tb A n c 3 y1 (by omega) (by omega) (HL.o.only (HV.o.only.trans HE0.o) hBt hw) HV.o.tp (Ly hw (HV.o.only.trans HE0.o).size)).mono ?_;rintro e y0 ⟨txp,oxp,nxp,Axp,kxp,cxp,rfl,hrbxp,-,htpxp,hoxp⟩;have HRBxp:=Hd hrbxp;have HT0:=Hd htpxp;have HY0:=Hd (HE0.o.trans hoxp);clear htpxp hoxp hrbxp)|(go_at_call 28;refine(cC B tb A n c 1 3 y0 (HL.o.only (HV.o.only.trans HY0.o) hBt hw) HT0.o (by omega) (by omega) (by omega)).mono ?_;rintro e y1 ⟨rn,rfl,rn0,rn1,htprn,horn⟩;have HT1:=Hd htprn;have HY1x:=Hd horn;have HY1:=Hd (HY0.o.trans horn);have HBY:=Hd ((HY1.o.2.2.2.2 bb hbl (by omega)).trans HBK.o);have d0:y1.cell? ⟨bb,0,none⟩=some (.int .i64 bk.kind):=Ro y1 _ 0 _ _ _ HBY.o;have d7:y1.cell? ⟨bb,7,none⟩=some (.int .i64 xo):=Ro y1 _ 7 _ _ _ HBY.o;have d8:y1.cell? ⟨bb,8,none⟩=some (.int .i64 xn):=Ro y1 _ 8 _ _ _ HBY.o;have d9:y1.cell? ⟨bb,9,none⟩=some (.slice xA xk xc):=Ro y1 _ 9 _ _ _ HBY.o;have d10:y1.cell? ⟨bb,10,none⟩=some (.int .i64 bk.n):=Ro y1 _ 10 _ _ _ HBY.o;have df:∀i,y1.frozen? ⟨bb,i,none⟩=false:=(fun i=>by simp[World.frozen?,HBY.o]);clear htprn horn));go_meet;have hz:=HBZ.o.only HY1.o (by omega);exact BV.weak (HV.o.put htb HY1.o HT1.o HBK.o [(0,.int .i64 4),(7,.int .i64 oxp),(8,.int .i64 nxp),(9,.slice Axp kxp cxp),(10,.int .i64 rn)] (bk:={bk with kind:=4,x:=txp,n:=rn}) ⟨by show I64 4;unfold I64;omega,hz.label,by show I64 rn;unfold I64;omega,hz.words,hz.left,(yM HRBxp.o HY1x.o (by omega) (by omega))⟩ rfl (fun _=>HZZ.o))
   ·obtain⟨bk,Aw,kw,cw,lo,ln,lA,lk,lc,xo,xn,xA,xk,xc,hbk,hbz,hzz⟩:=HV.o.blk;have HZZ:=Hd (hzz rfl);have HBK:=Hd hbk;have HBZ:=Hd hbz;have hbl:=hlS hbk;have hbb:=HV.o.lt;have HE0:Hid (Only tb y1 y1):=Only.refl _ _;clear hbk hbz hzz;go_wp2_with((go_at_call 28;refine(cC B tb A n c 1 3 y1 (HL.o.only (HV.o.only.trans HE0.o) hBt hw) HV.o.tp (by omega) (by omega) (by omega)).mono ?_;rintro e y0 ⟨rn,rfl,rn0,rn1,htprn,horn⟩;have HT0:=Hd htprn;have HY0:=Hd (HE0.o.trans horn);have HBY:=Hd ((HY0.o.2.2.2.2 bb hbl (by omega)).trans HBK.o);have d0:y0.cell? ⟨bb,0,none⟩=some (.int .i64 bk.kind):=Ro y0 _ 0 _ _ _ HBY.o;have d10:y0.cell? ⟨bb,10,none⟩=some (.int .i64 bk.n):=Ro y0 _ 10 _ _ _ HBY.o;have df:∀i,y0.frozen? ⟨bb,i,none⟩=false:=(fun i=>by simp[World.frozen?,HBY.o]);clear htprn horn));go_meet;have hz:=HBZ.o.only HY0.o (by omega);exact BV.weak (HV.o.put htb HY0.o HT0.o HBK.o [(0,.int .i64 5),(10,.int .i64 rn)] (bk:={bk with kind:=5,n:=rn}) ⟨by show I64 5;unfold I64;omega,hz.label,by show I64 rn;unfold I64;omega,hz.words,hz.left,hz.x⟩ rfl (fun _=>HZZ.o))
   ·have HN4:=Hd (aW B tb A n c 3 y1 (HL.o.only HV.o.only hBt hw) HV.o.tp (by omega) (by omega));go_upto_if 90 with(go_at_call 25;refine HN4.o.mono ?_;rintro e y2 ⟨r90,rfl,r900,r901,htp,ho⟩;have HVN:=Hd (HV.o.call htb ho htp);clear htp ho HV;have HV:=Hd HVN.o;clear HVN)
    clear HN4;by_cases h90:r90=0
    ·have g90:(r90==0)=true:=by simp[h90]
     clear h90;obtain⟨bk,Aw,kw,cw,lo,ln,lA,lk,lc,xo,xn,xA,xk,xc,hbk,hbz,hzz⟩:=HV.o.blk;have HZZ:=Hd (hzz rfl);have HBK:=Hd hbk;have HBZ:=Hd hbz;have hbl:=hlS hbk;have hbb:=HV.o.lt;have HE0:Hid (Only tb y2 y2):=Only.refl _ _;clear hbk hbz hzz;go_wp2_with((go_at_call 28;refine(cC B tb A n c 1 4 y2 (HL.o.only (HV.o.only.trans HE0.o) hBt hw) HV.o.tp (by omega) (by omega) (by omega)).mono ?_;rintro e y0 ⟨rn,rfl,rn0,rn1,htprn,horn⟩;have HT0:=Hd htprn;have HY0:=Hd (HE0.o.trans horn);have HBY:=Hd ((HY0.o.2.2.2.2 bb hbl (by omega)).trans HBK.o);have d0:y0.cell? ⟨bb,0,none⟩=some (.int .i64 bk.kind):=Ro y0 _ 0 _ _ _ HBY.o;have d10:y0.cell? ⟨bb,10,none⟩=some (.int .i64 bk.n):=Ro y0 _ 10 _ _ _ HBY.o;have df:∀i,y0.frozen? ⟨bb,i,none⟩=false:=(fun i=>by simp[World.frozen?,HBY.o]);clear htprn horn));go_meet;have hz:=HBZ.o.only HY0.o (by omega);exact BV.weak (HV.o.put htb HY0.o HT0.o HBK.o [(0,.int .i64 6),(10,.int .i64 rn)] (bk:={bk with kind:=6,n:=rn}) ⟨by show I64 6;unfold I64;omega,hz.label,by show I64 rn;unfold I64;omega,hz.words,hz.left,hz.x⟩ rfl (fun _=>HZZ.o))
    ·have g90:(r90==0)=false:=by simp[h90]
     go_wp2_with fail;go_meet;exact BV.weak HV.o
  ·have e0:(k==0)=false:=by simpa using(show k≠0 by omega)
   have e1:(k==1)=false:=by simpa using(show k≠1 by omega)
   have e2:(k==2)=false:=by simpa using(show k≠2 by omega)
   have e3:(k==3)=false:=by simpa using(show k≠3 by omega)
   have e4:(k==4)=false:=by simpa using(show k≠4 by omega)
   have e5:(k==5)=false:=by simpa using(show k≠5 by omega)
   have e6:(k==6)=false:=by simpa using(show k≠6 by omega)
   have e7:(k==7)=false:=by simpa using(show k≠7 by omega)
   have HN5:=Hd (aW B tb A n c 4 y1 (HL.o.only HV.o.only hBt hw) HV.o.tp (by omega) (by omega));go_wp2_with(go_at_call 25;refine HN5.o.mono ?_;rintro e y2 ⟨m,rfl,m0,m1,htp,ho⟩;have HVN:=Hd (HV.o.call htb ho htp);clear htp ho HV;have HV:=Hd HVN.o;clear HVN);have HR0:Hid (BwRel B tb A n c w bb (.int .i64 m) y2):=by
    obtain⟨bk,lo,ln,lA,lk,lc,xo,xn,xA,xk,xc,e,h⟩:=HV.o.start;exact⟨m,bk,none,0,[],lo,ln,lA,lk,lc,xo,xn,xA,xk,xc,rfl,m0,by rw[e];simp;omega,h⟩
   clear HN5 HV m0 m1;go_loopw[4] (BwRel B tb A n c w bb) (fun i _=>(intOf i).toNat)
   case atStart=>exact HR0.o
   case round=>
    obtain⟨j,bk,C,cw,ys,lo,ln,lA,lk,lc,xo,xn,xA,xk,xc,rfl,hj0,hj3,hbw⟩:=hrel;have HB:=Hd hbw;have hbl:=hlS hbw.blk;have hblt:=hbw.lt;have HBK:=Hd hbw.blk;clear hbw HR0;by_cases hj:j>0
    ·have gj:decide (j>0)=true:=Dt hj;have gj2:decide (0<j)=true:=Dt hj;have wj:IntKind.i64.wrap (j-1)=j-1:=IntWalk.i64_in _ (by omega);obtain⟨iW,zW,hiW,hW0,hWa,hWb,hWs⟩:=cY;have HIW:=Hd hiW;have HZW:=Hd hW0;have HNX:=Hd (aW B tb A n c 13 wr.drew (HL.o.only (HB.o.only.trans (Only.of_below (aA (Bf _ _) 1))) hBt hw) (HB.o.tp.below (aA (Bf _ _) 1)) (by omega) (by omega));have z3:wr.cell? ⟨bb,3,none⟩=some (.slice C bk.words.length cw):=Ro wr _ 3 _ _ _ HBK.o;have hbt:=get_bt ⟨#[71,88,89,90,70,77,80,76,65,66,67,73,74]⟩;clear hiW hW0;go_upto_region 9 with(fail)
     go_region_law(first|(refine step_append_lies _ rfl (.tmp 25) (.tmp 36) 49 rfl (bb+1) 57 iW zW 4 48 underlying49 HIW.o HZW.o hWa hWb hWs (by omega) (.slice C bk.words.length cw) bk.words.length ys (by simp[Act.eval,Act.put]) (HOW2.o.alloc _) ⟨y2.heap.size,0,none⟩ 1 1 [.int .i64 (IntKind.i64.wrap (bt ⟨#[71,88,89,90,70,77,80,76,65,66,67,73,74]⟩ rn)),.int .i64 o2,.int .i64 n2,.slice A2 k2 c2] (by simp[Act.eval,Act.put]) rfl (Nk (Hn y2 _)) (by intro u hu;simp at hu;rcases hu with rfl|rfl|rfl|rfl<;>rfl) (by omega) (by unfold maxLen;omega) (by omega) (by simp;omega) _ rfl ?_;intro g9 c9 w9 ho9 hg9 hl9 hlt9;have HNW:=Hd (HB.o.push htb HO2.o HT2.o (rb_ge HRB.o HO1.o.size) HWB.o (nB _ _) ho9 hg9 hl9);have hbk9:=(hg9.block bb (by simp;omega) (fun e=>by have:=(aI HB.o.own e.symm).1;omega)).trans ((Bm _ _ _ (Lt hbl hs2)).trans HBK2.o);have z39:w9.cell? ⟨bb,3,none⟩=some (.slice C bk.words.length cw):=Ro w9 _ 3 _ _ _ hbk9;have zf9:∀i,w9.frozen? ⟨bb,i,none⟩=false:=(fun i=>by simp[World.frozen?,hbk9]);clear ho9 hg9 hl9 hlt9 hbk9)|(go_simp;(first|(go_at_call 25;refine HNX.o.mono ?_;rintro e y1 ⟨r,rfl,r0,r1,htp,ho⟩;obtain⟨rn,rfl⟩:∃rn:Nat,r=(rn:Int):=⟨r.toNat,by omega⟩;have rn13:rn<13:=(by omega);have rn13i:(rn:Int)<13:=(by omega);have HT1:=Hd htp;have HO1:Hid (Only tb wr y1):=(Only.of_below (aA (Bf _ _) 1)).trans ho;have hbl1:bb<y1.heap.size:=(Lt hbl HO1.o.size);have HBK1:=Hd ((HO1.o.2.2.2.2 bb hbl (by omega)).trans HBK.o);have z31:y1.cell? ⟨bb,3,none⟩=some (.slice C bk.words.length cw):=Ro y1 _ 3 _ _ _ HBK1.o;have HEX:=Hd (dK B tb A n c 2 y1 (by omega) (by omega) (HL.o.only (HB.o.only.trans HO1.o) hBt hw) HT1.o (Ly hw (HB.o.only.trans HO1.o).size));have b0:=bt_nonneg ⟨#[71,88,89,90,70,77,80,76,65,66,67,73,74]⟩ rn;have b1:=bt_le ⟨#[71,88,89,90,70,77,80,76,65,66,67,73,74]⟩ rn;have HWB:Hid (I64 (IntKind.i64.wrap (bt ⟨#[71,88,89,90,70,77,80,76,65,66,67,73,74]⟩ rn))):=(by{unfold Hid;rw[IntWalk.i64_in _ (by omega)];unfold I64;omega});clear htp ho b0 b1)|(go_at_call 46;refine HEX.o.mono ?_;rintro e y2 ⟨t,o2,n2,A2,k2,c2,rfl,hrb,-,htp,ho⟩;have HRB:=Hd hrb;have HT2:=Hd htp;have HO2:=Hd (HO1.o.trans ho);have HOY:=Hd ho;have HBK2:=Hd ((HO2.o.2.2.2.2 bb hbl (by omega)).trans HBK.o);have z32:y2.cell? ⟨bb,3,none⟩=some (.slice C bk.words.length cw):=Ro y2 _ 3 _ _ _ HBK2.o;have HOW2:Hid (y2.ownsRow (bb+1) 57 4 (.slice C bk.words.length cw) bk.words.length ys):=aC HB.o.own (fun q hq hv=>HO2.o.2.2.2.2 q hq (by have:=(aI HB.o.own hv).1;omega));have hs2:=HO2.o.size;have HF2:Hid (∀(o:Obj),(y2.alloc o).cell? ⟨bb,3,none⟩=some (.slice C bk.words.length cw)):=(fun o=>((Bf y2.heap.size y2).alloc (Le _) o).cel bb 3 (Lt hbl hs2)|>.trans z32);have z33:=HF2.o;clear hrb htp ho))));all_goals go_wp2_with fail
     all_goals exact⟨⟨j-1,_,_,_,_,lo,ln,lA,lk,lc,xo,xn,xA,xk,xc,by go_num,by omega,by simp only[La,Lc,List.length_nil];omega,HNW.o⟩,by simp only[intOf];omega⟩
    ·have gj:decide (j>0)=false:=Df hj;have gj2:decide (0<j)=false:=Df hj;go_wp2_with fail;go_meet;exact HB.o.bv (by unfold maxLen;omega)
 case rest=>
 have HV:=Hd hcut;clear hcut;obtain⟨bk,Aw,kw,cw,lo,ln,lA,lk,lc,xo,xn,xA,xk,xc,hbk,hbz,_⟩:=HV.o.blk;have HBK:=Hd hbk;have HBZ:=Hd hbz;have HRS:Hid (wc.heap[w.heap.size]? =some (.cells ⟨[.int .i64 0,.int .i64 0,.bool false,.slice none 0 0,.int .i64 0,.int .i64 0,.slice none 0 0,.int .i64 0,.int .i64 0,.slice none 0 0,.int .i64 0]⟩ 54 (0,0))):=HV.o.res;have hbl:=hlS hbk;have hrl:=hlS HRS.o;have hblt:=HV.o.lt;have b0:wc.cell? ⟨bb,0,none⟩=some (.int .i64 bk.kind):=Ro wc _ 0 _ _ _ hbk;have b1:wc.cell? ⟨bb,1,none⟩=some (.int .i64 bk.label):=Ro wc _ 1 _ _ _ hbk;have b2:wc.cell? ⟨bb,2,none⟩=some (.bool bk.skip):=Ro wc _ 2 _ _ _ hbk;have b3:wc.cell? ⟨bb,3,none⟩=some (.slice Aw kw cw):=Ro wc _ 3 _ _ _ hbk;have b4:wc.cell? ⟨bb,4,none⟩=some (.int .i64 lo):=Ro wc _ 4 _ _ _ hbk;have b5:wc.cell? ⟨bb,5,none⟩=some (.int .i64 ln):=Ro wc _ 5 _ _ _ hbk;have b6:wc.cell? ⟨bb,6,none⟩=some (.slice lA lk lc):=Ro wc _ 6 _ _ _ hbk;have b7:wc.cell? ⟨bb,7,none⟩=some (.int .i64 xo):=Ro wc _ 7 _ _ _ hbk;have b8:wc.cell? ⟨bb,8,none⟩=some (.int .i64 xn):=Ro wc _ 8 _ _ _ hbk;have b9:wc.cell? ⟨bb,9,none⟩=some (.slice xA xk xc):=Ro wc _ 9 _ _ _ hbk;have b10:wc.cell? ⟨bb,10,none⟩=some (.int .i64 bk.n):=Ro wc _ 10 _ _ _ hbk;have rf:∀i,wc.frozen? ⟨w.heap.size,i,none⟩=false:=fun i=>by simp[World.frozen?,HRS.o]
 have r0:wc.cell? ⟨w.heap.size,0,none⟩=some (.int .i64 0):=Ro wc _ 0 _ _ _ HRS.o;have r1:wc.cell? ⟨w.heap.size,1,none⟩=some (.int .i64 0):=Ro wc _ 1 _ _ _ HRS.o;have r2:wc.cell? ⟨w.heap.size,2,none⟩=some (.bool false):=Ro wc _ 2 _ _ _ HRS.o;have r3:wc.cell? ⟨w.heap.size,3,none⟩=some (.slice none 0 0):=Ro wc _ 3 _ _ _ HRS.o;have r4:wc.cell? ⟨w.heap.size,4,none⟩=some (.int .i64 0):=Ro wc _ 4 _ _ _ HRS.o;have r5:wc.cell? ⟨w.heap.size,5,none⟩=some (.int .i64 0):=Ro wc _ 5 _ _ _ HRS.o;have r6:wc.cell? ⟨w.heap.size,6,none⟩=some (.slice none 0 0):=Ro wc _ 6 _ _ _ HRS.o;have r7:wc.cell? ⟨w.heap.size,7,none⟩=some (.int .i64 0):=Ro wc _ 7 _ _ _ HRS.o;have r8:wc.cell? ⟨w.heap.size,8,none⟩=some (.int .i64 0):=Ro wc _ 8 _ _ _ HRS.o;have r9:wc.cell? ⟨w.heap.size,9,none⟩=some (.slice none 0 0):=Ro wc _ 9 _ _ _ HRS.o;have r10:wc.cell? ⟨w.heap.size,10,none⟩=some (.int .i64 0):=Ro wc _ 10 _ _ _ HRS.o;clear hbk hbz;go_wp2_with fail;obtain⟨WF,hWF⟩:∃WF,WF=set11 wc w.heap.size (.int .i64 bk.kind) (.int .i64 bk.label) (.bool bk.skip) (.slice Aw kw cw) (.int .i64 lo) (.int .i64 ln) (.slice lA lk lc) (.int .i64 xo) (.int .i64 xn) (.slice xA xk xc) (.int .i64 bk.n):=⟨_,rfl⟩;have hfin:WF.heap[w.heap.size]? =some (.cells ⟨[.int .i64 bk.kind,.int .i64 bk.label,.bool bk.skip,.slice Aw kw cw,.int .i64 lo,.int .i64 ln,.slice lA lk lc,.int .i64 xo,.int .i64 xn,.slice xA xk xc,.int .i64 bk.n]⟩ 54 (0,0)):=by rw[hWF];exact jA HRS.o
 have kF:∀q,q≠w.heap.size→WF.heap[q]? =wc.heap[q]? :=fun q hq=>by rw[hWF];exact gW wc w.heap.size q (.int .i64 bk.kind) (.int .i64 bk.label) (.bool bk.skip) (.slice Aw kw cw) (.int .i64 lo) (.int .i64 ln) (.slice lA lk lc) (.int .i64 xo) (.int .i64 xn) (.slice xA xk xc) (.int .i64 bk.n) hq
 have sF:WF.heap.size=wc.heap.size:=by rw[hWF];exact fO wc w.heap.size (.int .i64 bk.kind) (.int .i64 bk.label) (.bool bk.skip) (.slice Aw kw cw) (.int .i64 lo) (.int .i64 ln) (.slice lA lk lc) (.int .i64 xo) (.int .i64 xn) (.slice xA xk xc) (.int .i64 bk.n)
 have oF:WF.os=wc.os∧WF.tape=wc.tape∧WF.output=wc.output:=by
  have q:=gF (Bf w.heap.size wc) (Le w.heap.size) (.int .i64 bk.kind) (.int .i64 bk.label) (.bool bk.skip) (.slice Aw kw cw) (.int .i64 lo) (.int .i64 ln) (.slice lA lk lc) (.int .i64 xo) (.int .i64 xn) (.slice xA xk xc) (.int .i64 bk.n);rw[hWF];exact⟨q.os,q.tape,q.output⟩
 unfold set11 at hWF;rw[←hWF];refine bodyPost_ret (aN results36 _ _ w.heap.size _ _ _ _ rfl hfin underlying54 (by kernel_rfl)) rfl ⟨bk,Aw,kw,cw,lo,ln,lA,lk,lc,xo,xn,xA,xk,xc,rfl,?_,HV.o.tp.keep (kF tb (by omega)),?_⟩
 ·exact HBZ.o.keep (Nat.le_of_eq sF.symm) (fun q _ hq=>by have q1:bb<q:=hq;show w.heap.size<q;omega) (fun q _ hq=>kF q (by have q1:bb<q:=hq;omega))
 ·exact⟨oF.1.trans HV.o.only.1,oF.2.1.trans HV.o.only.2.1,oF.2.2.trans HV.o.only.2.2.1,by rw[sF];exact HV.o.only.size,fun q hq h2=>(kF q (by omega)).trans (HV.o.only.2.2.2.2 q hq h2)⟩
