/- The contract. -/
import Derived.Test.YtdcjbhdfphcefaaGreatDoorNv
import Derived.Test.YtdcjbhdfphcefaaGreatDoorTn
namespace Go.Proofs.YtdcjbhdfphcefaaGreatDoor
set_option linter.all false
set_option maxRecDepth 100000
set_option maxHeartbeats 8000000
open Go.Proofs.Tryz
open Go.RowKit
theorem fU(B b:Nat)(A:OA)(n c:Nat)(w:World)(hl:LOK w B A n)(ht:zbO w B b A n c)(hw:B<=w.heap.size):
 Calls prog 57 #[.pointer (some ⟨b,0,none⟩)] w (ziW B b A n c 0 6000 w):=by
 have HL:=Hd hl;clear hl;have HTP:=Hd ht;have hBb:=ht.1;clear ht;have HO:Hid (zaZ b w w):=zaZ.refl b w;go_enter func57,ntmps57;go_wp2_with(first
  |(go_at_call 25;refine(aW B b A n c _ _ (HL.o.only HO.o hBb hw) HTP.o (by omega) (by omega)).mono ?_;rintro e w1 ⟨r,rfl,hr0,hr1,htp,ho⟩;have HN:=Hd (HO.o.trans ho);have HT2:=Hd htp;clear HO ho HTP htp;have HO:=Hd HN.o;have HTP:=Hd HT2.o;clear HN HT2)
  |(go_at_call 28;refine(cC B b A n c _ _ _ (HL.o.only HO.o hBb hw) HTP.o (by omega) (by omega) (by omega)).mono ?_;rintro e w1 ⟨r,rfl,hr0,hr1,htp,ho⟩;have HN:=Hd (HO.o.trans ho);have HT2:=Hd htp;clear HO ho HTP htp;have HO:=Hd HN.o;have HTP:=Hd HT2.o;clear HN HT2))
 all_goals go_ret
 all_goals exact⟨_,rfl,by omega,by omega,HTP.o,HO.o⟩
theorem iG{t:Tr}:∀{m m':Nat},m<=m'->zaV m t=true->zaV m' t=true:=by
 induction t with
 |none_=>intro m m' _ h;cases m<;>cases h
 |mk op n k kid ih=>
  intro m m' hm h;rcases m with _|m
  ·cases h
  rcases m' with _|m'
  ·omega
  obtain⟨h1,h2,h3⟩:=cH h;exact bV h1 h2 λi hi=>ih i (by omega) (h3 i hi)
def zlH(a b:Tr):Nat->Tr:=λi=>if i=0 then a else b
def oneK(a:Tr):Nat->Tr:=λ_=>a
def twoT(op:Int)(a b:Tr):Tr:=.mk op 0 2 (zlH a b)
def unT(op:Int)(a:Tr):Tr:=.mk op 0 1 (oneK a)
def Rb(w:World)(b:Nat)(t:Tr)(v:Value):Prop:=Rz w (λg=>b<g) t v
theorem three{w:World}{g:Nat}{x y z:Value}{T:TypeId}(h:w.heap[g]? =some (.cells #[x,y,z] T (0,0))):w.cell? ⟨g,0,none⟩=some x/\w.cell? ⟨g,1,none⟩=some y/\w.cell? ⟨g,2,none⟩=some z:=
 ⟨Ro w g 0 _ _ _ h,Ro w g 1 _ _ _ h,Ro w g 2 _ _ _ h⟩
theorem zgY{w:World}{g:Nat}{x:Obj}(h:w.heap[g]? =some x):g<w.heap.size:=(Ag.1 h).1
theorem zjB{w:World}{g:Nat}{cs:Array Value}{T:TypeId}(h:w.heap[g]? =some (.cells cs T (0,0))):∀i,w.frozen? ⟨g,i,none⟩=false:=λi=>by simp[World.frozen?,h]
theorem pV{w:World}{ab o:Nat}{v:Value}(h:w.cell? ⟨ab,o,none⟩=some v):ab<w.heap.size:=Nat.lt_of_not_le λhb=>by simp[World.cell?,Array.getElem?_eq_none hb]at h
theorem zaZ.cell{b:Nat}{w w':World}(h:zaZ b w w'){ab o:Nat}{v:Value}(hb:ab≠b)(hc:w.cell? ⟨ab,o,none⟩=some v):w'.cell? ⟨ab,o,none⟩=some v:=
 (cekC ab o (h.2.2.2.2 ab (pV hc) hb)).trans hc
theorem Rb.keep{w w':World}{b b':Nat}{t:Tr}(hk:∀g,b<g->g<w.heap.size->w'.heap[g]? =w.heap[g]?)(hb:b'<=b){v:Value}(h:Rb w b t v)(hs:w.heap.size<=w'.heap.size):Rb w' b' t v:=
 Rz.keep hs (λg _ hg=>Nat.lt_of_le_of_lt hb hg) (λg hg hi=>hk g hi hg) h
theorem Rb.only{w w':World}{b b0 b':Nat}{t:Tr}{v:Value}(h:Rb w b0 t v)(ho:zaZ b w w')(hb:b<=b0)(hb':b'<=b0):Rb w' b' t v:=h.keep (λg h1 h2=>ho.2.2.2.2 g h2 (by omega)) hb' ho.2.2.2.1
theorem Rb.num(w:World)(b:Nat)(n:Int)(h:I64 n):Rb w b (zhR n) (.agg #[.int .i64 0,.int .i64 n,.slice none 0 0]):=bN w _ n h
theorem Rb.lay1{w:World}{b g:Nat}{op o n:Int}{A:OA}{k c c':Nat}{T:TypeId}{a:Tr}(hg:w.heap[g]? =some (.cells #[.int .i64 o,.int .i64 n,.slice A k c] T (0,0)))(hB:b<g)(h:Rb w b a (.agg #[.int .i64 o,.int .i64 n,.slice A k c]))(hop:I64 op):
 Rb w b (unT op a) (.agg #[.int .i64 op,.int .i64 0,.slice (some ⟨g,0,none⟩) 1 c']):=
 ⟨_,_,rfl,hop,by unfold I64;omega,by unfold maxLen;omega,.inr ⟨g,rfl,hB,zgY hg,λi hi=>by
  obtain rfl:i=0:=by omega
  exact⟨_,_,_,Ro w g 0 _ _ _ hg,Ro w g 1 _ _ _ hg,Ro w g 2 _ _ _ hg,h⟩⟩⟩
theorem Rb.lay2{w:World}{b g:Nat}{op o n o' n':Int}{A A':OA}{k c k' c' c2:Nat}{T:TypeId}{s t:Tr}(hg:w.heap[g]? =some (.cells #[.int .i64 o,.int .i64 n,.slice A k c,.int .i64 o',.int .i64 n',.slice A' k' c'] T (0,0)))(hB:b<g)
 (h:Rb w b s (.agg #[.int .i64 o,.int .i64 n,.slice A k c])) (h':Rb w b t (.agg #[.int .i64 o',.int .i64 n',.slice A' k' c'])) (hop:I64 op):
 Rb w b (twoT op s t) (.agg #[.int .i64 op,.int .i64 0,.slice (some ⟨g,0,none⟩) 2 c2]):=
 ⟨_,_,rfl,hop,by unfold I64;omega,by unfold maxLen;omega,.inr ⟨g,rfl,hB,zgY hg,λi hi=>by
  have e:i=0\/i=1:=by omega
  rcases e with rfl|rfl
  ·exact⟨_,_,_,Ro w g 0 _ _ _ hg,Ro w g 1 _ _ _ hg,Ro w g 2 _ _ _ hg,h⟩
  ·exact⟨_,_,_,Ro w g 3 _ _ _ hg,Ro w g 4 _ _ _ hg,Ro w g 5 _ _ _ hg,h'⟩⟩⟩
theorem cU(m:Nat)(n:Int)(h1:0<=n)(h2:n<1000000000000000):zaV (m+1) (zhR n)=true:=
 bV rfl (by unfold zfQ;rw[Ip rfl];exact Dt ⟨h1,h2⟩) λi hi=>absurd hi (by omega)
theorem cW{m:Nat}{op:Int}{t:Tr}(h:zbD op=1)(h0:op≠0)(ht:zaV m t=true):zaV (m+1) (unT op t)=true:=
 bV (by rw[h];rfl) (by unfold zfQ;rw[Iq h0];rfl) λ_ _=>ht
theorem mL{m:Nat}{op:Int}{s t:Tr}(h:zbD op=2)(h0:op≠0)(hs:zaV m s=true)(ht:zaV m t=true):zaV (m+1) (twoT op s t)=true:=
 bV (by rw[h];rfl) (by unfold zfQ;rw[Iq h0];rfl) λi _=>by
  unfold zlH;by_cases e:i=0
  ·rw[Ip e];exact hs
  ·rw[Iq e];exact ht
def zhK(B b:Nat)(A:OA)(n c d:Nat)(w:World)(e:Ending)(w':World):Prop:=
 ∃(t:Tr) (o' n':Int) (A':OA) (k' c':Nat),e=.returned (.agg #[.int .i64 o',.int .i64 n',.slice A' k' c'])/\Rb w' w.heap.size t (.agg #[.int .i64 o',.int .i64 n',.slice A' k' c'])/\zaV d t=true/\zbO w' B b A n c/\zaZ b w w'
theorem zaZ.set_new{b g:Nat}{w w':World}{i:Nat}{v:Value}(h:zaZ b w w')(hg:w.heap.size<=g):zaZ b w (w'.setCell ⟨g,i,none⟩ v):=
 ⟨h.1,h.2.1,h.2.2.1,by have:=h.size;simp[World.setCell];omega,λj hj hb=>(Bj w' ⟨g,i,none⟩ v j (by show j≠g;omega)).trans (h.2.2.2.2 j hj hb)⟩
theorem cV{w:World}{g:Nat}{T:TypeId}{x0 x1 x2 x y z:Value}(h:w.heap[g]? =some (.cells #[x0,x1,x2] T (0,0))):
 (((w.setCell ⟨g,0,none⟩ x).setCell ⟨g,1,none⟩ y).setCell ⟨g,2,none⟩ z).heap[g]? =some (.cells #[x,y,z] T (0,0)):=by
 have h1:(w.setCell ⟨g,0,none⟩ x).heap[g]? =some (.cells #[x,x1,x2] T (0,0)):=by simp[World.setCell,Array.getElem?_modify,h]
 have h2:((w.setCell ⟨g,0,none⟩ x).setCell ⟨g,1,none⟩ y).heap[g]? =some (.cells #[x,y,x2] T (0,0)):=by
  generalize w.setCell ⟨g,0,none⟩ x=w1 at h1;simp[World.setCell,Array.getElem?_modify,h1]
 generalize(w.setCell ⟨g,0,none⟩ x).setCell ⟨g,1,none⟩ y=w2 at h2;simp[World.setCell,Array.getElem?_modify,h2]
theorem dY(w:World)(g j:Nat)(x y z:Value)(h:j≠g):(((w.setCell ⟨g,0,none⟩ x).setCell ⟨g,1,none⟩ y).setCell ⟨g,2,none⟩ z).heap[j]? =w.heap[j]? :=
 (Bj _ _ _ j h).trans ((Bj _ _ _ j h).trans (Bj _ _ _ j h))
theorem fI(w:World)(g j o:Nat)(x y z:Value)(h:j≠g):(((w.setCell ⟨g,0,none⟩ x).setCell ⟨g,1,none⟩ y).setCell ⟨g,2,none⟩ z).cell? ⟨j,o,none⟩=w.cell? ⟨j,o,none⟩:=
 cekC j o (dY w g j x y z h)
theorem zhK.of_{B b:Nat}{A:OA}{n c d:Nat}{w W:World}{t:Tr}{o' n':Int}{A':OA}{k' c':Nat}(hbl:b<w.heap.size)(hrb:Rb W w.heap.size t (.agg #[.int .i64 o',.int .i64 n',.slice A' k' c']))(hrt:zaV d t=true)(ht:zbO W B b A n c)(ho:zaZ b w W)(x y z:Value):
 zhK B b A n c d w (.returned (.agg #[.int .i64 o',.int .i64 n',.slice A' k' c'])) (((W.setCell ⟨w.heap.size,0,none⟩ x).setCell ⟨w.heap.size,1,none⟩ y).setCell ⟨w.heap.size,2,none⟩ z):=
 ⟨t,o',n',A',k',c',rfl,hrb.keep (λg h1 _=>dY W _ g x y z (by omega)) (Le _) (by simp[World.setCell]),hrt,ht.keep (dY W _ b x y z (by omega)),((ho.set_new (Le _)).set_new (Le _)).set_new (Le _)⟩
theorem zmA(w:World)(o:Obj):(w.alloc o).heap.size=w.heap.size+1:=by simp
theorem ziR(w:World)(o:Obj):(w.alloc o).heap[w.heap.size]? =some o:=Hn w o
theorem zfP{w:World}{g:Nat}{x:Obj}(h:w.heap[g]? =some x)(o:Obj):(w.alloc o).heap[g]? =some x:=(Bm w o g (zgY h)).trans h
theorem zaZ.heap{b g:Nat}{w w':World}{x:Obj}(h:zaZ b w w')(hg:w.heap[g]? =some x)(hne:g≠b):w'.heap[g]? =some x:=(h.2.2.2.2 g (zgY hg) hne).trans hg
theorem zaZ.alloc{b:Nat}{w w':World}(h:zaZ b w w')(o:Obj):zaZ b w (w'.alloc o):=h.trans (zaZ.of_below (aE o (Le _)))
theorem zbO.alloc{w:World}{B b:Nat}{A:OA}{n c:Nat}(h:zbO w B b A n c)(o:Obj):zbO (w.alloc o) B b A n c:=h.below (aE o (Le _))
theorem zaZ.drew{b:Nat}{w w':World}(h:zaZ b w w'):zaZ b w w'.drew:=⟨h.1,h.2.1,h.2.2.1,h.2.2.2.1,h.2.2.2.2⟩
theorem zbO.drew{w:World}{B b:Nat}{A:OA}{n c:Nat}(h:zbO w B b A n c):zbO w.drew B b A n c:=h.keep rfl
def L9:Array Value:= #[.int .i64 2,.int .i64 8,.int .i64 9,.int .i64 10,.int .i64 12,.int .i64 13,.int .i64 14,.int .i64 15,.int .i64 16]
def L18:Array Value:= #[.int .i64 3,.int .i64 4,.int .i64 5,.int .i64 6,.int .i64 7,.int .i64 11,.int .i64 17,.int .i64 18,.int .i64 19,.int .i64 20,.int .i64 21,.int .i64 22,.int .i64 23,.int .i64 24,.int .i64 25,.int .i64 3,.int .i64 4,.int .i64 5]
theorem qsP{i:Int}(h0:0<=i)(h1:i<=8):∃op:Int,L9[i.toNat]? =some (.int .i64 op)/\zbD op=1/\op≠0/\I64 op:=by
 have e:i=0\/i=1\/i=2\/i=3\/i=4\/i=5\/i=6\/i=7\/i=8:=by omega
 rcases e with rfl|rfl|rfl|rfl|rfl|rfl|rfl|rfl|rfl
 all_goals exact⟨_,rfl,rfl,by decide,by unfold I64;omega⟩
theorem qgK{i:Int}(h0:0<=i)(h1:i<=17):∃op:Int,L18[i.toNat]? =some (.int .i64 op)/\zbD op=2/\op≠0/\I64 op:=by
 have e:i=0\/i=1\/i=2\/i=3\/i=4\/i=5\/i=6\/i=7\/i=8\/i=9\/i=10\/i=11\/i=12\/i=13\/i=14\/i=15\/i=16\/i=17:=by omega
 rcases e with rfl|rfl|rfl|rfl|rfl|rfl|rfl|rfl|rfl|rfl|rfl|rfl|rfl|rfl|rfl|rfl|rfl|rfl
 all_goals exact⟨_,rfl,rfl,by decide,by unfold I64;omega⟩
theorem dK(B b:Nat)(A:OA)(n c:Nat):∀(d:Nat) (w:World),1<=d->d<=16->LOK w B A n->zbO w B b A n c->B<=w.heap.size->
 Calls prog 46 #[.pointer (some ⟨b,0,none⟩),.int .i64 (d:Int)] w (zhK B b A n c d w):=by
 intro d;induction d with
 |zero=>intro w h;omega
 |succ d ih=>
  intro w _ hd hl ht hw;obtain⟨q,hq⟩:∃q:Int,q=((d+1:Nat):Int):=⟨_,rfl⟩;rw[<-hq];have hq1:1<=q:=by omega
  have hq2:q<=16:=by omega
  have HQ:Hid (q-1=(d:Int)):=by unfold Hid;omega
  have hBb:=ht.1;have hbl:=ht.lt;have hb0:=aE (B:=w.heap.size) (w:=w) (.cells #[.int .i64 0,.int .i64 0,.slice none 0 0] 52) (Le _);have ho0:zaZ b w _:=zaZ.of_below hb0;have H0:=Hd (aW B b A n c 10 _ (hl.below (hb0.mono hw)) (ht.below hb0) (by omega) (by omega));have HO0:=Hd ho0;have HL:=Hd hl;have hne:w.heap.size≠b:=by omega
  clear hq hl ht hb0 ho0;go_enter func46,ntmps46;go_wp2_with fail;refine H0.o.mono ?_;rintro e w1 ⟨r,rfl,r0,r1,htp,ho⟩;have HT1:=Hd htp;have HO1:=Hd (HO0.o.trans ho);have R1:=Hd ((ho.2.2.2.2 w.heap.size (by simp) hne).trans (Hn w _));clear htp ho;by_cases hbr:q<2\/(2<=q/\r<3)
  ·rcases hbr with h2|⟨h2,h3⟩
   all_goals
    go_wp2_with fail;refine(eX B b A n c _ (HL.o.only HO1.o hBb hw) HT1.o (Ly hw HO1.o.size)).mono ?_;rintro e w2 ⟨z,rfl,z0,z1,htp,ho⟩;have HT2:=Hd htp;have HO2:=Hd (HO1.o.trans ho);have R2:=Hd ((ho.2.2.2.2 w.heap.size (zgY R1.o) hne).trans R1.o);obtain⟨c0,c1,c2⟩:=three R2.o;have f0:=zjB R2.o;clear htp ho;go_wp2_with fail;exact bodyPost_ret (results_cell_row results46 _ _ w.heap.size _ _ _ _ rfl (cV R2.o) underlying52 rfl (by kernel_rfl)) rfl
     (zhK.of_ hbl (Rb.num _ _ _ (by unfold I64;omega)) (cU d z (by omega) (by omega)) HT2.o HO2.o _ _ _)
  have h2:2<=q:=by omega
  have h3:3<=r:=by omega
  have hd1:1<=d:=by have:=HQ.o;omega
  clear hbr;by_cases h5:r<5
  ·go_wp2_with fail;refine(fU B b A n c _ (HL.o.only HO1.o hBb hw) HT1.o (Ly hw HO1.o.size)).mono ?_;rintro e w2 ⟨z,rfl,z0,z1,htp,ho⟩;have HT2:=Hd htp;have HO2:=Hd (HO1.o.trans ho);have R2:=Hd (ho.heap R1.o hne);clear htp ho;go_wp2_with fail;refine(aW B b A n c 8 _ (HL.o.only (HO2.o.alloc _) hBb hw) (HT2.o.alloc _) (by omega) (by omega)).mono ?_;rintro e w3 ⟨r2,rfl,r20,r21,htp,ho⟩;have HT3:=Hd htp;have HO3:=Hd ((HO2.o.alloc _).trans ho);have hl2:b<w2.heap.size:=Lt hbl HO2.o.size;have R3:=Hd (ho.heap (zfP R2.o _) hne);have X3:=Hd (ho.heap (ziR w2 _) (by omega));clear htp ho;obtain⟨x0,x1,x2⟩:=three X3.o;have xf:=zjB X3.o;by_cases hr2:r2=0
   ·have hr2':(r2==0)=true:=by simpa using hr2
    clear hr2;go_wp2_with fail;rw[HQ.o];refine(ih w3 hd1 (by omega) (HL.o.only HO3.o hBb hw) HT3.o (Ly hw HO3.o.size)).mono ?_;rintro e w4 ⟨t,o',n',A',k',c',rfl,hrb,hrt,htp,ho⟩;have HT4:=Hd htp;have HO4:=Hd (HO3.o.trans ho);have R4:=Hd (ho.heap R3.o hne);have X4:=Hd (ho.heap X3.o (by omega));have HRB:=Hd hrb;have HRT:=Hd hrt;have h34:=ho.size;clear htp ho hrb hrt x0 x1 x2 xf;obtain⟨x0,x1,x2⟩:=three X4.o;have xf:=zjB X4.o;go_upto_region 8 with(fail)
    obtain⟨w5,hw5⟩:∃W:World,W=(((w4.setCell ⟨w2.heap.size,0,none⟩ (.int .i64 o')).setCell ⟨w2.heap.size,1,none⟩ (.int .i64 n')).setCell ⟨w2.heap.size,2,none⟩ (.slice A' k' c')):=⟨_,rfl⟩;rw[<-hw5];have hrw:=zgY R2.o;have hxw:=zgY X3.o;have X5:w5.heap[w2.heap.size]? =some (.cells #[.int .i64 o',.int .i64 n',.slice A' k' c'] 52 (0,0)):=by rw[hw5];exact cV X4.o
    have hk5:∀j,j≠w2.heap.size->w5.heap[j]? =w4.heap[j]? :=λj hj=>by rw[hw5];exact dY _ _ _ _ _ _ hj
    have R5:=Hd ((hk5 w.heap.size (by omega)).trans R4.o);have HT5:=Hd (HT4.o.keep (hk5 b (by omega)));have HO5:Hid (zaZ b w w5):=by rw[hw5];exact((HO4.o.set_new (by omega)).set_new (by omega)).set_new (by omega)
    have HRB5:=Hd (HRB.o.keep (w':=w5) (b':=w.heap.size) (λg h1 h2=>hk5 g (by omega)) (by omega) (by rw[hw5];simp[World.setCell]));have HX5:=Hd X5;clear hk5 X5 hw5 x0 x1 x2 xf;obtain⟨x0,x1,x2⟩:=three HX5.o;obtain⟨c0,c1,c2⟩:=three (zfP R5.o (.cells #[.int .i64 o',.int .i64 n',.slice A' k' c'] 52));have f0:=zjB (zfP R5.o (.cells #[.int .i64 o',.int .i64 n',.slice A' k' c'] 52));go_wp2_with fail;exact bodyPost_ret (results_cell_row results46 _ _ w.heap.size _ _ _ _ rfl (cV (zfP R5.o _)) underlying52 rfl (by kernel_rfl)) rfl
     (zhK.of_ hbl (Rb.lay1 (ziR w5 _) (zgY R5.o) (HRB5.o.keep (λg h1 h2=>Bm _ _ _ h2) (Le _) (by simp)) (by unfold I64;omega)) (cW rfl (by decide) HRT.o) (HT5.o.alloc _) (HO5.o.alloc _) _ _ _)
   ·have hr2':(r2==0)=false:=by simpa using hr2
    clear hr2;obtain⟨c0,c1,c2⟩:=three (zfP R3.o (.cells #[.int .i64 0,.int .i64 (z*1000000),.slice none 0 0] 52));have f0:=zjB (zfP R3.o (.cells #[.int .i64 0,.int .i64 (z*1000000),.slice none 0 0] 52));go_wp2_with fail;exact bodyPost_ret (results_cell_row results46 _ _ w.heap.size _ _ _ _ rfl (cV (zfP R3.o _)) underlying52 rfl (by kernel_rfl)) rfl
     (zhK.of_ hbl (Rb.lay1 (ziR w3 _) (zgY R3.o) (Rb.num _ _ _ (by unfold I64;omega)) (by unfold I64;omega)) (cW rfl (by decide) (iG (m:=1) hd1 (cU 0 (z*1000000) (by omega) (by omega)))) (HT3.o.alloc _) (HO3.o.alloc _) _ _ _)
  by_cases h6:r<6
  ·go_upto_region 11 with(fail)
   have hb1:=HO1.o.size;have N9:=Hd (aW B b A n c 9 _ (HL.o.only (HO1.o.alloc (.cells L9 3)).drew hBb hw) (HT1.o.alloc _).drew (by omega) (by omega));have HN1:=Hd (ziR w1 (.cells L9 3));have s1:∀i,(w1.alloc (.cells L9 3)).cell? ⟨w1.heap.size,i,none⟩=L9[i]? :=λi=>Ro _ _ _ _ _ _ HN1.o;have S1:=Hd s1;have HQW:Hid (IntKind.i64.wrap (q-1)=(d:Int)):=by unfold Hid;rw[IntWalk.i64_in _ (by omega)];exact HQ.o
   have s1d:∀i,(w1.alloc (.cells L9 3)).drew.cell? ⟨w1.heap.size,i,none⟩=L9[i]? :=s1;have S1d:=Hd s1d;clear s1d;have hne1:w1.heap.size≠w.heap.size:=by have:=zgY R1.o;omega
   clear s1;go_region_held3(λw'=>∀i,w'.cell? ⟨w1.heap.size,i,none⟩=L9[i]?) (first|with_reducible exact S5.o|with_reducible exact S4.o|with_reducible exact S3.o|with_reducible exact S2.o|exact S1d.o)
    (first
    |(go_at_call 25;refine N9.o.mono ?_;rintro e w2 ⟨r3,rfl,r30,r31,htp,ho⟩;have HT2:=Hd htp;have HO2:=Hd ((HO1.o.alloc _).drew.trans ho);have R2:=Hd (ho.heap (zfP R1.o (.cells L9 3)) hne);have X2:=Hd (ho.heap HN1.o (by omega));have S2:=Hd (λi=>Ro w2 _ i _ _ _ X2.o);obtain⟨op,hop,hk1,hop0,hopI⟩:=qsP r30 (by omega);have hs12:=zgY X2.o;have r32:r3<9:=(by omega);clear htp ho)
    |(go_at_call 46;rw[HQW.o];refine(ih w2 hd1 (by omega) (HL.o.only HO2.o hBb hw) HT2.o (Ly hw HO2.o.size)).mono ?_;rintro e w3 ⟨t,o',n',A',k',c',rfl,hrb,hrt,htp,ho⟩;have HT3:=Hd htp;have HO3:=Hd (HO2.o.trans ho);have R3:=Hd (ho.heap R2.o hne);have X3:=Hd (ho.heap X2.o (by omega));have S3:=Hd (λi=>Ro w3 _ i _ _ _ X3.o);have S4:=Hd (λi=>Ro _ _ i _ _ _ (zfP X3.o (.cells #[.int .i64 o',.int .i64 n',.slice A' k' c'] 52)));have S5:=Hd (λi=>(fI (w3.alloc (.cells #[.int .i64 o',.int .i64 n',.slice A' k' c'] 52)) w.heap.size w1.heap.size i (.int .i64 op) (.int .i64 0) (.slice (some ⟨w3.heap.size,0,none⟩) 1 1) hne1).trans (S4.o i));have HRB:=Hd hrb;have HRT:=Hd hrt;have h23:=ho.size;have c3:=three (zfP R3.o (.cells #[.int .i64 o',.int .i64 n',.slice A' k' c'] 52));have f0:=zjB (zfP R3.o (.cells #[.int .i64 o',.int .i64 n',.slice A' k' c'] 52));obtain⟨c0,c1,c2⟩:=c3;clear htp ho hrb hrt))
   go_wp2_with fail;exact bodyPost_ret (results_cell_row results46 _ _ w.heap.size _ _ _ _ rfl (cV (zfP R3.o _)) underlying52 rfl (by kernel_rfl)) rfl
    (zhK.of_ hbl (Rb.lay1 (ziR w3 _) (zgY R3.o) (HRB.o.keep (λg h1 h2=>Bm _ _ _ h2) (Ly HO2.o.size (Le _)) (by simp)) hopI) (cW hk1 hop0 HRT.o) (HT3.o.alloc _) (HO3.o.alloc _) _ _ _)
  ·go_wp2_with fail;have HN1:=Hd (ziR w1 (.cells L18 3));have hne1:w1.heap.size≠b:=by have:=HO1.o.size;omega
   refine(aW B b A n c 18 _ (HL.o.only (HO1.o.alloc (.cells L18 3)) hBb hw) (HT1.o.alloc _) (by omega) (by omega)).mono ?_;rintro e w2 ⟨r3,rfl,r30,r31,htp,ho⟩;have HT2:=Hd htp;have HO2:=Hd ((HO1.o.alloc _).trans ho);have R2:=Hd (ho.heap (zfP R1.o (.cells L18 3)) hne);have X2:=Hd (ho.heap HN1.o hne1);obtain⟨op,hop,hk1,hop0,hopI⟩:=qgK r30 (by omega);have xc:=(Ro w2 _ _ _ _ _ X2.o).trans hop;have r32:r3<18:=by omega
   clear htp ho hop;go_wp2_with fail;rw[HQ.o];refine(ih w2 hd1 (by omega) (HL.o.only HO2.o hBb hw) HT2.o (Ly hw HO2.o.size)).mono ?_;rintro e w3 ⟨t,o',n',A',k',c',rfl,hrb,hrt,htp,ho⟩;have HT3:=Hd htp;have HO3:=Hd (HO2.o.trans ho);have R3:=Hd (ho.heap R2.o hne);have HRB:=Hd hrb;have HRT:=Hd hrt;have h23:=ho.size;clear htp ho hrb hrt xc;go_upto_region 15 with(fail)
   have hw3:w.heap.size<w3.heap.size:=zgY R3.o;have hne3:w3.heap.size≠w.heap.size:=by omega
   have HQW:Hid (IntKind.i64.wrap (q-1)=(d:Int)):=by unfold Hid;rw[IntWalk.i64_in _ (by omega)];exact HQ.o
   have X3:=Hd (ziR w3 (.cells #[.int .i64 o',.int .i64 n',.slice A' k' c'] 52));have s0:(w3.alloc (.cells #[.int .i64 o',.int .i64 n',.slice A' k' c'] 52)).drew.cell? ⟨w3.heap.size,0,none⟩=some (.int .i64 o')/\(w3.alloc (.cells #[.int .i64 o',.int .i64 n',.slice A' k' c'] 52)).drew.cell? ⟨w3.heap.size,1,none⟩=some (.int .i64 n')/\(w3.alloc (.cells #[.int .i64 o',.int .i64 n',.slice A' k' c'] 52)).drew.cell? ⟨w3.heap.size,2,none⟩=some (.slice A' k' c'):=three X3.o;have S0:=Hd s0;clear s0;have E4:=Hd (ih (w3.alloc (.cells #[.int .i64 o',.int .i64 n',.slice A' k' c'] 52)).drew hd1 (by omega) (HL.o.only (HO3.o.alloc (.cells #[.int .i64 o',.int .i64 n',.slice A' k' c'] 52)).drew hBb hw) (HT3.o.alloc _).drew (Ly hw (HO3.o.alloc (.cells #[.int .i64 o',.int .i64 n',.slice A' k' c'] 52)).drew.size));have HO3a:=Hd (HO3.o.alloc (.cells #[.int .i64 o',.int .i64 n',.slice A' k' c'] 52)).drew;have R3a:=Hd (zfP R3.o (.cells #[.int .i64 o',.int .i64 n',.slice A' k' c'] 52));have hne3b:w3.heap.size≠b:=by omega
   have HRB3:=Hd (HRB.o.keep (w':=(w3.alloc (.cells #[.int .i64 o',.int .i64 n',.slice A' k' c'] 52)).drew) (λg h1 h2=>Bm _ _ _ h2) (Le _) (by simp));go_region_held3(λw'=>w'.cell? ⟨w3.heap.size,0,none⟩=some (.int .i64 o')/\w'.cell? ⟨w3.heap.size,1,none⟩=some (.int .i64 n')/\w'.cell? ⟨w3.heap.size,2,none⟩=some (.slice A' k' c')) (first|with_reducible exact S6.o|with_reducible exact S5.o|with_reducible exact S4.o|exact S0.o)
    (first
    |(go_at_call 46;rw[HQW.o];refine E4.o.mono ?_;rintro e w4 ⟨t2,o2,n2,A2,k2,c2,rfl,hrb,hrt,htp,ho⟩;have HT4:=Hd htp;have HO4:=Hd (HO3a.o.trans ho);have R4:=Hd (ho.heap R3a.o hne);have X4:=Hd (ho.heap X3.o hne3b);have S4:=Hd (three X4.o);have X5:=Hd (zfP X4.o (.cells #[.int .i64 o',.int .i64 n',.slice A' k' c',.int .i64 o2,.int .i64 n2,.slice A2 k2 c2] 52));have S5:=Hd (three X5.o);have S6:=Hd (show _/\_/\_ from⟨(fI (w4.alloc (.cells #[.int .i64 o',.int .i64 n',.slice A' k' c',.int .i64 o2,.int .i64 n2,.slice A2 k2 c2] 52)) w.heap.size w3.heap.size 0 (.int .i64 op) (.int .i64 0) (.slice (some ⟨w4.heap.size,0,none⟩) 2 2) hne3).trans S5.o.1,(fI (w4.alloc (.cells #[.int .i64 o',.int .i64 n',.slice A' k' c',.int .i64 o2,.int .i64 n2,.slice A2 k2 c2] 52)) w.heap.size w3.heap.size 1 (.int .i64 op) (.int .i64 0) (.slice (some ⟨w4.heap.size,0,none⟩) 2 2) hne3).trans S5.o.2.1,(fI (w4.alloc (.cells #[.int .i64 o',.int .i64 n',.slice A' k' c',.int .i64 o2,.int .i64 n2,.slice A2 k2 c2] 52)) w.heap.size w3.heap.size 2 (.int .i64 op) (.int .i64 0) (.slice (some ⟨w4.heap.size,0,none⟩) 2 2) hne3).trans S5.o.2.2⟩);have HRB4:=Hd (HRB3.o.only (b':=w.heap.size) ho (Ly (Ll hbl) HO2.o.size) HO2.o.size);have HRC:=Hd hrb;have HRT2:=Hd hrt;have c3:=three (zfP R4.o (.cells #[.int .i64 o',.int .i64 n',.slice A' k' c',.int .i64 o2,.int .i64 n2,.slice A2 k2 c2] 52));have f0:=zjB (zfP R4.o (.cells #[.int .i64 o',.int .i64 n',.slice A' k' c',.int .i64 o2,.int .i64 n2,.slice A2 k2 c2] 52));obtain⟨c0,c1,c2'⟩:=c3;clear htp ho hrb hrt))
   go_wp2_with fail;exact bodyPost_ret (results_cell_row results46 _ _ w.heap.size _ _ _ _ rfl (cV (zfP R4.o _)) underlying52 rfl (by kernel_rfl)) rfl
    (zhK.of_ hbl (Rb.lay2 (ziR w4 _) (zgY R4.o) (HRB4.o.keep (λg h1 h2=>Bm _ _ _ h2) (Le _) (by simp)) (HRC.o.keep (λg h1 h2=>Bm _ _ _ h2) (by show w.heap.size<=(w3.alloc _).heap.size;rw[zmA];omega) (by simp)) hopI) (mL hk1 hop0 HRT.o HRT2.o) (HT4.o.alloc _) (HO4.o.alloc _) _ _ _)
