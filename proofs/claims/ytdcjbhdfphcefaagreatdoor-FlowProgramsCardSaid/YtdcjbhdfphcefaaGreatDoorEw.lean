/- The contract. -/
import Derived.Test.YtdcjbhdfphcefaaGreatDoorBi
import Derived.Test.YtdcjbhdfphcefaaGreatDoorSv
namespace Go.Proofs.YtdcjbhdfphcefaaGreatDoor
set_option linter.all false
set_option maxRecDepth 100000
set_option maxHeartbeats 4000000
open Go.Proofs.Tryz
open Go.RowKit
theorem lR{f:Int->Int}(h:Vf f)(n:Int):Sml (zbG f n).1:=by
 unfold zbG;split
 ·have:=h n;unfold Sml;dsimp only;omega
 ·exact bQ
def znA(b:Nat)(f:Int->Int)(t:Tr):Prop:=∀(v:Value) (w:World) (B:Nat),Rd w w.heap.size t v->Tab w->St w B b f->
 Calls prog 94 #[v,.pointer (some ⟨b,0,none⟩)] w λe w'=>e=.returned (.tuple #[.int .i64 (zbV (zbG f) t).1,.int .i64 (zbV (zbG f) t).2])/\Bw w w'
def ERel(f:Int->Int)(op n:Int)(A:OA)(k c:Nat)(kid:Nat->Tr)(w0:World)(i:Value)(w:World):Prop:=
 ∃j:Nat,j<=k/\i=.int .i64 (j:Int)/\(∀x,x<j->(zbV (zbG f) (kid x)).2=0)/\Bw w0 w/\w0.heap.size+2<=w.heap.size/\
  w.heap[w0.heap.size]? =some (.cells #[.int .i64 op,.int .i64 n,.slice A k c] 52 (0,0))/\
  w.heap[w0.heap.size+1]? =some (.cells #[.int .i64 (if 0<j then(zbV (zbG f) (kid 0)).1 else 0),.int .i64 (if 1<j then(zbV (zbG f) (kid 1)).1 else 0)] 64 (0,0))
theorem World.size_le_alloc(w:World)(o:Obj):w.heap.size<=(w.alloc o).heap.size:=by simp
theorem tW{w w1:World}{o x:Obj}{g:Nat}(hb:Below (w.alloc o).heap.size (w.alloc o) w1)(hg:w.heap[g]? =some x):w1.heap[g]? =some x:=by
 have hl:g<w.heap.size:=(Ag.1 hg).1;exact(hb.block g (by simp;omega)).trans ((Bm w o g hl).trans hg)
theorem wF{w:World}{g:Nat}{x y:Int}{t:TypeId}(h:w.heap[g]? =some (.cells #[.int .i64 x,.int .i64 y] t (0,0))){j:Nat}(hj:j<2):∃z:Int,w.cell? ⟨g,j,none⟩=some (.int .i64 z)/\w.frozen? ⟨g,j,none⟩=false:=by
 have hf:∀i,w.frozen? ⟨g,i,none⟩=false:=λi=>by simp[World.frozen?,h]
 have c:j=0\/j=1:=by omega
 rcases c with rfl|rfl
 ·exact⟨x,Ro w g 0 _ _ _ h,hf _⟩
 ·exact⟨y,Ro w g 1 _ _ _ h,hf _⟩
theorem qgM{x0 y0 z:Int}{j:Nat}(hj:j<2):(#[.int .i64 x0,.int .i64 y0]:Array Value).setIfInBounds j (.int .i64 z)= #[.int .i64 (if j=0 then z else x0),.int .i64 (if j=1 then z else y0)]:=by
 have c:j=0\/j=1:=by omega
 rcases c with rfl|rfl<;>rfl
theorem qkR(b:Nat)(f:Int->Int)(hf:Vf f)(m:Nat)(op n:Int)(k:Nat)(kid:Nat->Tr)(hrt:zaV (m+1) (.mk op n k kid)=true)(ih:∀i,i<k->znA b f (kid i)):znA b f (.mk op n k kid):=by
 intro v w B hr ht hs;obtain⟨A,c,rfl,hop,hn,hk,hkids⟩:=hr.open_;obtain⟨q1,q2,q3⟩:=cH hrt;have hk2:k<=2:=by have:=jV op;omega
 have HQ1:=Hd q1;have HQ2:=Hd q2;have HQ3:=Hd q3;have HIH:=Hd ih;have HKI:=Hd hkids;have HT:=Hd ht;have HS:=Hd hs;have hbs:=Le w.heap.size;have hts:=ht.lt;clear hr hrt q1 q2 q3 ih hkids ht hs;go_enter func94,ntmps94;go_wp2_with fail;go_loopw[16] (ERel f op n A k c kid w) (λi _=>k-(intOf i).toNat)
 case atStart=>
  refine⟨0,by omega,rfl,λx hx=>absurd hx (by omega),(nB _ _).alloc (by simp) _,by simp,?_,?_⟩
  ·exact(Bm _ _ _ (by simp)).trans (Hn w _)
  ·have:=Hn (w.alloc (.cells #[.int .i64 op,.int .i64 n,.slice A k c] 52)) (.cells #[.int .i64 0,.int .i64 0] 64);simpa using this
 case round=>
  obtain⟨j,hj,rfl,hje,hb,hsz,hbox,hvs⟩:=hrel;have HJ:=Hd hje;have HB:=Hd hb;have HBX:=Hd hbox;have HVS:=Hd hvs;clear hje hb;by_cases hlt:j<k
  ·obtain⟨ab,off,rfl,hab,hc⟩:=HKI.o (by omega);obtain⟨o,n',A',k',c',c0,c1,c2,hr⟩:=hc j hlt;have HR:=Hd hr;have d0:=HB.o.ct hab c0;have d1:=HB.o.ct hab c1;have d2:=HB.o.ct hab c2;clear hc c0 c1 c2 hr hbox hvs;have hj2:j<2:=by omega
   have hc0:∀W:World,Bw w W->Calls prog 94 #[.agg #[.int .i64 o,.int .i64 n',.slice A' k' c'],.pointer (some ⟨b,0,none⟩)] W λe w'=>e=.returned (.tuple #[.int .i64 (zbV (zbG f) (kid j)).1,.int .i64 (zbV (zbG f) (kid j)).2])/\Bw W w':=λW hb=>
    HIH.o j hlt _ W B (HR.o.below hb hb.size) (HT.o.below hb hts) (HS.o.below hb hbs)
   have HC:=Hd hc0;clear hc0;obtain⟨va,hva⟩:∃x,x=(zbV (zbG f) (kid j)).1:=⟨_,rfl⟩;obtain⟨vb,hvb⟩:∃x,x=(zbV (zbG f) (kid j)).2:=⟨_,rfl⟩;rw[<-hva,<-hvb]at HC;have HVA:=Hd hva;have HVB:=Hd hvb;clear hva hvb;by_cases he:vb=0
   ·have he':(vb==0)=true:=by simpa using he
    have he'':(vb !=0)=false:=by simpa using he
    have HE0:=Hd he;clear he;go_wp2_with(go_at_call 94;refine(HC.o _ (HB.o.trans (aE _ (by omega)))).mono ?_;rintro e w1 ⟨rfl,hb⟩;have HN:=Hd hb;obtain⟨z1,cz,fz⟩:=wF (tW hb HVS.o) hj2;clear hb);have hw1:=Hd (tW HN.o HVS.o);have hw2:=Hd (tW HN.o HBX.o);refine⟨⟨j+1,by omega,by go_num,λx hx=> ?_,((HB.o.trans (aE _ (by omega))).trans (HN.o.mono (by simp;omega))).setCell (by simp) _,?_,?_,?_⟩,by simp[intOf];omega⟩
    ·rcases Nat.lt_or_ge x j with h|h
     ·exact HJ.o x h
     ·rw[show x=j by omega,<-HVB.o];exact HE0.o
    ·have:=HN.o.size;simp at this;simp[World.setCell];omega
    ·exact(Bj _ _ _ _ (by show w.heap.size≠w.heap.size+1;omega)).trans hw2.o
    ·rw[aD hw1.o,qgM hj2];have c:j=0\/j=1:=by omega
     have hv:=HVA.o;rcases c with rfl|rfl
     ·simp[hv]
     ·simp[hv]
   ·have he':(vb==0)=false:=by simpa using he
    have he'':(vb !=0)=true:=by simpa using he
    have HE0:=Hd he;clear he;go_wp2_with(go_at_call 94;refine(HC.o _ (HB.o.trans (aE _ (by omega)))).mono ?_;rintro e w1 ⟨rfl,hb⟩;have HN:=Hd hb;clear hb);go_ret2;rw[xV hk2 hlt HJ.o (by rw[<-HVB.o];exact HE0.o),<-HVB.o];exact⟨rfl,(HB.o.trans (aE _ (by omega))).trans (HN.o.mono (by simp;omega))⟩
  ·have hjk:j=k:=by omega
   have HALL:Hid (∀x,x<k->(zbV (zbG f) (kid x)).2=0):=by rw[<-hjk];exact HJ.o
   have HEV:=Hd (qcX (V:=zbG f) (op:=op) (n:=n) hk2 HALL.o);rw[<-hjk]at HEV;obtain⟨a0,ha0⟩:∃x,x=(if 0<j then(zbV (zbG f) (kid 0)).1 else 0):=⟨_,rfl⟩;obtain⟨a1,ha1⟩:∃x,x=(if 1<j then(zbV (zbG f) (kid 1)).1 else 0):=⟨_,rfl⟩;rw[<-ha0,<-ha1]at hvs HEV HVS;rw[hjk]at HEV;have s0:Sml a0:=by
    rw[ha0];split
    ·exact jX (lR hf) _ m (HQ3.o 0 (by omega))
    ·exact bQ
   have s1:Sml a1:=by
    rw[ha1];split
    ·exact jX (lR hf) _ m (HQ3.o 1 (by omega))
    ·exact bQ
   clear ha0 ha1;have v0:wr.cell? ⟨w.heap.size+1,0,none⟩=some (.int .i64 a0):=Ro wr _ 0 _ _ _ hvs;have v1:wr.cell? ⟨w.heap.size+1,1,none⟩=some (.int .i64 a1):=Ro wr _ 1 _ _ _ hvs;have b0:wr.cell? ⟨w.heap.size,0,none⟩=some (.int .i64 op):=Ro wr _ 0 _ _ _ hbox;have b1:wr.cell? ⟨w.heap.size,1,none⟩=some (.int .i64 n):=Ro wr _ 1 _ _ _ hbox;have b2:wr.cell? ⟨w.heap.size,2,none⟩=some (.slice A k c):=Ro wr _ 2 _ _ _ hbox;clear hbox hvs;obtain⟨s01,s02⟩:=s0;obtain⟨s11,s12⟩:=s1;have HS0:Hid (Sml a0):=⟨s01,s02⟩;have HTR:=Hd (HT.o.below HB.o hts);have HSR:=Hd (HS.o.below HB.o hbs);have hkk:=HQ1.o;subst hjk;by_cases c0:op=0
   ·have HF:Hid (zdT (zbG f) op n a0 a1=(n,0)):=by unfold Hid zdT;rw[Ip c0]
    have c0':(op==0)=true:=by simpa using c0
    clear c0 hkk;go_wp2_with fail;go_ret2;rw[HEV.o,HF.o];exact⟨rfl,HB.o⟩
   have c0':(op==0)=false:=by simpa using c0
   by_cases c1:op=1
   ·have c1':(op==1)=true:=by simpa using c1
    have HF:Hid (zdT (zbG f) op n a0 a1=if(zaY a0).2 then zbG f (zaY a0).1 else(0,6)):=by unfold Hid zdT;rw[Iq c0,Ip c1]
    have HW:=Hd (cT a0 wr);clear c0 c1 hkk;rcases hw:zaY a0 with⟨q,ok⟩
    rw[hw]at HF HW;dsimp only at HF HW;clear hw;rcases ok with _|_
    ·go_wp2_with(go_at_call 88;refine mo0 HW.o ?_);go_ret2;rw[HEV.o,HF.o];exact⟨rfl,HB.o⟩
    ·go_wp2_with(first|(go_at_call 88;refine mo0 HW.o ?_)|(go_at_call 77;refine(sK _ B b f q HSR.o).mono ?_;rintro e w' ⟨rfl,z,rfl⟩));go_ret2;rw[HEV.o,HF.o];exact⟨rfl,aA HB.o _⟩
   have c1':(op==1)=false:=by simpa using c1
   by_cases c2:op=11
   ·have c2':(op==11)=true:=by simpa using c2
    have HF:Hid (zdT (zbG f) op n a0 a1=zgP a0 a1):=by unfold Hid zdT;rw[Iq c0,Iq c1,Ip c2]
    have HD:=Hd (vR a0 a1 (by omega) (by omega) (by omega) (by omega) wr HTR.o);rw[<-HF.o]at HD;clear c0 c1 c2 hkk;go_wp2_with(go_at_call 122;refine HD.o.mono ?_;rintro e w1 ⟨rfl,hb⟩;have HN:=Hd hb;clear hb);go_ret2;rw[HEV.o];exact⟨rfl,HB.o.tm HN.o⟩
   have c2':(op==11)=false:=by simpa using c2
   by_cases c3:zbD op=1
   ·have hj1:((j:Int)==1)=true:=by rw[hkk,c3];rfl
    have HF:Hid (zdT (zbG f) op n a0 a1=unS op a0):=by unfold Hid zdT;rw[Iq c0,Iq c1,Iq c2,Ip c3]
    have HD:=Hd (qiP op a0 c3 c1 s01 s02 wr HTR.o);rw[<-HF.o]at HD;clear c0 c1 c2 c3 hkk;go_wp2_with(go_at_call 123;refine HD.o.mono ?_;rintro e w1 ⟨rfl,hb⟩;have HN:=Hd hb;clear hb);go_ret2;rw[HEV.o];exact⟨rfl,HB.o.tm HN.o⟩
   have hj1:((j:Int)==1)=false:=by rw[hkk];simpa using c3
   by_cases c4:17<=op
   ·have c5:op<=25:=by
     rcases Il 25 op with h|h
     ·have:zbD op= -1:=by unfold zbD;rw[Iq (by omega),Iq (by omega),Iq (by omega)]
      omega
     ·exact h
    have HF:Hid (zdT (zbG f) op n a0 a1=(if zbS op a0 a1 then 1000000 else 0,0)):=by unfold Hid zdT;rw[Iq c0,Iq c1,Iq c2,Iq c3,Ip c4]
    have HD:=Hd (qkI op a0 a1 c4 c5 wr);clear c0 c1 c2 c3 hkk;rcases hh:zbS op a0 a1 with _|_
    ·rw[hh]at HD HF;clear hh;go_wp2_with(go_at_call 124;refine HD.o.mono ?_;rintro e w' ⟨rfl,rfl⟩);go_ret2;rw[HEV.o,HF.o];exact⟨rfl,HB.o⟩
    ·rw[hh]at HD HF;clear hh;go_wp2_with(go_at_call 124;refine HD.o.mono ?_;rintro e w' ⟨rfl,rfl⟩);go_ret2;rw[HEV.o,HF.o];exact⟨rfl,HB.o⟩
   have c6:op=3\/op=4\/op=5\/op=6\/op=7:=by
    have h:=qkG hkk c0 c3;omega
   have HF:Hid (zdT (zbG f) op n a0 a1=arS op a0 a1):=by unfold Hid zdT;rw[Iq c0,Iq c1,Iq c2,Iq c3,Iq c4]
   rcases c6 with rfl|rfl|rfl|rfl|rfl
   ·have HD:=λW=>Hd (pX a0 a1 (by omega) (by omega) (by omega) (by omega) W);have HG:Hid (arS 3 a0 a1=zhE a0 a1):=rfl;rw[<-HG.o,<-HF.o]at HD;have hl:∀W:World,(Instr.lookup 177 (.map (some W.heap.size)) (.int .i64 3) false).run prog (W.alloc (.map zeK 5))=.ok (.func (.func 161) #[] #[]) (W.alloc (.map zeK 5)):=λW=>zlM _ _ (Hn W _);have hl2:∀W:World,(Instr.lookup 177 (.map (some W.heap.size)) (.int .i64 3) false).run prog (W.alloc (.map zeK 5)).drew=.ok (.func (.func 161) #[] #[]) (W.alloc (.map zeK 5)).drew:=λW=>zlM _ _ (Hn W _);have b0a:=λo=>(Wl wr o ⟨w.heap.size,0,none⟩ (by show w.heap.size<wr.heap.size;omega)).trans b0;have v0a:=λo=>(Wl wr o ⟨w.heap.size+1,0,none⟩ (by show w.heap.size+1<wr.heap.size;omega)).trans v0;have v1a:=λo=>(Wl wr o ⟨w.heap.size+1,1,none⟩ (by show w.heap.size+1<wr.heap.size;omega)).trans v1;clear c0 c1 c2 c3 c4 hkk;go_wp2_with fail;go_region_held3(λw'=>w'.cell? ⟨w.heap.size,0,none⟩=some (.int .i64 3)/\w'.cell? ⟨w.heap.size+1,0,none⟩=some (.int .i64 a0)/\w'.cell? ⟨w.heap.size+1,1,none⟩=some (.int .i64 a1)) (first|exact⟨b0,v0,v1⟩|exact⟨b0a _,v0a _,v1a _⟩)
     (first|(go_at_call 125;refine(vK _).mono ?_;rintro e w1 ⟨rfl,rfl⟩)|(go_at_call 161;refine(HD _).o.mono ?_;rintro e w1 ⟨rfl,rfl⟩))
    go_wp2_with fail;go_ret2;rw[HEV.o];exact⟨rfl,HB.o.trans (aA (aE _ (by omega)) 1)⟩
   ·have HD:=λW=>Hd (oH a0 a1 (by omega) (by omega) (by omega) (by omega) W);have HG:Hid (arS 4 a0 a1=zhC a0 a1):=rfl;rw[<-HG.o,<-HF.o]at HD;have hl:∀W:World,(Instr.lookup 177 (.map (some W.heap.size)) (.int .i64 4) false).run prog (W.alloc (.map zeK 5))=.ok (.func (.func 162) #[] #[]) (W.alloc (.map zeK 5)):=λW=>zlL _ _ (Hn W _);have hl2:∀W:World,(Instr.lookup 177 (.map (some W.heap.size)) (.int .i64 4) false).run prog (W.alloc (.map zeK 5)).drew=.ok (.func (.func 162) #[] #[]) (W.alloc (.map zeK 5)).drew:=λW=>zlL _ _ (Hn W _);have b0a:=λo=>(Wl wr o ⟨w.heap.size,0,none⟩ (by show w.heap.size<wr.heap.size;omega)).trans b0;have v0a:=λo=>(Wl wr o ⟨w.heap.size+1,0,none⟩ (by show w.heap.size+1<wr.heap.size;omega)).trans v0;have v1a:=λo=>(Wl wr o ⟨w.heap.size+1,1,none⟩ (by show w.heap.size+1<wr.heap.size;omega)).trans v1;clear c0 c1 c2 c3 c4 hkk;go_wp2_with fail;go_region_held3(λw'=>w'.cell? ⟨w.heap.size,0,none⟩=some (.int .i64 4)/\w'.cell? ⟨w.heap.size+1,0,none⟩=some (.int .i64 a0)/\w'.cell? ⟨w.heap.size+1,1,none⟩=some (.int .i64 a1)) (first|exact⟨b0,v0,v1⟩|exact⟨b0a _,v0a _,v1a _⟩)
     (first|(go_at_call 125;refine(vK _).mono ?_;rintro e w1 ⟨rfl,rfl⟩)|(go_at_call 162;refine(HD _).o.mono ?_;rintro e w1 ⟨rfl,rfl⟩))
    go_wp2_with fail;go_ret2;rw[HEV.o];exact⟨rfl,HB.o.trans (aA (aE _ (by omega)) 1)⟩
   ·have HD:=λW=>Hd (fY a0 a1 (by omega) (by omega) (by omega) (by omega) W);have HG:Hid (arS 5 a0 a1=zhD a0 a1):=rfl;rw[<-HG.o,<-HF.o]at HD;have hl:∀W:World,(Instr.lookup 177 (.map (some W.heap.size)) (.int .i64 5) false).run prog (W.alloc (.map zeK 5))=.ok (.func (.func 163) #[] #[]) (W.alloc (.map zeK 5)):=λW=>zlK _ _ (Hn W _);have hl2:∀W:World,(Instr.lookup 177 (.map (some W.heap.size)) (.int .i64 5) false).run prog (W.alloc (.map zeK 5)).drew=.ok (.func (.func 163) #[] #[]) (W.alloc (.map zeK 5)).drew:=λW=>zlK _ _ (Hn W _);have b0a:=λo=>(Wl wr o ⟨w.heap.size,0,none⟩ (by show w.heap.size<wr.heap.size;omega)).trans b0;have v0a:=λo=>(Wl wr o ⟨w.heap.size+1,0,none⟩ (by show w.heap.size+1<wr.heap.size;omega)).trans v0;have v1a:=λo=>(Wl wr o ⟨w.heap.size+1,1,none⟩ (by show w.heap.size+1<wr.heap.size;omega)).trans v1;clear c0 c1 c2 c3 c4 hkk;go_wp2_with fail;go_region_held3(λw'=>w'.cell? ⟨w.heap.size,0,none⟩=some (.int .i64 5)/\w'.cell? ⟨w.heap.size+1,0,none⟩=some (.int .i64 a0)/\w'.cell? ⟨w.heap.size+1,1,none⟩=some (.int .i64 a1)) (first|exact⟨b0,v0,v1⟩|exact⟨b0a _,v0a _,v1a _⟩|exact⟨(HN.o.cell (by simp;omega)).trans (b0a _),(HN.o.cell (by simp;omega)).trans (v0a _),(HN.o.cell (by simp;omega)).trans (v1a _)⟩)
     (first|(go_at_call 125;refine(vK _).mono ?_;rintro e w1 ⟨rfl,rfl⟩)|(go_at_call 163;refine(HD _).o.mono ?_;rintro e w1 ⟨rfl,hb⟩;have HN:=Hd hb;clear hb))
    go_wp2_with fail;go_ret2;rw[HEV.o];exact⟨rfl,(HB.o.trans (aA (aE _ (by omega)) 1)).trans (HN.o.mono (by simp;omega))⟩
   ·have HD:=λW=>Hd (gB a0 a1 (by omega) (by omega) (by omega) (by omega) W);have HG:Hid (arS 6 a0 a1=zgO a0 a1):=rfl;rw[<-HG.o,<-HF.o]at HD;have hl:∀W:World,(Instr.lookup 177 (.map (some W.heap.size)) (.int .i64 6) false).run prog (W.alloc (.map zeK 5))=.ok (.func (.func 164) #[] #[]) (W.alloc (.map zeK 5)):=λW=>zlJ _ _ (Hn W _);have hl2:∀W:World,(Instr.lookup 177 (.map (some W.heap.size)) (.int .i64 6) false).run prog (W.alloc (.map zeK 5)).drew=.ok (.func (.func 164) #[] #[]) (W.alloc (.map zeK 5)).drew:=λW=>zlJ _ _ (Hn W _);have b0a:=λo=>(Wl wr o ⟨w.heap.size,0,none⟩ (by show w.heap.size<wr.heap.size;omega)).trans b0;have v0a:=λo=>(Wl wr o ⟨w.heap.size+1,0,none⟩ (by show w.heap.size+1<wr.heap.size;omega)).trans v0;have v1a:=λo=>(Wl wr o ⟨w.heap.size+1,1,none⟩ (by show w.heap.size+1<wr.heap.size;omega)).trans v1;clear c0 c1 c2 c3 c4 hkk;go_wp2_with fail;go_region_held3(λw'=>w'.cell? ⟨w.heap.size,0,none⟩=some (.int .i64 6)/\w'.cell? ⟨w.heap.size+1,0,none⟩=some (.int .i64 a0)/\w'.cell? ⟨w.heap.size+1,1,none⟩=some (.int .i64 a1)) (first|exact⟨b0,v0,v1⟩|exact⟨b0a _,v0a _,v1a _⟩|exact⟨(HN.o.cell (by simp;omega)).trans (b0a _),(HN.o.cell (by simp;omega)).trans (v0a _),(HN.o.cell (by simp;omega)).trans (v1a _)⟩)
     (first|(go_at_call 125;refine(vK _).mono ?_;rintro e w1 ⟨rfl,rfl⟩)|(go_at_call 164;refine(HD _).o.mono ?_;rintro e w1 ⟨rfl,hb⟩;have HN:=Hd hb;clear hb))
    go_wp2_with fail;go_ret2;rw[HEV.o];exact⟨rfl,(HB.o.trans (aA (aE _ (by omega)) 1)).trans (HN.o.mono (by simp;omega))⟩
   ·have HD:=λW=>Hd (lO a0 a1 (by omega) (by omega) (by omega) (by omega) W);have HG:Hid (arS 7 a0 a1=zgV a0 a1):=rfl;rw[<-HG.o,<-HF.o]at HD;have hl:∀W:World,(Instr.lookup 177 (.map (some W.heap.size)) (.int .i64 7) false).run prog (W.alloc (.map zeK 5))=.ok (.func (.func 165) #[] #[]) (W.alloc (.map zeK 5)):=λW=>zlI _ _ (Hn W _);have hl2:∀W:World,(Instr.lookup 177 (.map (some W.heap.size)) (.int .i64 7) false).run prog (W.alloc (.map zeK 5)).drew=.ok (.func (.func 165) #[] #[]) (W.alloc (.map zeK 5)).drew:=λW=>zlI _ _ (Hn W _);have b0a:=λo=>(Wl wr o ⟨w.heap.size,0,none⟩ (by show w.heap.size<wr.heap.size;omega)).trans b0;have v0a:=λo=>(Wl wr o ⟨w.heap.size+1,0,none⟩ (by show w.heap.size+1<wr.heap.size;omega)).trans v0;have v1a:=λo=>(Wl wr o ⟨w.heap.size+1,1,none⟩ (by show w.heap.size+1<wr.heap.size;omega)).trans v1;clear c0 c1 c2 c3 c4 hkk;go_wp2_with fail;go_region_held3(λw'=>w'.cell? ⟨w.heap.size,0,none⟩=some (.int .i64 7)/\w'.cell? ⟨w.heap.size+1,0,none⟩=some (.int .i64 a0)/\w'.cell? ⟨w.heap.size+1,1,none⟩=some (.int .i64 a1)) (first|exact⟨b0,v0,v1⟩|exact⟨b0a _,v0a _,v1a _⟩)
     (first|(go_at_call 125;refine(vK _).mono ?_;rintro e w1 ⟨rfl,rfl⟩)|(go_at_call 165;refine(HD _).o.mono ?_;rintro e w1 ⟨rfl,rfl⟩))
    go_wp2_with fail;go_ret2;rw[HEV.o];exact⟨rfl,HB.o.trans (aA (aE _ (by omega)) 1)⟩
theorem qrH(b:Nat)(f:Int->Int)(hf:Vf f):∀(t:Tr) (m:Nat),zaV m t=true->znA b f t:=by
 intro t;induction t with
 |none_=>intro m h;cases m<;>cases h
 |mk op n k kid ih=>
  intro m h;rcases m with _|m
  ·cases h
  ·exact qkR b f hf m op n k kid h λi hi=>ih i m ((cH h).2.2 i hi)
def zcH(V:Int->Int×Int)(t:Tr):Int×Int:=if zaV 16 t then zbV V t else(0,1)
theorem eP(B b:Nat)(f:Int->Int)(hf:Vf f)(t:Tr)(v:Value)(w:World)(hr:Rd w w.heap.size t v)(ht:Tab w)(hs:St w B b f):
 Calls prog 62 #[v,.pointer (some ⟨b,0,none⟩)] w λe w'=>e=.returned (.tuple #[.int .i64 (zcH (zbG f) t).1,.int .i64 (zcH (zbG f) t).2])/\Bw w w':=by
 have HR:=Hd hr;have HT:=Hd ht;have HS:=Hd hs;have hbs:=Le w.heap.size;have hts:=ht.lt;have HX:=Hd (λW (hb:Bw w W)=>qlP t v W (HR.o.below hb hb.size));have HE:Hid (zaV 16 t=true->∀W,Bw w W->Calls prog 94 #[v,.pointer (some ⟨b,0,none⟩)] W λe w'=>e=.returned (.tuple #[.int .i64 (zbV (zbG f) t).1,.int .i64 (zbV (zbG f) t).2])/\Bw W w'):=
  λh W hb=>qrH b f hf t 16 h v W B (HR.o.below hb hb.size) (HT.o.below hb hts) (HS.o.below hb hbs)
 rcases t with _|⟨op,n,k,kid⟩
 ·exact hr.elim
 obtain⟨A,c,rfl,hop,hn,hk,hkids⟩:=hr.open_;clear hr ht hs hkids;unfold zcH;rcases hh:zaV 16 (.mk op n k kid)with _|_
 ·rw[Iq (by decide)];rw[hh]at HX;clear HE hh;go_enter func62,ntmps62;go_wp2_with(go_at_call 93;refine(HX.o _ (aE _ (Le _))).mono ?_;rintro e w1 ⟨rfl,hb⟩;have HN:=Hd hb;clear hb);go_ret2;exact⟨rfl,(aE _ (Le _)).trans (HN.o.mono (by simp))⟩
 ·rw[Ip rfl];rw[hh]at HX;have HE2:=Hd (HE.o hh);clear HE hh;go_enter func62,ntmps62;go_wp2_with(first|(go_at_call 93;refine(HX.o _ (aE _ (Le _))).mono ?_;rintro e w1 ⟨rfl,hb⟩;have HN:=Hd ((aE _ (Le _)).trans (hb.mono (World.size_le_alloc _ _)));have hbx:=hb.cel w.heap.size 0 (by simp);have hby:=hb.cel w.heap.size 1 (by simp);have hbz:=hb.cel w.heap.size 2 (by simp);clear hb)|(go_at_call 94;refine(HE2.o _ HN.o).mono ?_;rintro e w2 ⟨rfl,hb⟩;have HM:=Hd hb;clear hb));go_ret2;exact⟨rfl,HN.o.tm HM.o⟩
