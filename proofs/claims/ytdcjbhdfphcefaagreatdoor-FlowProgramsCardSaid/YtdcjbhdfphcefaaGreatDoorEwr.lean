/- The contract. -/
import Derived.Test.YtdcjbhdfphcefaaGreatDoorBf
import Derived.Test.YtdcjbhdfphcefaaGreatDoorEw
import Derived.Test.YtdcjbhdfphcefaaGreatDoorSvr
namespace Go.Proofs.YtdcjbhdfphcefaaGreatDoor
set_option linter.all false
set_option maxRecDepth 100000
set_option maxHeartbeats 4000000
open Go.Proofs.Tryz
open Go.RowKit
theorem qiG(a b:Int)(ha1: -9223372036854775808<=a)(ha2:a<=9223372036854775807)(hb1: -9223372036854775808<=b)(hb2:b<=9223372036854775807)(w:World):
 Calls prog 173 #[.int .i64 a,.int .i64 b] w λe w'=>e=.returned (.tuple #[.int .i64 (zhE a b).1,.int .i64 (zhE a b).2])/\w=w':=by
 rcases ha:vld a with _|_
 ·rw[qaV (by simp[ha])];go_enter func173,ntmps173;go_wp2_with(go_at_call 168;refine mo0 (aF _ _) ?_);go_ret2;exact⟨rfl,rfl⟩
 ·rcases hb:vld b with _|_
  ·rw[qaV (by simp[hb])];go_enter func173,ntmps173;go_wp2_with(go_at_call 168;refine mo0 (aF _ _) ?_);go_ret2;exact⟨rfl,rfl⟩
  ·have k1:=aP ha;have k2:=aP hb;rw[pY ha hb];go_enter func173,ntmps173;go_wp2_with(first|(go_at_call 168;refine mo0 (aF _ _) ?_)|(go_at_call 198;refine mo0 (lD _ _) ?_));go_ret2;exact⟨rfl,rfl⟩
theorem qgQ(a b:Int)(ha1: -9223372036854775808<=a)(ha2:a<=9223372036854775807)(hb1: -9223372036854775808<=b)(hb2:b<=9223372036854775807)(w:World):
 Calls prog 174 #[.int .i64 a,.int .i64 b] w λe w'=>e=.returned (.tuple #[.int .i64 (zhC a b).1,.int .i64 (zhC a b).2])/\w=w':=by
 rcases ha:vld a with _|_
 ·rw[yG (by simp[ha])];go_enter func174,ntmps174;go_wp2_with(go_at_call 168;refine mo0 (aF _ _) ?_);go_ret2;exact⟨rfl,rfl⟩
 ·rcases hb:vld b with _|_
  ·rw[yG (by simp[hb])];go_enter func174,ntmps174;go_wp2_with(go_at_call 168;refine mo0 (aF _ _) ?_);go_ret2;exact⟨rfl,rfl⟩
  ·have k1:=aP ha;have k2:=aP hb;rw[oI ha hb];go_enter func174,ntmps174;go_wp2_with(first|(go_at_call 168;refine mo0 (aF _ _) ?_)|(go_at_call 198;refine mo0 (lD _ _) ?_));go_ret2;exact⟨rfl,rfl⟩
theorem qhG(a b:Int)(ha1: -9223372036854775808<=a)(ha2:a<=9223372036854775807)(hb1: -9223372036854775808<=b)(hb2:b<=9223372036854775807)(w:World):
 Calls prog 177 #[.int .i64 a,.int .i64 b] w λe w'=>e=.returned (.tuple #[.int .i64 (zgV a b).1,.int .i64 (zgV a b).2])/\w=w':=by
 rcases ha:vld a with _|_
 ·rw[sD (by simp[ha])];go_enter func177,ntmps177;go_wp2_with(go_at_call 168;refine mo0 (aF _ _) ?_);go_ret2;exact⟨rfl,rfl⟩
 rcases hb:vld b with _|_
 ·rw[sD (by simp[hb])];go_enter func177,ntmps177;go_wp2_with(go_at_call 168;refine mo0 (aF _ _) ?_);go_ret2;exact⟨rfl,rfl⟩
 have k1:=aP ha;have k2:=aP hb;by_cases hb0:b=0
 ·subst hb0;rw[mP ha];go_enter func177,ntmps177;go_wp2_with(go_at_call 168;refine mo0 (aF _ _) ?_);go_ret2;exact⟨rfl,rfl⟩
 rw[oX ha hb hb0];have hf:=Hd (tD a b hb0);have hf2:=Hd (tD a (-b) (by omega));have hbd:=lE a b hb0;have hbd2:=lE a (-b) (by omega);have hn:Hid (a%(-b)=a%b):=Int.emod_neg a b;have hb0':(b==0)=false:=by simpa using hb0
 by_cases hlt:b<0;all_goals
  go_enter func177,ntmps177;go_wp2_with(go_at_call 168;refine mo0 (aF _ _) ?_);all_goals
   go_ret2;exact⟨dG (by have:=hf.o;have:=hf2.o;have:=hn.o;omega) rfl,rfl⟩
def zkP(b:Nat)(f:Int->Int)(t:Tr):Prop:=∀(v:Value) (w:World) (B:Nat),Rd w w.heap.size t v->Sr w B b f->
 Calls prog 147 #[v,.pointer (some ⟨b,0,none⟩)] w λe w'=>e=.returned (.tuple #[.int .i64 (zbV (zbG f) t).1,.int .i64 (zbV (zbG f) t).2])/\Bw w w'
theorem tX{w w1:World}{x:Obj}{g:Nat}(hb:Bw w w1)(hg:w.heap[g]? =some x):w1.heap[g]? =some x:=(hb.block g (Ag.1 hg).1).trans hg
theorem qfQ(b:Nat)(f:Int->Int)(hf:Vf f)(m:Nat)(op n:Int)(k:Nat)(kid:Nat->Tr)(hrt:zaV (m+1) (.mk op n k kid)=true)(ih:∀i,i<k->zkP b f (kid i)):zkP b f (.mk op n k kid):=by
 intro v w B hr hs;obtain⟨A,c,rfl,hop,hn,hk,hkids⟩:=hr.open_;obtain⟨q1,q2,q3⟩:=cH hrt;have hk2:k<=2:=by have:=jV op;omega
 have HQ1:=Hd q1;have HQ2:=Hd q2;have HQ3:=Hd q3;have HIH:=Hd ih;have HKI:=Hd hkids;have HS:=Hd hs;have hbs:=Le w.heap.size;clear hr hrt q1 q2 q3 ih hkids hs;go_enter func147,ntmps147;go_wp2_with fail;go_loopw[7] (ERel f op n A k c kid w) (λi _=>k-(intOf i).toNat)
 case atStart=>
  refine⟨0,by omega,rfl,λx hx=>absurd hx (by omega),(nB _ _).alloc (by simp) _,by simp,?_,?_⟩
  ·exact(Bm _ _ _ (by simp)).trans (Hn w _)
  ·have:=Hn (w.alloc (.cells #[.int .i64 op,.int .i64 n,.slice A k c] 52)) (.cells #[.int .i64 0,.int .i64 0] 64);simpa using this
 case round=>
  obtain⟨j,hj,rfl,hje,hb,hsz,hbox,hvs⟩:=hrel;have HJ:=Hd hje;have HB:=Hd hb;have HBX:=Hd hbox;have HVS:=Hd hvs;have HSZ:=Hd hsz;have b2:wr.cell? ⟨w.heap.size,2,none⟩=some (.slice A k c):=Ro wr _ 2 _ _ _ hbox;clear hje hb;by_cases hlt:j<k
  ·obtain⟨ab,off,rfl,hab,hc⟩:=HKI.o (by omega);obtain⟨o,n',A',k',c',c0,c1,c2,hr⟩:=hc j hlt;have HR:=Hd hr;have d0:=HB.o.ct hab c0;have d1:=HB.o.ct hab c1;have d2:=HB.o.ct hab c2;clear hc c0 c1 c2 hr hbox hvs;have hj2:j<2:=by omega
   have hc0:Calls prog 147 #[.agg #[.int .i64 o,.int .i64 n',.slice A' k' c'],.pointer (some ⟨b,0,none⟩)] wr λe w'=>e=.returned (.tuple #[.int .i64 (zbV (zbG f) (kid j)).1,.int .i64 (zbV (zbG f) (kid j)).2])/\Bw wr w':=
    HIH.o j hlt _ wr B (HR.o.below HB.o HB.o.size) (HS.o.below HB.o hbs)
   have HC:=Hd hc0;clear hc0;obtain⟨va,hva⟩:∃x,x=(zbV (zbG f) (kid j)).1:=⟨_,rfl⟩;obtain⟨vb,hvb⟩:∃x,x=(zbV (zbG f) (kid j)).2:=⟨_,rfl⟩;rw[<-hva,<-hvb]at HC;have HVA:=Hd hva;have HVB:=Hd hvb;clear hva hvb;by_cases he:vb=0
   ·have he':(vb==0)=true:=by simpa using he
    have he'':(vb !=0)=false:=by simpa using he
    have HE0:=Hd he;clear he;go_wp2_with(go_at_call 147;refine HC.o.mono ?_;rintro e w1 ⟨rfl,hb⟩;have HN:=Hd hb;obtain⟨z1,cz,fz⟩:=wF (tX hb HVS.o) hj2;clear hb);have hw1:=Hd (tX HN.o HVS.o);have hw2:=Hd (tX HN.o HBX.o);refine⟨⟨j+1,by omega,by go_num,λx hx=> ?_,(HB.o.trans (HN.o.mono (by omega))).setCell (by simp) _,?_,?_,?_⟩,by simp[intOf];omega⟩
    ·rcases Nat.lt_or_ge x j with h|h
     ·exact HJ.o x h
     ·rw[show x=j by omega,<-HVB.o];exact HE0.o
    ·have:=HN.o.size;simp[World.setCell];omega
    ·exact(Bj _ _ _ _ (by show w.heap.size≠w.heap.size+1;omega)).trans hw2.o
    ·rw[aD hw1.o,qgM hj2];have c:j=0\/j=1:=by omega
     have hv:=HVA.o;rcases c with rfl|rfl
     ·simp[hv]
     ·simp[hv]
   ·have he':(vb==0)=false:=by simpa using he
    have he'':(vb !=0)=true:=by simpa using he
    have HE0:=Hd he;clear he;go_wp2_with(go_at_call 147;refine HC.o.mono ?_;rintro e w1 ⟨rfl,hb⟩;have HN:=Hd hb;clear hb);go_ret2;rw[xV hk2 hlt HJ.o (by rw[<-HVB.o];exact HE0.o),<-HVB.o];exact⟨rfl,HB.o.trans (HN.o.mono (by omega))⟩
  ·have hjk:j=k:=by omega
   have HALL:Hid (∀x,x<k->(zbV (zbG f) (kid x)).2=0):=by rw[<-hjk];exact HJ.o
   have HEV:=Hd (qcX (V:=zbG f) (op:=op) (n:=n) hk2 HALL.o);rw[<-hjk]at HEV;obtain⟨a0,ha0⟩:∃x,x=(if 0<j then(zbV (zbG f) (kid 0)).1 else 0):=⟨_,rfl⟩;obtain⟨a1,ha1⟩:∃x,x=(if 1<j then(zbV (zbG f) (kid 1)).1 else 0):=⟨_,rfl⟩;rw[<-ha0,<-ha1]at hvs HEV HVS;rw[hjk]at HEV;have s0:Sml a0:=by
    rw[ha0];split
    ·exact jX (lR hf) _ m (HQ3.o 0 (by omega))
    ·exact bQ
   have s1:Sml a1:=by
    rw[ha1];split
    ·exact jX (lR hf) _ m (HQ3.o 1 (by omega))
    ·exact bQ
   clear ha0 ha1;have v0:wr.cell? ⟨w.heap.size+1,0,none⟩=some (.int .i64 a0):=Ro wr _ 0 _ _ _ hvs;have v1:wr.cell? ⟨w.heap.size+1,1,none⟩=some (.int .i64 a1):=Ro wr _ 1 _ _ _ hvs;have b0:wr.cell? ⟨w.heap.size,0,none⟩=some (.int .i64 op):=Ro wr _ 0 _ _ _ hbox;have b1:wr.cell? ⟨w.heap.size,1,none⟩=some (.int .i64 n):=Ro wr _ 1 _ _ _ hbox;clear hbox hvs;obtain⟨s01,s02⟩:=s0;obtain⟨s11,s12⟩:=s1;have HSR:=Hd (HS.o.below HB.o hbs);have hkk:=HQ1.o;subst hjk;by_cases c0:op=0
   ·have HF:Hid (zdT (zbG f) op n a0 a1=(n,0)):=by unfold Hid zdT;rw[Ip c0]
    have c0':(op==0)=true:=by simpa using c0
    clear c0 hkk;go_wp2_with fail;go_quiet(fail);go_wp2_with fail;go_ret2;rw[HEV.o,HF.o];exact⟨rfl,aA HB.o _⟩
   have c0':(op==0)=false:=by simpa using c0
   by_cases c1:op=1
   ·have c1':(op==1)=true:=by simpa using c1
    have HF:Hid (zdT (zbG f) op n a0 a1=if(zaY a0).2 then zbG f (zaY a0).1 else(0,6)):=by unfold Hid zdT;rw[Iq c0,Ip c1]
    have HW:=Hd (λW=>eV a0 W);clear c0 c1 hkk;rcases hw:zaY a0 with⟨q,ok⟩
    rw[hw]at HF HW;dsimp only at HF HW;clear hw;rcases ok with _|_
    ·go_wp2_with fail;go_quiet(fail);go_wp2_with(go_at_call 134;refine mo0 (HW.o _) ?_);go_ret2;rw[HEV.o,HF.o];exact⟨rfl,aA HB.o _⟩
    ·go_wp2_with fail;go_quiet(fail);go_wp2_with(first|(go_at_call 134;refine mo0 (HW.o _) ?_)|(go_at_call 78;refine(pJ (World.drewN wr _) B b f q (HSR.o.keep λ_=>rfl)).mono ?_;rintro e w' ⟨rfl,z,rfl⟩));go_ret2;rw[HEV.o,HF.o];exact⟨rfl,aA HB.o _⟩
   have c1':(op==1)=false:=by simpa using c1
   by_cases d3:op=3
   ·have d3':(op==3)=true:=by simpa using d3
    have HF:Hid (zdT (zbG f) op n a0 a1=zhE a0 a1):=by subst d3;rfl
    have HD:=Hd (λW=>qiG a0 a1 (by omega) (by omega) (by omega) (by omega) W);rw[<-HF.o]at HD;clear c0 c1 hkk d3;go_wp2_with fail;go_quiet(fail);go_wp2_with(go_at_call 173;refine(HD.o _).mono ?_;rintro e w' ⟨rfl,rfl⟩);go_ret2;rw[HEV.o];exact⟨rfl,aA HB.o _⟩
   have d3':(op==3)=false:=by simpa using d3
   by_cases d4:op=4
   ·have d4':(op==4)=true:=by simpa using d4
    have HF:Hid (zdT (zbG f) op n a0 a1=zhC a0 a1):=by subst d4;rfl
    have HD:=Hd (λW=>qgQ a0 a1 (by omega) (by omega) (by omega) (by omega) W);rw[<-HF.o]at HD;clear c0 c1 hkk d4 d3;go_wp2_with fail;go_quiet(fail);go_wp2_with(go_at_call 174;refine(HD.o _).mono ?_;rintro e w' ⟨rfl,rfl⟩);go_ret2;rw[HEV.o];exact⟨rfl,aA HB.o _⟩
   have d4':(op==4)=false:=by simpa using d4
   by_cases d5:op=5
   ·have d5':(op==5)=true:=by simpa using d5
    have HF:Hid (zdT (zbG f) op n a0 a1=zhD a0 a1):=by subst d5;rfl
    have HD:=Hd (λW=>qcH a0 a1 (by omega) (by omega) (by omega) (by omega) W);rw[<-HF.o]at HD;clear c0 c1 hkk d5 d3 d4;go_wp2_with fail;go_quiet(fail);go_wp2_with(go_at_call 175;refine(HD.o _).mono ?_;rintro e w1 ⟨rfl,hb⟩;have HN:=Hd hb;clear hb);go_ret2;rw[HEV.o];exact⟨rfl,(aA HB.o _).trans (HN.o.mono HB.o.size)⟩
   have d5':(op==5)=false:=by simpa using d5
   by_cases d6:op=6
   ·have d6':(op==6)=true:=by simpa using d6
    have HF:Hid (zdT (zbG f) op n a0 a1=zgO a0 a1):=by subst d6;rfl
    have HD:=Hd (λW=>qdB a0 a1 (by omega) (by omega) (by omega) (by omega) W);rw[<-HF.o]at HD;clear c0 c1 hkk d6 d3 d4 d5;go_wp2_with fail;go_quiet(fail);go_wp2_with(go_at_call 176;refine(HD.o _).mono ?_;rintro e w1 ⟨rfl,hb⟩;have HN:=Hd hb;clear hb);go_ret2;rw[HEV.o];exact⟨rfl,(aA HB.o _).trans (HN.o.mono HB.o.size)⟩
   have d6':(op==6)=false:=by simpa using d6
   by_cases d7:op=7
   ·have d7':(op==7)=true:=by simpa using d7
    have HF:Hid (zdT (zbG f) op n a0 a1=zgV a0 a1):=by subst d7;rfl
    have HD:=Hd (λW=>qhG a0 a1 (by omega) (by omega) (by omega) (by omega) W);rw[<-HF.o]at HD;clear c0 c1 hkk d7 d3 d4 d5 d6;go_wp2_with fail;go_quiet(fail);go_wp2_with(go_at_call 177;refine(HD.o _).mono ?_;rintro e w' ⟨rfl,rfl⟩);go_ret2;rw[HEV.o];exact⟨rfl,aA HB.o _⟩
   have d7':(op==7)=false:=by simpa using d7
   by_cases c2:op=11
   ·have c2':(op==11)=true:=by simpa using c2
    have HF:Hid (zdT (zbG f) op n a0 a1=zgP a0 a1):=by subst c2;rfl
    have HD:=Hd (λW=>qsI a0 a1 s11 s12 s01 s02 W);rw[<-HF.o]at HD;clear c0 c1 c2 hkk d3 d4 d5 d6 d7;go_wp2_with fail;go_quiet(fail);go_wp2_with(go_at_call 178;refine(HD.o _).mono ?_;rintro e w1 ⟨rfl,hb⟩;have HN:=Hd hb;clear hb);go_ret2;rw[HEV.o];exact⟨rfl,(aA HB.o _).trans (HN.o.mono HB.o.size)⟩
   have c2':(op==11)=false:=by simpa using c2
   by_cases c4:17<=op
   ·have c5:op<=25:=by
     rcases Il 25 op with h|h
     ·have:zbD op= -1:=by unfold zbD;rw[Iq (by omega),Iq (by omega),Iq (by omega)]
      omega
     ·exact h
    have c3:zbD op≠1:=by
     unfold zbD;rw[Iq c0,Ip (by omega)];decide
    have HF:Hid (zdT (zbG f) op n a0 a1=(if zbS op a0 a1 then 1000000 else 0,0)):=by unfold Hid zdT;rw[Iq c0,Iq c1,Iq c2,Iq c3,Ip c4]
    have HD:=Hd (λW=>qaL op a0 a1 c4 c5 W);clear c0 c1 c2 c3 hkk d3 d4 d5 d6 d7;rcases hh:zbS op a0 a1 with _|_
    all_goals
     rw[hh]at HD HF;clear hh;go_wp2_with fail;go_quiet(fail);go_wp2_with(go_at_call 179;refine(HD.o _).mono ?_;rintro e w' ⟨rfl,rfl⟩);go_ret2;rw[HEV.o,HF.o];exact⟨rfl,aA HB.o _⟩
   have c3:zbD op=1:=by
    rcases Il (zbD op) 2 with h|h
    ·rcases Il (zbD op) 1 with h'|h'
     ·have h'':zbD op=0:=by omega
      unfold zbD at h'';rw[Iq c0]at h'';split at h''
      ·omega
      ·split at h''<;>omega
     ·omega
    ·exfalso;unfold zbD at h;rw[Iq c0,Iq (by omega)]at h;split at h<;>omega
   have HF:Hid (zdT (zbG f) op n a0 a1=unS op a0):=by unfold Hid zdT;rw[Iq c0,Iq c1,Iq c2,Ip c3]
   have HD:=Hd (λW=>qeK op a0 c3 c1 s01 s02 W);rw[<-HF.o]at HD;have c4':op<17:=by omega
   clear c0 c1 c2 c3 c4 hkk d3 d4 d5 d6 d7;go_wp2_with fail;go_quiet(fail);go_wp2_with(go_at_call 180;refine(HD.o _).mono ?_;rintro e w1 ⟨rfl,hb⟩;have HN:=Hd hb;clear hb);go_ret2;rw[HEV.o];exact⟨rfl,(aA HB.o _).trans (HN.o.mono HB.o.size)⟩
theorem qkS(b:Nat)(f:Int->Int)(hf:Vf f):∀(t:Tr) (m:Nat),zaV m t=true->zkP b f t:=by
 intro t;induction t with
 |none_=>intro m h;cases m<;>cases h
 |mk op n k kid ih=>
  intro m h;rcases m with _|m
  ·cases h
  ·exact qfQ b f hf m op n k kid h λi hi=>ih i m ((cH h).2.2 i hi)
theorem mE(B b:Nat)(f:Int->Int)(hf:Vf f)(t:Tr)(v:Value)(w:World)(hr:Rd w w.heap.size t v)(hs:Sr w B b f):
 Calls prog 107 #[v,.pointer (some ⟨b,0,none⟩)] w λe w'=>e=.returned (.tuple #[.int .i64 (zcH (zbG f) t).1,.int .i64 (zcH (zbG f) t).2])/\Bw w w':=by
 have HR:=Hd hr;have HS:=Hd hs;have hbs:=Le w.heap.size;have HX:=Hd (λW (hb:Bw w W)=>rG t v W (HR.o.below hb hb.size));have HE:Hid (zaV 16 t=true->∀W,Bw w W->Calls prog 147 #[v,.pointer (some ⟨b,0,none⟩)] W λe w'=>e=.returned (.tuple #[.int .i64 (zbV (zbG f) t).1,.int .i64 (zbV (zbG f) t).2])/\Bw W w'):=
  λh W hb=>qkS b f hf t 16 h v W B (HR.o.below hb hb.size) (HS.o.below hb hbs)
 rcases t with _|⟨op,n,k,kid⟩
 ·exact hr.elim
 obtain⟨A,c,rfl,hop,hn,hk,hkids⟩:=hr.open_;clear hr hs hkids;unfold zcH;rcases hh:zaV 16 (.mk op n k kid)with _|_
 ·rw[Iq (by decide)];rw[hh]at HX;clear HE hh;go_enter func107,ntmps107;go_wp2_with(go_at_call 83;refine(HX.o _ (aE _ (Le _))).mono ?_;rintro e w1 ⟨rfl,hb⟩;have HN:=Hd hb;clear hb);go_ret2;exact⟨rfl,(aE _ (Le _)).trans (HN.o.mono (by simp))⟩
 ·rw[Ip rfl];rw[hh]at HX;have HE2:=Hd (HE.o hh);clear HE hh;go_enter func107,ntmps107;go_wp2_with(first|(go_at_call 83;refine(HX.o _ (aE _ (Le _))).mono ?_;rintro e w1 ⟨rfl,hb⟩;have HN:=Hd ((aE _ (Le _)).trans (hb.mono (World.size_le_alloc _ _)));have hbx:=hb.cel w.heap.size 0 (by simp);have hby:=hb.cel w.heap.size 1 (by simp);have hbz:=hb.cel w.heap.size 2 (by simp);clear hb)|(go_at_call 147;refine(HE2.o _ HN.o).mono ?_;rintro e w2 ⟨rfl,hb⟩;have HM:=Hd hb;clear hb));go_ret2;exact⟨rfl,HN.o.tm HM.o⟩
