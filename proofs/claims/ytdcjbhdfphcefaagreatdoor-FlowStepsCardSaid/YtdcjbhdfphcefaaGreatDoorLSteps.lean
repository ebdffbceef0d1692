/- The walk of the law FlowSteps: it returns true. -/
import Derived.Test.YtdcjbhdfphcefaaGreatDoorSm
import Derived.Test.YtdcjbhdfphcefaaGreatDoorFl
import Derived.Test.YtdcjbhdfphcefaaGreatDoorGs
import Derived.Test.YtdcjbhdfphcefaaGreatDoorLk
set_option linter.unusedVariables false
set_option linter.unusedSimpArgs false
namespace Go.Proofs.YtdcjbhdfphcefaaGreatDoor
open Go.RowKit
def StR(w:World)(B:Nat)(F:Fp)(L:Lb)(sk:Bool)(i:Value)(W:World):Prop:=
 ∃(k:Nat) (m:MS) (F':Fp),k≤60∧i=.int .i64 (k:Int)∧F'.mb=F.mb∧GsE m∧MX W B F' L sk m∧Below w.heap.size w W
def StR2(w:World)(B:Nat)(F:Fp)(L:Lb)(sk:Bool)(m:MS)(ss:Nat)(a:Int)(AS:Option Addr)(c:Nat)(i:Value)(W:World):Prop:=
 ∃(k:Nat) (F':Fp),k≤3∧i=.int .i64 (k:Int)∧F'.mb=F.mb∧MX W B F' L sk m∧Below w.heap.size w W∧ss<W.heap.size∧¬F'.own ss∧W.heap[ss]? =some (.cells #[.int .i64 a,.int .i64 0,.slice AS 0 c] 40 (0,0))
set_option maxRecDepth 100000 in
set_option maxHeartbeats 16000000 in
theorem stepsLaw_any(A:Option Addr)(n c:Nat)(sk:Bool)(w:World)(hl:LOK w w.heap.size A n)(ht:Tab w)(htn:Tn w):
 Calls Tryz.prog 3 #[.slice A n c,.bool sk] w fun e w'=>e=.returned (.bool true)∧Below w.heap.size w w':=by
 have HL:=Lib.hid hl;have HT:=Lib.hid ht;have HTN:=Lib.hid htn;have hts:=ht.lt;have htns:=htn.lt;clear hl ht htn;by_cases h1:n≤120
 case neg=>
  go_enter Tryz.func3,Tryz.ntmps3;go_wp2_with(first|(go_at_call 12;refine(light_no _ _ _ h1 _).mono ?_;rintro e w' ⟨rfl,rfl⟩)|(go_at_call 13;refine(awake_any10 _ HT.out HTN.out).mono ?_;rintro e w2 ⟨rfl,hb⟩;have HB:=Lib.hid hb;clear hb));go_ret;exact⟨rfl,HB.out⟩
 go_enter Tryz.func3,Tryz.ntmps3;go_wp2_with(first|(go_at_call 12;refine(light_yes _ _ _ h1 _).mono ?_;rintro e w' ⟨rfl,rfl⟩)|(go_at_call 17;refine(new_any w w.heap.size (Nat.le_refl _) A n c).mono ?_;rintro e w1 ⟨rfl,hw1⟩;have HB1:Hid (Below w.heap.size w w1):=(by{unfold Hid;rw[hw1];exact(Below.refl _ _).alloc (Nat.le_refl _) _});have HTP1:Hid (TapeOK w1 w.heap.size w.heap.size A n c):=(by{unfold Hid;rw[hw1];exact TapeOK.new w _ (Nat.le_refl _) A n c});clear hw1));refine(flowing_any w.heap.size w.heap.size A n c w1 (HL.out.below HB1.out) HTP1.out HB1.out.size).mono ?_;rintro e w2 ⟨bl,C,cp,xs,rfl,hbl,hbk,htp,hon⟩;have HB2:Hid (Below w.heap.size w w2):=HB1.out.trans (hon.below (Nat.le_refl _) HB1.out.size);have hlb:=lib_any w2 w2.heap.size C cp bl (hbk.rd (by unfold maxLen;omega)) (Nat.le_refl _);generalize(buildS bl).1=L at hlb;have HLB:=Lib.hid hlb;have hs2:=HB2.out.size;clear hlb hbk htp hon HB1 HTP1;go_wp2_with fail;refine HLB.out.mono ?_;rintro e w5 ⟨A1,A2,A3,c1,c2,c3,rfl,hz,hb⟩;have HB5:=Lib.hid (HB2.out.trans (hb.mono hs2));have hq:=fnew_any w5 _ L sk A1 A2 A3 c1 c2 c3 hz (HT.out.below HB5.out hts) (HTN.out.below HB5.out htns);unfold NwPost at hq;have hs5:=HB5.out.size;clear hz hb HLB HB2;cases hN:newS L with
 |none=>
  rw[hN]at hq;have HQ:=Lib.hid hq;clear hq hN;go_wp2_with fail;refine HQ.out.mono ?_;rintro e w6 ⟨hb,rfl⟩;have HB6:=Lib.hid (HB5.out.trans (hb.mono hs5));clear hb;go_wp2_with fail;refine(awake_any10 w6 (HT.out.below HB6.out hts) (HTN.out.below HB6.out htns)).mono ?_;rintro e w7 ⟨rfl,hb⟩;have HB7:=Lib.hid (HB6.out.trans (hb.mono HB6.out.size));clear hb;go_wp2_with fail;go_ret;exact⟨rfl,HB7.out⟩
 |some m0=>
  rw[hN]at hq;have hg0:GsE m0:=by
   unfold newS at hN;obtain⟨q,_,hq2⟩:=Option.map_eq_some_iff.1 hN;rw[←hq2];exact gs_start q
  have hst0:m0.steps=0:=by
   unfold newS at hN;obtain⟨q,_,hq2⟩:=Option.map_eq_some_iff.1 hN;rw[←hq2];rfl
  have HQ:=Lib.hid hq;have HG0:=Lib.hid hg0;clear hq hN hg0;go_wp2_with fail;refine HQ.out.mono ?_;rintro e w6 ⟨hb,B,F,rfl,hx,hB,_,_⟩;have HB6:=Lib.hid (HB5.out.trans (hb.mono hs5));have HX6:=Lib.hid hx;have HWB:Hid (w.heap.size≤B):=Nat.le_trans hs5 hB;clear hb hx hB HQ HB5;go_wp2_with fail;refine(awake_any10 w6 HX6.out.tab HX6.out.tn).mono ?_;rintro e w7 ⟨rfl,hb⟩;have HB7:=Lib.hid (HB6.out.trans (hb.mono HB6.out.size));have HX7:=Lib.hid (HX6.out.below hb);have hst:=HX7.out.steps_at;rw[hst0]at hst;have HST:=Lib.hid hst;have HR7:Hid (StR w B F L sk (.int .i64 0) w7):=⟨0,m0,F,by omega,rfl,rfl,HG0.out,HX7.out,HB7.out⟩;clear hb hst HB6 HX6 HX7 HB7 hst0 HG0;go_wp2_with(go_at_call 18;refine(steps_cell HST.out).mono ?_;rintro e w10 ⟨rfl,rfl⟩);clear HST;go_loopw[7] (StR w B F L sk) (fun i _=>60-(intOf i).toNat)
  case atStart=>exact HR7.out
  case round=>
   obtain⟨k,m,F',hk,rfl,hmb,hg,hx,hbe⟩:=hrel;have HX:=Lib.hid hx;have HBE:=Lib.hid hbe;have HMB:=Lib.hid hmb;clear hbe HR7;by_cases hlt:k<60
   case neg=>
    have hke:k=60:=by omega
    subst hke;go_wp2_with fail;go_ret;exact⟨rfl,HBE.out⟩
   have hst:=hx.steps_at;rw[hmb]at hst;have HST:=Lib.hid hst;have hgs:=nextS_gs L sk hg;obtain⟨⟨m2,⟨a,b,l⟩,er⟩,hr⟩:∃r,nextS L sk m=r:=⟨_,rfl⟩;rw[hr]at hgs;dsimp only at hgs;have HGS:=Lib.hid hgs;have hnc:=next_of hr hx;rw[hmb]at hnc;have HNC:=Lib.hid hnc;clear hst hgs hr hnc hx hg hmb;go_wp2_with(go_at_call 18;refine(steps_cell HST.out).mono ?_;rintro e w10 ⟨rfl,rfl⟩);refine HNC.out.mono ?_;rintro e w8 ⟨A5,c5,rfl,hrv,F5,hmv,hmx,hch⟩;dsimp only;have HB8:Hid (Below w.heap.size w w8):=HBE.out.trans (MP.bel HX.out ⟨F5,hmv,hmx,hch⟩ HWB.out);have HX8:=Lib.hid hmx;have HMB8:Hid (F5.mb=F.mb):=hmv.mb.trans HMB.out;clear hmv hmx hch hrv HNC HST HX HBE;obtain⟨W9,hW9⟩:∃W9,W9=w8.alloc (.cells #[.int .i64 a,.int .i64 b,.slice A5 l.length c5] 40):=⟨_,rfl⟩;have HB9:Hid (Below w8.heap.size w8 W9):=by unfold Hid;rw[hW9];exact(Below.refl _ _).alloc (Nat.le_refl _) _
   have hq9:W9.heap[w8.heap.size]? =some (.cells #[.int .i64 a,.int .i64 b,.slice A5 l.length c5] 40 (0,0)):=by rw[hW9];exact heap_alloc_new _ _
   have HX9:=Lib.hid (HX8.out.below HB9.out);have HBE9:=Lib.hid (HB8.out.trans (HB9.out.mono HB8.out.size));have hst:=HX9.out.steps_at;rw[HMB8.out]at hst;have hdp:=HX9.out.depth_at;rw[HMB8.out]at hdp;obtain⟨AD,cD,hdp⟩:=hdp;have HST:=Lib.hid hst;have HDP:=Lib.hid hdp;have HQ9:=Lib.hid hq9;have hno:¬F5.own w8.heap.size:=fun ho=>by have:=(HX8.out.own_ge _ ho).2;omega
   have HNO:=Lib.hid hno;clear hst hdp hq9 hno HB8 HX8;go_upto_region 13 with(fail)
   rw[←hW9];clear hW9;have hgs:=HGS.out;have d1:decide (m2.steps<m.steps)=false:=decide_eq_false (by have:=hgs.up;omega);have d2:decide (m2.steps>20000)=false:=decide_eq_false (by have:=hgs.inv.st;omega);have d3:decide (((m2.calls.length:Nat):Int)<0)=false:=decide_eq_false (by omega);have d4:decide (((m2.calls.length:Nat):Int)>8)=false:=decide_eq_false (by have:=hgs.inv.few;omega);clear hgs;have k0:W9.cell? ⟨w8.heap.size,0,none⟩=some (.int .i64 a):=cell_of_row W9 _ 0 _ _ _ HQ9.out;have k2:W9.cell? ⟨w8.heap.size,2,none⟩=some (.slice A5 l.length c5):=cell_of_row W9 _ 2 _ _ _ HQ9.out;by_cases hq:er=0∧a=1
   case pos=>
    obtain⟨rfl,rfl⟩:=hq;have hgd:l≠[]∧m.steps<m2.steps:=by
     rcases HGS.out.good rfl with⟨h,_⟩|⟨_,h2,h3⟩
     ·cases h
     ·exact⟨h2,h3⟩
    have hl0:=List.length_pos_iff.2 hgd.1;have l1:(((l.length:Nat):Int)==0)=false:=beq_eq_false_iff_ne.2 (by omega);have s1:(m2.steps==m.steps)=false:=beq_eq_false_iff_ne.2 (by have:=hgd.2;omega);clear hgd hl0;go_wp2_with(first|(go_at_call 18;refine(steps_cell HST.out).mono ?_;rintro e w10 ⟨rfl,rfl⟩)|(go_at_call 20;refine(depth_cell HDP.out).mono ?_;rintro e w10 ⟨rfl,rfl⟩));exact⟨⟨k+1,m2,F5,by omega,by go_num,HMB8.out,HGS.out.inv,HX9.out,HBE9.out⟩,by simp only[intOf];omega⟩
   case neg=>
    have hz:(b=0∧l=[])∧(er≠0∨a=2):=by
     by_cases h0:er=0
     ·rcases HGS.out.good h0 with⟨h,_⟩|⟨h,_⟩
      ·cases h;exact⟨⟨rfl,rfl⟩,.inr rfl⟩
      ·exact absurd ⟨h0,h⟩ hq
     ·have h:=HGS.out.bad h0;cases h;exact⟨⟨rfl,rfl⟩,.inl h0⟩
    obtain⟨⟨rfl,rfl⟩,hz⟩:=hz;have HNS:=Lib.hid (HGS.out.stay hz);have hsh:((er==10)=false∧(er !=0)=true)∨((er==10)=true∧(er !=0)=true∧(m2.steps !=20000)=false)∨((er==10)=true∧(er !=0)=true∧(m2.steps !=20000)=true∧(((m2.calls.length:Nat):Int) !=8)=false)∨((er==10)=false∧(er !=0)=false∧(a==2)=true):=by
     simp only[beq_eq_false_iff_ne,beq_iff_eq,bne_iff_ne,bne_eq_false_iff_eq];have hlim:=HGS.out.inv.lim;rw[HGS.out.err]at hlim;by_cases h0:er=0
     ·right;right;right;rcases hz with h|h
      ·exact absurd h0 h
      ·exact⟨by omega,h0,h⟩
     ·by_cases h10:er=10
      ·by_cases hS:m2.steps=20000
       ·right;left;exact⟨h10,h0,hS⟩
       ·right;right;left;refine⟨h10,h0,hS,?_⟩;rcases hlim h10 with h|h
        ·exact absurd h hS
        ·omega
      ·left;exact⟨h10,h0⟩
    have HR2:Hid (StR2 w B F L sk m2 w8.heap.size a A5 c5 (.int .i64 0) W9):=⟨0,F5,by omega,rfl,HMB8.out,HX9.out,HBE9.out,hlS HQ9.out,HNO.out,HQ9.out⟩;have HGE:=Lib.hid HGS.out;clear hz hq HX9 HBE9 HQ9 HNO HGS;rcases hsh with⟨e1,e2⟩|⟨e1,e2,e3⟩|⟨e1,e2,e3,e4⟩|⟨e1,e2,e3⟩
    all_goals
     go_wp2_with(first|(go_at_call 18;refine(steps_cell HST.out).mono ?_;rintro e w10 ⟨rfl,rfl⟩)|(go_at_call 20;refine(depth_cell HDP.out).mono ?_;rintro e w10 ⟨rfl,rfl⟩));clear d1 d2 d3 d4 k0 k2 HST HDP;go_loopw[12] (StR2 w B F L sk m2 w8.heap.size a A5 c5) (fun i _=>3-(intOf i).toNat)
     case atStart=>obtain⟨k,F',q1,q2,q3,q4,q5,q6,q7,q8⟩:=HR2.out;first|exact⟨k,F',q1,q2,q3,q4,q5,q6,q7,q8⟩|exact⟨k,F',q1,q2,q3,q4.below (below_dn (Below.refl _ _) nq),below_dn q5 nq,q6,q7,q8⟩
     case round=>
      obtain⟨j,FJ,hj,rfl,hmb,hx,hbe,hss,hno,hq9⟩:=hrel;have HX:=Lib.hid hx;have HBE:=Lib.hid hbe;have HMB:=Lib.hid hmb;have HNO:=Lib.hid hno;have HQ9:=Lib.hid hq9;have HSS:=Lib.hid hss;clear HR2;by_cases hlt3:j<3
      case neg=>
       have hje:j=3:=by omega
       subst hje;clear hx hbe hmb hno hq9 hss;go_wp2_with fail;go_ret;exact⟨rfl,HBE.out⟩
      have hnc:=next_of HNS.out hx;rw[hmb]at hnc;have HNC:=Lib.hid hnc;clear hnc hx hbe hmb hno hq9 hss;go_wp2_with fail;refine HNC.out.mono ?_;rintro e wa ⟨A6,c6,rfl,hrv,F6,hmv,hmx,hch⟩;have hl0:([]:List (Int×Int)).length=0:=rfl;dsimp only;rw[hl0];clear hl0;have HQA:Hid (wa.heap[w8.heap.size]? =some (.cells #[.int .i64 a,.int .i64 0,.slice A5 0 c5] 40 (0,0))):=(hch.block _ HSS.out HNO.out).trans HQ9.out;have HBA:Hid (Below w.heap.size w wa):=HBE.out.trans (MP.bel HX.out ⟨F6,hmv,hmx,hch⟩ HWB.out);have HNA:Hid (¬F6.own w8.heap.size):=fun ho=>HNO.out (hmv.own _ HSS.out ho);have HXA:=Lib.hid hmx;have HMA:Hid (F6.mb=F.mb):=hmv.mb.trans HMB.out;clear hmv hmx hch hrv HNC HX HBE HNO HMB HQ9 HSS;have hlA:=hlS HQA.out;obtain⟨WT,hWT⟩:∃WT,WT=wa.alloc (.cells #[.int .i64 a,.int .i64 0,.slice A6 0 c6] 40):=⟨_,rfl⟩;have HBT:Hid (Below wa.heap.size wa WT):=by unfold Hid;rw[hWT];exact(Below.refl _ _).alloc (Nat.le_refl _) _
      have qt:WT.heap[wa.heap.size]? =some (.cells #[.int .i64 a,.int .i64 0,.slice A6 0 c6] 40 (0,0)):=by rw[hWT];exact heap_alloc_new _ _
      have qs:WT.heap[w8.heap.size]? =some (.cells #[.int .i64 a,.int .i64 0,.slice A5 0 c5] 40 (0,0)):=(HBT.out.block _ hlA).trans HQA.out;have HXT:=Lib.hid (HXA.out.below HBT.out);have HBW:=Lib.hid (HBA.out.trans (HBT.out.mono HBA.out.size));have HQT:=Lib.hid qs;have k0:WT.cell? ⟨w8.heap.size,0,none⟩=some (.int .i64 a):=cell_of_row WT _ 0 _ _ _ qs;have k1:WT.cell? ⟨w8.heap.size,1,none⟩=some (.int .i64 0):=cell_of_row WT _ 1 _ _ _ qs;have k2:WT.cell? ⟨w8.heap.size,2,none⟩=some (.slice A5 0 c5):=cell_of_row WT _ 2 _ _ _ qs;have t0:WT.cell? ⟨wa.heap.size,0,none⟩=some (.int .i64 a):=cell_of_row WT _ 0 _ _ _ qt;have t1:WT.cell? ⟨wa.heap.size,1,none⟩=some (.int .i64 0):=cell_of_row WT _ 1 _ _ _ qt;have t2:WT.cell? ⟨wa.heap.size,2,none⟩=some (.slice A6 0 c6):=cell_of_row WT _ 2 _ _ _ qt;clear qt qs HXA HBA HQA;go_upto_region 21 with(fail)
      rw[←hWT];clear hWT HBT;have hrv0:∀X,RdV WT (fun _=>True) X 0 []:=fun X=>⟨rfl,Nat.zero_le _,fun x hx=>(by cases hx),fun h=>absurd h (Nat.lt_irrefl 0)⟩;have HSM:Hid (Calls Tryz.prog 21 #[.agg #[.int .i64 a,.int .i64 0,.slice A5 0 c5],.agg #[.int .i64 a,.int .i64 0,.slice A6 0 c6]] WT fun e w'=>e=.returned (.bool true)∧Below WT.heap.size WT w'):=same_any WT _ _ A5 A6 c5 c6 a 0 [] (hrv0 A5) (hrv0 A6);clear hrv0;go_wp2_with fail;refine HSM.out.mono ?_;rintro e ws ⟨rfl,hb⟩;have HXS:=Lib.hid (HXT.out.below hb);have HBS:=Lib.hid (HBW.out.trans (hb.mono HBW.out.size));have HQS:=Lib.hid ((hb.block _ (hlS HQT.out)).trans HQT.out);have hst:=HXS.out.steps_at;rw[HMA.out]at hst;have HST:=Lib.hid hst;clear hst hb HSM;go_wp2_with(go_at_call 18;refine(steps_cell HST.out).mono ?_;rintro e w10 ⟨rfl,rfl⟩);exact⟨⟨j+1,F6,by omega,by go_num,HMA.out,HXS.out,HBS.out,hlS HQS.out,HNA.out,HQS.out⟩,by simp only[intOf];omega⟩
end Go.Proofs.YtdcjbhdfphcefaaGreatDoor
