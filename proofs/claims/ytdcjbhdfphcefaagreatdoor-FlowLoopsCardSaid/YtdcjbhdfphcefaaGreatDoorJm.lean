/- The contract of jump. The contract of flow's assignment. Conditions: those that each lemma names. -/
import Derived.Test.YtdcjbhdfphcefaaGreatDoorRm
import Derived.Deep.RegionHeld3
set_option linter.unusedVariables false
set_option linter.unusedSimpArgs false
namespace Go.Proofs.YtdcjbhdfphcefaaGreatDoor
open Go.RowKit
theorem Rd.agg3{w:World}{B:Nat}{t:Tr}{v:Value}(h:Rd w B t v):∃x y z,v=.agg #[x,y,z]:=by
 rcases t with _|⟨op,n,k,kid⟩
 ·exact h.elim
 obtain⟨A,c,h1,_⟩:=h;exact⟨_,_,_,h1⟩
theorem contains_own(w:World)(base:Nat)(C:Option Addr)(cp:Nat)(l:List Int)(x:Int)(h:w.ownsRow base 3 1 (.slice C l.length cp) l.length (ints l)):
 Calls Tryz.prog 92 #[.slice C l.length cp,.int .i64 x] w fun e w'=>e=.returned (.bool (l.contains x))∧w'=w:=by
 rcases h.2 with⟨e1,e2⟩|⟨g,cap,cur,e1,_,e3,e4,e5,e6,e7⟩
 ·have:l=[]:=List.eq_nil_of_length_eq_zero e2;subst this;exact(Tryz.slices_Contains_int_empty C cp x w).mono fun e w' h=>h
 ·simp only[Value.slice.injEq,true_and]at e1;obtain⟨rfl,rfl⟩:=e1;refine(Tryz.slices_Contains_int g 0 l.length cp l x w (Nat.le_refl _) (by unfold maxLen at e5;omega) fun j hj=> ?_).mono fun e w' h=> ?_
  ·rw[Nat.zero_add,cell_of_row w g j _ _ _ e3];have:=congrArg (fun q:List Value=>q[j]?) e7;try dsimp only at this
   rw[List.getElem?_take,if_pos (by omega)]at this;rw[show cur[j]? =cur.toList[j]? by simp,this];simp[ints,List.getD_eq_getElem?_getD,List.getElem?_eq_getElem hj]
  ·rw[List.take_length]at h;exact h
theorem label_bd(L:Lb)(n:Int):∀(k i:Nat) (t:Int),labelFrom L n k i=(t,true)→(i:Int)≤t∧t<i+k:=by
 intro k;induction k with
 |zero=>intro i t h;simp[labelFrom]at h
 |succ k ih=>
  intro i t h;rw[labelFrom]at h;split at h
  ·have:=(Prod.mk.inj h).1;omega
  ·have:=ih _ _ h;omega
def JmPost(B:Nat)(F:Fp)(L:Lb)(sk:Bool)(m:MS)(x:Tr)(w:World)(e:Ending)(w':World):Prop:=
 e=.returned (.int .i64 (jumpM L m x).2)∧MP B F L sk (jumpM L m x).1 w w'
theorem JmPost.no{B:Nat}{F:Fp}{L:Lb}{sk:Bool}{m:MS}{x:Tr}{w w':World}{er:Int}(h:MX w B F L sk m)(hb:Below w.heap.size w w')(he:jumpM L m x=(m,er)):JmPost B F L sk m x w (.returned (.int .i64 er)) w':=
 ⟨by rw[he],by rw[he];exact MP.below h hb⟩
theorem MX.eval{w:World}{B:Nat}{F:Fp}{L:Lb}{sk:Bool}{m:MS}(h:MX w B F L sk m)(x:Tr)(v:Value)(hr:Rd w B x v)(W:World)(hW:Below w.heap.size w W):
 Calls Tryz.prog 62 #[v,.pointer (some ⟨F.sb,0,none⟩)] W fun e w'=>e=.returned (.tuple #[.int .i64 (EvalS (getS m.sto.f) x).1,.int .i64 (EvalS (getS m.sto.f) x).2])∧Below W.heap.size W w':=
 Eval_any B F.sb m.sto.f h.vf.f x _ W ((hr.below (hW.mono h.Ble)) (Nat.le_trans h.Ble hW.size)) (h.tab.below hW h.tab.lt) ⟨F.lb,m.sto,h.sto.below hW,rfl⟩
set_option maxRecDepth 100000 in
set_option maxHeartbeats 4000000 in
theorem jump_any(w:World)(B:Nat)(F:Fp)(L:Lb)(sk:Bool)(m:MS)(x:Tr)(v:Value)(h:MX w B F L sk m)(hr:Rd w B x v):
 Calls Tryz.prog 61 #[.pointer (some ⟨F.mb,0,none⟩),v] w (JmPost B F L sk m x w):=by
 have HX:=Lib.hid h;have hBs:B≤w.heap.size:=h.Ble;have hok:=h.fine.ok;have hml:=h.fine.few;obtain⟨A1,A2,A3,AC,c1,c2,c3,capc,xs,⟨d0,d1,d2,_,d4,d5,_,d7,_,_,_⟩,hL,_⟩:=h.cells;have hmb:=h.lt;obtain⟨x0,x1,x2,rfl⟩:=hr.agg3;have HL:=Lib.hid hL;have HEV:=Lib.hid (fun W hW=>h.eval x _ hr W hW);clear h hr hL;generalize hE:EvalS (getS m.sto.f) x=ev at HEV;obtain⟨n,er⟩:=ev;have HE:=Lib.hid hE;clear hE;obtain⟨W1,hW1⟩:∃W1,W1=w.alloc (.cells #[x0,x1,x2] 52):=⟨_,rfl⟩;have HB1:Hid (Below w.heap.size w W1):=by unfold Hid;rw[hW1];exact(Below.refl _ _).alloc (Nat.le_refl _) _
 have hbx:W1.heap[w.heap.size]? =some (.cells #[x0,x1,x2] 52 (0,0)):=by rw[hW1];exact heap_alloc_new _ _
 have b0:W1.cell? ⟨w.heap.size,0,none⟩=some x0:=cell_of_row W1 _ 0 _ _ _ hbx;have b1:W1.cell? ⟨w.heap.size,1,none⟩=some x1:=cell_of_row W1 _ 1 _ _ _ hbx;have b2:W1.cell? ⟨w.heap.size,2,none⟩=some x2:=cell_of_row W1 _ 2 _ _ _ hbx;have b7:W1.cell? ⟨F.mb,7,none⟩=some (.pointer (some ⟨F.sb,0,none⟩)):=(HB1.out.cell (p:=⟨F.mb,7,none⟩) hmb).trans d7;have HW1:Hid (w.heap.size<W1.heap.size):=hlS hbx;have HMB:=Lib.hid hmb;have D0:=Lib.hid d0;have D1:=Lib.hid d1;have D2:=Lib.hid d2;have D4:=Lib.hid d4;have D5:=Lib.hid d5;clear d0 d1 d2 d4 d5 d7 hbx;go_enter Tryz.func61,Tryz.ntmps61;go_wp2;rw[←hW1];clear hW1;go_region_held3(fun W=>W.cell? ⟨w.heap.size,0,none⟩=some x0∧W.cell? ⟨w.heap.size,1,none⟩=some x1∧W.cell? ⟨w.heap.size,2,none⟩=some x2∧W.cell? ⟨F.mb,7,none⟩=some (.pointer (some ⟨F.sb,0,none⟩))) (first|exact⟨b0,b1,b2,b7⟩|exact⟨(HN.out.cell (p:=⟨w.heap.size,0,none⟩) HW1.out).trans b0,(HN.out.cell (p:=⟨w.heap.size,1,none⟩) HW1.out).trans b1,(HN.out.cell (p:=⟨w.heap.size,2,none⟩) HW1.out).trans b2,(HN.out.cell (p:=⟨F.mb,7,none⟩) (Nat.lt_trans HMB.out HW1.out)).trans b7⟩|fail) (first|(go_at_call 62;refine(HEV.out _ (below_dn HB1.out 1)).mono ?_;rintro e w2 ⟨rfl,hb2⟩;have HN:Hid (Below W1.heap.size W1 w2):=⟨hb2.os,hb2.tape,hb2.output,hb2.size,hb2.block⟩;clear hb2));have HB2:=Lib.hid (HB1.out.trans (HN.out.mono (Nat.le_of_lt HW1.out)));by_cases he:er=0
 case neg=>
  have he':(er !=0)=true:=by simpa using he
  have EJ:Hid (jumpM L m x=(m,er)):=by unfold Hid jumpM;rw[HE.out];simp[he]
  clear he;go_wp2_with fail;go_ret;exact JmPost.no HX.out HB2.out EJ.out
 have he':(er !=0)=false:=by simpa using he
 subst he;generalize hwh:wholeS n=wh;obtain⟨wn,wk⟩:=wh;have HWH:=Lib.hid hwh;have HWL:Hid (∀W:World,Calls Tryz.prog 88 #[.int .i64 n] W fun e w'=>e=.returned (.tuple #[.int .i64 wn,.bool wk])∧W=w'):=fun W=>by have:=whole_any n W;rw[hwh]at this;exact this
 clear hwh;have d0:=(HB2.out.cell (p:=⟨F.mb,0,none⟩) hmb).trans D0.out;have d1:=(HB2.out.cell (p:=⟨F.mb,1,none⟩) hmb).trans D1.out;have d2:=(HB2.out.cell (p:=⟨F.mb,2,none⟩) hmb).trans D2.out;have d4:=(HB2.out.cell (p:=⟨F.mb,4,none⟩) hmb).trans D4.out;have d5:=(HB2.out.cell (p:=⟨F.mb,5,none⟩) hmb).trans D5.out;have HMB2:Hid (F.mb<w2.heap.size):=Nat.lt_of_lt_of_le HMB.out HB2.out.size;have HLA:Hid (∀W:World,Below w.heap.size w W→Calls Tryz.prog 90 #[.agg #[.slice A1 L.bl.length c1,.slice A2 L.pr.length c2,.slice A3 L.mt.length c3],.int .i64 (m.prog:Nat),.int .i64 wn] W fun e w'=>e=.returned (.tuple #[.int .i64 (labelS L m.prog wn).1,.bool (labelS L m.prog wn).2])∧Below W.heap.size W w'):=
  fun W hW=>label_any W B L A1 A2 A3 _ c1 _ c2 _ c3 m.prog wn (HL.out.below (hW.mono hBs)) (Nat.le_trans hBs hW.size) hok HX.out.prog
 generalize hla:labelS L m.prog wn=la at HLA;obtain⟨tg,tk⟩:=la;have HLS:=Lib.hid hla;clear hla;go_wp2_with(go_at_call 88;refine(HWL.out _).mono ?_;rintro e w' ⟨rfl,rfl⟩);go_region_held3(fun W=>W.cell? ⟨F.mb,0,none⟩=some (.slice A1 L.bl.length c1)∧W.cell? ⟨F.mb,1,none⟩=some (.slice A2 L.pr.length c2)∧W.cell? ⟨F.mb,2,none⟩=some (.slice A3 L.mt.length c3)∧W.cell? ⟨F.mb,4,none⟩=some (.int .i64 (m.prog:Nat))) (first|exact⟨d0,d1,d2,d4⟩|exact⟨(HN3.out.cell (p:=⟨F.mb,0,none⟩) HMB2.out).trans d0,(HN3.out.cell (p:=⟨F.mb,1,none⟩) HMB2.out).trans d1,(HN3.out.cell (p:=⟨F.mb,2,none⟩) HMB2.out).trans d2,(HN3.out.cell (p:=⟨F.mb,4,none⟩) HMB2.out).trans d4⟩|fail) (first|(go_at_call 90;refine(HLA.out _ (below_dn HB2.out 1)).mono ?_;rintro e w3 ⟨rfl,hb3⟩;have HN3:Hid (Below w2.heap.size w2 w3):=⟨hb3.os,hb3.tape,hb3.output,hb3.size,hb3.block⟩;clear hb3));have HB3:=Lib.hid (HB2.out.trans (HN3.out.mono HB2.out.size));clear d0 d1 d2 d4 d5;rcases wk with _|_
 ·have EJ:Hid (jumpM L m x=(m,6)):=by unfold Hid jumpM;rw[HE.out];simp[HWH.out]
  go_wp2_with fail;go_ret;exact JmPost.no HX.out HB3.out EJ.out
 rcases tk with _|_
 ·have EJ:Hid (jumpM L m x=(m,6)):=by unfold Hid jumpM;rw[HE.out];simp[HWH.out,HLS.out]
  go_wp2_with fail;go_ret;exact JmPost.no HX.out HB3.out EJ.out
 have d0:=(HB3.out.cell (p:=⟨F.mb,0,none⟩) hmb).trans D0.out;have d1:=(HB3.out.cell (p:=⟨F.mb,1,none⟩) hmb).trans D1.out;have d2:=(HB3.out.cell (p:=⟨F.mb,2,none⟩) hmb).trans D2.out;have d5:=(HB3.out.cell (p:=⟨F.mb,5,none⟩) hmb).trans D5.out;have HMB3:Hid (F.mb<w3.heap.size):=Nat.lt_of_lt_of_le HMB.out HB3.out.size;have HIN:Hid (∀(W:World) (q:Int),Below w.heap.size w W→Calls Tryz.prog 91 #[.agg #[.slice A1 L.bl.length c1,.slice A2 L.pr.length c2,.slice A3 L.mt.length c3],.int .i64 q] W (InsPost W (insideS L q))):=
  fun W q hW=>inside_any W B L A1 A2 A3 _ c1 _ c2 _ c3 q (HL.out.below (hW.mono hBs)) (Nat.le_trans hBs hW.size) hml
 go_wp2_with fail;go_region_held3(fun W=>W.cell? ⟨F.mb,0,none⟩=some (.slice A1 L.bl.length c1)∧W.cell? ⟨F.mb,1,none⟩=some (.slice A2 L.pr.length c2)∧W.cell? ⟨F.mb,2,none⟩=some (.slice A3 L.mt.length c3)∧W.cell? ⟨F.mb,5,none⟩=some (.int .i64 m.pos)) (first|exact⟨d0,d1,d2,d5⟩|exact⟨(HN4.out.cell (p:=⟨F.mb,0,none⟩) HMB3.out).trans d0,(HN4.out.cell (p:=⟨F.mb,1,none⟩) HMB3.out).trans d1,(HN4.out.cell (p:=⟨F.mb,2,none⟩) HMB3.out).trans d2,(HN4.out.cell (p:=⟨F.mb,5,none⟩) HMB3.out).trans d5⟩|fail) (first|(go_at_call 91;refine(HIN.out _ _ (below_dn HB3.out 1)).mono ?_;rintro e w4 ⟨C4,p4,rfl,ho4,hb4⟩;have HN4:Hid (Below w3.heap.size w3 w4):=⟨hb4.os,hb4.tape,hb4.output,hb4.size,hb4.block⟩;have HO4:Hid (w4.ownsRow w3.heap.size 3 1 (.slice C4 (insideS L m.pos).length p4) (insideS L m.pos).length (ints (insideS L m.pos))):=ho4;clear hb4 ho4));have HB4:=Lib.hid (HB3.out.trans (HN4.out.mono HB3.out.size));have HMB4:Hid (F.mb<w4.heap.size):=Nat.lt_of_lt_of_le HMB.out HB4.out.size;clear d0 d1 d2 d5;have d0:=(HB4.out.cell (p:=⟨F.mb,0,none⟩) hmb).trans D0.out;have d1:=(HB4.out.cell (p:=⟨F.mb,1,none⟩) hmb).trans D1.out;have d2:=(HB4.out.cell (p:=⟨F.mb,2,none⟩) hmb).trans D2.out;go_wp2_with(go_at_call 91;refine(HIN.out _ _ HB4.out).mono ?_;rintro e w5 ⟨C5,p5,rfl,ho5,hb5⟩;have HN5:=Lib.hid hb5;have HO5:=Lib.hid ho5;clear hb5 ho5);have HB5:=Lib.hid (HB4.out.trans (HN5.out.mono HB4.out.size));clear d0 d1 d2;have HCT:Hid (∀q:Int,Calls Tryz.prog 92 #[.slice C4 (insideS L m.pos).length p4,.int .i64 q] w5 fun e w'=>e=.returned (.bool ((insideS L m.pos).contains q))∧w'=w5):=
  fun q=>contains_own w5 _ C4 p4 _ q (owns_keep HO4.out fun g hg _=>HN5.out.block g hg)
 have HOK:Hid (((insideS L tg).all fun w=>(insideS L m.pos).contains w)=false→jumpM L m x=(m,11)):=by
  unfold Hid;intro hall;unfold jumpM;rw[HE.out];simp only[HWH.out,HLS.out,hall];rfl
 have HOK2:Hid (((insideS L tg).all fun w=>(insideS L m.pos).contains w)=true→jumpM L m x=({m with pos:=tg},0)):=by
  unfold Hid;intro hall;unfold jumpM;rw[HE.out];simp only[HWH.out,HLS.out,hall];rfl
 generalize insideS L m.pos=R at*
 generalize hTT:insideS L tg=T at*
 clear hTT;have hT:T.length≤maxLen:=by
  rcases HO5.out.2 with⟨_,e2⟩|⟨g,cap,cur,_,_,_,e4,e5,_⟩
  ·rw[e2];exact Nat.zero_le _
  ·omega
 unfold maxLen at hT;go_loopw[66] (fun i W=>∃k:Nat,k≤T.length∧i=.int .i64 (k:Int)∧W=w5∧∀q∈T.take k,R.contains q=true) (fun i _=>T.length-(intOf i).toNat)
 case atStart=>exact⟨0,by omega,rfl,rfl,by simp⟩
 case round=>
  obtain⟨k,hk,rfl,rfl,hall⟩:=hrel;have HAL:=Lib.hid hall;clear hall;by_cases hlt:k<T.length
  ·rcases HO5.out.2 with⟨_,e2⟩|⟨g,cap,cur,e1,_,e3,e4,e5,e6,e7⟩
   ·omega
   obtain⟨y,hy⟩:∃y,T[k]? =some y:=⟨_,List.getElem?_eq_getElem hlt⟩;simp only[Value.slice.injEq,true_and]at e1;obtain⟨rfl,rfl⟩:=e1;have z0:wr.cell? ⟨g,k,none⟩=some (.int .i64 y):=by
    rw[cell_of_row wr g k _ _ _ e3];have:=congrArg (fun q:List Value=>q[k]?) e7;try dsimp only at this
    rw[List.getElem?_take,if_pos (by omega)]at this;rw[show cur[k]? =cur.toList[k]? by simp,this];simp[ints,hy]
   have HY:=Lib.hid hy;clear hy e3 e6 e7;rcases hR:R.contains y with _|_
   ·have EJ:Hid (jumpM L m x=(m,11)):=HOK.out (by
     rw[List.all_eq_false]
     exact⟨y,List.mem_of_getElem? HY.out,by rw[hR];exact Bool.false_ne_true⟩)
    have HC1:=Lib.hid (HCT.out y);rw[hR]at HC1;clear hR;go_wp2_with(go_at_call 92;refine HC1.out.mono ?_;rintro e w' ⟨rfl,rfl⟩);go_ret;exact JmPost.no HX.out HB5.out EJ.out
   ·have HC1:=Lib.hid (HCT.out y);rw[hR]at HC1;have HAL2:Hid (∀q∈T.take (k+1),R.contains q=true):=by
     unfold Hid;intro q hq;rw[List.take_add_one,HY.out]at hq;simp only[Option.toList_some,List.mem_append,List.mem_singleton]at hq;rcases hq with hq|rfl
     ·exact HAL.out q hq
     ·exact hR
    clear hR;go_wp2_with(go_at_call 92;refine HC1.out.mono ?_;rintro e w' ⟨rfl,rfl⟩);exact⟨⟨k+1,by omega,by go_num,(by first|rfl|trivial),HAL2.out⟩,by simp only[intOf];omega⟩
  ·have hke:k=T.length:=by omega
   subst hke;have EJ:Hid (jumpM L m x=({m with pos:=tg},0)):=HOK2.out (by
    rw[List.all_eq_true]
    intro q hq
    exact HAL.out q (by rw[List.take_length];exact hq))
   have d5:=(HB5.out.cell (p:=⟨F.mb,5,none⟩) hmb).trans D5.out;have f5:wr.frozen? ⟨F.mb,5,none⟩=false:=by
    obtain⟨_,_,_,_,_,_,_,_,_,hb,_⟩:=HX.out.ex;have:=(HB5.out.block F.mb hmb).trans hb;simp[World.frozen?,this]
   have HTG:Hid (I64 tg):=by
    have q:=HLS.out;unfold labelS at q;split at q
    ·simp at q
    ·have q1:=label_bd L wn _ _ _ q;obtain⟨y,hy⟩:∃y,L.pr[m.prog]? =some y:=⟨_,List.getElem?_eq_getElem HX.out.prog⟩;have q2:=hok _ _ hy;have q3:L.prg m.prog=y:=by unfold Lb.prg;rw[List.getD_eq_getElem?_getD,hy];rfl
     rw[q3]at q1;have q4:=HL.out.bl.2.1;unfold maxLen at q4;unfold Hid I64;omega
   go_wp2_with fail;go_ret;refine⟨by rw[EJ.out];rfl,?_⟩;rw[EJ.out];exact MP.of ((HX.out.below HB5.out).set_pos HTG.out) ((Chg.of_below HB5.out).trans (chg_set _ _ _ _ _ F.own_mb))
end Go.Proofs.YtdcjbhdfphcefaaGreatDoor
namespace Go.Proofs.YtdcjbhdfphcefaaGreatDoor
open Go.RowKit
theorem MX.store{w w':World}{B:Nat}{F:Fp}{L:Lb}{sk:Bool}{m:MS}(h:MX w B F L sk m){lb':Nat}{σ:Sto}(hs:Sx w' F.sb lb' σ)(hv:σ.vf)(hl:lb'=F.lb∨w.heap.size≤lb')(hc:Chg (fun g=>g=F.sb∨g=F.lb) w w'):
 Mv w F {F with lb:=lb'}∧MX w' B {F with lb:=lb'} L sk {m with sto:=σ}:=by
 have hlt:=h.lt;have hge:=h.mb_ge;have hsb:=h.sb_ge;have hlb:=h.lb_ge;have hn1:=h.ne1;have hn2:=h.ne2;have hslt:=h.sto.lt;have ks:∀g,g<w.heap.size→g≠F.sb→g≠F.lb→w'.heap[g]? =w.heap[g]? :=fun g hg h1 h2=>hc.block g hg (by rintro(e|e)<;>contradiction);have kl:∀g,g<B→w'.heap[g]? =w.heap[g]? :=fun g hg=>ks g (by omega) (by omega) (by omega);obtain⟨A1,A2,A3,AC,c1,c2,c3,capc,xs,hb,hL,ho,hf,ha,hr⟩:=h.ex;obtain⟨t1,t2,t3⟩:=h.tab;obtain⟨n1,n2,n3⟩:=h.tn;have hac:∀g,F.ac=some g→g<w.heap.size:=fun g hg=>(h.own_ge g (.inr (.inr (.inr hg)))).2;have hs':=hc.size;refine⟨⟨rfl,rfl,rfl,hl,.inl rfl⟩,⟨h.mb_ge,h.sb_ge,by dsimp only;omega,h.ne1,by dsimp only;omega,fun x hx=>Nat.lt_of_lt_of_le (h.av x hx) hc.size,⟨t1,t2,(kl _ h.tabB).trans t3⟩,h.tabB,⟨n1,n2,(kl _ h.tnB).trans n3⟩,h.tnB,h.fine,hs,hv,h.pos,h.prog,h.steps,h.err,h.few,h.calls,A1,A2,A3,AC,c1,c2,c3,capc,xs,(ks _ hlt (by omega) (by omega)).trans hb,
  hL.keep (fun p hp=>World.cell?_of_block (kl p.block hp)) (Nat.le_refl _),owns_keep ho fun g hg hv=> ?_,fun g hg=> ?_,ha,hr.keep hc.size (fun g hg hI=>⟨fun hk=>hI.1 ?_,hI.2⟩) fun g hg hI=>ks g hg (fun e=>hI.1 (.inr (.inl e))) (fun e=>hI.1 (.inr (.inr (.inl e))))⟩⟩
 ·have hag:F.ac=some g:=by
   rcases AC with _|a
   ·simp[Value.ownBlock]at hv
   ·rw[←ha];simpa[Value.ownBlock]using hv
  have:=hf g hag;exact ks g hg this.2.1 this.2.2
 ·have h1:=hf g hg;have h2:=hac g hg;refine⟨h1.1,h1.2.1,?_⟩;rcases hl with e|e
  ·rw[e];exact h1.2.2
  ·dsimp only;omega
 ·rcases hk with e|e|e|e
  ·exact .inl e
  ·exact .inr (.inl e)
  ·rcases hl with q|q
   ·exact .inr (.inr (.inl (e.trans q)))
   ·dsimp only at e;omega
  ·exact .inr (.inr (.inr e))
def MsPost(B:Nat)(F:Fp)(L:Lb)(sk:Bool)(m:MS)(b:Bk)(w:World)(e:Ending)(w':World):Prop:=
 e=.returned (.int .i64 (setM m b).2)∧MP B F L sk (setM m b).1 w w'
theorem MsPost.no{B:Nat}{F:Fp}{L:Lb}{sk:Bool}{m:MS}{b:Bk}{w w':World}{er:Int}(h:MX w B F L sk m)(hb:Below w.heap.size w w')(he:setM m b=(m,er)):MsPost B F L sk m b w (.returned (.int .i64 er)) w':=
 ⟨by rw[he],by rw[he];exact MP.below h hb⟩
set_option maxRecDepth 100000 in
set_option maxHeartbeats 4000000 in
theorem mset_any(w:World)(B:Nat)(F:Fp)(L:Lb)(sk:Bool)(m:MS)(b:Bk)(A:Option Addr)(k c:Nat)(l0 l1 l2 x0 x1 x2:Value)(h:MX w B F L sk m)(hr:RdB w B b A k l0 l1 l2 x0 x1 x2)(hp:0≤m.pos∧m.pos≤1000000):
 Calls Tryz.prog 60 #[.pointer (some ⟨F.mb,0,none⟩),.agg ⟨cellsB b A k c l0 l1 l2 x0 x1 x2⟩] w (MsPost B F L sk m b w):=by
 have HX:=Lib.hid h;have hBs:B≤w.heap.size:=h.Ble;obtain⟨A1,A2,A3,AC,c1,c2,c3,capc,xs,⟨d0,d1,d2,_,d4,d5,_,d7,_,_,_⟩,hL,_,_,_,hfr⟩:=h.cells;have hmb:=h.lt;have HEL:=Lib.hid (fun W hW=>h.eval b.left _ hr.left W hW);have HEX:=Lib.hid (fun W hW=>h.eval b.x _ hr.x W hW);clear h hr hL;generalize hE:EvalS (getS m.sto.f) b.left=ev at HEL;obtain⟨n,er⟩:=ev;have HE:=Lib.hid hE;generalize hE2:EvalS (getS m.sto.f) b.x=ev2 at HEX;obtain⟨xv,er2⟩:=ev2;have HE2:=Lib.hid hE2;clear hE hE2;obtain⟨W1,hW1⟩:∃W1,W1=w.alloc (.cells ⟨cellsB b A k c l0 l1 l2 x0 x1 x2⟩ 54):=⟨_,rfl⟩;have HB1:Hid (Below w.heap.size w W1):=by unfold Hid;rw[hW1];exact(Below.refl _ _).alloc (Nat.le_refl _) _
 have hbx:W1.heap[w.heap.size]? =some (.cells ⟨cellsB b A k c l0 l1 l2 x0 x1 x2⟩ 54 (0,0)):=by rw[hW1];exact heap_alloc_new _ _
 have q:=fun j=>cell_of_row W1 w.heap.size j _ _ _ hbx;have b4:W1.cell? ⟨w.heap.size,4,none⟩=some l0:=(q 4).trans rfl;have b5:W1.cell? ⟨w.heap.size,5,none⟩=some l1:=(q 5).trans rfl;have b6:W1.cell? ⟨w.heap.size,6,none⟩=some l2:=(q 6).trans rfl;have b7:W1.cell? ⟨w.heap.size,7,none⟩=some x0:=(q 7).trans rfl;have b8:W1.cell? ⟨w.heap.size,8,none⟩=some x1:=(q 8).trans rfl;have b9:W1.cell? ⟨w.heap.size,9,none⟩=some x2:=(q 9).trans rfl;have c7:W1.cell? ⟨F.mb,7,none⟩=some (.pointer (some ⟨F.sb,0,none⟩)):=(HB1.out.cell (p:=⟨F.mb,7,none⟩) hmb).trans d7;have HW1:Hid (w.heap.size<W1.heap.size):=hlS hbx;have HMB:=Lib.hid hmb;have D5:=Lib.hid d5;have D7:=Lib.hid c7;have HX7:=Lib.hid b7;have HX8:=Lib.hid b8;have HX9:=Lib.hid b9;have HFR:=Lib.hid hfr;clear d0 d1 d2 d4 d5 d7 hbx q hfr b7 b8 b9;go_enter Tryz.func60,Tryz.ntmps60;go_wp2;rw[←hW1];clear hW1;have tok1:True:=trivial;go_region_held3(fun W=>W.cell? ⟨w.heap.size,4,none⟩=some l0∧W.cell? ⟨w.heap.size,5,none⟩=some l1∧W.cell? ⟨w.heap.size,6,none⟩=some l2∧W.cell? ⟨F.mb,7,none⟩=some (.pointer (some ⟨F.sb,0,none⟩))) (first|exact⟨b4,b5,b6,c7⟩|exact⟨(HN.out.cell (p:=⟨w.heap.size,4,none⟩) HW1.out).trans b4,(HN.out.cell (p:=⟨w.heap.size,5,none⟩) HW1.out).trans b5,(HN.out.cell (p:=⟨w.heap.size,6,none⟩) HW1.out).trans b6,(HN.out.cell (p:=⟨F.mb,7,none⟩) (Nat.lt_trans HMB.out HW1.out)).trans c7⟩|fail) (first|(go_at_call 62;refine(HEL.out _ (below_dn HB1.out 1)).mono ?_;rintro e w2 ⟨rfl,hb2⟩;have HN:Hid (Below W1.heap.size W1 w2):=⟨hb2.os,hb2.tape,hb2.output,hb2.size,hb2.block⟩;clear hb2));clear b4 b5 b6 c7;have HB2:=Lib.hid (HB1.out.trans (HN.out.mono (Nat.le_of_lt HW1.out)));by_cases he:er=0
 case neg=>
  have he':(er !=0)=true:=by simpa using he
  have EJ:Hid (setM m b=(m,er)):=by unfold Hid setM;rw[HE.out];simp[he]
  clear he;go_wp2_with fail;go_ret;exact MsPost.no HX.out HB2.out EJ.out
 have he':(er !=0)=false:=by simpa using he
 subst he;have HW2:Hid (w.heap.size<w2.heap.size):=Nat.lt_of_lt_of_le HW1.out HN.out.size;have HMB2:Hid (F.mb<w2.heap.size):=Nat.lt_of_lt_of_le HMB.out HB2.out.size;have b7:=(HN.out.cell (p:=⟨w.heap.size,7,none⟩) HW1.out).trans HX7.out;have b8:=(HN.out.cell (p:=⟨w.heap.size,8,none⟩) HW1.out).trans HX8.out;have b9:=(HN.out.cell (p:=⟨w.heap.size,9,none⟩) HW1.out).trans HX9.out;have c7:=(HN.out.cell (p:=⟨F.mb,7,none⟩) (Nat.lt_trans HMB.out HW1.out)).trans D7.out;go_wp2_with fail;go_region_held3(fun W=>W.cell? ⟨w.heap.size,7,none⟩=some x0∧W.cell? ⟨w.heap.size,8,none⟩=some x1∧W.cell? ⟨w.heap.size,9,none⟩=some x2∧W.cell? ⟨F.mb,7,none⟩=some (.pointer (some ⟨F.sb,0,none⟩))) (first|exact⟨b7,b8,b9,c7⟩|exact⟨(HN3.out.cell (p:=⟨w.heap.size,7,none⟩) HW2.out).trans b7,(HN3.out.cell (p:=⟨w.heap.size,8,none⟩) HW2.out).trans b8,(HN3.out.cell (p:=⟨w.heap.size,9,none⟩) HW2.out).trans b9,(HN3.out.cell (p:=⟨F.mb,7,none⟩) HMB2.out).trans c7⟩|fail) (first|(go_at_call 62;refine(HEX.out _ (below_dn HB2.out 1)).mono ?_;rintro e w3 ⟨rfl,hb3⟩;have HN3:Hid (Below w2.heap.size w2 w3):=⟨hb3.os,hb3.tape,hb3.output,hb3.size,hb3.block⟩;clear hb3));have HB3:=Lib.hid (HB2.out.trans (HN3.out.mono HB2.out.size));clear b7 b8 b9 c7;by_cases he2:er2=0
 case neg=>
  have he2':(er2 !=0)=true:=by simpa using he2
  have EJ:Hid (setM m b=(m,er2)):=by unfold Hid setM;rw[HE.out,HE2.out];simp[he2]
  clear he2;go_wp2_with fail;go_ret;exact MsPost.no HX.out HB3.out EJ.out
 have he2':(er2 !=0)=false:=by simpa using he2
 subst he2;generalize hwh:wholeS n=wh;obtain⟨wn,wk⟩:=wh;have HWH:=Lib.hid hwh;have HWL:Hid (∀W:World,Calls Tryz.prog 88 #[.int .i64 n] W fun e w'=>e=.returned (.tuple #[.int .i64 wn,.bool wk])∧W=w'):=fun W=>by have:=whole_any n W;rw[hwh]at this;exact this
 clear hwh;rcases wk with _|_
 ·have EJ:Hid (setM m b=(m,6)):=by unfold Hid setM;rw[HE.out,HE2.out];simp[HWH.out]
  go_wp2_with(go_at_call 88;refine(HWL.out _).mono ?_;rintro e w' ⟨rfl,rfl⟩);go_ret;exact MsPost.no HX.out HB3.out EJ.out
 have d5:=(HB3.out.cell (p:=⟨F.mb,5,none⟩) hmb).trans D5.out;have c7:=(HN3.out.cell (p:=⟨F.mb,7,none⟩) HMB2.out).trans ((HN.out.cell (p:=⟨F.mb,7,none⟩) (Nat.lt_trans HMB.out HW1.out)).trans D7.out);have f5:w3.frozen? ⟨F.mb,5,none⟩=false:=(World.frozen?_of_block (a:=⟨F.mb,5,none⟩) (HB3.out.block _ hmb)).trans (HFR.out 5);have EJ:Hid (setM m b=({m with pos:=m.pos+1,sto:=setX m.sto wn xv},setS wn xv)):=by unfold Hid setM;rw[HE.out,HE2.out];simp[HWH.out]
 have HX3:=Lib.hid ((HX.out.below HB3.out).set_pos (t:=m.pos+1) (by unfold I64;omega));have HSET:=Lib.hid (set_any _ F.sb F.lb m.sto wn xv HX3.out.sto);go_wp2_with(first|(go_at_call 88;refine(HWL.out _).mono ?_;rintro e w' ⟨rfl,rfl⟩)|(go_at_call 89;refine HSET.out.mono ?_;rintro e w4 ⟨rfl,hs4,hc4,_⟩));go_ret;refine⟨by rw[EJ.out];rfl,?_⟩;rw[EJ.out];obtain⟨g1,g2⟩:=HX3.out.store hs4 (HX3.out.vf.set _ _) (.inl rfl) hc4;exact MP.of g2 (((Chg.of_below HB3.out).trans (chg_set _ _ _ _ _ F.own_mb)).trans (hc4.mono fun g _ hg=>by rcases hg with e|e;exact .inr (.inl e);exact .inr (.inr (.inl e))))
end Go.Proofs.YtdcjbhdfphcefaaGreatDoor
