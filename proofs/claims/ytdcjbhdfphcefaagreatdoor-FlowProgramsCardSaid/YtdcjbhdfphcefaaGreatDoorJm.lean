/- The contract. -/
import Derived.Test.YtdcjbhdfphcefaaGreatDoorRm
namespace Go.Proofs.YtdcjbhdfphcefaaGreatDoor
set_option linter.all false
set_option maxRecDepth 100000
set_option maxHeartbeats 4000000
open Go.Proofs.Tryz
open Go.RowKit
theorem Rd.agg3{w:World}{B:Nat}{t:Tr}{v:Value}(h:Rd w B t v):∃x y z,v=.agg #[x,y,z]:=by
 rcases t with _|⟨op,n,k,kid⟩
 ·exact h.elim
 obtain⟨A,c,h1,_⟩:=h;exact⟨_,_,_,h1⟩
theorem qaK(w:World)(base:Nat)(C:OA)(cp:Nat)(l:List Int)(x:Int)(h:w.ownsRow base 3 1 (.slice C l.length cp) l.length (zgX l)):
 Calls Tryz.prog 92 #[.slice C l.length cp,.int .i64 x] w λe w'=>e=.returned (.bool (l.contains x))/\w'=w:=by
 rcases h.2 with⟨e1,e2⟩|⟨g,cap,cur,e1,_,e3,e4,e5,e6,e7⟩
 ·have:l=[]:=Ez e2;subst this;exact(Tryz.slices_Contains_int_empty C cp x w).mono λe w' h=>h
 ·simp only[Vs,true_and]at e1;obtain⟨rfl,rfl⟩:=e1;refine(Tryz.slices_Contains_int g 0 l.length cp l x w (Le _) (by unfold maxLen at e5;omega) λj hj=> ?_).mono λe w' h=> ?_
  ·rw[Nat.zero_add,Ro w g j _ _ _ e3];have:=congrArg (λq:LV=>q[j]?) e7;try dsimp only at this
   rw[Gt,Ip (by omega)]at this;rw[show cur[j]? =cur.toList[j]? by simp,this];simp[zgX,Gd,Gg hj]
  ·rw[Tm]at h;exact h
theorem qoX(L:Lb)(n:Int):∀(k i:Nat) (t:Int),zbB L n k i=(t,true)->(i:Int)<=t/\t<i+k:=by
 intro k;induction k with
 |zero=>intro i t h;simp[zbB]at h
 |succ k ih=>
  intro i t h;rw[zbB]at h;split at h
  ·have:=(Prod.mk.inj h).1;omega
  ·have:=ih _ _ h;omega
def zfO(B:Nat)(F:Fp)(L:Lb)(sk:Bool)(m:MS)(x:Tr)(w:World)(e:Ending)(w':World):Prop:=
 e=.returned (.int .i64 (zbQ L m x).2)/\MP B F L sk (zbQ L m x).1 w w'
theorem zfO.no{B:Nat}{F:Fp}{L:Lb}{sk:Bool}{m:MS}{x:Tr}{w w':World}{er:Int}(h:MX w B F L sk m)(hb:Bw w w')(he:zbQ L m x=(m,er)):zfO B F L sk m x w (.returned (.int .i64 er)) w':=
 ⟨by rw[he],by rw[he];exact MP.below h hb⟩
theorem MX.eval{w:World}{B:Nat}{F:Fp}{L:Lb}{sk:Bool}{m:MS}(h:MX w B F L sk m)(x:Tr)(v:Value)(hr:Rd w B x v)(W:World)(hW:Bw w W):
 Calls Tryz.prog 62 #[v,.pointer (some ⟨F.sb,0,none⟩)] W λe w'=>e=.returned (.tuple #[.int .i64 (zcH (zbG m.sto.f) x).1,.int .i64 (zcH (zbG m.sto.f) x).2])/\Bw W w':=
 eP B F.sb m.sto.f h.vf.f x _ W ((hr.below (hW.mono h.Ble)) (Ly h.Ble hW.size)) (h.tab.below hW h.tab.lt) ⟨F.lb,m.sto,h.sto.below hW,rfl⟩
theorem qcS(w:World)(B:Nat)(F:Fp)(L:Lb)(sk:Bool)(m:MS)(x:Tr)(v:Value)(h:MX w B F L sk m)(hr:Rd w B x v):
 Calls Tryz.prog 61 #[.pointer (some ⟨F.mb,0,none⟩),v] w (zfO B F L sk m x w):=by
 have HX:=Hd h;have hBs:B<=w.heap.size:=h.Ble;have hok:=h.fine.ok;have hml:=h.fine.few;obtain⟨A1,A2,A3,AC,c1,c2,c3,capc,xs,⟨d0,d1,d2,_,d4,d5,_,d7,_,_,_⟩,hL,_⟩:=h.cells;have hmb:=h.lt;obtain⟨x0,x1,x2,rfl⟩:=hr.agg3;have HL:=Hd hL;have HEV:=Hd (λW hW=>h.eval x _ hr W hW);clear h hr hL;generalize hE:zcH (zbG m.sto.f) x=ev at HEV;obtain⟨n,er⟩:=ev;have HE:=Hd hE;clear hE;obtain⟨W1,hW1,HB1,hbx⟩:=newW w #[x0,x1,x2] 52;have b0:W1.cell? ⟨w.heap.size,0,none⟩=some x0:=Ro W1 _ 0 _ _ _ hbx;have b1:W1.cell? ⟨w.heap.size,1,none⟩=some x1:=Ro W1 _ 1 _ _ _ hbx;have b2:W1.cell? ⟨w.heap.size,2,none⟩=some x2:=Ro W1 _ 2 _ _ _ hbx;have b7:W1.cell? ⟨F.mb,7,none⟩=some (.pointer (some ⟨F.sb,0,none⟩)):=HB1.o.ct hmb d7;have HW1:Hid (w.heap.size<W1.heap.size):=hlS hbx;have HMB:=Hd hmb;have D0:=Hd d0;have D1:=Hd d1;have D2:=Hd d2;have D4:=Hd d4;have D5:=Hd d5;clear d0 d1 d2 d4 d5 d7 hbx;go_enter func61,ntmps61;go_wp2;rw[<-hW1];clear hW1;go_region_held3(λW=>W.cell? ⟨w.heap.size,0,none⟩=some x0/\W.cell? ⟨w.heap.size,1,none⟩=some x1/\W.cell? ⟨w.heap.size,2,none⟩=some x2/\W.cell? ⟨F.mb,7,none⟩=some (.pointer (some ⟨F.sb,0,none⟩))) (first|exact⟨b0,b1,b2,b7⟩|exact⟨HN.o.ct HW1.o b0,HN.o.ct HW1.o b1,HN.o.ct HW1.o b2,(HN.o.cel F.mb 7 (Nat.lt_trans HMB.o HW1.o)).trans b7⟩|fail) (first|(go_at_call 62;refine(HEV.o _ (aA HB1.o 1)).mono ?_;rintro e w2 ⟨rfl,hb2⟩;have HN:Hid (Bw W1 w2):=(unB hb2);clear hb2));have HB2:=Hd (HB1.o.trans (HN.o.mono (Ll HW1.o)));by_cases he:er=0
 case neg=>
  have he':(er !=0)=true:=by simpa using he
  have EJ:Hid (zbQ L m x=(m,er)):=by unfold Hid zbQ;rw[HE.o];simp[he]
  clear he;go_wp2_with fail;go_ret;exact zfO.no HX.o HB2.o EJ.o
 have he':(er !=0)=false:=by simpa using he
 subst he;generalize hwh:zaY n=wh;obtain⟨wn,wk⟩:=wh;have HWH:=Hd hwh;have HWL:Hid (∀W:World,Calls Tryz.prog 88 #[.int .i64 n] W λe w'=>e=.returned (.tuple #[.int .i64 wn,.bool wk])/\W=w'):=λW=>by have:=cT n W;rw[hwh]at this;exact this
 clear hwh;have d0:=HB2.o.ct hmb D0.o;have d1:=HB2.o.ct hmb D1.o;have d2:=HB2.o.ct hmb D2.o;have d4:=HB2.o.ct hmb D4.o;have d5:=HB2.o.ct hmb D5.o;have HMB2:Hid (F.mb<w2.heap.size):=Lt HMB.o HB2.o.size;have HLA:Hid (∀W:World,Bw w W->Calls Tryz.prog 90 #[.agg #[.slice A1 L.bl.length c1,.slice A2 L.pr.length c2,.slice A3 L.mt.length c3],.int .i64 (m.prog:Nat),.int .i64 wn] W λe w'=>e=.returned (.tuple #[.int .i64 (zcD L m.prog wn).1,.bool (zcD L m.prog wn).2])/\Bw W w'):=
  λW hW=>qkF W B L A1 A2 A3 _ c1 _ c2 _ c3 m.prog wn (HL.o.below (hW.mono hBs)) (Ly hBs hW.size) hok HX.o.prog
 generalize hla:zcD L m.prog wn=la at HLA;obtain⟨tg,tk⟩:=la;have HLS:=Hd hla;clear hla;go_wp2_with(go_at_call 88;refine(HWL.o _).mono ?_;rintro e w' ⟨rfl,rfl⟩);go_region_held3(λW=>W.cell? ⟨F.mb,0,none⟩=some (.slice A1 L.bl.length c1)/\W.cell? ⟨F.mb,1,none⟩=some (.slice A2 L.pr.length c2)/\W.cell? ⟨F.mb,2,none⟩=some (.slice A3 L.mt.length c3)/\W.cell? ⟨F.mb,4,none⟩=some (.int .i64 (m.prog:Nat))) (first|exact⟨d0,d1,d2,d4⟩|exact⟨HN3.o.ct HMB2.o d0,HN3.o.ct HMB2.o d1,HN3.o.ct HMB2.o d2,HN3.o.ct HMB2.o d4⟩|fail) (first|(go_at_call 90;refine(HLA.o _ (aA HB2.o 1)).mono ?_;rintro e w3 ⟨rfl,hb3⟩;have HN3:Hid (Bw w2 w3):=(unB hb3);clear hb3));have HB3:=Hd (HB2.o.tm HN3.o);clear d0 d1 d2 d4 d5;rcases wk with _|_
 ·have EJ:Hid (zbQ L m x=(m,6)):=by unfold Hid zbQ;rw[HE.o];simp[HWH.o]
  go_wp2_with fail;go_ret;exact zfO.no HX.o HB3.o EJ.o
 rcases tk with _|_
 ·have EJ:Hid (zbQ L m x=(m,6)):=by unfold Hid zbQ;rw[HE.o];simp[HWH.o,HLS.o]
  go_wp2_with fail;go_ret;exact zfO.no HX.o HB3.o EJ.o
 have d0:=HB3.o.ct hmb D0.o;have d1:=HB3.o.ct hmb D1.o;have d2:=HB3.o.ct hmb D2.o;have d5:=HB3.o.ct hmb D5.o;have HMB3:Hid (F.mb<w3.heap.size):=Lt HMB.o HB3.o.size;have HIN:Hid (∀(W:World) (q:Int),Bw w W->Calls Tryz.prog 91 #[.agg #[.slice A1 L.bl.length c1,.slice A2 L.pr.length c2,.slice A3 L.mt.length c3],.int .i64 q] W (zhM W (zbF L q))):=
  λW q hW=>qfI W B L A1 A2 A3 _ c1 _ c2 _ c3 q (HL.o.below (hW.mono hBs)) (Ly hBs hW.size) hml
 go_wp2_with fail;go_region_held3(λW=>W.cell? ⟨F.mb,0,none⟩=some (.slice A1 L.bl.length c1)/\W.cell? ⟨F.mb,1,none⟩=some (.slice A2 L.pr.length c2)/\W.cell? ⟨F.mb,2,none⟩=some (.slice A3 L.mt.length c3)/\W.cell? ⟨F.mb,5,none⟩=some (.int .i64 m.pos)) (first|exact⟨d0,d1,d2,d5⟩|exact⟨HN4.o.ct HMB3.o d0,HN4.o.ct HMB3.o d1,HN4.o.ct HMB3.o d2,HN4.o.ct HMB3.o d5⟩|fail) (first|(go_at_call 91;refine(HIN.o _ _ (aA HB3.o 1)).mono ?_;rintro e w4 ⟨C4,p4,rfl,ho4,hb4⟩;have HN4:Hid (Bw w3 w4):=(unB hb4);have HO4:Hid (w4.ownsRow w3.heap.size 3 1 (.slice C4 (zbF L m.pos).length p4) (zbF L m.pos).length (zgX (zbF L m.pos))):=ho4;clear hb4 ho4));have HB4:=Hd (HB3.o.tm HN4.o);have HMB4:Hid (F.mb<w4.heap.size):=Lt HMB.o HB4.o.size;clear d0 d1 d2 d5;have d0:=HB4.o.ct hmb D0.o;have d1:=HB4.o.ct hmb D1.o;have d2:=HB4.o.ct hmb D2.o;go_wp2_with(go_at_call 91;refine(HIN.o _ _ HB4.o).mono ?_;rintro e w5 ⟨C5,p5,rfl,ho5,hb5⟩;have HN5:=Hd hb5;have HO5:=Hd ho5;clear hb5 ho5);have HB5:=Hd (HB4.o.tm HN5.o);clear d0 d1 d2;have HCT:Hid (∀q:Int,Calls Tryz.prog 92 #[.slice C4 (zbF L m.pos).length p4,.int .i64 q] w5 λe w'=>e=.returned (.bool ((zbF L m.pos).contains q))/\w'=w5):=
  λq=>qaK w5 _ C4 p4 _ q (aC HO4.o λg hg _=>HN5.o.block g hg)
 have HOK:Hid (((zbF L tg).all λw=>(zbF L m.pos).contains w)=false->zbQ L m x=(m,11)):=by
  unfold Hid;intro hall;unfold zbQ;rw[HE.o];simp only[HWH.o,HLS.o,hall];rfl
 have HOK2:Hid (((zbF L tg).all λw=>(zbF L m.pos).contains w)=true->zbQ L m x=({m with pos:=tg},0)):=by
  unfold Hid;intro hall;unfold zbQ;rw[HE.o];simp only[HWH.o,HLS.o,hall];rfl
 generalize zbF L m.pos=R at*
 generalize hTT:zbF L tg=T at*
 clear hTT;have hT:T.length<=maxLen:=by
  rcases HO5.o.2 with⟨_,e2⟩|⟨g,cap,cur,_,_,_,e4,e5,_⟩
  ·rw[e2];exact Lq _
  ·omega
 unfold maxLen at hT;go_loopw[66] (λi W=>∃k:Nat,k<=T.length/\i=.int .i64 (k:Int)/\W=w5/\∀q∈T.take k,R.contains q=true) (λi _=>T.length-(intOf i).toNat)
 case atStart=>exact⟨0,by omega,rfl,rfl,by simp⟩
 case round=>
  obtain⟨k,hk,rfl,rfl,hall⟩:=hrel;have HAL:=Hd hall;clear hall;by_cases hlt:k<T.length
  ·rcases HO5.o.2 with⟨_,e2⟩|⟨g,cap,cur,e1,_,e3,e4,e5,e6,e7⟩
   ·omega
   obtain⟨y,hy⟩:∃y,T[k]? =some y:=⟨_,Gg hlt⟩;simp only[Vs,true_and]at e1;obtain⟨rfl,rfl⟩:=e1;have z0:wr.cell? ⟨g,k,none⟩=some (.int .i64 y):=by
    rw[Ro wr g k _ _ _ e3];have:=congrArg (λq:LV=>q[k]?) e7;try dsimp only at this
    rw[Gt,Ip (by omega)]at this;rw[show cur[k]? =cur.toList[k]? by simp,this];simp[zgX,hy]
   have HY:=Hd hy;clear hy e3 e6 e7;rcases hR:R.contains y with _|_
   ·have EJ:Hid (zbQ L m x=(m,11)):=HOK.o (by
     rw[List.all_eq_false]
     exact⟨y,Mg HY.o,by rw[hR];exact Bool.false_ne_true⟩)
    have HC1:=Hd (HCT.o y);rw[hR]at HC1;clear hR;go_wp2_with(go_at_call 92;refine HC1.o.mono ?_;rintro e w' ⟨rfl,rfl⟩);go_ret;exact zfO.no HX.o HB5.o EJ.o
   ·have HC1:=Hd (HCT.o y);rw[hR]at HC1;have HAL2:Hid (∀q∈T.take (k+1),R.contains q=true):=by
     unfold Hid;intro q hq;rw[Ta,HY.o]at hq;simp only[Option.toList_some,Ma,Mt]at hq;rcases hq with hq|rfl
     ·exact HAL.o q hq
     ·exact hR
    clear hR;go_wp2_with(go_at_call 92;refine HC1.o.mono ?_;rintro e w' ⟨rfl,rfl⟩);exact⟨⟨k+1,by omega,by go_num,(by first|rfl|trivial),HAL2.o⟩,by simp only[intOf];omega⟩
  ·have hke:k=T.length:=by omega
   subst hke;have EJ:Hid (zbQ L m x=({m with pos:=tg},0)):=HOK2.o (by
    rw[List.all_eq_true]
    intro q hq
    exact HAL.o q (by rw[Tm];exact hq))
   have d5:=HB5.o.ct hmb D5.o;have f5:wr.frozen? ⟨F.mb,5,none⟩=false:=by
    obtain⟨_,_,_,_,_,_,_,_,_,hb,_⟩:=HX.o.ex;have:=(HB5.o.block F.mb hmb).trans hb;simp[World.frozen?,this]
   have HTG:Hid (I64 tg):=by
    have q:=HLS.o;unfold zcD at q;split at q
    ·simp at q
    ·have q1:=qoX L wn _ _ _ q;obtain⟨y,hy⟩:∃y,L.pr[m.prog]? =some y:=⟨_,Gg HX.o.prog⟩;have q2:=hok _ _ hy;have q3:L.prg m.prog=y:=by unfold Lb.prg;rw[Gd,hy];rfl
     rw[q3]at q1;have q4:=HL.o.bl.2.1;unfold maxLen at q4;unfold Hid I64;omega
   go_wp2_with fail;go_ret;refine⟨by rw[EJ.o];rfl,?_⟩;rw[EJ.o];exact MP.of ((HX.o.below HB5.o).set_pos HTG.o) ((Chg.of_below HB5.o).trans (aH _ _ _ _ _ F.own_mb))
theorem MX.store{w w':World}{B:Nat}{F:Fp}{L:Lb}{sk:Bool}{m:MS}(h:MX w B F L sk m){lb':Nat}{σ:Sto}(hs:Sx w' F.sb lb' σ)(hv:σ.vf)(hl:lb'=F.lb\/w.heap.size<=lb')(hc:Chg (λg=>g=F.sb\/g=F.lb) w w'):
 Mv w F {F with lb:=lb'}/\MX w' B {F with lb:=lb'} L sk {m with sto:=σ}:=by
 have hlt:=h.lt;have hge:=h.mb_ge;have hsb:=h.sb_ge;have hlb:=h.lb_ge;have hn1:=h.ne1;have hn2:=h.ne2;have hslt:=h.sto.lt;have ks:∀g,g<w.heap.size->g≠F.sb->g≠F.lb->w'.heap[g]? =w.heap[g]? :=λg hg h1 h2=>hc.block g hg (by rintro(e|e)<;>contradiction);have kl:∀g,g<B->w'.heap[g]? =w.heap[g]? :=λg hg=>ks g (by omega) (by omega) (by omega);obtain⟨A1,A2,A3,AC,c1,c2,c3,capc,xs,hb,hL,ho,hf,ha,hr⟩:=h.ex;obtain⟨t1,t2,t3⟩:=h.tab;obtain⟨n1,n2,n3⟩:=h.tn;have hac:∀g,F.ac=some g->g<w.heap.size:=λg hg=>(h.own_ge g (.inr (.inr (.inr hg)))).2;have hs':=hc.size;refine⟨⟨rfl,rfl,rfl,hl,.inl rfl⟩,⟨h.mb_ge,h.sb_ge,by dsimp only;omega,h.ne1,by dsimp only;omega,λx hx=>Lt (h.av x hx) hc.size,⟨t1,t2,(kl _ h.tabB).trans t3⟩,h.tabB,⟨n1,n2,(kl _ h.tnB).trans n3⟩,h.tnB,h.fine,hs,hv,h.pos,h.prog,h.steps,h.err,h.few,h.calls,A1,A2,A3,AC,c1,c2,c3,capc,xs,(ks _ hlt (by omega) (by omega)).trans hb,
  hL.keep (λp hp=>Wb (kl p.block hp)) (Le _),aC ho λg hg hv=> ?_,λg hg=> ?_,ha,hr.keep hc.size (λg hg hI=>⟨λhk=>hI.1 ?_,hI.2⟩) λg hg hI=>ks g hg (λe=>hI.1 (.inr (.inl e))) (λe=>hI.1 (.inr (.inr (.inl e))))⟩⟩
 ·have hag:F.ac=some g:=by
   rcases AC with _|a
   ·simp[Value.ownBlock]at hv
   ·rw[<-ha];simpa[Value.ownBlock]using hv
  have:=hf g hag;exact ks g hg this.2.1 this.2.2
 ·have h1:=hf g hg;have h2:=hac g hg;refine⟨h1.1,h1.2.1,?_⟩;rcases hl with e|e
  ·rw[e];exact h1.2.2
  ·dsimp only;omega
 ·rcases hk with e|e|e|e
  ·exact .inl e
  ·exact .inr (.inl e)
  ·rcases hl with q|q
   ·exact .inr (.inr (.inl (e.trans q)))
   ·dsimp only at e;omega
  ·exact .inr (.inr (.inr e))
def zgS(B:Nat)(F:Fp)(L:Lb)(sk:Bool)(m:MS)(b:Bk)(w:World)(e:Ending)(w':World):Prop:=
 e=.returned (.int .i64 (zdM m b).2)/\MP B F L sk (zdM m b).1 w w'
theorem zgS.no{B:Nat}{F:Fp}{L:Lb}{sk:Bool}{m:MS}{b:Bk}{w w':World}{er:Int}(h:MX w B F L sk m)(hb:Bw w w')(he:zdM m b=(m,er)):zgS B F L sk m b w (.returned (.int .i64 er)) w':=
 ⟨by rw[he],by rw[he];exact MP.below h hb⟩
theorem qoM(w:World)(B:Nat)(F:Fp)(L:Lb)(sk:Bool)(m:MS)(b:Bk)(A:OA)(k c:Nat)(l0 l1 l2 x0 x1 x2:Value)(h:MX w B F L sk m)(hr:RdB w B b A k l0 l1 l2 x0 x1 x2)(hp:0<=m.pos/\m.pos<=1000000):
 Calls Tryz.prog 60 #[.pointer (some ⟨F.mb,0,none⟩),.agg ⟨zaW b A k c l0 l1 l2 x0 x1 x2⟩] w (zgS B F L sk m b w):=by
 have HX:=Hd h;have hBs:B<=w.heap.size:=h.Ble;obtain⟨A1,A2,A3,AC,c1,c2,c3,capc,xs,⟨d0,d1,d2,_,d4,d5,_,d7,_,_,_⟩,hL,_,_,_,hfr⟩:=h.cells;have hmb:=h.lt;have HEL:=Hd (λW hW=>h.eval b.left _ hr.left W hW);have HEX:=Hd (λW hW=>h.eval b.x _ hr.x W hW);clear h hr hL;generalize hE:zcH (zbG m.sto.f) b.left=ev at HEL;obtain⟨n,er⟩:=ev;have HE:=Hd hE;generalize hE2:zcH (zbG m.sto.f) b.x=ev2 at HEX;obtain⟨xv,er2⟩:=ev2;have HE2:=Hd hE2;clear hE hE2;obtain⟨W1,hW1,HB1,hbx⟩:=newW w ⟨zaW b A k c l0 l1 l2 x0 x1 x2⟩ 54;have q:=λj=>Ro W1 w.heap.size j _ _ _ hbx;have b4:W1.cell? ⟨w.heap.size,4,none⟩=some l0:=(q 4).trans rfl;have b5:W1.cell? ⟨w.heap.size,5,none⟩=some l1:=(q 5).trans rfl;have b6:W1.cell? ⟨w.heap.size,6,none⟩=some l2:=(q 6).trans rfl;have b7:W1.cell? ⟨w.heap.size,7,none⟩=some x0:=(q 7).trans rfl;have b8:W1.cell? ⟨w.heap.size,8,none⟩=some x1:=(q 8).trans rfl;have b9:W1.cell? ⟨w.heap.size,9,none⟩=some x2:=(q 9).trans rfl;have c7:W1.cell? ⟨F.mb,7,none⟩=some (.pointer (some ⟨F.sb,0,none⟩)):=HB1.o.ct hmb d7;have HW1:Hid (w.heap.size<W1.heap.size):=hlS hbx;have HMB:=Hd hmb;have D5:=Hd d5;have D7:=Hd c7;have HX7:=Hd b7;have HX8:=Hd b8;have HX9:=Hd b9;have HFR:=Hd hfr;clear d0 d1 d2 d4 d5 d7 hbx q hfr b7 b8 b9;go_enter func60,ntmps60;go_wp2;rw[<-hW1];clear hW1;have tok1:=trivial;go_region_held3(λW=>W.cell? ⟨w.heap.size,4,none⟩=some l0/\W.cell? ⟨w.heap.size,5,none⟩=some l1/\W.cell? ⟨w.heap.size,6,none⟩=some l2/\W.cell? ⟨F.mb,7,none⟩=some (.pointer (some ⟨F.sb,0,none⟩))) (first|exact⟨b4,b5,b6,c7⟩|exact⟨HN.o.ct HW1.o b4,HN.o.ct HW1.o b5,HN.o.ct HW1.o b6,(HN.o.cel F.mb 7 (Nat.lt_trans HMB.o HW1.o)).trans c7⟩|fail) (first|(go_at_call 62;refine(HEL.o _ (aA HB1.o 1)).mono ?_;rintro e w2 ⟨rfl,hb2⟩;have HN:Hid (Bw W1 w2):=(unB hb2);clear hb2));clear b4 b5 b6 c7;have HB2:=Hd (HB1.o.trans (HN.o.mono (Ll HW1.o)));by_cases he:er=0
 case neg=>
  have he':(er !=0)=true:=by simpa using he
  have EJ:Hid (zdM m b=(m,er)):=by unfold Hid zdM;rw[HE.o];simp[he]
  clear he;go_wp2_with fail;go_ret;exact zgS.no HX.o HB2.o EJ.o
 have he':(er !=0)=false:=by simpa using he
 subst he;have HW2:Hid (w.heap.size<w2.heap.size):=Lt HW1.o HN.o.size;have HMB2:Hid (F.mb<w2.heap.size):=Lt HMB.o HB2.o.size;have b7:=HN.o.ct HW1.o HX7.o;have b8:=HN.o.ct HW1.o HX8.o;have b9:=HN.o.ct HW1.o HX9.o;have c7:=(HN.o.cel F.mb 7 (Nat.lt_trans HMB.o HW1.o)).trans D7.o;go_wp2_with fail;go_region_held3(λW=>W.cell? ⟨w.heap.size,7,none⟩=some x0/\W.cell? ⟨w.heap.size,8,none⟩=some x1/\W.cell? ⟨w.heap.size,9,none⟩=some x2/\W.cell? ⟨F.mb,7,none⟩=some (.pointer (some ⟨F.sb,0,none⟩))) (first|exact⟨b7,b8,b9,c7⟩|exact⟨HN3.o.ct HW2.o b7,HN3.o.ct HW2.o b8,HN3.o.ct HW2.o b9,HN3.o.ct HMB2.o c7⟩|fail) (first|(go_at_call 62;refine(HEX.o _ (aA HB2.o 1)).mono ?_;rintro e w3 ⟨rfl,hb3⟩;have HN3:Hid (Bw w2 w3):=(unB hb3);clear hb3));have HB3:=Hd (HB2.o.tm HN3.o);clear b7 b8 b9 c7;by_cases he2:er2=0
 case neg=>
  have he2':(er2 !=0)=true:=by simpa using he2
  have EJ:Hid (zdM m b=(m,er2)):=by unfold Hid zdM;rw[HE.o,HE2.o];simp[he2]
  clear he2;go_wp2_with fail;go_ret;exact zgS.no HX.o HB3.o EJ.o
 have he2':(er2 !=0)=false:=by simpa using he2
 subst he2;generalize hwh:zaY n=wh;obtain⟨wn,wk⟩:=wh;have HWH:=Hd hwh;have HWL:Hid (∀W:World,Calls Tryz.prog 88 #[.int .i64 n] W λe w'=>e=.returned (.tuple #[.int .i64 wn,.bool wk])/\W=w'):=λW=>by have:=cT n W;rw[hwh]at this;exact this
 clear hwh;rcases wk with _|_
 ·have EJ:Hid (zdM m b=(m,6)):=by unfold Hid zdM;rw[HE.o,HE2.o];simp[HWH.o]
  go_wp2_with(go_at_call 88;refine(HWL.o _).mono ?_;rintro e w' ⟨rfl,rfl⟩);go_ret;exact zgS.no HX.o HB3.o EJ.o
 have d5:=HB3.o.ct hmb D5.o;have c7:=(HN3.o.cel F.mb 7 HMB2.o).trans ((HN.o.cel F.mb 7 (Nat.lt_trans HMB.o HW1.o)).trans D7.o);have f5:w3.frozen? ⟨F.mb,5,none⟩=false:=(cekF F.mb 5 (HB3.o.block _ hmb)).trans (HFR.o 5);have EJ:Hid (zdM m b=({m with pos:=m.pos+1,sto:=zeY m.sto wn xv},zdL wn xv)):=by unfold Hid zdM;rw[HE.o,HE2.o];simp[HWH.o]
 have HX3:=Hd ((HX.o.below HB3.o).set_pos (t:=m.pos+1) (by unfold I64;omega));have HSET:=Hd (oO _ F.sb F.lb m.sto wn xv HX3.o.sto);go_wp2_with(first|(go_at_call 88;refine(HWL.o _).mono ?_;rintro e w' ⟨rfl,rfl⟩)|(go_at_call 89;refine HSET.o.mono ?_;rintro e w4 ⟨rfl,hs4,hc4,_⟩));go_ret;refine⟨by rw[EJ.o];rfl,?_⟩;rw[EJ.o];obtain⟨g1,g2⟩:=HX3.o.store hs4 (HX3.o.vf.set _ _) (.inl rfl) hc4;exact MP.of g2 (((Chg.of_below HB3.o).trans (aH _ _ _ _ _ F.own_mb)).trans (hc4.mono λg _ hg=>by rcases hg with e|e;exact .inr (.inl e);exact .inr (.inr (.inl e))))
theorem MX.call{w:World}{B:Nat}{F:Fp}{L:Lb}{sk:Bool}{m:MS}(h:MX w B F L sk m){i:Nat}{c:Cl}(hi:m.calls[i]? =some c):∃(g cap:Nat) (cur:Array Value) (A:OA) (cp:Nat),
 F.ac=some g/\w.heap[g]? =some (.cells cur 102 (0,0))/\m.calls.length<=cap/\cap<=maxLen/\cur.size=cap*6/\g≠F.mb/\g≠F.sb/\g≠F.lb/\w.cell? ⟨F.mb,6,none⟩=some (.slice (some ⟨g,0,none⟩) m.calls.length cap)/\
 (∀(j:Nat) (v:Value),(zcW c A cp)[j]? =some v->w.cell? ⟨g,i*6+j,none⟩=some v)/\(∀k,w.frozen? ⟨g,k,none⟩=false)/\RdV w F.far A c.args.length c.args/\I64 c.back/\I64 c.left:=by
 obtain⟨A1,A2,A3,AC,c1,c2,c3,capc,xs,hb,hL,ho,hf,ha,hr⟩:=h.ex;have hil:i<m.calls.length:=(Gu.1 hi).1;obtain⟨r1,r2,A,cp,r3,r4⟩:=hr i c hi;rcases ho.2 with⟨_,e⟩|⟨g,cap,cur,e1,e2,e3,e4,e5,e6,e7⟩
 ·omega
 ·simp only[Vs,true_and]at e1;obtain⟨rfl,rfl⟩:=e1;have hac:F.ac=some g:=by rw[<-ha];rfl
  have hfg:=hf g hac;refine⟨g,capc,cur,A,cp,hac,e3,e4,e5,e6,hfg.1,hfg.2.1,hfg.2.2,(Ro w F.mb 6 _ _ _ hb).trans rfl,λj v hv=> ?_,λk=>by simp[World.frozen?,e3],r3,r1,r2⟩;have hj:j<6:=by
   have:=(Gu.1 hv).1;simpa[zcW]using this
  rw[Ro w g _ _ _ _ e3];have q:=r4 j v hv;rw[<-e7,Gt,Ip (by omega)]at q;simpa using q
theorem MX.recall{w w':World}{B:Nat}{F:Fp}{L:Lb}{sk:Bool}{m:MS}{cs':List Cl}(h:MX w B F L sk m)(hs:w.heap.size<=w'.heap.size)
 (hk:∀g,g<w.heap.size->g≠F.mb->F.ac≠some g->w'.heap[g]? =w.heap[g]?) (hfew:cs'.length<=8) (hcs:∀c∈cs',c.prog<L.pr.length/\c.caller<L.pr.length/\0<=c.left)
 (hb:∀(A1 A2 A3 AC:OA) (c1 c2 c3 capc:Nat) (xs:LV),w.heap[F.mb]? =some (.cells ⟨zdG A1 A2 A3 AC c1 c2 c3 capc F.sb L sk m⟩ 81 (0,0))->w.ownsRow B 102 6 (.slice AC m.calls.length capc) m.calls.length xs->RdC w F.far m.calls xs->AC.map (·.block)=F.ac->
  ∃(capc':Nat) (xs':LV),w'.heap[F.mb]? =some (.cells ⟨zdG A1 A2 A3 AC c1 c2 c3 capc' F.sb L sk {m with calls:=cs'}⟩ 81 (0,0))/\w'.ownsRow B 102 6 (.slice AC cs'.length capc') cs'.length xs'/\RdC w' F.far cs' xs'):
 MX w' B F L sk {m with calls:=cs'}:=by
 have hge:=h.mb_ge;have hsb:=h.sb_ge;have hlb:=h.lb_ge;have hn1:=h.ne1;have hn2:=h.ne2;have hlt:=h.lt;have hslt:=h.sto.lt;have hown:=h.own_ge;obtain⟨A1,A2,A3,AC,c1,c2,c3,capc,xs,hbk,hL,ho,hf,ha,hr⟩:=h.ex;have kl:∀g,g<B->w'.heap[g]? =w.heap[g]? :=λg hg=>hk g (by omega) (by omega) λe=>by have:=(hown g (.inr (.inr (.inr e)))).1;omega
 have k2:w'.heap[F.sb]? =w.heap[F.sb]? :=hk _ hslt.1 (λe=>hn1 e.symm) λe=>(hf _ e).2.1 rfl;have k3:w'.heap[F.lb]? =w.heap[F.lb]? :=hk _ hslt.2 (λe=>hn2 e.symm) λe=>(hf _ e).2.2 rfl;obtain⟨t1,t2,t3⟩:=h.tab;obtain⟨n1,n2,n3⟩:=h.tn;obtain⟨capc',xs',g1,g2,g3⟩:=hb A1 A2 A3 AC c1 c2 c3 capc xs hbk ho hr ha;exact⟨h.mb_ge,h.sb_ge,h.lb_ge,h.ne1,h.ne2,λx hx=>Lt (h.av x hx) hs,⟨t1,t2,(kl _ h.tabB).trans t3⟩,h.tabB,⟨n1,n2,(kl _ h.tnB).trans n3⟩,h.tnB,h.fine,h.sto.keep k2 k3,h.vf,h.pos,h.prog,h.steps,h.err,hfew,hcs,A1,A2,A3,AC,c1,c2,c3,capc',xs',g1,
  hL.keep (λp hp=>Wb (kl p.block hp)) (Le _),g2,hf,ha,g3⟩
theorem RdC.set{w w':World}{I:Nat->Prop}{l:List Cl}{xs:LV}{i:Nat}{c:Cl}{t:Int}(h:RdC w I l xs)(hi:l[i]? =some c)(ht:I64 t)(hs:w.heap.size<=w'.heap.size)(hk:∀g,g<w.heap.size->I g->w'.heap[g]? =w.heap[g]?):RdC w' I (l.set i {c with left:=t}) (xs.set (i*6+3) (.int .i64 t)):=by
 intro j d hd;rw[List.getElem?_set]at hd;by_cases hij:i=j
 ·subst hij;have hil:i<l.length:=(Gu.1 hi).1;rw[Ip rfl,Ip hil]at hd;cases hd;obtain⟨a1,a2,A,cp,a3,a4⟩:=h i c hi;refine⟨a1,ht,A,cp,a3.keep hs (λ_ _ q=>q) hk,λk v hv=> ?_⟩;have hk6:k<6:=by have:=(Gu.1 hv).1;simpa[zcW]using this
  have h3:=a4 3 _ rfl;have hlt:i*6+3<xs.length:=(Gu.1 h3).1;rw[List.getElem?_set];by_cases e:k=3
  ·subst e;rw[Ip rfl,Ip hlt];exact hv
  ·rw[Iq (by omega)];refine a4 k v ?_;have:k=0\/k=1\/k=2\/k=4\/k=5:=by omega
   rcases this with rfl|rfl|rfl|rfl|rfl<;>exact hv
 ·rw[Iq hij]at hd;obtain⟨a1,a2,A,cp,a3,a4⟩:=h j d hd;refine⟨a1,a2,A,cp,a3.keep hs (λ_ _ q=>q) hk,λk v hv=> ?_⟩;have hk6:k<6:=by have:=(Gu.1 hv).1;simpa[zcW]using this
  rw[List.getElem?_set,Iq (by omega)];exact a4 k v hv
theorem MX.less{w:World}{B:Nat}{F:Fp}{L:Lb}{sk:Bool}{m:MS}{i g:Nat}{c:Cl}{t:Int}(h:MX w B F L sk m)(hi:m.calls[i]? =some c)(hg:F.ac=some g)(ht:I64 t)(h0:0<=t):
 MX (w.setCell ⟨g,i*6+3,none⟩ (.int .i64 t)) B F L sk {m with calls:=m.calls.set i {c with left:=t}}:=by
 have hn:g≠F.mb:=by
  obtain⟨A1,A2,A3,AC,c1,c2,c3,capc,xs,_,_,_,hf,_⟩:=h.ex;exact(hf g hg).1
 have hil:i<m.calls.length:=(Gu.1 hi).1;have hk:∀j,j≠g->(w.setCell ⟨g,i*6+3,none⟩ (.int .i64 t)).heap[j]? =w.heap[j]? :=λj hj=>Bj _ _ _ j hj;refine h.recall (by simp[World.setCell]) (λj hj h1 h2=>hk j (by rintro rfl;exact h2 hg)) (by rw[List.length_set];exact h.few) (λd hd=> ?_) ?_
 ·rcases List.mem_or_eq_of_mem_set hd with q|q
  ·exact h.calls d q
  ·have:=h.calls c (Mg hi);rw[q];exact⟨this.1,this.2.1,h0⟩
 ·intro A1 A2 A3 AC c1 c2 c3 capc xs hb ho hr ha;refine⟨capc,xs.set (i*6+3) (.int .i64 t),?_,?_,hr.set hi ht (by simp[World.setCell]) λj hj hI=>hk j (by rintro rfl;exact hI.1 (.inr (.inr (.inr hg))))⟩
  ·rw[hk _ (λe=>hn e.symm),hb];simp[zdG]
  ·rcases ho.2 with⟨_,e⟩|⟨g',cap,cur,e1,e2,e3,e4,e5,e6,e7⟩
   ·omega
   ·simp only[Vs,true_and]at e1;obtain⟨rfl,rfl⟩:=e1;have:g'=g:=by rw[hg]at ha;simpa using ha
    subst this;refine⟨by rw[List.length_set];simpa using ho.1,.inr ⟨g',capc,cur.setIfInBounds (i*6+3) (.int .i64 t),by simp,e2,aD e3,by simpa using e4,e5,by simpa using e6,?_⟩⟩;rw[List.length_set,<-e7];simp[List.take_set]
theorem MX.shut{w:World}{B:Nat}{F:Fp}{L:Lb}{sk:Bool}{m:MS}{g cap:Nat}(h:MX w B F L sk m)(hg:w.cell? ⟨F.mb,6,none⟩=some (.slice (some ⟨g,0,none⟩) m.calls.length cap))(h0:0<m.calls.length):
 MX (w.setCell ⟨F.mb,6,none⟩ (.slice (some ⟨g,0,none⟩) (m.calls.length-1) cap)) B F L sk {m with calls:=m.calls.dropLast}:=by
 have hk:∀j,j≠F.mb->(w.setCell ⟨F.mb,6,none⟩ (.slice (some ⟨g,0,none⟩) (m.calls.length-1) cap)).heap[j]? =w.heap[j]? :=λj hj=>Bj _ _ _ j hj;refine h.recall (by simp[World.setCell]) (λj hj h1 h2=>hk j h1) (by have:=h.few;rw[Ld];omega) (λd hd=>h.calls d ((List.dropLast_sublist _).subset hd)) ?_;intro A1 A2 A3 AC c1 c2 c3 capc xs hb ho hr ha;have h6:=(Ro w F.mb 6 _ _ _ hb).symm.trans hg;have h6':some (Value.slice AC m.calls.length capc)=some (.slice (some ⟨g,0,none⟩) m.calls.length cap):=h6;simp only[Oi,Vs,true_and]at h6';obtain⟨rfl,rfl⟩:=h6';refine⟨capc,xs.take ((m.calls.length-1)*6),?_,?_,?_⟩
 ·have:=aD (i:=6) (u:=.slice (some ⟨g,0,none⟩) (m.calls.length-1) capc) hb;rw[this];simp[zdG]
 ·rcases ho.2 with⟨e,_⟩|⟨g',cap',cur,e1,e2,e3,e4,e5,e6,e7⟩
  ·simp at e
  ·simp only[Vs,true_and]at e1;obtain⟨e1,rfl⟩:=e1;cases e1;have hn:g≠F.mb:=by
    obtain⟨_,_,_,_,_,_,_,_,_,_,_,_,hf,_⟩:=h.ex;exact(hf g (by rw[<-ha];rfl)).1
   have hl:xs.length=m.calls.length*6:=ho.1;refine⟨by rw[Lr,Ld];omega,.inr ⟨g,capc,cur,by simp,e2,(hk g hn).trans e3,by rw[Ld];omega,e5,e6,?_⟩⟩;rw[Ld,<-e7,List.take_take];congr 1;omega
 ·intro i c hc;have hil:i<m.calls.dropLast.length:=(Gu.1 hc).1;rw[Ld]at hil;have hc':m.calls[i]? =some c:=by
   rw[List.dropLast_eq_take,Gt,Ip (by omega)]at hc;exact hc
  obtain⟨a1,a2,A,cp,a3,a4⟩:=hr i c hc';refine⟨a1,a2,A,cp,a3.keep (by simp[World.setCell]) (λ_ _ q=>q) (λj hj hI=>hk j λe=>hI.1 (.inl e)),λk v hv=> ?_⟩;have hk6:k<6:=by have:=(Gu.1 hv).1;simpa[zcW]using this
  rw[Gt,Ip (by omega)];exact a4 k v hv
def ziH(B:Nat)(F:Fp)(L:Lb)(sk:Bool)(m:MS)(w:World)(e:Ending)(w':World):Prop:=
 e=.returned (.int .i64 (zbJ L m).2)/\MP B F L sk (zbJ L m).1 w w'
theorem Fp.own_ac{F:Fp}{g:Nat}(h:F.ac=some g):F.own g:=.inr (.inr (.inr h))
theorem vF{F:Fp}{w w':World}(h:Chg (λg=>g=F.sb\/g=F.lb) w w'):Chg F.own w w':=h.mono λg _ hg=>by rcases hg with e|e;exact .inr (.inl e);exact .inr (.inr (.inl e))
theorem MP.then{B:Nat}{F:Fp}{L:Lb}{sk:Bool}{m2:MS}{w w1 w2:World}(hc:Chg F.own w w1)(k:MP B F L sk m2 w1 w2):MP B F L sk m2 w w2:=by
 obtain⟨F2,b1,b2,b3⟩:=k;exact⟨F2,(Mv.refl w F).trans b1 hc.size,b2,hc.trans b3⟩
theorem MX.prog_cells{w:World}{B:Nat}{F:Fp}{L:Lb}{sk:Bool}{m:MS}(h:MX w B F L sk m){p:Nat}(hp:p<L.pr.length):∃(A2:OA) (c2 ab off:Nat),w.cell? ⟨F.mb,1,none⟩=some (.slice A2 L.pr.length c2)/\A2=some ⟨ab,off,none⟩/\ab<B/\w.cell? ⟨ab,off+p*3+1,none⟩=some (.int .i64 (L.prg p).first)/\w.cell? ⟨ab,off+p*3+2,none⟩=some (.int .i64 (L.prg p).stop)/\(0<=(L.prg p).first/\(L.prg p).first<=L.bl.length/\(L.prg p).stop<=L.bl.length)/\L.pr.length<=maxLen:=by
 obtain⟨A1,A2,A3,AC,c1,c2,c3,capc,xs,⟨_,d1,_⟩,hL,_⟩:=h.cells;obtain⟨_,hn2,_,hc⟩:=hL.pr;obtain⟨ab,off,rfl,hab,hd⟩:=hc (by omega);obtain⟨q,hx⟩:∃x,L.pr[p]? =some x:=⟨_,Gg hp⟩;obtain⟨e0,e1,e2⟩:=hd p q hx;have hq:L.prg p=q:=by unfold Lb.prg;rw[Gd,hx];rfl
 rw[hq];exact⟨_,c2,ab,off,d1,rfl,hab,e1,e2,h.fine.ok p q hx,hn2⟩
theorem I64.small{x:Int}(h1:0<=x)(h2:x<=100000):I64 x:=by unfold I64;omega
theorem qmZ{α:Type}{l:List α}{x:α}(h:l≠[]):l.set (l.length-1) x=l.dropLast++[x]:=by
 induction l with
 |nil=>exact absurd rfl h
 |cons y r ih=>
  rcases r with _|⟨z,r⟩
  ·rfl
  ·have:=ih (by simp);simpa using this
theorem qP(w:World)(B:Nat)(F:Fp)(L:Lb)(sk:Bool)(m:MS)(h:MX w B F L sk m):
 Calls Tryz.prog 38 #[.pointer (some ⟨F.mb,0,none⟩)] w (ziH B F L sk m w):=by
 have HX:=Hd h;obtain⟨A1,A2,A3,AC,c1,c2,c3,capc,xs,⟨_,d1,_,_,d4,d5,d6,d7,_,d9,_⟩,hL,ho,_,_,hfr⟩:=h.cells;have hmb:=h.lt;by_cases hn:m.calls.length=0
 ·have hnil:m.calls=[]:=Ez hn;have EJ:Hid (zbJ L m=({m with ended:=true},0)):=by unfold Hid zbJ;rw[hnil];rfl
  have f9:=hfr 9;rw[hn]at d6;clear h hL ho hfr hn hnil;go_enter func38,ntmps38;go_wp2_with fail;go_ret;refine⟨by rw[EJ.o];rfl,?_⟩;rw[EJ.o];exact MP.of HX.o.set_ended (aH _ _ _ _ _ F.own_mb)
 obtain⟨N,hN⟩:∃N,N=m.calls.length:=⟨_,rfl⟩;obtain⟨c,hc⟩:∃c,m.calls[N-1]? =some c:=⟨_,Gg (by omega)⟩;have hlast:m.calls.getLast? =some c:=by rw[List.getLast?_eq_getElem?,<-hN];exact hc
 obtain⟨g,cap,cur,A,cp,hac,hgb,hcap1,hcap2,hcur,hg1,hg2,hg3,e6,hcell,hfg,hargs,hbk,hlf⟩:=h.call hc;have hcl:=h.calls c (Mg hc);rw[d6]at e6;simp only[Oi,Vs,true_and]at e6;obtain⟨rfl,rfl⟩:=e6;have q0:=hcell 0 _ rfl;rw[Nat.add_zero]at q0;have q1:=hcell 1 _ rfl;have q2:=hcell 2 _ rfl;have q3:=hcell 3 _ rfl;have q4:=hcell 4 _ rfl;have q5:=hcell 5 _ rfl;rw[<-hN]at d6 hcap1;have hNp:0<N:=by omega
 have HN1:Hid (N=m.calls.length):=hN;have HLAST:=Hd hlast;have HC:=Hd hc;have hNm:N<=maxLen:=Ly hcap1 hcap2;unfold maxLen at hNm;have HAC:=Hd hac;have HARGS:=Hd hargs;have HG:=Hd hgb;have hglt:=hlS hgb;have fr5:=hfr 5;have fr6:=hfr 6;have fr4:=hfr 4;have frg:=hfg ((N-1)*6+3);have HFR:=Hd hfr;have HFG:=Hd hfg;clear h hL ho hfr hfg hn hN hlast hc hcell hac hargs hgb;have hset:∀x:Cl,m.calls.set (N-1) x=m.calls.dropLast++[x]:=λx=>by
  rw[HN1.o,qmZ];intro e;rw[e]at HN1;have:=HN1.o;simp at this;omega
 have HSET:=Hd hset;clear hset;obtain⟨prog,caller,back,left,args,lev⟩:=c;dsimp only at q0 q1 q2 q3 q4 q5 hcl hbk hlf;have hlf':=hlf;have hbk':=hbk;unfold I64 at hlf;rcases lev with _|_
 ·by_cases hl:0<left
  ·have g1:decide (left>0)=true:=Dt hl;obtain⟨W2,hW2⟩:∃W2,W2=w.setCell ⟨g,(N-1)*6+3,none⟩ (.int .i64 (left-1)):=⟨_,rfl⟩;have HX2:Hid (MX W2 B F L sk {m with calls:=m.calls.set (N-1) ⟨prog,caller,back,left-1,args,false⟩}):=by
    unfold Hid;rw[hW2];exact HX.o.less HC.o HAC.o (by unfold I64;omega) (by omega)
   have HC2:Hid ((m.calls.set (N-1) ⟨prog,caller,back,left-1,args,false⟩)[N-1]? =some ⟨prog,caller,back,left-1,args,false⟩):=by
    unfold Hid;rw[List.getElem?_set,Ip rfl,Ip (by have:=HN1.o;omega)]
   have HCH2:Hid (Chg F.own w W2):=by unfold Hid;rw[hW2];exact(Chg.refl _ _).trans (aH _ _ _ _ _ (Fp.own_ac HAC.o))
   obtain⟨g',cap',cur',A',cp',hac',hgb',_,_,_,hgm,_,_,_,hcell',hfg',hargs',_,_⟩:=HX2.o.call HC2.o;have hgg:g=g':=by have:=HAC.o.symm.trans hac';simpa using this
   subst hgg;have r0:=hcell' 0 _ rfl;rw[Nat.add_zero]at r0;have r4:=hcell' 4 _ rfl;have r5:=hcell' 5 _ rfl;have HAR:=Hd hargs';obtain⟨A2',c2',ab,off,k1,rfl,hab,k2,_,hfst,hpl⟩:=HX2.o.prog_cells hcl.1;unfold maxLen at hpl;dsimp only at r0 r4 r5 k1 k2;obtain⟨_,_,_,_,_,_,_,_,_,⟨_,_,_,_,_,k5,_,k7,_⟩,_,_,_,_,hfr2⟩:=HX2.o.cells;have f5:=hfr2 5;have hpr:=hcl.1;have HF1:Hid (I64 (L.prg prog).first):=I64.small hfst.1 (Int.le_trans hfst.2.1 (by have:=HX.o.fine.bl;omega));obtain⟨W3,hW3⟩:∃W3,W3=(W2.setCell ⟨F.mb,5,none⟩ (.int .i64 (L.prg prog).first)).drew:=⟨_,rfl⟩;have HX3:Hid (MX W3 B F L sk {m with calls:=m.calls.set (N-1) ⟨prog,caller,back,left-1,args,false⟩,pos:=(L.prg prog).first}):=by
    unfold Hid;rw[hW3];exact(HX2.o.set_pos HF1.o).below (aA (Bf _ _) 1)
   have HCH3:Hid (Chg F.own w W3):=by unfold Hid;rw[hW3];exact(HCH2.o.trans (aH _ _ _ _ _ F.own_mb)).trans (Chg.of_below (aA (Bf _ _) 1))
   have kg:W3.heap[g]? =W2.heap[g]? :=by rw[hW3];exact Bj W2 ⟨F.mb,5,none⟩ _ g (by show g≠F.mb;exact hgm)
   have s4:=(cekC g ((N-1)*6+4) kg).trans r4;have s5:=(cekC g ((N-1)*6+5) kg).trans r5;obtain⟨_,_,_,_,_,_,_,_,_,⟨_,_,_,_,_,_,_,s7,_⟩,_⟩:=HX3.o.cells;try dsimp only at s7
   have HS:=Hd hW3;have EJ:Hid (zbJ L m=({m with calls:=m.calls.set (N-1) ⟨prog,caller,back,left-1,args,false⟩,pos:=(L.prg prog).first},0)):=by
    unfold Hid zbJ;rw[HLAST.o,HSET.o];simp[hl]
   clear hcell' hfg' hargs' hac' hgb' hfst hfr2 hW3 r4 kg;go_enter func38,ntmps38;go_wp2_with fail;rw[<-hW2];clear hW2;go_region;rw[<-HS.o];clear k1 k2 k5 k7 r0 r5;go_wp2_with fail;go_ret;refine⟨by rw[EJ.o];rfl,?_⟩;rw[EJ.o];exact MP.of HX3.o HCH3.o
  ·have g1:decide (left>0)=false:=Df hl;obtain⟨W2,hW2⟩:∃W2,W2=((w.setCell ⟨F.mb,4,none⟩ (.int .i64 (caller:Nat))).setCell ⟨F.mb,5,none⟩ (.int .i64 back)).drew:=⟨_,rfl⟩;have HX2:Hid (MX W2 B F L sk {m with prog:=caller,pos:=back}):=by
    unfold Hid;rw[hW2];exact((HX.o.set_prog hcl.2.1).set_pos hbk').below (aA (Bf _ _) 1)
   have HCH2:Hid (Chg F.own w W2):=by unfold Hid;rw[hW2];exact(((Chg.refl _ _).trans (aH _ _ _ _ _ F.own_mb)).trans (aH _ _ _ _ _ F.own_mb)).trans (Chg.of_below (aA (Bf _ _) 1))
   have HC2:Hid (m.calls[N-1]? =some ⟨prog,caller,back,left,args,false⟩):=HC.o;obtain⟨g',cap',cur',A',cp',hac',_,zc,_,_,_,_,_,z6,_⟩:=HX2.o.call (i:=N-1) HC2.o;have hgg:g=g':=by have:=HAC.o.symm.trans hac';simpa using this
   subst hgg;obtain⟨_,_,_,_,_,_,_,_,_,⟨_,_,_,_,_,_,_,_⟩,_,_,_,_,hfr2⟩:=HX2.o.cells;have z6f:=hfr2 6;dsimp only at z6 zc;have HSH:=Hd (HX2.o.shut z6 (by have:=HN1.o;dsimp only;omega));rw[<-HN1.o]at z6 HSH zc;have EJ:Hid (zbJ L m=({m with prog:=caller,pos:=back,calls:=m.calls.dropLast},0)):=by
    unfold Hid zbJ;rw[HLAST.o];simp[hl]
   have HS:=Hd hW2;clear hfr2 hW2 hac';go_enter func38,ntmps38;go_wp2_with fail;go_region;rw[<-HS.o];go_wp2_with fail;go_ret;refine⟨by rw[EJ.o];rfl,?_⟩;rw[EJ.o];exact MP.of HSH.o (HCH2.o.trans (aH _ _ _ _ _ F.own_mb))
 ·have HPO:=Hd (quC w F.sb F.lb m.sto HX.o.sto);have HPM:Hid (∀w1,Sx w1 F.sb F.lb (zdN m.sto)->Chg (λg=>g=F.sb\/g=F.lb) w w1->MX w1 B F L sk {m with sto:=zdN m.sto}/\Chg F.own w w1/\w1.heap[g]? =w.heap[g]?/\w1.heap[F.mb]? =w.heap[F.mb]?):=λw1 hs1 hc1=>
   ⟨(HX.o.store hs1 HX.o.vf.pop (.inl rfl) hc1).2,vF hc1,hc1.block g hglt (by rintro(e|e)<;>contradiction),hc1.block F.mb hmb (by have:=HX.o.ne1;have:=HX.o.ne2;rintro(e|e)<;>contradiction)⟩
  by_cases hpop:zfJ m.sto=0
  case neg=>
   have g2:(zfJ m.sto !=0)=true:=by simpa using hpop
   have EJ:Hid (zbJ L m=(m,zfJ m.sto)):=by
    unfold Hid zbJ;rw[HLAST.o];simp[hpop]
   have hpx:Hid (zdN m.sto=m.sto):=by
    unfold Hid zdN;unfold zfJ at hpop;split
    ·rfl
    ·rename_i e;rw[Iq e]at hpop;exact absurd rfl hpop
   clear hpop;go_enter func38,ntmps38;go_wp2_with(go_at_call 58;refine HPO.o.mono ?_;rintro e w1 ⟨rfl,hs1,hc1,_⟩;have HM1:=Hd (HPM.o w1 hs1 hc1);clear hs1 hc1);go_ret;refine⟨by rw[EJ.o];rfl,?_⟩;rw[EJ.o];have:=HM1.o.1;rw[hpx.o]at this;exact MP.of this HM1.o.2.1
  have HPOP:=Hd hpop;have HPO2:Hid (Calls Tryz.prog 58 #[.pointer (some ⟨F.sb,0,none⟩)] w λe w1=>e=.returned (.int .i64 0)/\MX w1 B F L sk {m with sto:=zdN m.sto}/\Chg F.own w w1/\w1.heap[g]? =w.heap[g]?/\w1.heap[F.mb]? =w.heap[F.mb]?):=
   HPO.o.mono λe w1 h=>⟨by rw[h.1,HPOP.o],HPM.o w1 h.2.1 h.2.2.1⟩
  clear hpop HPO HPM;by_cases hl:0<left
  ·have g1:decide (left>0)=true:=Dt hl;go_enter func38,ntmps38;go_wp2_with(
    go_at_call 58
    refine HPO2.o.mono ?_
    rintro e w1 ⟨rfl,hx1,hch1,kg1,km1⟩
    have HX1:=Hd hx1
    have HCH1:=Hd hch1
    have d1':=(cekC F.mb 1 km1).trans d1
    have d4':=(cekC F.mb 4 km1).trans d4
    have d5':=(cekC F.mb 5 km1).trans d5
    have d6':=(cekC F.mb 6 km1).trans d6
    have d7':=(cekC F.mb 7 km1).trans d7
    have u1:=(cekC g ((N-1)*6+1) kg1).trans q1
    have u2:=(cekC g ((N-1)*6+2) kg1).trans q2
    have u3:=(cekC g ((N-1)*6+3) kg1).trans q3
    have v3:=(cekF g ((N-1)*6+3) kg1).trans frg
    have v4:=(cekF F.mb 4 km1).trans fr4
    have v5:=(cekF F.mb 5 km1).trans fr5
    clear hx1 hch1 kg1 km1
    obtain⟨W2,hW2⟩:∃W2,W2=w1.setCell ⟨g,(N-1)*6+3,none⟩ (.int .i64 (left-1)):=⟨_,rfl⟩
    have HX2:Hid (MX W2 B F L sk {{m with sto:=zdN m.sto}with calls:=m.calls.set (N-1) ⟨prog,caller,back,left-1,args,true⟩}):=by
     unfold Hid;rw[hW2];exact HX1.o.less HC.o HAC.o (by unfold I64;omega) (by omega)
    have HC2:Hid ((m.calls.set (N-1) ⟨prog,caller,back,left-1,args,true⟩)[N-1]? =some ⟨prog,caller,back,left-1,args,true⟩):=by
     unfold Hid;rw[List.getElem?_set,Ip rfl,Ip (by have:=HN1.o;omega)]
    have HCH2:Hid (Chg F.own w W2):=by unfold Hid;rw[hW2];exact HCH1.o.trans (aH _ _ _ _ _ (Fp.own_ac HAC.o))
    obtain⟨g',cap',cur',A',cp',hac',hgb',_,_,_,hgm,_,_,_,hcell',hfg',hargs',_,_⟩:=HX2.o.call HC2.o
    have hgg:g=g':=by have:=HAC.o.symm.trans hac';simpa using this
    subst hgg
    have r0:=hcell' 0 _ rfl
    rw[Nat.add_zero]at r0
    have r4:=hcell' 4 _ rfl
    have r5:=hcell' 5 _ rfl
    have HAR:=Hd hargs'
    obtain⟨A2',c2',ab,off,k1,rfl,hab,k2,_,hfst,hpl⟩:=HX2.o.prog_cells hcl.1
    unfold maxLen at hpl
    dsimp only at r0 r4 r5 k1 k2
    obtain⟨_,_,_,_,_,_,_,_,_,⟨_,_,_,_,_,k5,_,k7,_⟩,_,_,_,_,hfr2⟩:=HX2.o.cells
    have f5:=hfr2 5
    have hpr:=hcl.1
    have HF1:Hid (I64 (L.prg prog).first):=I64.small hfst.1 (Int.le_trans hfst.2.1 (by have:=HX.o.fine.bl;omega))
    obtain⟨W3,hW3⟩:∃W3,W3=(W2.setCell ⟨F.mb,5,none⟩ (.int .i64 (L.prg prog).first)).drew:=⟨_,rfl⟩
    have HX3:Hid (MX W3 B F L sk {{m with sto:=zdN m.sto}with calls:=m.calls.set (N-1) ⟨prog,caller,back,left-1,args,true⟩,pos:=(L.prg prog).first}):=by
     unfold Hid;rw[hW3];exact(HX2.o.set_pos HF1.o).below (aA (Bf _ _) 1)
    have HCH3:Hid (Chg F.own w W3):=by unfold Hid;rw[hW3];exact(HCH2.o.trans (aH _ _ _ _ _ F.own_mb)).trans (Chg.of_below (aA (Bf _ _) 1))
    have kg:W3.heap[g]? =W2.heap[g]? :=by rw[hW3];exact Bj W2 ⟨F.mb,5,none⟩ _ g (by show g≠F.mb;exact hgm)
    have s4:=(cekC g ((N-1)*6+4) kg).trans r4
    have s5:=(cekC g ((N-1)*6+5) kg).trans r5
    obtain⟨_,_,_,_,_,_,_,_,_,⟨_,_,_,_,_,_,_,s7,_⟩,_⟩:=HX3.o.cells
    try dsimp only at s7
    have HS:=Hd hW3
    have EJ:Hid (zbJ L m=({m with calls:=m.calls.set (N-1) ⟨prog,caller,back,left-1,args,true⟩,pos:=(L.prg prog).first,sto:=zbU (zdN m.sto) args},zcG (zdN m.sto) args)):=by
     unfold Hid zbJ
     rw[HLAST.o,HSET.o]
     simp[hl,HPOP.o]
    have HX3d:=Hd (HX3.o.below (aA (Bf _ _) 1))
    have HNM:Hid (F.mb<W3.drew.heap.size/\¬(F.mb=F.sb\/F.mb=F.lb)/\g<W3.drew.heap.size/\¬(g=F.sb\/g=F.lb)):=
     ⟨HX3d.o.lt,by have:=HX.o.ne1;have:=HX.o.ne2;rintro(e|e)<;>contradiction,(HX3d.o.own_ge g (Fp.own_ac HAC.o)).2,by rintro(e|e)<;>contradiction⟩
    have HPU:=Hd (qbY W3.drew F.sb F.lb (zdN m.sto) F.far A' args.length cp' args HX3d.o.sto (HAR.o.keep (by rw[hW3];simp[World.setCell,World.drew]) (λ_ _ q=>q) (λj hj hI=>by rw[hW3];exact Bj W2 ⟨F.mb,5,none⟩ _ j (by show j≠F.mb;exact λe=>hI.1 (.inl e)))) HX3d.o.tn)
    clear hcell' hfg' hargs' hac' hgb' hfst hfr2 hW3 r4 kg)
   rw[<-hW2];clear hW2;go_region;rw[<-HS.o];clear k1 k2 k5 k7 r0 r5;go_wp2_with fail;go_region_held3(λW=>W.cell? ⟨F.mb,7,none⟩=some (.pointer (some ⟨F.sb,0,none⟩))/\W.cell? ⟨g,(N-1)*6+4,none⟩=some (.slice A' args.length cp')) (first|exact⟨s7,s4⟩|exact⟨(cekC F.mb 7 (HC4.o.block _ HNM.o.1 HNM.o.2.1)).trans s7,(cekC g ((N-1)*6+4) (HC4.o.block _ HNM.o.2.2.1 HNM.o.2.2.2)).trans s4⟩|fail) (first|(go_at_call 59;refine HPU.o.mono ?_;rintro e w4 ⟨rfl,lb4,hlb4,hs4,hc4⟩;have HS4:=Hd hs4;have HL4:=Hd hlb4;have HC4:=Hd hc4;clear hs4 hlb4 hc4));go_wp2_with fail;go_ret;refine⟨by rw[EJ.o];rfl,?_⟩;rw[EJ.o];obtain⟨y1,y2⟩:=HX3d.o.store HS4.o (HX3.o.vf.push _) HL4.o HC4.o;exact MP.then (HCH3.o.trans (Chg.of_below (aA (Bf _ _) 1))) ⟨_,y1,y2,vF HC4.o⟩
  ·have g1:decide (left>0)=false:=Df hl;go_enter func38,ntmps38;go_wp2_with(
    go_at_call 58
    refine HPO2.o.mono ?_
    rintro e w1 ⟨rfl,hx1,hch1,kg1,km1⟩
    have HX1:=Hd hx1
    have HCH1:=Hd hch1
    have d1':=(cekC F.mb 1 km1).trans d1
    have d4':=(cekC F.mb 4 km1).trans d4
    have d5':=(cekC F.mb 5 km1).trans d5
    have d6':=(cekC F.mb 6 km1).trans d6
    have d7':=(cekC F.mb 7 km1).trans d7
    have u1:=(cekC g ((N-1)*6+1) kg1).trans q1
    have u2:=(cekC g ((N-1)*6+2) kg1).trans q2
    have u3:=(cekC g ((N-1)*6+3) kg1).trans q3
    have v3:=(cekF g ((N-1)*6+3) kg1).trans frg
    have v4:=(cekF F.mb 4 km1).trans fr4
    have v5:=(cekF F.mb 5 km1).trans fr5
    clear hx1 hch1 kg1 km1
    obtain⟨W2,hW2⟩:∃W2,W2=((w1.setCell ⟨F.mb,4,none⟩ (.int .i64 (caller:Nat))).setCell ⟨F.mb,5,none⟩ (.int .i64 back)).drew:=⟨_,rfl⟩
    have HX2:Hid (MX W2 B F L sk {{m with sto:=zdN m.sto}with prog:=caller,pos:=back}):=by
     unfold Hid;rw[hW2];exact((HX1.o.set_prog hcl.2.1).set_pos hbk').below (aA (Bf _ _) 1)
    have HCH2:Hid (Chg F.own w W2):=by unfold Hid;rw[hW2];exact((HCH1.o.trans (aH _ _ _ _ _ F.own_mb)).trans (aH _ _ _ _ _ F.own_mb)).trans (Chg.of_below (aA (Bf _ _) 1))
    have HC2:Hid (m.calls[N-1]? =some ⟨prog,caller,back,left,args,true⟩):=HC.o
    obtain⟨g',cap',cur',A',cp',hac',_,zc,_,_,_,_,_,z6,_⟩:=HX2.o.call (i:=N-1) HC2.o
    have hgg:g=g':=by have:=HAC.o.symm.trans hac';simpa using this
    subst hgg
    obtain⟨_,_,_,_,_,_,_,_,_,⟨_,_,_,_,_,_,_,_⟩,_,_,_,_,hfr2⟩:=HX2.o.cells
    have z6f:=hfr2 6
    dsimp only at z6 zc
    have HSH:=Hd (HX2.o.shut z6 (by have:=HN1.o;dsimp only;omega))
    rw[<-HN1.o]at z6 HSH zc
    have EJ:Hid (zbJ L m=({m with prog:=caller,pos:=back,calls:=m.calls.dropLast,sto:=zdN m.sto},0)):=by
     unfold Hid zbJ
     rw[HLAST.o]
     simp[hl,HPOP.o]
    have HS:=Hd hW2
    clear hfr2 hW2 hac')
   go_region;rw[<-HS.o];go_wp2_with fail;go_ret;refine⟨by rw[EJ.o];rfl,?_⟩;rw[EJ.o];exact MP.of HSH.o (HCH2.o.trans (aH _ _ _ _ _ F.own_mb))
