/- The contract. -/
import Derived.Test.YtdcjbhdfphcefaaGreatDoorRbl
import Derived.Test.YtdcjbhdfphcefaaGreatDoorNm
namespace Go.Proofs.YtdcjbhdfphcefaaGreatDoor
set_option linter.all false
set_option maxRecDepth 100000
set_option maxHeartbeats 40000000
open Go.Proofs.Tryz
open Go.RowKit
theorem qvV(l:LI)(f g:Int×Int->Bool):(l.any λv=>f v||g v)=(l.any f||l.any g):=by
 induction l with
 |nil=>rfl
 |cons x r ih=>simp only[List.any_cons,ih];rcases f x<;>rcases g x<;>simp
theorem qkP(L:Lb)(sk:Bool)(m:MS)(b:Bk){l:LI}(h:(zbK L sk m b).2.1=some l):(zbK L sk m b).1={m with pos:=m.pos+1,ended:=m.ended||l.any λv=>isC v 77 2||isC v 77 30}:=by
 unfold zbK at h⊢
 dsimp only at h⊢
 repeat' split at h
 all_goals first|cases h|skip
 rename_i q1 q2 q3 q4 q5 q6;rw[Iq q1,Iq q2,Iq q3,Iq q4,Iq q5,Ip q6];unfold zbT at h⊢
 dsimp only at h⊢
 repeat' split at h
 all_goals first|cases h|skip
 rename_i p1 p2 p3 p4 p5;rw[Iq p1,Iq p2,Iq p3,Iq p4,Iq p5]
theorem QP.err_cell{B:Nat}{F:Fp}{L:Lb}{sk:Bool}{m':MS}{w w':World}(k:QP B F L sk m' w w'):w'.cell? ⟨F.mb,10,none⟩=some (.int .i64 m'.err)/\w'.frozen? ⟨F.mb,10,none⟩=false:=by
 obtain⟨F',k1,k2,k3⟩:=k;obtain⟨A1,A2,A3,AC,c1,c2,c3,capc,xs,⟨-,-,-,-,-,-,-,-,-,-,d10⟩,-,-,hfr⟩:=k2.cells;rw[k1.mb]at d10 hfr;exact⟨d10,hfr 10⟩
theorem QP.set_err{B:Nat}{F:Fp}{L:Lb}{sk:Bool}{m':MS}{w w':World}{t:Int}(k:QP B F L sk m' w w'):QP B F L sk {m' with err:=t} w (w'.setCell ⟨F.mb,10,none⟩ (.int .i64 t)):=by
 obtain⟨F',k1,k2,k3⟩:=k;have q:=k2.set_err (t:=t);rw[k1.mb]at q;exact⟨F',k1,q,k3.trans (aH _ _ _ _ _ F.own_mb)⟩
structure RnR(w W0:World)(B:Nat)(F:Fp)(L:Lb)(sk:Bool)(m:MS)(gk:Nat)(cur:MS)(F':Fp)(W:World):Prop where
 rest:zeB cur<=gk
 next:zcY L sk m=zfZ L sk gk cur
 mv:Mv W0 {F with av:=w.heap.size::F.av} F'
 mx:QX W B F' L sk cur
 chg:Chg F.own W0 W
 rj:cur.err=0->RJ cur
 st:W.heap[w.heap.size]? =some (.cells zcT 40 (0,0))
theorem RnR.pos{w W0 W:World}{B:Nat}{F F':Fp}{L:Lb}{sk:Bool}{m cur:MS}{gk:Nat}(h:RnR w W0 B F L sk m gk cur F' W):∃k,gk=k+1:=⟨gk-1,by have:=h.rest;have:=oQ cur;omega⟩
theorem RnR.done{w W0 W:World}{B:Nat}{F F':Fp}{L:Lb}{sk:Bool}{m cur cur2:MS}{gk:Nat}{r:Stp×Int}(h:RnR w W0 B F L sk m (gk+1) cur F' W)(hr:zbZ L sk cur=(cur2,some r)):zcY L sk m=(cur2,r):=by
 rw[h.next,aY,hr]
theorem RnR.go{w W0 W W2:World}{B:Nat}{F F' F2:Fp}{L:Lb}{sk:Bool}{m cur cur2:MS}{gk:Nat}(h:RnR w W0 B F L sk m (gk+1) cur F' W)(hr:zbZ L sk cur=(cur2,none))(k1:Mv W F' F2)(k2:QX W2 B F2 L sk cur2)(k3:Chg F'.own W W2):RnR w W0 B F L sk m gk cur2 F2 W2:=by
 have hst:=hlS h.st;refine⟨?_,?_,h.mv.trans k1 h.chg.size,k2,?_,?_,(k3.block _ hst λho=>(h.mx.av w.heap.size (by rw[h.mv.av];exact Mu)).2.1 ho).trans h.st⟩
 ·have:=nF L sk cur h.mx.steps (by rw[hr]);rw[hr]at this;have:=h.rest;dsimp only at*
  omega
 ·rw[h.next,aY,hr]
 ·exact⟨k3.os.trans h.chg.os,k3.tape.trans h.chg.tape,k3.output.trans h.chg.output,Ly h.chg.size k3.size,λg hg ho=>(k3.block g (Lt hg h.chg.size) λe=>ho (h.mv.own g hg e)).trans (h.chg.block g hg ho)⟩
 ·have:=qnF h.mx.fine h.mx.mated h.rj sk;rw[hr]at this;exact this
def zlP(B:Nat)(F:Fp)(L:Lb)(sk:Bool)(m':MS)(n1:Nat)(w w':World):Prop:=w.heap.size<=n1/\(m'.err=0->RJ m')/\∃F',(∀g,F'.own g->g<n1)/\Mv w F F'/\QX w' B F' L sk m'/\Chg F.own w w'
def zjF(B:Nat)(F:Fp)(L:Lb)(sk:Bool)(m:MS)(w:World)(e:Ending)(w':World):Prop:=
 ∃(A:OA) (c n1:Nat),e=.returned (.tuple #[.agg #[.int .i64 (zcY L sk m).2.1.1,.int .i64 (zcY L sk m).2.1.2.1,.slice A (zcY L sk m).2.1.2.2.length c],.int .i64 (zcY L sk m).2.2])/\RdV w' (λg=>n1<=g) A (zcY L sk m).2.1.2.2.length (zcY L sk m).2.1.2.2/\zlP B F L sk (zcY L sk m).1 n1 w w'
theorem RnR.fin{w W0 W W':World}{B:Nat}{F F':Fp}{L:Lb}{sk:Bool}{m cur cur2:MS}{gk:Nat}(h:RnR w W0 B F L sk m gk cur F' W)(hb:Bw w W0){n1:Nat}(hn:w.heap.size<=n1)(hn1:∀g,F'.own g->g<n1){W2:World}(hx:QX W2 B F' L sk cur2)(hj:cur2.err=0->RJ cur2)(h2:Chg F'.own W W2)(hc:Chg (λg=>g=w.heap.size) W2 W'):zlP B F L sk cur2 n1 w W':=by
 have hav:=h.mv.av;refine⟨hn,hj,{F' with av:=F.av},hn1,⟨h.mv.mb,h.mv.sb,rfl,?_,?_⟩,hx.keep hc.size (λg hg hn=>hc.block g hg λe=>hn (by rw[hav,e];exact Mu)) F.av (λx hx2=> ?_),?_⟩
 ·rcases h.mv.lb with e|e
  ·exact .inl e
  ·exact .inr (Ly hb.size e)
 ·rcases h.mv.ac with e|⟨g,e,e2⟩
  ·exact .inl e
  ·exact .inr ⟨g,e,Ly hb.size e2⟩
 ·have hm:x∈F'.av:=by rw[hav];exact Mm _ hx2
  have:=hx.av x hm;exact⟨this.1,Lt this.2.2 hc.size,.inl hm⟩
 ·have s1:=hb.size;have s2:=h.chg.size;have s3:=h2.size;refine⟨((hc.os.trans h2.os).trans h.chg.os).trans hb.os,((hc.tape.trans h2.tape).trans h.chg.tape).trans hb.tape,((hc.output.trans h2.output).trans h.chg.output).trans hb.output,by have:=hc.size;omega,λg hg ho=> ?_⟩;exact(hc.block g (by omega) (by omega)).trans ((h2.block g (by omega) λk=>ho (h.mv.own g (by omega) k)).trans ((h.chg.block g (by omega) ho).trans (hb.block g hg)))
theorem qjH(w:World)(B:Nat)(F:Fp)(L:Lb)(sk:Bool)(m:MS)(h:QX w B F L sk m)(hj:m.err=0->RJ m):
 Calls prog 43 #[.pointer (some ⟨F.mb,0,none⟩)] w (zjF B F L sk m w):=by
 have HX:=Hd h;have hmb:=h.lt;obtain⟨W0,hW0⟩:∃W0,W0=w.alloc (.cells zcT 40):=⟨_,rfl⟩;have HB0:Hid (Bw w W0):=by unfold Hid;rw[hW0];exact nB _ _
 have h0:W0.heap[w.heap.size]? =some (.cells zcT 40 (0,0)):=by rw[hW0];exact Hn w _
 have hsz:w.heap.size<W0.heap.size:=hlS h0;have HSZ:=Hd hsz;have HR0:Hid (RnR w W0 B F L sk m (zeB m) m {F with av:=w.heap.size::F.av} W0):=
  ⟨Le _,rfl,Mv.refl _ _,h.keep HB0.o.size (λg hg _=>HB0.o.block g hg) _ (λx hx=>by
   rcases List.mem_cons.1 hx with q|q
   ·rw[q];exact⟨h.Ble,hsz,.inr (Le _)⟩
   ·have:=h.av x q;exact⟨this.1,Lt this.2.2 HB0.o.size,.inl q⟩),Chg.refl _ _,hj,h0⟩
 have HW0:Hid (W0=w.alloc (.cells #[.int .i64 0,.int .i64 0,.slice none 0 0] 40)):=hW0;clear hW0 h0 h hsz hj;go_enter func43,ntmps43;go_wp2_with fail;rw[<-HW0.o];go_loopg[4] (zeB m) (λgk fv W=>∃(cur:MS) (F':Fp),RnR w W0 B F L sk m gk cur F' W)
 case atStart=>exact⟨m,_,HR0.o⟩
 case round=>
  obtain⟨cur,F',hR⟩:=hrel;obtain⟨gk',hgk⟩:=hR.pos;subst hgk;have HR:=Hd hR;have hst:=hR.st;have hmbe:F'.mb=F.mb:=hR.mv.mb;have hxc:=hR.mx;have HST:=Hd hst;obtain⟨A1,A2,A3,AC,c1,c2,c3,capc,xs,⟨d0,d1,-,-,d4,d5,-,-,d8,d9,d10⟩,hL,-,hfr⟩:=hxc.cells;have hmw:=hxc.lt;have hsteps:=hxc.steps;have hprog:=hxc.prog;rw[hmbe]at d0 d1 d4 d5 d8 d9 d10 hfr hmw;have s0:wr.cell? ⟨w.heap.size,0,none⟩=some (.int .i64 0):=Ro wr _ 0 _ _ _ hst;have s1:wr.cell? ⟨w.heap.size,1,none⟩=some (.int .i64 0):=Ro wr _ 1 _ _ _ hst;have s2:wr.cell? ⟨w.heap.size,2,none⟩=some (.slice none 0 0):=Ro wr _ 2 _ _ _ hst;have sf:∀i,wr.frozen? ⟨w.heap.size,i,none⟩=false:=λi=>by simp[World.frozen?,hst]
  have HOL:Hid (∀g,F'.own g->g<wr.heap.size):=λg hg=>(hxc.own_ge g hg).2;have HWS:Hid (w.heap.size<=wr.heap.size):=Ly HB0.o.size hR.chg.size;clear hR hst hxc d1;by_cases he:cur.err=0
  case neg=>
   have he':(cur.err !=0)=true:=by simpa using he
   have ER:Hid (zcY L sk m=(cur,(0,0,[]),cur.err)):=HR.o.done (by rw[bM,Ip he]);clear he;go_wp2_with fail;go_region;go_wp2_with fail;try rw[Exit.noGoto_ret]
   refine bodyPost_ret (dD rfl _ _ w.heap.size _ _ _ _ rfl (show(World.heap _)[_]? =_ from aS HST.o) underlying40 zbL) rfl ?_;refine⟨none,0,wr.heap.size,by rw[ER.o];rfl,by rw[ER.o];exact rW _ _ _,?_⟩;rw[ER.o];exact HR.o.fin HB0.o HWS.o HOL.o HR.o.mx HR.o.rj (Chg.refl _ _) ((aV _ _ _).trans (Chg.of_below (aA (Bf _ _) 1)))
  by_cases hn:cur.ended=true
  ·rw[hn]at d9;have he':(cur.err !=0)=false:=by simpa using he
   have ER:Hid (zcY L sk m=(cur,(2,0,[]),0)):=HR.o.done (by rw[bM,Iq (by simpa using he),Ip hn]);clear he hn;go_wp2_with fail;try rw[Exit.noGoto_ret]
   refine bodyPost_ret (dD rfl _ _ w.heap.size _ _ _ _ rfl (aS HST.o) underlying40 zbL) rfl ?_;refine⟨none,0,wr.heap.size,by rw[ER.o];rfl,by rw[ER.o];exact rW _ _ _,?_⟩;rw[ER.o];exact HR.o.fin HB0.o HWS.o HOL.o HR.o.mx HR.o.rj (Chg.refl _ _) (aV _ _ _)
  have hn0:cur.ended=false:=by simpa using hn
  clear hn;have hn:=hn0;clear hn0;rw[hn]at d9;have he':(cur.err !=0)=false:=by simpa using he
  by_cases h2:cur.steps=20000
  ·have h2':(cur.steps==20000)=true:=by simpa using h2
   have ER:Hid (zbZ L sk cur=({cur with err:=10},none)):=by unfold Hid;rw[bM,Iq (by simpa using he),hn];simp[h2]
   have f10:=hfr 10;clear he hn h2;go_wp2_with fail;have HXE:=HR.o.mx.set_err (t:=10);rw[hmbe]at HXE;have HCE:Chg F'.own wr (wr.setCell ⟨F.mb,10,none⟩ (.int .i64 10)):=aH _ _ _ _ _ (by rw[<-hmbe];exact F'.own_mb);go_roundg gk'
   case measure=>omega
   case rel=>exact⟨_,_,HR.o.go ER.o (Mv.refl _ _) HXE HCE⟩
  have h2':(cur.steps==20000)=false:=by simpa using h2
  have ER0:Hid (zbZ L sk cur=zeL L sk {cur with steps:=cur.steps+1}):=by unfold Hid;rw[bM,Iq (by simpa using he),hn];simp[h2]
  obtain⟨W1,hW1⟩:∃W1,W1=wr.setCell ⟨F.mb,8,none⟩ (.int .i64 (cur.steps+1)):=⟨_,rfl⟩;have hx1:QX W1 B F' L sk {cur with steps:=cur.steps+1}:=by
   have q:=HR.o.mx.set_steps (t:=cur.steps+1) (by omega);rw[hmbe,<-hW1]at q;exact q
  have HX1:=Hd hx1;have HC1:Hid (Chg F'.own wr W1):=by unfold Hid;rw[hW1];exact aH _ _ _ _ _ (by rw[<-hmbe];exact F'.own_mb)
  have HCE:=Hd he;have hrj:=HR.o.rj he;have HJ1:Hid (RJ {cur with steps:=cur.steps+1}):=⟨hrj.lev,hrj.args,hrj.pos,hrj.back,hrj.few⟩;obtain⟨m1,hm1⟩:∃m1:MS,m1={cur with steps:=cur.steps+1}:=⟨_,rfl⟩;rw[<-hm1]at ER0 HX1 HJ1 hx1;have hpe:m1.prog=cur.prog:=by rw[hm1]
  have hpp:m1.pos=cur.pos:=by rw[hm1]
  have hee:m1.err=0:=by rw[hm1];exact he
  have hne:m1.ended=false:=by rw[hm1];exact hn
  have HEE:=Hd hee;have HNE:=Hd hne;have hpos:=HJ1.o.pos;obtain⟨B1,B2,B3,BC,b1,b2,b3,bapc,bxs,⟨x0,-,-,-,x4,x5,-,-,-,-,x10⟩,xL,-,xfr⟩:=hx1.cells;obtain⟨Az,cz,abz,offz,z1,hAz,habz,-,z2,zply⟩:=hx1.prog_cells hx1.prog;subst hAz;unfold maxLen at zply;rw[hmbe]at x0 x4 x5 x10 xfr z1;have HXL:=Hd xL;have f8:=hfr 8;have x10f:=xfr 10;have zpr:(m1.prog:Int)<(L.pr.length:Int):=by have:=hx1.prog;omega
  have zp0:(0:Int)<=(m1.prog:Int):=by omega
  have HPOK:=nH hx1.fine m1.prog;have HSZ1:Hid (wr.heap.size=W1.heap.size):=by unfold Hid;rw[hW1];simp[World.setCell]
  have hsw:IntKind.i64.wrap (cur.steps+1)=cur.steps+1:=IntWalk.i64_in _ (by omega);have hmw1:F.mb<W1.heap.size:=by have:=HSZ1.o;omega
  clear hx1 xL hrj he hm1 hpe hpp hee hne hn;by_cases hst:(L.prg m1.prog).stop<=m1.pos
  ·have g1:decide (m1.pos≥(L.prg m1.prog).stop)=true:=Dt hst;have ER:Hid (zbZ L sk cur=({(zbJ L m1).1 with err:=0},none)):=by
    unfold Hid;rw[ER0.o];unfold zeL;rw[Ip (.inr hst),(jU HX1.o.fine HJ1.o).2]
   have ELE:Hid ({(zbJ L m1).1 with err:=0}=(zbJ L m1).1):=by
    unfold Hid;have e:(zbJ L m1).1.err=m1.err:=by
     unfold zbJ;split
     ·rfl
     split
     ·rfl
     dsimp only;split<;>rfl
    rw[HEE.o]at e;rw[<-e]
   have HBK:=Hd (λk=>xC (W1.drewN k) B F' L sk m1 (HX1.o.below (aA (Bf _ _) k)) HJ1.o);rw[hmbe]at HBK;clear hst;go_upto_region 8 with(fail)
   rw[<-hW1];clear hW1;go_quiet(fail);go_wp2_with(go_at_call 69;refine(HBK.o _).mono ?_;rintro e w4 ⟨rfl,hq4⟩;have HQ4:=Hd hq4;clear hq4);obtain⟨F2,r1,r2,r3⟩:=HQ4.o;have hch:Chg F'.own wr w4:=(HC1.o.trans (Chg.of_below (aA (Bf _ _) _))).trans r3;go_roundg gk'
   case measure=>omega
   case rel=>exact⟨_,F2,HR.o.go ER.o ⟨r1.mb,r1.sb,r1.av,by rcases r1.lb with q|q;exact .inl q;exact .inr (by rw[HSZ1.o];exact q),by rcases r1.ac with q|⟨g,q,q2⟩;exact .inl q;exact .inr ⟨g,q,by rw[HSZ1.o];exact q2⟩⟩ (by rw[ELE.o];exact r2) hch⟩
  ·have g1:decide (m1.pos≥(L.prg m1.prog).stop)=false:=Df hst;have hlt:m1.pos.toNat<L.bl.length:=by omega
   obtain⟨b,hb⟩:∃b,L.bl[m1.pos.toNat]? =some b:=⟨_,Gg hlt⟩;have hbk:L.blk m1.pos.toNat=b:=by unfold Lb.blk;rw[Gd,hb];rfl
   have ERS:Hid (∀l,(zbK L sk m1 b).2.1=some l->(zbK L sk m1 b).2.2=0->zbZ L sk cur=({(zbK L sk m1 b).1 with err:=0},some ((1,m1.pos,l),0))):=λl h1 h2=>by
    rw[ER0.o];unfold zeL;rw[Iq (by have:=hpos.1;omega),hbk];simp only[h1,h2,if_true]
   have ERN:Hid ((zbK L sk m1 b).2.1=none->zbZ L sk cur=({(zbK L sk m1 b).1 with err:=(zbK L sk m1 b).2.2},none)):=λh1=>by
    rw[ER0.o];unfold zeL;rw[Iq (by have:=hpos.1;omega),hbk];simp only[h1]
   obtain⟨hl1,hl2,hl3⟩:=HXL.o.bl;obtain⟨bab,boff,rfl,hbab,hbd⟩:=hl3 (by omega);obtain⟨A,kk,kc,l0,l1,l2,y0,y1,y2,hrb,v0,v1,v2,v3,v4,v5,v6,v7,v8,v9,v10⟩:=(hbd _ b hb).cells;obtain⟨lo,ln,lA,lk,lc,rfl,rfl,rfl⟩:=hrb.left.shape;obtain⟨xo,xn,xA,xk,xc,rfl,rfl,rfl⟩:=hrb.x.shape;obtain⟨P,hP⟩:∃P:Nat,m1.pos=(P:Int):=⟨m1.pos.toNat,(Int.toNat_of_nonneg hpos.1).symm⟩;have hPn:m1.pos.toNat=P:=by rw[hP];rfl
   rw[hPn]at v0 v1 v2 v3 v4 v5 v6 v7 v8 v9 v10;have HXB:Hid (∀W,Bw W1 W->Calls prog 70 #[.pointer (some ⟨F.mb,0,none⟩),.agg ⟨zaW b A kk kc (.int .i64 lo) (.int .i64 ln) (.slice lA lk lc) (.int .i64 xo) (.int .i64 xn) (.slice xA xk xc)⟩] W λe w'=>∃s4 s5 s6,e=.returned (.tuple #[s4,s5,s6])/\zcJ B F' L sk m1 (zbK L sk m1 b) W1 (.returned (.tuple #[s4,s5,s6])) w'):=λW hW=>by
    have q:=qeX W B F' L sk m1 b A kk kc _ _ _ _ _ _ (HX1.o.below hW) HJ1.o hb (hrb.keep (λp hp=>hW.cell (Lt hp HX1.o.Ble)) (Le _));rw[hmbe]at q;refine q.mono ?_;intro e w' hq;have hu:=zcJ.up hq hW;rcases hq with⟨l,C,cp,h1,h2,rfl,_⟩|⟨h1,rfl,_⟩
    ·exact⟨_,_,_,rfl,hu⟩
    ·exact⟨_,_,_,rfl,hu⟩
   unfold zaW at HXB;have i0:(0:Int)<=(P:Int):=by omega
   have i1:(P:Int)<(L.bl.length:Int):=by omega
   have HPP:=Hd hP;unfold maxLen at hl2;rw[hP]at x5 g1;have HRJ:Hid (RJ (zbK L sk m1 b).1):=qrD HX1.o.fine HX1.o.mated HJ1.o sk hb;clear hst hb hbk hl3 hbd hrb hPn;go_upto_region 8 with(fail)
   rw[<-hW1];clear hW1;go_quiet(fail);go_upto_region 10 with(fail)
   have HBQ:Hid (Bw W1 (World.drewN W1 nq)):=aA (Bf _ _) nq;have hq0:∀p,(World.drewN W1 nq).cell? p=W1.cell? p:=λp=>rfl;obtain⟨W2,hW2⟩:∃W2,W2=World.drewN W1 nq:=⟨_,rfl⟩;rw[<-hW2]at HBQ hq0⊢
   have k0:=(hq0 ⟨F.mb,0,none⟩).trans x0;have k5:=(hq0 ⟨F.mb,5,none⟩).trans x5;have r0:=(hq0 ⟨bab,boff+P*11,none⟩).trans v0;have r1:=(hq0 ⟨bab,boff+P*11+1,none⟩).trans v1;have r2:=(hq0 ⟨bab,boff+P*11+2,none⟩).trans v2;have r3:=(hq0 ⟨bab,boff+P*11+3,none⟩).trans v3;have r4:=(hq0 ⟨bab,boff+P*11+4,none⟩).trans v4;have r5:=(hq0 ⟨bab,boff+P*11+5,none⟩).trans v5;have r6:=(hq0 ⟨bab,boff+P*11+6,none⟩).trans v6;have r7:=(hq0 ⟨bab,boff+P*11+7,none⟩).trans v7;have r8:=(hq0 ⟨bab,boff+P*11+8,none⟩).trans v8;have r9:=(hq0 ⟨bab,boff+P*11+9,none⟩).trans v9;have r10:=(hq0 ⟨bab,boff+P*11+10,none⟩).trans v10;clear hq0 hW2 v0 v1 v2 v3 v4 v5 v6 v7 v8 v9 v10 x0 x5;rcases hox:(zbK L sk m1 b).2.1 with _|l
   ·have ER:=Hd (ERN.o hox);have HXC:Hid (Calls prog 70 #[.pointer (some ⟨F.mb,0,none⟩),.agg #[.int .i64 b.kind,.int .i64 b.label,.bool b.skip,.slice A kk kc,.int .i64 lo,.int .i64 ln,.slice lA lk lc,.int .i64 xo,.int .i64 xn,.slice xA xk xc,.int .i64 b.n]] W2.drew λe w'=>e=.returned (.tuple #[.slice none 0 0,.bool false,.int .i64 (zbK L sk m1 b).2.2])/\Hid (QP B F' L sk (zbK L sk m1 b).1 W1 w')):=(HXB.o W2.drew (aA HBQ.o 1)).mono (by
     rintro e w' ⟨s4,s5,s6,rfl,hq⟩
     rcases hq with⟨l,C,cp,h1,_⟩|⟨h1,h2,h3⟩
     ·rw[hox]at h1;cases h1
     ·exact⟨h2,h3⟩)
    clear HXB hox;generalize(zbK L sk m1 b).2.2=er at*
    go_region_with(go_at_call 70;with_reducible refine HXC.o.mono ?_;rintro e w4 ⟨rfl,hq⟩;have y10:=hq.o.err_cell.1;have y10f:=hq.o.err_cell.2;rw[hmbe]at y10 y10f);all_goals
     go_wp2_with fail;have q4:=hq.o.set_err (t:=er);rw[hmbe]at q4;obtain⟨F2,r1,r2,r3⟩:=q4;go_roundg gk'
     case measure=>omega
     case rel=>exact⟨_,F2,HR.o.go ER.o ⟨r1.mb,r1.sb,r1.av,by rcases r1.lb with q|q;exact .inl q;exact .inr (by rw[HSZ1.o];exact q),by rcases r1.ac with q|⟨g,q,q2⟩;exact .inl q;exact .inr ⟨g,q,by rw[HSZ1.o];exact q2⟩⟩ r2 (HC1.o.trans r3)⟩
   ·have ET:=Hd (qkP L sk m1 b hox);have EOX:=Hd (λh2=>HR.o.done (ERS.o l hox h2));have HXC:Hid (Calls prog 70 #[.pointer (some ⟨F.mb,0,none⟩),.agg #[.int .i64 b.kind,.int .i64 b.label,.bool b.skip,.slice A kk kc,.int .i64 lo,.int .i64 ln,.slice lA lk lc,.int .i64 xo,.int .i64 xn,.slice xA xk xc,.int .i64 b.n]] W2.drew λe w'=>∃(C:OA) (cp:Nat),e=.returned (.tuple #[.slice C l.length cp,.bool true,.int .i64 0])/\Hid ((zbK L sk m1 b).2.2=0/\RdV w' (λg=>W1.heap.size<=g) C l.length l/\Bw W1 w')):=(HXB.o W2.drew (aA HBQ.o 1)).mono (by
     rintro e w' ⟨s4,s5,s6,rfl,hq⟩
     rcases hq with⟨l',C,cp,h1,h2,h3,h4,h5,h6⟩|⟨h1,h2,h3⟩
     ·rw[hox]at h1;cases h1
      exact⟨C,cp,h3,h2,h4,h6⟩
     ·rw[hox]at h1;cases h1)
    obtain⟨_,_,_,_,_,_,_,_,_,⟨-,-,-,-,-,w5,-,-,-,w9',-⟩,-,-,wfr⟩:=HX1.o.cells;rw[hmbe]at w5 w9' wfr;have hsl:=hlS HST.o;have HST1:Hid (W1.heap[w.heap.size]? =some (.cells zcT 40 (0,0))):=(HC1.o.block _ hsl λho=>(HR.o.mx.av w.heap.size (by rw[HR.o.mv.av];exact Mu)).2.1 ho).trans HST.o;have hsl1:=hlS HST1.o;have W5F:=wfr 5;have W9F:=wfr 9;have hwP:IntKind.i64.wrap ((P:Int)+1)=(P:Int)+1:=IntWalk.i64_in _ (by have:=HPP.o;omega);have hnm:F.mb≠w.heap.size:=Nat.ne_of_lt hmb;have hnm2:w.heap.size≠F.mb:=Ne.symm hnm;clear HXB hox wfr;go_region_with(go_at_call 70;with_reducible refine HXC.o.mono ?_;rintro e w4 ⟨C,cp,rfl,hq⟩;have y10:=hq.o.2.2.ct hmw1 x10;have y10f:=(cekF F.mb 10 (hq.o.2.2.block _ hmw1)).trans x10f;have y5:=hq.o.2.2.ct hmw1 w5;have y5f:=(cekF F.mb 5 (hq.o.2.2.block _ hmw1)).trans W5F);all_goals
     have ER:=Hd (EOX.o hq.o.1);rw[HPP.o]at y5;go_upto_region 15 with(fail)
     obtain⟨W5,hW5⟩:∃W5,W5=(w4.setCell ⟨F.mb,10,none⟩ (.int .i64 0)).setCell ⟨F.mb,5,none⟩ (.int .i64 ((P:Int)+1)):=⟨_,rfl⟩;rw[<-hW5];have hx5:QX W5 B F' L sk {{m1 with err:=0}with pos:=m1.pos+1}:=by
      have q:=((HX1.o.below hq.o.2.2).set_err (t:=0)).set_pos (t:=m1.pos+1) (by have:=HPP.o;unfold I64;omega);rw[hmbe,HPP.o,<-hW5]at q;rw[HPP.o];exact q
     have HX5:=Hd hx5;have hC5:Chg (λg=>g=F.mb) w4 W5:=by rw[hW5];exact(aH w4 F.mb 10 _ (λg=>g=F.mb) rfl).trans (aH _ F.mb 5 _ (λg=>g=F.mb) rfl)
     have HC5:=Hd hC5;have HQW:=Hd hq.o.2.2;have HRV5:Hid (RdV W5 (λg=>W1.heap.size<=g) C l.length l):=hq.o.2.1.keep hC5.size (λ_ _ z=>z) λg hg hi=>hC5.block g hg (by omega);have HST5:Hid (W5.heap[w.heap.size]? =some (.cells zcT 40 (0,0))):=(hC5.block _ (Lt hsl1 hq.o.2.2.size) (λe=>hnm e.symm)).trans ((hq.o.2.2.block _ hsl1).trans HST1.o);obtain⟨_,_,_,_,_,_,_,_,_,⟨-,-,-,-,-,-,-,-,-,u9,-⟩,-,-,ufr⟩:=hx5.cells;rw[hmbe]at u9 ufr;have U9:=Hd u9;have U9F:=Hd (ufr 9);have hm5:F.mb<W5.heap.size:=by have:=hx5.lt;rw[hmbe]at this;exact this
     have hs5:=hlS HST5.o;have H2:=Hd (uR W5 (λg=>W1.heap.size<=g) C l.length cp l HRV5.o 77 2 (by omega));have H30:=Hd (λW (hW:Bw W5 W)=>uR W (λg=>W1.heap.size<=g) C l.length cp l (HRV5.o.keep hW.size (λ_ _ z=>z) λg hg _=>hW.block g hg) 77 30 (by omega));have HFIN:Hid (∀(W6:World) (v:Bool),Bw W5 W6->v=(l.any (λv=>isC v 77 2)||l.any (λv=>isC v 77 30))->zjF B F L sk m w (.returned (.tuple #[.agg #[.int .i64 1,.int .i64 (P:Int),.slice C l.length cp],.int .i64 0])) ((((W6.setCell ⟨F.mb,9,none⟩ (.bool v)).setCell ⟨w.heap.size,0,none⟩ (.int .i64 1)).setCell ⟨w.heap.size,1,none⟩ (.int .i64 (P:Int))).setCell ⟨w.heap.size,2,none⟩ (.slice C l.length cp))):=λW6 v h6 hv=>by
      have e2:{(zbK L sk m1 b).1 with err:=0}={{{m1 with err:=0}with pos:=m1.pos+1}with ended:=v}:=by
       rw[ET.o,qvV,<-hv,HNE.o,Bool.false_or]
      have q:=(HX5.o.below h6).set_ended (t:=v);rw[hmbe]at q;have hc6:Chg (λg=>g=w.heap.size) (W6.setCell ⟨F.mb,9,none⟩ (.bool v)) ((((W6.setCell ⟨F.mb,9,none⟩ (.bool v)).setCell ⟨w.heap.size,0,none⟩ (.int .i64 1)).setCell ⟨w.heap.size,1,none⟩ (.int .i64 (P:Int))).setCell ⟨w.heap.size,2,none⟩ (.slice C l.length cp)):=aV _ _ _;have hch:Chg F'.own wr (W6.setCell ⟨F.mb,9,none⟩ (.bool v)):=(((HC1.o.trans (Chg.of_below HQW.o)).trans (HC5.o.mono λg _ e=>.inl (e.trans hmbe.symm))).trans (Chg.of_below h6)).trans (aH _ _ _ _ _ (.inl hmbe.symm));refine⟨C,cp,W1.heap.size,by rw[ER.o,<-HPP.o],?_,?_⟩
      ·rw[ER.o];have hz:∀g,W1.heap.size<=g->g<W6.heap.size->((((W6.setCell ⟨F.mb,9,none⟩ (.bool v)).setCell ⟨w.heap.size,0,none⟩ (.int .i64 1)).setCell ⟨w.heap.size,1,none⟩ (.int .i64 (P:Int))).setCell ⟨w.heap.size,2,none⟩ (.slice C l.length cp)).heap[g]? =W6.heap[g]? :=λg h1 h2=>(hc6.block g (by simpa[World.setCell]using h2) (by omega)).trans (Bj _ _ _ g (by show g≠F.mb;omega));exact HRV5.o.keep (by have:=h6.size;simp[World.setCell];exact this) (λ_ _ z=>z) λg hg hi=>(hz g hi (Lt hg h6.size)).trans (h6.block g hg)
      ·rw[ER.o];have hj2:RJ {(zbK L sk m1 b).1 with err:=0}:=⟨HRJ.o.lev,HRJ.o.args,HRJ.o.pos,HRJ.o.back,HRJ.o.few⟩;exact HR.o.fin HB0.o (by rw[<-HSZ1.o];exact HWS.o) (λg hg=>by rw[<-HSZ1.o];exact HOL.o g hg) (by rw[e2];exact q) (λ_=>hj2) hch hc6
     clear hq y10 y10f y5 y5f hx5 hC5 u9 ufr hW5;have tok1:=trivial;rcases a2:l.any (λv=>isC v 77 2)with _|_
     ·rw[a2]at H2 HFIN;rcases a30:l.any (λv=>isC v 77 30)with _|_
      all_goals
       rw[a30]at H30 HFIN;clear a2 a30;go_wp2_with(first|(go_at_call 71;clear tok1;refine H2.o.mono ?_;rintro e v1 ⟨rfl,hbx⟩;have HY1:=Hd hbx;clear hbx)|(go_at_call 71;refine(H30.o _ HY1.o).mono ?_;rintro e v2 ⟨rfl,hbx⟩;have HY2:=Hd (HY1.o.tm hbx);have z9:=HY2.o.ct hm5 U9.o;have z9f:=(cekF F.mb 9 (HY2.o.block _ hm5)).trans U9F.o;have k2:=(HY2.o.block _ hs5).trans HST5.o;have t0:v2.cell? ⟨w.heap.size,0,none⟩=some (.int .i64 0):=Ro v2 _ 0 _ _ _ k2;have t1:v2.cell? ⟨w.heap.size,1,none⟩=some (.int .i64 0):=Ro v2 _ 1 _ _ _ k2;have t2:v2.cell? ⟨w.heap.size,2,none⟩=some (.slice none 0 0):=Ro v2 _ 2 _ _ _ k2;have tf:∀i,v2.frozen? ⟨w.heap.size,i,none⟩=false:=(λi=>by simp[World.frozen?,k2]);have HK2:=Hd k2;clear hbx k2));try rw[Exit.noGoto_ret]
       refine bodyPost_ret (dD rfl _ _ w.heap.size _ _ _ _ rfl (aS ((Bj _ _ _ _ (λe=>hnm e.symm)).trans HK2.o)) underlying40 zbL) rfl ?_;exact HFIN.o _ _ HY2.o rfl
     ·rw[a2]at H2 HFIN;clear a2;go_wp2_with(go_at_call 71;refine H2.o.mono ?_;rintro e v2 ⟨rfl,hbx⟩;have HY2:=Hd hbx;have z9:=HY2.o.ct hm5 U9.o;have z9f:=(cekF F.mb 9 (HY2.o.block _ hm5)).trans U9F.o;have k2:=(HY2.o.block _ hs5).trans HST5.o;have t0:v2.cell? ⟨w.heap.size,0,none⟩=some (.int .i64 0):=Ro v2 _ 0 _ _ _ k2;have t1:v2.cell? ⟨w.heap.size,1,none⟩=some (.int .i64 0):=Ro v2 _ 1 _ _ _ k2;have t2:v2.cell? ⟨w.heap.size,2,none⟩=some (.slice none 0 0):=Ro v2 _ 2 _ _ _ k2;have tf:∀i,v2.frozen? ⟨w.heap.size,i,none⟩=false:=(λi=>by simp[World.frozen?,k2]);have HK2:=Hd k2;clear hbx k2);try rw[Exit.noGoto_ret]
      refine bodyPost_ret (dD rfl _ _ w.heap.size _ _ _ _ rfl (aS ((Bj _ _ _ _ (λe=>hnm e.symm)).trans HK2.o)) underlying40 zbL) rfl ?_;exact HFIN.o _ _ HY2.o (by rw[Bool.true_or])
