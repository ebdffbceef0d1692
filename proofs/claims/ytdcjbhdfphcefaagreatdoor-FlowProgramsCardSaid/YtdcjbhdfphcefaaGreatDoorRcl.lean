/- The contract. -/
import Derived.Test.YtdcjbhdfphcefaaGreatDoorRx
import Derived.Test.YtdcjbhdfphcefaaGreatDoorBx
import Derived.Test.YtdcjbhdfphcefaaGreatDoorEn
namespace Go.Proofs.YtdcjbhdfphcefaaGreatDoor
set_option linter.all false
set_option maxRecDepth 100000
set_option maxHeartbeats 16000000
open Go.Proofs.Tryz
open Go.RowKit
theorem zmG:(Tryz.prog.info? 163).bind (λi=>i.zero.map λz=>(i.size,i.bytes,z.cells.size))=some (6,64,6):=by kernel_rfl
theorem pD:∃(i:TypeInfo) (z:Value),Tryz.prog.info? 163=some i/\i.zero=some z/\i.size=6/\i.bytes=64/\z.cells.size=6:=by
 have h:=zmG;rcases hi:Tryz.prog.info? 163 with _|i
 ·rw[hi]at h;cases h
 rw[hi]at h;rcases hz:i.zero with _|z
 ·simp only[Ob,hz,On]at h;cases h
 simp only[Ob,hz,Om,Oi,Pj]at h;exact⟨i,z,rfl,hz,h.1,h.2.1,h.2.2⟩
theorem QX.own_row{W w9:World}{B:Nat}{F:Fp}{L:Lb}{sk:Bool}{m:MS}(h:QX W B F L sk m){g n cap:Nat}{xs:LV}(ho:w9.ownsRow W.heap.size 163 6 (.slice (some ⟨g,0,none⟩) n cap) n xs):QO w9 F.far (some ⟨g,0,none⟩) cap n xs:=by
 have hg:W.heap.size<=g/\g<w9.heap.size:=aI ho rfl;rcases ho.2 with⟨q,_⟩|⟨g',cap',cur,p1,p2,p3,p4,p5,p6,p7⟩
 ·cases q
 simp only[Vs,Oi,Addr.mk.injEq,true_and,and_true]at p1;obtain⟨rfl,rfl⟩:=p1;refine⟨p4,p5,λ_=>⟨g,rfl,hg.2,⟨λho=>by have:=(h.own_ge g ho).2;omega,λq=>by have:=(h.av g q).2.2;omega⟩,λj v hj=> ?_⟩⟩;rw[Ro w9 g j _ _ _ p3];rw[<-p7,Gt]at hj;split at hj
 ·rw[<-hj,At]
 ·cases hj
def znB(B:Nat)(F:Fp)(L:Lb)(sk:Bool)(m:MS)(w:World)(e:Ending)(w':World):Prop:=
 e=.returned (.tuple #[])/\QP B F L sk (zbJ L m).1 w w'
def BcI(W1:World)(B:Nat)(F0:Fp)(L:Lb)(sk:Bool)(m1:MS)(b:Nat)(cs:LV)(W:World):Prop:=
 ∃F',Mv W1 F0 F'/\QX W B F' L sk m1/\Chg (λg=>F0.own g\/g=b) W1 W/\W.heap[b]? =some (.cells ⟨cs⟩ 163 (0,0))
theorem BcI.fin{w W1 W:World}{B:Nat}{F:Fp}{L:Lb}{sk:Bool}{m1:MS}{cs:LV}(h:BcI W1 B {F with av:=w.heap.size::F.av} L sk m1 w.heap.size cs W)(hb:Bw w W1):QP B F L sk m1 w W:=by
 obtain⟨F',h1,h2,h3,_⟩:=h;refine⟨{F' with av:=F.av},⟨h1.mb,h1.sb,rfl,?_,?_⟩,h2.keep (Le _) (λ_ _ _=>rfl) F.av (λx hx=> ?_),⟨h3.os.trans hb.os,h3.tape.trans hb.tape,h3.output.trans hb.output,Ly hb.size h3.size,λg hg ho=>(h3.block g (Lt hg hb.size) (by rintro(k|k);exact ho k;omega)).trans (hb.block g hg)⟩⟩
 ·rcases h1.lb with e|e
  ·exact .inl e
  ·exact .inr (Ly hb.size e)
 ·rcases h1.ac with e|⟨g,e,e2⟩
  ·exact .inl e
  ·exact .inr ⟨g,e,Ly hb.size e2⟩
 ·have hm:x∈F'.av:=by rw[h1.av];exact Mm _ hx
  have:=h2.av x hm;exact⟨this.1,this.2.2,.inl hm⟩
theorem qaQ{O:Nat->Prop}{b:Nat}{W1 W w2:World}{Z:Nat->Prop}(h3:Chg (λg=>O g\/g=b) W1 W)(hc:Chg Z W w2)(hz:∀g,g<W1.heap.size->Z g->O g\/g=b):Chg (λg=>O g\/g=b) W1 w2:=
 ⟨hc.os.trans h3.os,hc.tape.trans h3.tape,hc.output.trans h3.output,Ly h3.size hc.size,λg hg ho=>(hc.block g (Lt hg h3.size) λe=>ho (hz g hg e)).trans (h3.block g hg ho)⟩
theorem BcI.stk{W1 W w2:World}{B:Nat}{F0 F':Fp}{L:Lb}{sk:Bool}{m1:MS}{b lb2:Nat}{cs:LV}{σ:Sto}(h1:Mv W1 F0 F')(h2:QX W B F' L sk m1)(h3:Chg (λg=>F0.own g\/g=b) W1 W)(h4:W.heap[b]? =some (.cells ⟨cs⟩ 163 (0,0)))(hav:b∈F'.av)(hl2:lb2=F'.lb\/W.heap.size<=lb2)(hs2:SxR w2 F'.sb lb2 σ)(hv:σ.vf)(hc2:Chg (λg=>g=F'.sb) W w2):BcI W1 B F0 L sk {m1 with sto:=σ} b cs w2:=by
 obtain⟨q1,q2⟩:=h2.store hs2 hv hl2 (hc2.mono λg _ e=>.inl e);exact⟨_,h1.trans q1 h3.size,q2,qaQ h3 hc2 λg hg e=>.inl (h1.own g hg (.inr (.inl e))),(hc2.block b (hlS h4) λe=>(h2.av b hav).2.1 (.inr (.inl e))).trans h4⟩
theorem BcI.put{W1 W w2:World}{B:Nat}{F0 F':Fp}{L:Lb}{sk:Bool}{m1:MS}{b:Nat}{cs:LV}(h1:Mv W1 F0 F')(h3:Chg (λg=>F0.own g\/g=b) W1 W)(h2:QX w2 B F' L sk m1)(hc:Chg (λg=>g=F'.mb) W w2)(h4:W.heap[b]? =some (.cells ⟨cs⟩ 163 (0,0)))(hav:b∈F'.av):BcI W1 B F0 L sk m1 b cs w2:=
 ⟨F',h1,h2,qaQ h3 hc λg hg e=>.inl (h1.own g hg (.inl e)),(hc.block b (hlS h4) λe=>(h2.av b hav).2.1 (.inl e)).trans h4⟩
theorem BcI.loc{W1 W:World}{B:Nat}{F0 F':Fp}{L:Lb}{sk:Bool}{m1:MS}{b:Nat}{cs:LV}(i:Nat)(v:Value)(h1:Mv W1 F0 F')(h3:Chg (λg=>F0.own g\/g=b) W1 W)(h2:QX W B F' L sk m1)(h4:W.heap[b]? =some (.cells ⟨cs⟩ 163 (0,0)))(hav:b∈F'.av):
 QX (W.setCell ⟨b,i,none⟩ v) B F' L sk m1/\Chg (λg=>F0.own g\/g=b) W1 (W.setCell ⟨b,i,none⟩ v)/\(W.setCell ⟨b,i,none⟩ v).heap[b]? =some (.cells ⟨cs.set i v⟩ 163 (0,0)):=by
 have hsz:(W.setCell ⟨b,i,none⟩ v).heap.size=W.heap.size:=by simp[World.setCell]
 refine⟨h2.keep (by rw[hsz];exact Le _) (λg hg hn=>Bj _ _ _ g λe=>hn (by rw[e];exact hav)) F'.av λx hx=>⟨(h2.av x hx).1,by rw[hsz];exact(h2.av x hx).2.2,.inl hx⟩,qaQ h3 (aH W b i v (λg=>g=b) rfl) λg _ e=>.inr e,?_⟩;rw[aD h4];simp
theorem QX.prog_cells{w:World}{B:Nat}{F:Fp}{L:Lb}{sk:Bool}{m:MS}(h:QX w B F L sk m){p:Nat}(hp:p<L.pr.length):∃(A2:OA) (c2 ab off:Nat),w.cell? ⟨F.mb,1,none⟩=some (.slice A2 L.pr.length c2)/\A2=some ⟨ab,off,none⟩/\ab<B/\w.cell? ⟨ab,off+p*3+1,none⟩=some (.int .i64 (L.prg p).first)/\w.cell? ⟨ab,off+p*3+2,none⟩=some (.int .i64 (L.prg p).stop)/\L.pr.length<=maxLen:=by
 obtain⟨A1,A2,A3,AC,c1,c2,c3,capc,xs,⟨_,d1,_⟩,hL,_⟩:=h.cells;obtain⟨_,hn2,_,hc⟩:=hL.pr;obtain⟨ab,off,rfl,hab,hd⟩:=hc (by omega);obtain⟨q,hx⟩:∃x,L.pr[p]? =some x:=⟨_,Gg hp⟩;obtain⟨e0,e1,e2⟩:=hd p q hx;have hq:L.prg p=q:=by unfold Lb.prg;rw[Gd,hx];rfl
 rw[hq];exact⟨_,c2,ab,off,d1,rfl,hab,e1,e2,hn2⟩
theorem QX.call{w:World}{B:Nat}{F:Fp}{L:Lb}{sk:Bool}{m:MS}(h:QX w B F L sk m){i:Nat}{c:Cl}(hi:m.calls[i]? =some c):∃(ab cap:Nat) (A:OA) (n cp:Nat) (xs:LV),
 w.cell? ⟨F.mb,6,none⟩=some (.slice (some ⟨ab,0,none⟩) m.calls.length cap)/\ab<w.heap.size/\F.far ab/\QC w F.far m.calls xs/\(∀j v,xs[j]? =some v->w.cell? ⟨ab,j,none⟩=some v)/\
 (∀(j:Nat) (v:Value),(zdV c A n cp)[j]? =some v->w.cell? ⟨ab,i*6+j,none⟩=some v)/\(c.lev=true->n=c.args.length/\RdV w F.far A c.args.length c.args)/\I64 c.back/\I64 c.left:=by
 obtain⟨A1,A2,A3,AC,c1,c2,c3,capc,xs,⟨_,_,_,_,_,_,d6,_⟩,_,⟨hq,ho⟩,_⟩:=h.cells;have hil:i<m.calls.length:=(Gu.1 hi).1;obtain⟨ab,rfl,h1,h2,h3⟩:=ho.2.2 (by omega);obtain⟨a,b,A,n,cp,hv,hx⟩:=hq.2 i c hi;exact⟨ab,capc,A,n,cp,xs,d6,h1,h2,hq,h3,λj v hj=>h3 _ _ (hx j v hj),hv,a,b⟩
theorem xC(w:World)(B:Nat)(F:Fp)(L:Lb)(sk:Bool)(m:MS)(h:QX w B F L sk m)(hj:RJ m):
 Calls Tryz.prog 69 #[.pointer (some ⟨F.mb,0,none⟩)] w (znB B F L sk m w):=by
 have HX:=Hd h;obtain⟨A1,A2,A3,AC,c1,c2,c3,capc,xs,⟨_,d1,_,_,d4,d5,d6,d7,_,d9,_⟩,hL,⟨hq,ho⟩,hfr⟩:=h.cells;have hmb:=h.lt;by_cases hn:m.calls.length=0
 ·have hnil:m.calls=[]:=Ez hn;have EJ:Hid (zbJ L m=({m with ended:=true},0)):=by unfold Hid zbJ;rw[hnil];rfl
  have f9:=hfr 9;rw[hn]at d6;clear h hL ho hq hfr hn hnil hj;go_enter func69,ntmps69;go_wp2_with fail;refine bodyPost_end (results_none results69 _ _ _) rfl ⟨rfl,?_⟩;rw[EJ.o];exact QP.of HX.o.set_ended (aH _ _ _ _ _ F.own_mb)
 have HLE:=(jU h.fine hj).2;clear hq ho d1 d4 d5 d6 d7 d9 hL hfr;obtain⟨N,hN⟩:∃N,m.calls.length=N+1:=⟨m.calls.length-1,by omega⟩;obtain⟨c,hc⟩:∃c,m.calls[N]? =some c:=⟨_,Gg (by omega)⟩;have hlast:m.calls.getLast? =some c:=by rw[List.getLast?_eq_getElem?,hN];exact hc
 obtain⟨ab,cap,A,n,cp,xs,d6,hab,hfar,hq,hcx,hcell,hargs,hbk,hlf⟩:=h.call hc;have hcl:=h.calls c (Mg hc);have hfew:=h.few;rw[hN]at d6 hfew;have q0:=hcell 0 _ rfl;rw[Nat.add_zero]at q0;have q1:=hcell 1 _ rfl;have q2:=hcell 2 _ rfl;have q3:=hcell 3 _ rfl;have q4:=hcell 4 _ rfl;have q5:=hcell 5 _ rfl;have HN:=Hd hN;have HLAST:=Hd hlast;have HC:=Hd hc;have HARGS:=Hd hargs;have HCL:=Hd hcl;have wN:IntKind.i64.wrap ((N:Int)+1-1)=(N:Int):=by rw[IntWalk.i64_in _ (by omega)];omega
 have wN2:IntKind.i64.wrap (N:Int)=(N:Int):=IntWalk.i64_in _ (by omega);have i0:(0:Int)<=(N:Int):=by omega
 have i1:(N:Int)<((N+1:Nat):Int):=by omega
 clear h hn hN hlast hc hargs hcl hcell hq hcx;have HRA:Hid (c.lev=true->RdV w (λ_=>True) A c.args.length c.args/\n=c.args.length):=λq=>⟨(HARGS.o q).2.keep (Le _) (λ_ _ _=>trivial) (λ_ _ _=>rfl),(HARGS.o q).1⟩;go_enter func69,ntmps69;go_wp2_with fail;go_region;clear q0 q1 q2 q3 q4 q5 d6;obtain⟨W1,hW1⟩:∃W1,W1=(w.alloc (.cells #[.int .i64 (c.prog:Nat),.int .i64 c.left,.int .i64 c.back,.int .i64 (c.caller:Nat),.bool c.lev,.slice A n cp] 163)).drew:=⟨_,rfl⟩;have HB1:Hid (Bw w W1):=by unfold Hid;rw[hW1];exact aA (nB _ _) 1
 have HK1:Hid (W1.heap[w.heap.size]? =some (.cells ⟨zdV c A n cp⟩ 163 (0,0))):=by unfold Hid;rw[hW1];exact Hn _ _
 rw[<-hW1];clear hW1;have hx1:QX W1 B {F with av:=w.heap.size::F.av} L sk m:=HX.o.keep HB1.o.size (λg hg _=>HB1.o.block g hg) _ λx hx=>by
  rcases List.mem_cons.1 hx with q|q
  ·rw[q];exact⟨HX.o.Ble,hlS HK1.o,.inr (Le _)⟩
  ·have:=HX.o.av x q;exact⟨this.1,Lt this.2.2 HB1.o.size,.inl q⟩
 have HX1:=Hd hx1;have HI1:Hid (BcI W1 B {F with av:=w.heap.size::F.av} L sk m w.heap.size (zdV c A n cp) W1):=⟨_,Mv.refl _ _,hx1,Chg.refl _ _,HK1.o⟩;have k4:W1.cell? ⟨w.heap.size,4,none⟩=some (.bool c.lev):=Ro W1 _ 4 _ _ _ HK1.o;have k7:W1.cell? ⟨F.mb,7,none⟩=some (.pointer (some ⟨F.sb,0,none⟩)):=by
  obtain⟨_,_,_,_,_,_,_,_,_,⟨_,_,_,_,_,_,_,d7,_⟩,_⟩:=hx1.cells;exact d7
 have HPOP:=Hd (qnY W1 F.sb F.lb m.sto hx1.sto);have HEQ:=Hd (qoV HX.o.fine hj HLAST.o);have HRA:Hid (c.lev=true->n=c.args.length/\RdV W1 (Fp.far {F with av:=w.heap.size::F.av}) A c.args.length c.args):=λq=>⟨(HARGS.o q).1,(HARGS.o q).2.keep HB1.o.size (λg hg hi=>⟨hi.1,λk=>by
  rcases List.mem_cons.1 k with e|e
  ·omega
  ·exact hi.2 e⟩) λg hg _=>HB1.o.block g hg⟩
 have HCQ:Hid (zdV c A n cp=[.int .i64 (c.prog:Nat),.int .i64 c.left,.int .i64 c.back,.int .i64 (c.caller:Nat),.bool c.lev,.slice A n cp]):=rfl;clear hx1 HLE hj;go_upto_if 25 with(fail)
 go_cut[] (λW=>BcI W1 B {F with av:=w.heap.size::F.av} L sk {m with sto:=if c.lev then zdN m.sto else m.sto} w.heap.size (zdV c A n cp) W)
 case first=>
  rcases hlv:c.lev with _|_
  ·rw[hlv]at k4;go_wp2_with fail;go_meet;simp only[hlv,Bool.false_eq_true,if_false];exact HI1.o
  ·rw[hlv]at k4;go_wp2_with(go_at_call 103;refine HPOP.o.mono ?_;rintro e w2 ⟨rfl,lb2,hl2,hs2,hc2⟩);go_meet;simp only[hlv,if_true];exact BcI.stk (Mv.refl _ _) HX1.o (Chg.refl _ _) HK1.o Mu hl2 hs2 HX1.o.vf.pop hc2
 case rest=>
 obtain⟨we,hwe⟩:∃we,we=wc:=⟨_,rfl⟩;subst hwe;obtain⟨⟨mb1,sb1,lb1,ac1,av1⟩,hmv,hx1,hch,hbk1⟩:=hcut;obtain rfl:mb1=F.mb:=hmv.mb;obtain rfl:av1=w.heap.size::F.av:=hmv.av;clear k4 k7 HI1 HPOP HX1;have HRC:Hid (c.lev=true->n=c.args.length/\RdV we (Fp.far ⟨F.mb,sb1,lb1,ac1,w.heap.size::F.av⟩) A c.args.length c.args):=λq=>⟨(HRA.o q).1,(HRA.o q).2.keep hch.size (λg hg hi=>hmv.far g hg hi) λg hg hi=>hch.block g hg (by rintro(k|k);exact hi.1 k;exact hi.2 (by rw[k];exact Mu))⟩;obtain⟨m1,hm1⟩:∃m1:MS,m1={m with sto:=if c.lev then zdN m.sto else m.sto}:=⟨_,rfl⟩;rw[<-hm1]at hx1;have HM1:=Hd hm1;have HX1:=Hd hx1;have HMV:=Hd hmv;have HCH:=Hd hch;have HBK:=Hd hbk1;have hbs:=hlS hbk1;have z1:we.cell? ⟨w.heap.size,1,none⟩=some (.int .i64 c.left):=Ro we _ 1 _ _ _ hbk1;have z4:we.cell? ⟨w.heap.size,4,none⟩=some (.bool c.lev):=Ro we _ 4 _ _ _ hbk1;have z7:we.cell? ⟨F.mb,7,none⟩=some (.pointer (some ⟨sb1,0,none⟩)):=by
  obtain⟨_,_,_,_,_,_,_,_,_,⟨_,_,_,_,_,_,_,d7,_⟩,_⟩:=hx1.cells;exact d7
 have z5:we.cell? ⟨w.heap.size,5,none⟩=some (.slice A n cp):=Ro we _ 5 _ _ _ hbk1;have HLFI:=Hd hlf;clear hm1 hx1 hmv hch hbk1 hlf;obtain⟨iC,zC,hiC,hC0,hC1,hC2,hC3⟩:=pD;have HIC:=Hd hiC;have HZC:=Hd hC0;clear hiC hC0;have HLF:=Hd HCL.o.2.2;have HBI:=Hd hbk;by_cases hl:0<c.left
 case neg=>
  have g1:decide (c.left>0)=false:=Df hl;have HM:=Hd (HM1.o▸rfl:m1.calls=m.calls);obtain⟨A1,A2,A3,AC,c1,c2,c3,capc,ys,⟨-,d1,-,-,-,-,d6,-,-,-,-⟩,hL,⟨hq,ho⟩,hfr⟩:=HX1.o.cells;dsimp only at d1 d6 hfr;have hN1:m1.calls.length=N+1:=by rw[HM.o];exact HN.o
  rw[hN1]at d6;have hcc:=ho.1;have hcm2:=ho.2.1;unfold maxLen at hcm2;rw[hN1]at hcc;obtain⟨ab1,rfl,hab1,hfar1,hcy⟩:=ho.2.2 (by omega);have HQ:=Hd hq;have HCY:=Hd hcy;have HAB:=Hd hab1;have HMB1:Hid (F.mb<we.heap.size):=HX1.o.lt;have hmb1:F.mb<we.heap.size:=HX1.o.lt;have hdl:m1.calls.dropLast.length=N:=by rw[Ld,hN1];rfl
  have HDL:=Hd hdl;have HTL:Hid ((ys.take (N*6)).length=N*6):=by unfold Hid;rw[Lr,hq.1,hN1];omega
  have HT1:Hid (∀u∈ys.take (N*6),u.oneCell'=true):=λu hu=>hq.one u (List.mem_of_mem_take hu);have HNW:Hid (∀W:World,Bw we W->0<N->∃ad,some (⟨ab1,0,none⟩:Addr)=some ad/\∀j u,(ys.take (N*6))[j]? =some u->W.cell? (ad.add j)=some u):=λW hW _=>⟨_,rfl,λj u hu=>by
   rw[zmQ]
   rw[Gt]at hu
   split at hu
   ·exact(hW.cel ab1 j HAB.o).trans (HCY.o j u hu)
   ·cases hu⟩
  have i2:(N:Int)<=(capc:Int):=by omega
  have j0:(0:Int)<=IntKind.i64.wrap (N:Int):=by rw[wN2];omega
  have j1:IntKind.i64.wrap (N:Int)<=(capc:Int):=by rw[wN2];omega
  have j2:(IntKind.i64.wrap (N:Int)).toNat=N:=by rw[wN2];omega
  have f6:=hfr 6;have HBA:Hid (∀o:Obj,Bw we (we.alloc o).drew):=λo=>aA ((Bf _ _).alloc (Le _) o) 1;have HFIN:Hid (∀(g9 c9:Nat) (w9:World),Bw we w9->w9.ownsRow we.heap.size 163 6 (.slice (some ⟨g9,0,none⟩) N c9) N (ys.take (N*6))->BcI W1 B {F with av:=w.heap.size::F.av} L sk {m1 with calls:=m1.calls.dropLast} w.heap.size (zdV c A n cp) (w9.setCell ⟨F.mb,6,none⟩ (.slice (some ⟨g9,0,none⟩) N c9))):=λg9 c9 w9 hb ho9=>by
   have q:=(HX1.o.below hb).set_calls (cs':=m1.calls.dropLast) (xs':=ys.take (N*6)) (AC':=some ⟨g9,0,none⟩) (cap':=c9) (by have:=HQ.o.take.keep hb.size (λ_ _ z=>z) (λg hg _=>hb.block g hg);rw[HDL.o]at this;exact this) (by rw[HDL.o];exact HX1.o.own_row ho9) (by rw[HDL.o];omega) (λd hd=>HX1.o.calls d ((List.dropLast_sublist _).subset hd));rw[HDL.o]at q;exact BcI.put HMV.o HCH.o q ((Chg.of_below hb).trans (aH _ _ _ _ _ rfl)) HBK.o Mu
  clear d1 hL hq ho hfr hN1 hab1 hfar1 hcy hdl hab hfar hbk z5 z7;go_wp2_with fail;go_cut[]from 79 to 94 (λW=>BcI W1 B {F with av:=w.heap.size::F.av} L sk {m1 with calls:=m1.calls.dropLast} w.heap.size (zdV c A n cp) W)
  case first=>
   go_region_law(first|(refine cG rfl (.tmp 80) (.tmp 91) 128 rfl we.heap.size 163 iC zC 6 64 underlying128 HIC.o HZC.o hC1 hC2 hC3 (by omega) we.heap.size 0 0 [] (by simp[Act.eval,Act.put]) (dW we _ _) (some ⟨ab1,0,none⟩) N capc (ys.take (N*6)) (by simp[Act.eval,Act.put]) HTL.o (HNW.o _ (HBA.o _)) HT1.o (by unfold maxLen;omega) (by omega) (by simp) ?_;intro g9 c9 w9 ho9 hg9 hl9 hlt9;have HO9:=Hd ho9;have HB9:Hid (Bw we w9):=eH (Le _) (HBA.o _) hg9 (λg e=>by have:=Oj e;omega);have f69:=(cekF F.mb 6 (HB9.o.block _ HMB1.o)).trans f6;have d69:=HB9.o.ct HMB1.o d6;clear ho9 hg9 hl9));all_goals
    go_wp2_with fail;go_meet;exact HFIN.o g9 c9 w9 HB9.o (by simpa using HO9.o)
  case rest=>
   obtain⟨⟨mb2,sb2,lb2,ac2,av2⟩,hmv2,hx2,hch2,hbk2⟩:=hcut;obtain rfl:mb2=F.mb:=hmv2.mb;obtain rfl:av2=w.heap.size::F.av:=hmv2.av;have HX2:=Hd hx2;have HMV2:=Hd hmv2;have HCH2:=Hd hch2;have HBK2:=Hd hbk2;obtain⟨_,_,_,_,_,_,_,_,_,⟨-,-,-,-,d4,d5,-,-,-,-,-⟩,_,_,hfr2⟩:=hx2.cells;dsimp only at d4 d5 hfr2;have f4:=hfr2 4;have f5:=hfr2 5;have z2:wc.cell? ⟨w.heap.size,2,none⟩=some (.int .i64 c.back):=Ro wc _ 2 _ _ _ hbk2;have z3:wc.cell? ⟨w.heap.size,3,none⟩=some (.int .i64 (c.caller:Nat)):=Ro wc _ 3 _ _ _ hbk2;have hne:F.mb≠w.heap.size:=Nat.ne_of_lt hmb;clear hx2 hmv2 hch2 hbk2 hfr2 d6 f6 z1 z4;go_wp2_with fail;go_region;refine bodyPost_end (results_none results69 _ _ _) rfl ⟨rfl,?_⟩;rw[HEQ.o,Iq (show¬0<c.left by omega)];have hm:=HM1.o;subst hm;refine BcI.fin (BcI.put HMV2.o HCH2.o (((HX2.o.set_prog (t:=c.caller) HCL.o.2.1).set_pos (t:=c.back) HBI.o).below (aA (Bf _ _) 1)) (((aH wc F.mb 4 _ (λg=>g=F.mb) rfl).trans (aH _ F.mb 5 _ (λg=>g=F.mb) rfl)).drewN 1) HBK2.o Mu) HB1.o
 case pos=>
  have g1:decide (c.left>0)=true:=Dt hl;have HPU:Hid (∀w0,w0=we\/w0=we.drew->c.lev=true->Calls Tryz.prog 104 #[.pointer (some ⟨sb1,0,none⟩),.slice A n cp] w0 (zmU sb1 lb1 (zbU m1.sto c.args) (zcG m1.sto c.args) w0)):=λw0 hw hq=>by
   obtain⟨e1,e2⟩:=HRC.o hq;rcases hw with rfl|rfl
   ·rw[e1];exact qI _ _ _ _ _ _ _ _ _ HX1.o.sto e2
   ·rw[e1];exact qI we.drew _ _ _ _ _ _ _ _ (HX1.o.sto.below (aA (Bf _ _) 1)) (e2.keep (Le _) (λ_ _ z=>z) λ_ _ _=>rfl)
  go_upto_if 35 with(fail)
  go_cut[] (λW=>BcI W1 B {F with av:=w.heap.size::F.av} L sk {m1 with sto:=if c.lev then zbU m1.sto c.args else m1.sto} w.heap.size (zdV c A n cp) W)
  case first=>
   rcases hlv:c.lev with _|_
   ·rw[hlv]at z4;go_wp2_with fail;go_meet;simp only[hlv,Bool.false_eq_true,if_false];exact⟨_,HMV.o,HX1.o,HCH.o,HBK.o⟩
   ·rw[hlv]at z4;go_wp2_with fail;go_region_with(go_at_call 104;refine(HPU.o _ (by first|exact .inl rfl|exact .inr rfl) hlv).mono ?_;rintro e w2 ⟨rfl,lb2,hl2,hs2,hc2⟩);all_goals
     go_wp2_with fail;go_meet;simp only[hlv,if_true];exact BcI.stk HMV.o HX1.o HCH.o HBK.o Mu hl2 hs2 (HX1.o.vf.push _) ⟨hc2.os,hc2.tape,hc2.output,hc2.size,hc2.block⟩
  case rest=>
  obtain⟨wf,hwf⟩:∃wf,wf=wc:=⟨_,rfl⟩;subst hwf;obtain⟨⟨mb2,sb2,lb2,ac2,av2⟩,hmv2,hx2,hch2,hbk2⟩:=hcut;obtain rfl:mb2=F.mb:=hmv2.mb;obtain rfl:av2=w.heap.size::F.av:=hmv2.av;have y1:wf.cell? ⟨w.heap.size,1,none⟩=some (.int .i64 c.left):=Ro wf _ 1 _ _ _ hbk2;have yf:wf.frozen? ⟨w.heap.size,1,none⟩=false:=by simp[World.frozen?,hbk2]
  have w1:IntKind.i64.wrap (c.left-1)=c.left-1:=IntWalk.i64_in _ (by have:=HLFI.o;unfold I64 at this;omega);obtain⟨hx3,hch3,hbk3⟩:=BcI.loc 1 (.int .i64 (c.left-1)) hmv2 hch2 hx2 hbk2 Mu;have HRD:Hid (c.lev=true->n=c.args.length/\RdV wf (Fp.far ⟨F.mb,sb2,lb2,ac2,w.heap.size::F.av⟩) A c.args.length c.args):=λq=>by
   obtain⟨e1,e2⟩:=HRA.o q;exact⟨e1,e2.keep hch2.size (λg hg hi=>hmv2.far g hg hi) λg hg hi=>hch2.block g hg (by rintro(k|k);exact hi.1 k;exact hi.2 (by rw[k];exact Mu))⟩
  clear z1 z4 z5 z7 HPU;go_upto_region 9 with(fail)
  obtain⟨W8,hW8⟩:∃W8,W8=wf.setCell ⟨w.heap.size,1,none⟩ (.int .i64 (c.left-1)):=⟨_,rfl⟩;rw[<-hW8]at hx3 hch3 hbk3⊢
  have HRE:Hid (c.lev=true->n=c.args.length/\RdV W8 (Fp.far ⟨F.mb,sb2,lb2,ac2,w.heap.size::F.av⟩) A c.args.length c.args):=λq=>by
   obtain⟨e1,e2⟩:=HRD.o q;have hsz:W8.heap.size=wf.heap.size:=by rw[hW8];simp[World.setCell]
   exact⟨e1,e2.keep (by rw[hsz];exact Le _) (λ_ _ z=>z) λg hg hi=>by rw[hW8];exact Bj _ _ _ g λe=>hi.2 (by rw[e];exact Mu)⟩
  obtain⟨m2,hm2⟩:∃m2:MS,m2={m1 with sto:=if c.lev then zbU m1.sto c.args else m1.sto}:=⟨_,rfl⟩;rw[<-hm2]at hx3;have HM2:=Hd hm2;have HX3:=Hd hx3;have HMV2:=Hd hmv2;have HCH3:=Hd hch3;have hbk3:W8.heap[w.heap.size]? =some (.cells #[.int .i64 (c.prog:Nat),.int .i64 (c.left-1),.int .i64 c.back,.int .i64 (c.caller:Nat),.bool c.lev,.slice A n cp] 163 (0,0)):=hbk3;have HBK3:=Hd hbk3;have z0:=ce0 hbk3;have z1:=ce1 hbk3;have z2:=ce2 hbk3;have z3:=ce3 hbk3;have z4:=ce4 hbk3;have z5:=ce5 hbk3;have hbs8:=hlS hbk3;have HM:Hid (m2.calls=m.calls):=by unfold Hid;rw[hm2];show m1.calls=_;rw[HM1.o]
  clear hx3 hch3 hbk3 hmv2 hx2 hch2 hbk2 hm2 hW8 yf y1 HRD HRC;obtain⟨A1,A2,A3,AC,c1,c2,c3,capc,ys,⟨-,d1,-,-,-,-,d6,-,-,-,-⟩,hL,⟨hq,ho⟩,hfr⟩:=HX3.o.cells;dsimp only at d1 d6 hfr;have hN1:m2.calls.length=N+1:=by rw[HM.o];exact HN.o
  rw[hN1]at d6;have hcc:=ho.1;have hcm2:=ho.2.1;unfold maxLen at hcm2;rw[hN1]at hcc;obtain⟨ab1,rfl,hab1,hfar1,hcy⟩:=ho.2.2 (by omega);have HQ:=Hd hq;have HCY:=Hd hcy;have HAB:=Hd hab1;have HMB1:Hid (F.mb<W8.heap.size):=HX3.o.lt;have hmb1:F.mb<W8.heap.size:=HX3.o.lt;have hdl:m2.calls.dropLast.length=N:=by rw[Ld,hN1];rfl
  have HDL:=Hd hdl;have HTL:Hid ((ys.take (N*6)).length=N*6):=by unfold Hid;rw[Lr,hq.1,hN1];omega
  have HT1:Hid (∀u∈ys.take (N*6),u.oneCell'=true):=λu hu=>hq.one u (List.mem_of_mem_take hu);have HNW:Hid (∀W:World,Bw W8 W->0<N->∃ad,some (⟨ab1,0,none⟩:Addr)=some ad/\∀j u,(ys.take (N*6))[j]? =some u->W.cell? (ad.add j)=some u):=λW hW _=>⟨_,rfl,λj u hu=>by
   rw[zmQ]
   rw[Gt]at hu
   split at hu
   ·exact(hW.cel ab1 j HAB.o).trans (HCY.o j u hu)
   ·cases hu⟩
  have i2:(N:Int)<=(capc:Int):=by omega
  have j0:(0:Int)<=IntKind.i64.wrap (N:Int):=by rw[wN2];omega
  have j1:IntKind.i64.wrap (N:Int)<=(capc:Int):=by rw[wN2];omega
  have j2:(IntKind.i64.wrap (N:Int)).toNat=N:=by rw[wN2];omega
  have f6:=hfr 6;have HBA:Hid (∀o:Obj,Bw W8 (W8.alloc o).drew):=λo=>aA ((Bf _ _).alloc (Le _) o) 1;have hcells:∀u∈([.int .i64 (c.prog:Nat),.int .i64 (c.left-1),.int .i64 c.back,.int .i64 (c.caller:Nat),.bool c.lev,.slice A n cp]:LV),u.oneCell'=true:=by
   intro u hu;simp only[List.mem_cons,List.not_mem_nil,or_false]at hu;rcases hu with rfl|rfl|rfl|rfl|rfl|rfl<;>rfl
  have HONE:=Hd hcells;have HFIN:Hid (∀(g9 c9:Nat) (w9:World),Bw W8 w9->w9.ownsRow W8.heap.size 163 6 (.slice (some ⟨g9,0,none⟩) (N+1) c9) (N+1) (ys.take (N*6)++[.int .i64 (c.prog:Nat),.int .i64 (c.left-1),.int .i64 c.back,.int .i64 (c.caller:Nat),.bool c.lev,.slice A n cp])->BcI W1 B {F with av:=w.heap.size::F.av} L sk {m2 with calls:=m2.calls.dropLast++[{c with left:=c.left-1}]} w.heap.size [.int .i64 (c.prog:Nat),.int .i64 (c.left-1),.int .i64 c.back,.int .i64 (c.caller:Nat),.bool c.lev,.slice A n cp] (w9.setCell ⟨F.mb,6,none⟩ (.slice (some ⟨g9,0,none⟩) (N+1) c9))):=λg9 c9 w9 hb ho9=>by
   have hlen:(m2.calls.dropLast++[{c with left:=c.left-1}]).length=N+1:=by rw[La,HDL.o];rfl
   have hqc:=HQ.o.take.push {c with left:=c.left-1} A n cp HBI.o (by have:=HLFI.o;unfold I64 at this⊢;dsimp only;omega) HRE.o;rw[HDL.o]at hqc;have q:=(HX3.o.below hb).set_calls (cs':=m2.calls.dropLast++[{c with left:=c.left-1}]) (AC':=some ⟨g9,0,none⟩) (cap':=c9) (hqc.keep hb.size (λ_ _ z=>z) (λg hg _=>hb.block g hg)) (by rw[hlen];exact HX3.o.own_row ho9) (by rw[hlen];omega) (λd hd=>by
    rcases Ma.1 hd with k|k
    ·exact HX3.o.calls d ((List.dropLast_sublist _).subset k)
    ·rw[Mt.1 k];have:=HCL.o;exact⟨this.1,this.2.1,by dsimp only;omega⟩)
   rw[hlen]at q;exact BcI.put HMV2.o HCH3.o q ((Chg.of_below hb).trans (aH _ F.mb 6 _ (λg=>g=F.mb) rfl)) HBK3.o Mu
  clear d1 hL hq ho hfr hN1 hab1 hfar1 hcy hdl hab hfar hbk hcells;have HBS8:=Hd hbs8;have HOW:Hid ((∀o,((W8.alloc (.cells #[] 163)).alloc o).ownsRow W8.heap.size 163 6 (.slice (some ⟨W8.heap.size,0,none⟩) 0 0) 0 [])/\∀o,((W8.alloc o).alloc (.cells #[] 163)).ownsRow W8.heap.size 163 6 (.slice (some ⟨W8.heap.size+1,0,none⟩) 0 0) 0 []):=
   ⟨λo=>(dW W8 _ _).alloc o,λo=>by
    have q:=yT (dW (W8.alloc o) 163 6) (b':=W8.heap.size) (by simp)
    simpa using q⟩
  have HBA2:Hid (∀o o':Obj,Bw W8 ((W8.alloc o).alloc o').drew):=λo o'=>aA (((Bf _ _).alloc (Le _) o).alloc (by simp) o') 1;have HA2:Hid ((∀o o':Obj,((W8.alloc o).alloc o').heap[W8.heap.size+1]? =some o')/\∀o o':Obj,((W8.alloc o).alloc o').heap[W8.heap.size]? =some o):=
   ⟨λo o'=>by simpa using Hn (W8.alloc o) o',λo o'=>(Bm _ _ _ (by simp)).trans (Hn W8 o)⟩
  go_cut[]from 47 to 65 (λW=>BcI W1 B {F with av:=w.heap.size::F.av} L sk {m2 with calls:=m2.calls.dropLast++[{c with left:=c.left-1}]} w.heap.size [.int .i64 (c.prog:Nat),.int .i64 (c.left-1),.int .i64 c.back,.int .i64 (c.caller:Nat),.bool c.lev,.slice A n cp] W)
  case first=>
   have HS0:Hid (Bw W8 W8.drew):=aA (Bf W8.heap.size W8) 1;refine eQ (S:=λW=>Bw W8 W) 17 20 rfl (by decide) (by decide+kernel) rfl ?_;simp only[List.extract_toArray,List.extract_eq_take_drop,Nat.sub_zero,List.drop_zero,List.take_succ_cons,List.take_zero];refine tkA 0 ?_ (hS:=HS0.o);refine tkA 2 ?_ (hS:=HS0.o);refine tkA 3 ?_ (hS:=HS0.o);refine tkA 4 ?_ (hS:=HS0.o);try simp only[Act.put,L0,L4,L5]
   refine tkL 5 (v:= ?_) rfl ?_ HS0.o ?_;rotate_left
   ·intro w1 hSw;have hSw:Bw W8 w1:=hSw;have u6:=hSw.ct HMB1.o d6;clear hSw;go_simp<;>with_reducible rfl
   try simp only[Act.put,L0,L4,L5]
   refine tkA 6 ?_ (hS:=HS0.o);refine tkA 7 ?_ (hS:=HS0.o);refine tkA 8 ?_ (hS:=HS0.o);try simp only[Act.put,L0,L4,L5]
   refine tkL 9 (v:= ?_) rfl ?_ HS0.o ?_;rotate_left
   ·intro w1 hSw;have hSw:Bw W8 w1:=hSw;have u6:=hSw.ct HMB1.o d6;clear hSw;go_simp<;>with_reducible rfl
   try simp only[Act.put,L0,L4,L5]
   refine tkA 10 ?_ (hS:=HS0.o);refine tkA 11 ?_ (hS:=HS0.o);refine tkA 12 ?_ (hS:=HS0.o);try simp only[Act.put,L0,L4,L5]
   refine tkL 14 (v:= ?_) rfl ?_ HS0.o ?_;rotate_left
   ·intro w1 hSw;have hSw:Bw W8 w1:=hSw;have u0:=hSw.ct HBS8.o z0;have u1:=hSw.ct HBS8.o z1;have u2:=hSw.ct HBS8.o z2;have u3:=hSw.ct HBS8.o z3;have u4:=hSw.ct HBS8.o z4;have u5:=hSw.ct HBS8.o z5;clear hSw;go_simp<;>with_reducible rfl
   try simp only[Act.put,L0,L4,L5]
   refine rd2 1 15 rfl rfl (λK hK=> ?_) λK hK=> ?_
   focus
    go_simp;refine hK.o _ _ (HBA.o _) (λhH=> ?_);clear hK K hH;try simp only[Act.put,L0,L4,L5]
    refine rd2 13 15 rfl rfl (λK hK=> ?_) λK hK=> ?_
    focus
     refine cG rfl (.tmp 48) (.tmp 59) 128 rfl W8.heap.size 163 iC zC 6 64 underlying128 HIC.o HZC.o hC1 hC2 hC3 (by omega) (W8.heap.size) 0 0 [] (by simp[Act.eval,Act.put]) (dW W8 _ _) (some ⟨ab1,0,none⟩) N capc (ys.take (N*6)) (by simp[Act.eval,Act.put]) HTL.o (HNW.o _ (HBA.o _)) HT1.o (by unfold maxLen;omega) (by omega) (by simp<;>omega) ?_;intro g9 c9 w9 ho9 hg9 hl9 hlt9;have HO9:Hid (w9.ownsRow W8.heap.size 163 6 (.slice (some ⟨g9,0,none⟩) N c9) N (ys.take (N*6))):=by unfold Hid;simpa using ho9
     have HB9:Hid (Bw W8 w9):=eH (Le _) (HBA.o _) hg9 (λg e=>by have:=Oj e;omega);have HG9:Hid (W8.heap.size<=g9):=(aI HO9.o rfl).1;clear ho9 hl9;refine hK.o _ _ HB9.o (λhH=> ?_);clear hK K hH;try simp only[Act.put,L0,L4,L5]
     refine rd1 15 rfl λK hK=> ?_;go_simp;refine hK.o _ _ (HB9.o.alloc HB9.o.size _) (λhH=> ?_);clear hK K hH;try simp only[Act.put,L0,L4,L5]
     obtain⟨wX,hwX,-,HONX⟩:=newWH w9 #[.int .i64 (c.prog:Nat),.int .i64 (c.left-1),.int .i64 c.back,.int .i64 (c.caller:Nat),.bool c.lev,.slice A n cp] 163;have HBX:Hid (Bw W8 wX):=by unfold Hid;rw[hwX];exact HB9.o.alloc HB9.o.size _
     have HOX:Hid (wX.ownsRow W8.heap.size 163 6 (.slice (some ⟨g9,0,none⟩) N c9) N (ys.take (N*6))):=by unfold Hid;rw[hwX];exact bW (λg x hx=>(Bm w9 _ g (hlS hx)).trans hx) HO9.o
     rw[<-hwX];generalize w9.heap.size=gb at HONX⊢
     clear hwX HO9 HB9
    rotate_left
    focus
     go_simp;refine hK.o _ _ (HBA2.o _ _) (λhH=> ?_);clear hK K hH;try simp only[Act.put,L0,L4,L5]
     refine rd1 13 rfl λK hK=> ?_;refine cG rfl (.tmp 48) (.tmp 59) 128 rfl W8.heap.size 163 iC zC 6 64 underlying128 HIC.o HZC.o hC1 hC2 hC3 (by omega) (W8.heap.size) 0 0 [] (by simp[Act.eval,Act.put]) (HOW.o.1 _) (some ⟨ab1,0,none⟩) N capc (ys.take (N*6)) (by simp[Act.eval,Act.put]) HTL.o (HNW.o _ (HBA2.o _ _)) HT1.o (by unfold maxLen;omega) (by omega) (by simp<;>omega) ?_;intro g9 c9 w9 ho9 hg9 hl9 hlt9;have HO9:Hid (w9.ownsRow W8.heap.size 163 6 (.slice (some ⟨g9,0,none⟩) N c9) N (ys.take (N*6))):=by unfold Hid;simpa using ho9
     have HB9:Hid (Bw W8 w9):=eH (Le _) (HBA2.o _ _) hg9 (λg e=>by have:=Oj e;omega);have HG9:Hid (W8.heap.size<=g9):=(aI HO9.o rfl).1;clear ho9 hl9;refine hK.o _ _ HB9.o (λhH=> ?_);clear hK K hH;try simp only[Act.put,L0,L4,L5]
     have HONX:Hid (w9.heap[W8.heap.size+1]? =some (.cells #[.int .i64 (c.prog:Nat),.int .i64 (c.left-1),.int .i64 c.back,.int .i64 (c.caller:Nat),.bool c.lev,.slice A n cp] 163 (0,0))):=(hg9.block _ (by simp<;>omega) (λe=>by have:=Oj e;omega)).trans (HA2.o.1 _ _);have HBX:=Hd HB9.o;have HOX:=Hd HO9.o;clear HO9 HB9;obtain⟨wX,hwX⟩:∃wX,wX=w9:=⟨_,rfl⟩;subst hwX;generalize W8.heap.size+1=gb at HONX⊢
   rotate_left 2
   focus
    go_simp;refine hK.o _ _ (HBA.o _) (λhH=> ?_);clear hK K hH;try simp only[Act.put,L0,L4,L5]
    refine rd1 1 rfl λK hK=> ?_;go_simp;refine hK.o _ _ (HBA2.o _ _) (λhH=> ?_);clear hK K hH;try simp only[Act.put,L0,L4,L5]
    refine rd1 13 rfl λK hK=> ?_;refine cG rfl (.tmp 48) (.tmp 59) 128 rfl W8.heap.size 163 iC zC 6 64 underlying128 HIC.o HZC.o hC1 hC2 hC3 (by omega) (W8.heap.size+1) 0 0 [] (by simp[Act.eval,Act.put]) (HOW.o.2 _) (some ⟨ab1,0,none⟩) N capc (ys.take (N*6)) (by simp[Act.eval,Act.put]) HTL.o (HNW.o _ (HBA2.o _ _)) HT1.o (by unfold maxLen;omega) (by omega) (by simp<;>omega) ?_;intro g9 c9 w9 ho9 hg9 hl9 hlt9;have HO9:Hid (w9.ownsRow W8.heap.size 163 6 (.slice (some ⟨g9,0,none⟩) N c9) N (ys.take (N*6))):=by unfold Hid;simpa using ho9
    have HB9:Hid (Bw W8 w9):=eH (Le _) (HBA2.o _ _) hg9 (λg e=>by have:=Oj e;omega);have HG9:Hid (W8.heap.size<=g9):=(aI HO9.o rfl).1;clear ho9 hl9;refine hK.o _ _ HB9.o (λhH=> ?_);clear hK K hH;try simp only[Act.put,L0,L4,L5]
    have HONX:Hid (w9.heap[W8.heap.size]? =some (.cells #[.int .i64 (c.prog:Nat),.int .i64 (c.left-1),.int .i64 c.back,.int .i64 (c.caller:Nat),.bool c.lev,.slice A n cp] 163 (0,0))):=(hg9.block _ (by simp<;>omega) (λe=>by have:=Oj e;omega)).trans (HA2.o.2 _ _);have HBX:=Hd HB9.o;have HOX:=Hd HO9.o;clear HO9 HB9;obtain⟨wX,hwX⟩:∃wX,wX=w9:=⟨_,rfl⟩;subst hwX
   all_goals
    refine rd1 16 rfl λK hK=> ?_;first|refine cG rfl (.tmp 60) (.tmp 62) 128 rfl W8.heap.size 163 iC zC 6 64 underlying128 HIC.o HZC.o hC1 hC2 hC3 (by omega) g9 N c9 (ys.take (N*6)) (by simp[Act.eval,Act.put]) HOX.o (some ⟨gb,0,none⟩) 1 1 [.int .i64 (c.prog:Nat),.int .i64 (c.left-1),.int .i64 c.back,.int .i64 (c.caller:Nat),.bool c.lev,.slice A n cp] (by simp[Act.eval,Act.put]) rfl (λ_=>⟨_,rfl,Nk HONX.o⟩) HONE.o (by unfold maxLen;omega) (by omega) HBX.o.size ?_|refine cG rfl (.tmp 60) (.tmp 62) 128 rfl W8.heap.size 163 iC zC 6 64 underlying128 HIC.o HZC.o hC1 hC2 hC3 (by omega) g9 N c9 (ys.take (N*6)) (by simp[Act.eval,Act.put]) HOX.o (some ⟨W8.heap.size,0,none⟩) 1 1 [.int .i64 (c.prog:Nat),.int .i64 (c.left-1),.int .i64 c.back,.int .i64 (c.caller:Nat),.bool c.lev,.slice A n cp] (by simp[Act.eval,Act.put]) rfl (λ_=>⟨_,rfl,Nk HONX.o⟩) HONE.o (by unfold maxLen;omega) (by omega) HBX.o.size ?_
    intro g5 c5 w5 ho5 hg5 hl5 hlt5;have HO5:=Hd ho5;have HB5:Hid (Bw W8 w5):=eH (Le _) HBX.o hg5 (λg e=>by have:=Oj e;have:=HG9.o;omega);have f65:=(cekF F.mb 6 (HB5.o.block _ HMB1.o)).trans f6;have d65:=HB5.o.ct HMB1.o d6;clear ho5 hg5 hl5;refine hK.o _ _ HB5.o (λhH=> ?_);clear hK K hH;try simp only[Act.put,L0,L4,L5]
    refine wpAnyH_done (by decide+kernel) ⟨rfl,?_⟩ _;refine wpAny_ready (rs:=[17]) (by decide+kernel) (by simp) ?_;refine AllReady.cons rfl (λK hK=> ?_) AllReady.nil;go_simp;refine hK _ _ ?_;clear hK K;try simp only[Act.put,L0,L4,L5]
    refine wpAny_ready (rs:=[18]) (by decide+kernel) (by simp) ?_;refine AllReady.cons rfl (λK hK=> ?_) AllReady.nil;go_simp;refine hK _ _ ?_;clear hK K;try simp only[Act.put,L0,L4,L5]
    refine wpAny_ready (rs:=[19]) (by decide+kernel) (by simp) ?_;refine AllReady.cons rfl (λK hK=> ?_) AllReady.nil;go_simp;refine hK _ _ ?_;clear hK K;try simp only[Act.put,L0,L4,L5]
    refine wpAny_done (by decide+kernel) ?_ _;go_wp2_with fail;go_meet;exact HFIN.o g5 c5 w5 HB5.o (by simpa using HO5.o)
  case rest=>
   obtain⟨⟨mb3,sb3,lb3,ac3,av3⟩,hmv3,hx4,hch4,hbk4⟩:=hcut;obtain rfl:mb3=F.mb:=hmv3.mb;obtain rfl:av3=w.heap.size::F.av:=hmv3.av;have HX4:=Hd hx4;have HMV4:=Hd hmv3;have HCH4:=Hd hch4;have HBK4:=Hd hbk4;obtain⟨A2',c2',ab',off',p1,rfl,pb,p2,p3,p4⟩:=hx4.prog_cells HCL.o.1;unfold maxLen at p4;have hpr:(c.prog:Int)<(L.pr.length:Int):=by have:=HCL.o.1;omega
   have hpr0:(0:Int)<=(c.prog:Int):=by omega
   have f5:wc.frozen? ⟨F.mb,5,none⟩=false:=by
    obtain⟨_,_,_,_,_,_,_,_,_,_,_,_,hfr⟩:=hx4.cells;exact hfr 5
   have d5:wc.cell? ⟨F.mb,5,none⟩=some (.int .i64 m2.pos):=by
    obtain⟨_,_,_,_,_,_,_,_,_,⟨_,_,_,_,_,d5,_⟩,_⟩:=hx4.cells;exact d5
   have y0:wc.cell? ⟨w.heap.size,0,none⟩=some (.int .i64 (c.prog:Nat)):=Ro wc _ 0 _ _ _ hbk4;have HPF:=nH HX.o.fine c.prog;have HFB:=HX.o.fine.bl;dsimp only at p1;clear hx4 hmv3 hch4 hbk4 z0 z1 z2 z3 z4 z5 d6 f6;go_wp2_with fail;go_region;go_wp2_with fail;refine bodyPost_ret (results_none results69 _ _ _) rfl ⟨rfl,?_⟩;rw[HEQ.o,Ip hl];have hm2:=HM2.o;subst hm2;have hm:=HM1.o;subst hm;exact BcI.fin (BcI.put HMV4.o HCH4.o ((HX4.o.set_pos (t:=(L.prg c.prog).first) (by unfold I64;omega)).below (aA (Bf _ _) 1)) ((aH wc F.mb 5 _ (λg=>g=F.mb) rfl).drewN 1) HBK4.o Mu) HB1.o
def zdX(B:Nat)(F:Fp)(L:Lb)(sk:Bool)(m:MS)(l:LI)(mac:Bool)(w:World)(e:Ending)(w':World):Prop:=
 e=.returned (.int .i64 (zbH L m l mac))/\QP B F L sk (zcV L m l mac) w w'
theorem zdX.no{B:Nat}{F:Fp}{L:Lb}{sk:Bool}{m:MS}{l:LI}{mac:Bool}{w w':World}{er:Int}(h:QX w B F L sk m)(hb:Bw w w')(he:zbH L m l mac=er)(h0:er≠0):zdX B F L sk m l mac w (.returned (.int .i64 er)) w':=
 ⟨by rw[he],by unfold zcV;rw[he,Ip h0];exact QP.below h hb⟩
def QcR(w:World)(l:LI)(mac:Bool)(av iv:Value)(W:World):Prop:=
 ∃(k cap:Nat) (C:OA) (acc:LI),k<=l.length/\av=.slice C acc.length cap/\iv=.int .i64 (k:Int)/\(l.take k).filter (zeQ mac)=acc/\(l.take k).any (zdI mac)=false/\Vi acc/\
  W.ownsRow w.heap.size 59 2 (.slice C acc.length cap) acc.length (zdS acc)/\Bw w W
theorem qjK{w:World}{base:Nat}{e:TypeId}{s:Nat}{A:OA}{c n m:Nat}{xs ys:LV}(h:w.ownsRow base e s (.slice A n c) n xs)(h1:n=m)(h2:xs=ys):w.ownsRow base e s (.slice A m c) m ys:=by subst h1 h2;exact h
def QcI(w:World)(B:Nat)(F:Fp)(L:Lb)(sk:Bool)(m1:MS)(lev:Bool)(C:OA)(args:LI)(W:World):Prop:=
 ∃F',Mv w F F'/\QX W B F' L sk m1/\Chg F.own w W/\(lev=true->RdV W F'.far C args.length args)
theorem xB(w:World)(B:Nat)(F:Fp)(L:Lb)(sk:Bool)(m:MS)(I:Nat->Prop)(A:OA)(n c:Nat)(l:LI)(mac:Bool)(h:QX w B F L sk m)(hv:RdV w I A n l)(hp:0<=m.pos/\m.pos<=1000000)(hlen:l.length<=1000)(h1:l.countP isK<=1)(h2:(if mac then l.any (λv=>isC v 71 65)else l.any (λv=>isC v 77 98))=true):
 Calls Tryz.prog 148 #[.pointer (some ⟨F.mb,0,none⟩),.slice A n c,.bool mac] w (zdX B F L sk m l mac w):=by
 obtain⟨i0,z0,hi,hz0,hz1,hz2,hzs⟩:=oD;have HX:=Hd h;have HVV:=Hd hv;obtain⟨hn1,hn2,hvb,hvc⟩:=hv;have HVB:Hid (Vi l):=hvb;have HVC:=Hd hvc;subst hn1;have HEQ:=Hd (qfS L m h1 h2);have HI:=Hd hi;have HP:=Hd hp;clear h hvb hvc hn2 h1 h2 hi hp;go_enter func148,ntmps148;go_wp2_with fail;go_loopw[7,8] (QcR w l mac) (λ_ i _=>l.length-(intOf i).toNat)
 case atStart=>exact⟨0,0,none,[],by omega,rfl,rfl,rfl,rfl,qdW,World.ownsRow_nil _ _ _ _,Bf _ _⟩
 case round=>
  obtain⟨k,cap,C,acc,hk,rfl,rfl,hac,hcf,hvi,hown,hnx⟩:=hrel;have hsize:=hnx.size;have HVI:=Hd hvi;have HAC:=Hd hac;have HCF0:=Hd hcf;have HB:=Hd hnx;have HO:=Hd hown;have hal:acc.length<=k:=by rw[<-hac];exact Ly (List.length_filter_le _ _) (by rw[Lr];omega)
  clear hvi hac hcf hnx hown;by_cases hlt:k<l.length
  ·obtain⟨ab,off,rfl,_,hab,hc⟩:=HVC.o (by omega);obtain⟨⟨cc,nn⟩,hx⟩:∃x,l[k]? =some x:=⟨_,Gg hlt⟩;obtain⟨x0,x1⟩:=hc k _ hx;dsimp only at x0 x1;have d0:=HB.o.ct hab x0;have d1:=HB.o.ct hab x1;have HTK:Hid ((l.take (k+1)).filter (zeQ mac)=acc++(if zeQ mac (cc,nn)=true then[(cc,nn)]else[])):=by
    unfold Hid;rw[Ta,hx,List.filter_append,HAC.o,Option.toList_some,List.filter_cons,List.filter_nil]
   have HCF:Hid ((l.take (k+1)).any (zdI mac)=zdI mac (cc,nn)):=by
    unfold Hid;rw[Ta,hx,List.any_append,HCF0.o,Option.toList_some];simp
   have HBAD:Hid (zdI mac (cc,nn)=true->zbH L m l mac=8):=λq=>by
    rw[HEQ.o.2.2.2.2,Ip (List.any_eq_true.2 ⟨_,Mg hx,q⟩)]
   have HBC:=Hd (HVB.o _ (Mg hx));clear hc hx x0 x1;by_cases p1:cc=80
   ·subst p1;have HQ:Hid (zeQ mac (80,nn)=false):=by unfold Hid zeQ;simp
    have HCO:Hid (zdI mac (80,nn)=false):=by unfold Hid zdI;simp
    go_wp2_with fail;exact⟨⟨k+1,cap,C,acc,by omega,rfl,by go_num,by rw[HTK.o,HQ.o,Iq (by decide),List.append_nil],by rw[HCF.o,HCO.o],HVI.o,HO.o,HB.o⟩,by simp only[intOf];omega⟩
   have g1:(cc==80)=false:=by simpa using p1
   by_cases p2:cc=76
   ·subst p2;have HQ:Hid (zeQ mac (76,nn)=false):=by unfold Hid zeQ;simp
    have HCO:Hid (zdI mac (76,nn)=false):=by unfold Hid zdI;simp
    go_wp2_with fail;exact⟨⟨k+1,cap,C,acc,by omega,rfl,by go_num,by rw[HTK.o,HQ.o,Iq (by decide),List.append_nil],by rw[HCF.o,HCO.o],HVI.o,HO.o,HB.o⟩,by simp only[intOf];omega⟩
   have g2:(cc==76)=false:=by simpa using p2
   rcases mac with _|_
   ·by_cases p3:cc=77
    ·subst p3;have HIS:=Hd (λW=>gN 77 nn 77 98 W (by omega));have HQ:Hid (zeQ false (77,nn)=false):=by unfold Hid zeQ;simp
     rcases hr:isC (77,nn) 77 98 with _|_
     ·have EJ:=Hd (HBAD.o (by unfold zdI;dsimp only;rw[hr];rfl));rw[hr]at HIS;clear hr;go_wp2_with(go_at_call 110;refine(HIS.o _).mono ?_;rintro e w' ⟨rfl,hb'⟩;have HB':=Hd hb';clear hb');go_ret;exact zdX.no HX.o (HB.o.tm HB'.o) EJ.o (by decide)
     ·have HCO:Hid (zdI false (77,nn)=false):=by unfold Hid zdI;dsimp only;rw[hr];simp
      rw[hr]at HIS;clear hr;go_wp2_with(go_at_call 110;refine(HIS.o _).mono ?_;rintro e w' ⟨rfl,hb'⟩;have HB':=Hd hb';clear hb');exact⟨⟨k+1,cap,C,acc,by omega,rfl,by go_num,by rw[HTK.o,HQ.o,Iq (by decide),List.append_nil],by rw[HCF.o,HCO.o],HVI.o,aC HO.o (λg hg _=>HB'.o.block g hg),HB.o.tm HB'.o⟩,by simp only[intOf];omega⟩
    ·have g3:(cc==77)=false:=by simpa using p3
     have g4:(cc !=77)=true:=by simpa using p3
     have hr:isC (cc,nn) 77 98=false:=by unfold isC;dsimp only;rw[g3];rfl
     have EJ:=Hd (HBAD.o (by unfold zdI;dsimp only;rw[g1,g2,hr];rfl));clear hr;go_wp2_with fail;go_ret;exact zdX.no HX.o HB.o EJ.o (by decide)
   ·by_cases p3:cc=71
    ·subst p3;have HIS:=Hd (λW=>gN 71 nn 71 65 W (by omega));have HQ:Hid (zeQ true (71,nn)=false):=by unfold Hid zeQ;simp
     rcases hr:isC (71,nn) 71 65 with _|_
     ·have EJ:=Hd (HBAD.o (by unfold zdI;dsimp only;rw[hr];rfl));rw[hr]at HIS;clear hr;go_wp2_with(go_at_call 110;refine(HIS.o _).mono ?_;rintro e w' ⟨rfl,hb'⟩;have HB':=Hd hb';clear hb');go_ret;exact zdX.no HX.o (HB.o.tm HB'.o) EJ.o (by decide)
     ·have HCO:Hid (zdI true (71,nn)=false):=by unfold Hid zdI;dsimp only;rw[hr];simp
      rw[hr]at HIS;clear hr;go_wp2_with(go_at_call 110;refine(HIS.o _).mono ?_;rintro e w' ⟨rfl,hb'⟩;have HB':=Hd hb';clear hb');exact⟨⟨k+1,cap,C,acc,by omega,rfl,by go_num,by rw[HTK.o,HQ.o,Iq (by decide),List.append_nil],by rw[HCF.o,HCO.o],HVI.o,aC HO.o (λg hg _=>HB'.o.block g hg),HB.o.tm HB'.o⟩,by simp only[intOf];omega⟩
    ·have g3:(cc==71)=false:=by simpa using p3
     have g4:(cc !=71)=true:=by simpa using p3
     have HQ:Hid (zeQ true (cc,nn)=true):=by unfold Hid zeQ;dsimp only;rw[g1,g2,g3];rfl
     have HCO:Hid (zdI true (cc,nn)=false):=by unfold Hid zdI;dsimp only;rw[g3];simp
     have HVI2:Hid (Vi (acc++[(cc,nn)])):=by
      intro y hy;rcases Ma.1 hy with q|q
      ·exact HVI.o y q
      ·rw[Mt.1 q];exact HBC.o
     go_wp2_with(first|(at_builtin;refine wpList_append_lies _ rfl (.tmp 80) (.tmp 85) 38 rfl w.heap.size 59 i0 z0 2 16 underlying38 HI.o hz0 hz1 hz2 hzs (by omega) (.slice C acc.length cap) acc.length (zdS acc) rfl (HO.o.alloc _) ⟨wr.heap.size,0,none⟩ 1 1 [.int .i64 cc,.int .i64 nn] rfl rfl (yD _ _ _ _) (zkU _ _ _ _) (by omega) (by unfold maxLen;omega) (by omega) (by simp;omega) _ rfl ?_;intro g9 c9 w9 ho9 hg9 _ _));exact⟨⟨k+1,c9,some ⟨g9,0,none⟩,acc++[(cc,nn)],by omega,by simp,by go_num,by rw[HTK.o,HQ.o,Ip rfl],by rw[HCF.o,HCO.o],HVI2.o,qjK ho9 (by simp) (by rw[qK]),(HB.o.alloc (by omega) _).grown hg9 (by simp;omega) (λj hj=>(HO.o.lt j hj).1)⟩,by simp only[intOf];omega⟩
  ·have hke:k=l.length:=by omega
   subst hke;rw[Tm]at HAC HCF0;have hon1:=mN 80 l;have hon2:=mN 76 l;have HON:=Hd (λ(W:World) (hW:Bw w W) (t:Int)=>qjM W (λ_=>True) A l.length c l (HVV.o.keep hW.size (λ_ _ _=>trivial) (λg hg _=>hW.block g hg)) t);have hee:=HEQ.o.2.2.2.2;rw[HCF0.o,Iq (by decide)]at hee;have HARG:Hid (mac=true->(enS l).args=acc):=λq=>by rw[HEQ.o.1,<-HAC.o,q]
   have hfil:(if mac then zcG m.sto (l.filter (zeQ true))else 0)=(if mac then zcG m.sto acc else 0):=by
    rcases mac with _|_
    ·rfl
    ·rw[<-HAC.o]
   rw[hfil]at hee;have HNB:Hid ((zbR 80 l).2=1->(enS l).number=(zbR 80 l).1):=HEQ.o.2.1;have HT0:Hid ((zbR 76 l).2=0->(enS l).times=1000000):=λq=>by have:=HEQ.o.2.2.1;rw[Ip q]at this;exact this
   have HT1':Hid ((zbR 76 l).2=1->(enS l).times=(zbR 76 l).1):=HEQ.o.2.2.2.1;have HP80:=Hd (HON.o wr HB.o 80);have HP76:=Hd (λW hW=>HON.o W hW 76);clear hfil HEQ HON;generalize zbR 80 l=p80 at*
   generalize zbR 76 l=p76 at*
   obtain⟨pn,np⟩:=p80;obtain⟨rn,nr⟩:=p76;dsimp only at hon1 hon2 hee HNB HT0 HT1' HP80 HP76;generalize hst:(zaY (enS l).times)=tw at*
   obtain⟨tm,tmk⟩:=tw;have HST:=Hd hst;dsimp only at hee;have HEE:=Hd hee;clear hee hst;have tok1:=trivial;go_upto_region 14 with(go_at_call 181;refine HP80.o.mono ?_;rintro e wA ⟨rfl,hbA⟩;have HBA:=Hd (HB.o.tm hbA);have HNA:=Hd hbA;clear hbA tok1)
   go_upto_region 15 with(go_at_call 181;refine(HP76.o _ HBA.o).mono ?_;rintro e wB ⟨rfl,hbB⟩;have HBB:=Hd (HBA.o.tm hbB);have HNB2:=Hd (HNA.o.tm hbB);clear hbB)
   have HOB:Hid (wB.ownsRow w.heap.size 59 2 (.slice C acc.length cap) acc.length (zdS acc)):=aC HO.o λg hg _=>HNB2.o.block g hg;clear HP80 HP76 HO HNA HNB2 HBA HB;by_cases q1:1<np
   ·have g1:decide (np>1)=true:=Dt q1;have EJ:Hid (zbH L m l mac=7):=by unfold Hid;rw[HEE.o,Ip (.inl q1)]
    clear q1;go_wp2_with fail;go_ret;exact zdX.no HX.o HBB.o EJ.o (by decide)
   have g1:decide (np>1)=false:=Df q1;by_cases q2:1<nr
   ·have g2:decide (nr>1)=true:=Dt q2;have EJ:Hid (zbH L m l mac=7):=by unfold Hid;rw[HEE.o,Ip (.inr q2)]
    clear q1 q2;go_wp2_with fail;go_ret;exact zdX.no HX.o HBB.o EJ.o (by decide)
   have g2:decide (nr>1)=false:=Df q2;have hee:=HEE.o;rw[Iq (by omega)]at hee;by_cases q3:np=0
   ·have g3:(np==0)=true:=by simpa using q3
    have EJ:Hid (zbH L m l mac=9):=by unfold Hid;rw[hee,Ip q3]
    clear q1 q2 q3 hee;go_wp2_with fail;go_ret;exact zdX.no HX.o HBB.o EJ.o (by decide)
   have g3:(np==0)=false:=by simpa using q3
   rw[Iq q3]at hee;have HNM:=Hd (HNB.o (by omega));have hnr:nr=0\/nr=1:=by omega
   obtain⟨A1,A2,A3,AC0,c1,c2,c3,capc0,xs0,⟨d0,d1,d2,-,-,-,-,-,-,-,-⟩,hL,-,-⟩:=HX.o.cells;have hmb:=HX.o.lt;have HL:=Hd hL;have e0:=HBB.o.ct hmb d0;have e1:=HBB.o.ct hmb d1;have e2:=HBB.o.ct hmb d2;clear d0 d1 d2 hL q1 q2 q3 HNB HEE;generalize hwn:zaY pn=wn at*
   obtain⟨wn,wk⟩:=wn;have HWN:=Hd hwn;dsimp only at hee;generalize hfd:zdO L wn=fd at*
   obtain⟨fi,fk⟩:=fd;have HFDE:=Hd hfd;dsimp only at hee;have HEE:=Hd hee;have HWH:Hid (∀W:World,Calls Tryz.prog 134 #[.int .i64 pn] W λe w'=>e=.returned (.tuple #[.int .i64 wn,.bool wk])/\W=w'):=λW=>by have:=eV pn W;rw[hwn]at this;exact this
   have HFD:Hid (Calls Tryz.prog 56 #[.agg #[.slice A1 L.bl.length c1,.slice A2 L.pr.length c2,.slice A3 L.mt.length c3],.int .i64 wn] wB λe w'=>e=.returned (.tuple #[.int .i64 fi,.bool fk])/\Bw wB w'):=by
    have q:=wY wB B L.pr (.slice A1 L.bl.length c1) (.slice A3 L.mt.length c3) A2 c2 wn (HL.o.below (HBB.o.mono HX.o.Ble)).pr (Ly HX.o.Ble HBB.o.size) rfl rfl;have e:zbM wn L.pr 0=(fi,fk):=hfd;rw[e]at q;exact q
   clear hwn hfd hee;go_upto_region 21 with(first|(go_at_call 134;refine(HWH.o _).mono ?_;rintro e w' ⟨rfl,rfl⟩)|(go_at_call 56;refine HFD.o.mono ?_;rintro e wC ⟨rfl,hbC⟩;have HBC:=Hd (HBB.o.tm hbC);have HNC:=Hd hbC;clear hbC))
   have HOC:Hid (wC.ownsRow w.heap.size 59 2 (.slice C acc.length cap) acc.length (zdS acc)):=aC HOB.o λg hg _=>HNC.o.block g hg;clear HWH HFD e0 e1 e2 g1 g2 g3 HNC HOB HBB;rcases wk with _|_
   ·have EJ:Hid (zbH L m l mac=6):=by unfold Hid;rw[HEE.o,Ip (.inl rfl)]
    go_wp2_with fail;go_ret;exact zdX.no HX.o HBC.o EJ.o (by decide)
   rcases fk with _|_
   ·have EJ:Hid (zbH L m l mac=6):=by unfold Hid;rw[HEE.o,Ip (.inr rfl)]
    go_wp2_with fail;go_ret;exact zdX.no HX.o HBC.o EJ.o (by decide)
   have hee:=HEE.o;rw[Iq (by simp)]at hee;have HE3:=Hd hee;have hfb:=qhV L wn (by rw[HFDE.o]);rw[HFDE.o]at hfb;dsimp only at hfb;obtain⟨p,hpi⟩:∃p:Nat,fi=(p:Int):=⟨fi.toNat,by omega⟩;subst hpi;have HPL:Hid (p<L.pr.length):=by have:=hfb.2;unfold Hid;simpa using this
   clear hee hfb HEE;go_upto_if 126 with(fail)
   go_cut[18] (λs18 W=>s18=.int .i64 tm/\W=wC/\tmk=true/\1<=tm/\tm<=999)
   case first=>
    rcases hnr with rfl|rfl
    ·have hq:zaY (1000000:Int)=(1,true):=by decide+kernel
     have ht:=HST.o;rw[HT0.o rfl,hq]at ht;cases ht;go_wp2_with fail;go_meet;refine⟨?_,?_,?_,?_,?_⟩<;>first|rfl|trivial|omega
    ·have ht:=HST.o;rw[HT1'.o rfl]at ht;have HWR:Hid (∀W:World,Calls Tryz.prog 134 #[.int .i64 rn] W λe w'=>e=.returned (.tuple #[.int .i64 tm,.bool tmk])/\W=w'):=λW=>by have:=eV rn W;rw[ht]at this;exact this
     clear ht;rcases tmk with _|_
     ·have EJ:Hid (zbH L m l mac=1):=by unfold Hid;rw[HE3.o,Ip (.inl rfl)]
      go_wp2_with(go_at_call 134;refine(HWR.o _).mono ?_;rintro e w' ⟨rfl,rfl⟩);go_ret;exact zdX.no HX.o HBC.o EJ.o (by decide)
     by_cases t1:tm<1
     ·have g1:decide (tm<1)=true:=Dt t1;have EJ:Hid (zbH L m l mac=1):=by unfold Hid;rw[HE3.o,Ip (.inr (.inl t1))]
      clear t1;go_wp2_with(go_at_call 134;refine(HWR.o _).mono ?_;rintro e w' ⟨rfl,rfl⟩);go_ret;exact zdX.no HX.o HBC.o EJ.o (by decide)
     have g1:decide (tm<1)=false:=Df t1;by_cases t2:999<tm
     ·have g2:decide (tm>999)=true:=Dt t2;have EJ:Hid (zbH L m l mac=1):=by unfold Hid;rw[HE3.o,Ip (.inr (.inr t2))]
      clear t1 t2;go_wp2_with(go_at_call 134;refine(HWR.o _).mono ?_;rintro e w' ⟨rfl,rfl⟩);go_ret;exact zdX.no HX.o HBC.o EJ.o (by decide)
     have g2:decide (tm>999)=false:=Df t2;have t3:1<=tm/\tm<=999:=by omega
     have HT3:=Hd t3;clear t1 t2 t3;go_wp2_with(go_at_call 134;refine(HWR.o _).mono ?_;rintro e w' ⟨rfl,rfl⟩);go_meet;refine⟨?_,?_,?_,?_,?_⟩<;>first|rfl|trivial|exact HT3.o.1|exact HT3.o.2
   case rest=>
   obtain⟨rfl,hwc,rfl,ht1,ht2⟩:=hcut;subst hwc;obtain⟨wD,hwD⟩:∃wD,wD=wc:=⟨_,rfl⟩;subst hwD;have hee:=HE3.o;rw[Iq (by simp;omega)]at hee;have HE4:=Hd hee;have HSTT:Hid (zaY (enS l).times=(tm,true)):=HST.o;have hx0:=HX.o.below HBC.o;have HXC:=Hd hx0;obtain⟨A1,A2,A3,AC0,c1,c2,c3,capc0,xs0,⟨-,-,-,-,-,-,d6,d7,-,-,-⟩,-,-,-⟩:=hx0.cells;have hfew:=HX.o.few;have HT12:Hid (1<=tm/\tm<=999):=⟨ht1,ht2⟩;clear hee hx0 HE3 HST HT0 HT1';by_cases q8:m.calls.length=8
   ·have g8:(((m.calls.length:Nat):Int)==8)=true:=by rw[q8];rfl
    have EJ:Hid (zbH L m l mac=10):=by unfold Hid;rw[HE4.o,Ip q8]
    clear q8;go_wp2_with fail;go_ret;exact zdX.no HX.o HBC.o EJ.o (by decide)
   have g8:(((m.calls.length:Nat):Int)==8)=false:=beq_eq_false_iff_ne.2 (by omega);have hee:=HE4.o;rw[Iq q8]at hee;have HE5:=Hd hee;have HN8:Hid (m.calls.length<=7):=by unfold Hid;omega
   have HRV:Hid (RdV wD F.far C acc.length acc):=RdV.keep (w:=wD) (oR HOC.o rfl HVI.o) (Le _) (λg hg hi=>⟨λho=>by have:=(HX.o.own_ge g ho).2;omega,λq=>by have:=(HX.o.av g q).2.2;omega⟩) (λ_ _ _=>rfl);have HPU:=Hd (qI wD F.sb F.lb m.sto F.far C acc.length cap acc HXC.o.sto HRV.o);clear q8 hee hfew HE4;go_upto_if 149 with(fail)
   go_cut[] (λW=>QcI w B F L sk {m with sto:=if mac then zbU m.sto acc else m.sto} mac C acc W/\zbH L m l mac=0)
   case first=>
    rcases mac with _|_
    ·go_wp2_with fail;go_meet;exact⟨⟨F,Mv.refl _ _,HXC.o,Chg.of_below HBC.o,λq=>by cases q⟩,HE5.o⟩
    ·have he:Hid (zbH L m l true=zcG m.sto acc):=HE5.o;generalize hpe:zcG m.sto acc=pe at*
     by_cases h0:pe=0
     case neg=>
      have g0:(pe !=0)=true:=by simpa using h0
      have HH0:=Hd h0;clear h0;go_wp2_with(go_at_call 104;refine HPU.o.mono ?_;rintro e w2 ⟨rfl,lb2,hl2,hs2,hc2⟩;have HS2:=Hd hs2;have HC2:=Hd hc2;clear hs2 hc2);go_ret;refine⟨aO he.o.symm,?_⟩;have ex:zbU m.sto acc=m.sto:=by unfold zbU;rw[Iq (by rw[hpe];exact HH0.o)]
      have hs:=HS2.o;rw[ex]at hs;obtain⟨r1,r2⟩:=HXC.o.store hs HX.o.vf hl2 (HC2.o.mono λg _ e=>.inl e);unfold zcV;rw[he.o,Ip HH0.o];exact QP.then (Chg.of_below HBC.o) ⟨_,r1,r2,HC2.o.mono λg _ e=>.inr (.inl e)⟩
     case pos=>
      subst h0;go_wp2_with(go_at_call 104;refine HPU.o.mono ?_;rintro e w2 ⟨rfl,lb2,hl2,hs2,hc2⟩;have HS2:=Hd hs2;have HC2:=Hd hc2;clear hs2 hc2);go_meet;obtain⟨r1,r2⟩:=HXC.o.store HS2.o (HX.o.vf.push acc) hl2 (HC2.o.mono λg _ e=>.inl e);refine⟨⟨_,?_,r2,(Chg.of_below HBC.o).trans (HC2.o.mono λg _ e=>.inr (.inl e)),λ_=>HRV.o.keep HC2.o.size (λg hg hi=>r1.far g hg hi) λg hg hi=>HC2.o.block g hg λe=>hi.1 (.inr (.inl e))⟩,he.o⟩;exact(Mv.refl w F).trans r1 HBC.o.size
   case rest=>
   obtain⟨W8,hW8⟩:∃W8,W8=wc:=⟨_,rfl⟩;subst hW8;obtain⟨⟨⟨mb1,sb1,lb1,ac1,av1⟩,hmv,hx3,hch,hra⟩,hee⟩:=hcut;obtain rfl:mb1=F.mb:=hmv.mb;obtain rfl:av1=F.av:=hmv.av;obtain⟨m2,hm2⟩:∃m2:MS,m2={m with sto:=if mac then zbU m.sto acc else m.sto}:=⟨_,rfl⟩;rw[<-hm2]at hx3;have HM2:=Hd hm2;have hc2:m2.calls=m.calls:=by rw[hm2]
   have hp2:m2.pos=m.pos:=by rw[hm2]
   have hg2:m2.prog=m.prog:=by rw[hm2]
   have HC2:=Hd hc2;have HE0:=Hd hee;have HX3:=Hd hx3;have HMV:=Hd hmv;have HCH:=Hd hch;have HRA:=Hd hra;obtain⟨A1',A2',A3',AC,c1',c2',c3',capc,ys,⟨-,-,-,-,d4,d5,d6,-,-,-,-⟩,hL,⟨hq,ho⟩,hfr⟩:=hx3.cells;dsimp only at d4 d5 d6 hfr;obtain⟨N,hN⟩:∃N,N=m2.calls.length:=⟨_,rfl⟩;rw[<-hN]at d6 ho;have HNN:=Hd hN;have HN7:Hid (N<=7):=by unfold Hid;rw[hN,hc2];exact HN8.o
   have hN7:=HN7.o;have hcm2:=ho.2.1;unfold maxLen at hcm2;have hcc:=ho.1;have HQ:=Hd hq;have HO:=Hd ho;have HMB1:Hid (F.mb<W8.heap.size):=hx3.lt;have hmb1:F.mb<W8.heap.size:=HMB1.o;have HTL:Hid (ys.length=N*6):=by unfold Hid;rw[hq.1,hN]
   have HT1:Hid (∀u∈ys,u.oneCell'=true):=hq.one;have HNW:Hid (∀W:World,Bw W8 W->0<N->∃ad,AC=some ad/\∀j u,ys[j]? =some u->W.cell? (ad.add j)=some u):=λW hW hn=>by
    obtain⟨ab,rfl,q1,q2,q3⟩:=HO.o.2.2 hn;exact⟨_,rfl,λj u hu=>by rw[zmQ];exact(hW.cel ab j q1).trans (q3 j u hu)⟩
   have wT:IntKind.i64.wrap (tm-1)=tm-1:=IntWalk.i64_in _ (by have:=HT12.o;omega);have wP:IntKind.i64.wrap (m.pos+1)=m.pos+1:=IntWalk.i64_in _ (by have:=HP.o;omega);rw[hp2]at d5;rw[hg2]at d4;have f6:=hfr 6;obtain⟨iC,zC,hiC,hC0,hC1,hC2,hC3⟩:=pD;have HIC:=Hd hiC;have HZC:=Hd hC0;have HBA:Hid (∀o:Obj,Bw W8 (W8.alloc o).drew):=λo=>aA ((Bf _ _).alloc (Le _) o) 1;have HOW:Hid ((∀o,((W8.alloc (.cells #[] 163)).alloc o).ownsRow W8.heap.size 163 6 (.slice (some ⟨W8.heap.size,0,none⟩) 0 0) 0 [])/\∀o,((W8.alloc o).alloc (.cells #[] 163)).ownsRow W8.heap.size 163 6 (.slice (some ⟨W8.heap.size+1,0,none⟩) 0 0) 0 []):=
    ⟨λo=>(dW W8 _ _).alloc o,λo=>by
     have q:=yT (dW (W8.alloc o) 163 6) (b':=W8.heap.size) (by simp)
     simpa using q⟩
   have HBA2:Hid (∀o o':Obj,Bw W8 ((W8.alloc o).alloc o').drew):=λo o'=>aA (((Bf _ _).alloc (Le _) o).alloc (by simp) o') 1;have HA2:Hid ((∀o o':Obj,((W8.alloc o).alloc o').heap[W8.heap.size+1]? =some o')/\∀o o':Obj,((W8.alloc o).alloc o').heap[W8.heap.size]? =some o):=
    ⟨λo o'=>by simpa using Hn (W8.alloc o) o',λo o'=>(Bm _ _ _ (by simp)).trans (Hn W8 o)⟩
   have HONE:Hid (∀u∈([.int .i64 (p:Nat),.int .i64 (tm-1),.int .i64 (m.pos+1),.int .i64 (m.prog:Nat),.bool mac,.slice C acc.length cap]:LV),u.oneCell'=true):=by
    intro u hu;simp only[List.mem_cons,List.not_mem_nil,or_false]at hu;rcases hu with rfl|rfl|rfl|rfl|rfl|rfl<;>rfl
   have HFIN:Hid (∀(g9 c9:Nat) (w9:World),Bw W8 w9->w9.ownsRow W8.heap.size 163 6 (.slice (some ⟨g9,0,none⟩) (N+1) c9) (N+1) (ys++[.int .i64 (p:Nat),.int .i64 (tm-1),.int .i64 (m.pos+1),.int .i64 (m.prog:Nat),.bool mac,.slice C acc.length cap])->
    QX (w9.setCell ⟨F.mb,6,none⟩ (.slice (some ⟨g9,0,none⟩) (N+1) c9)) B ⟨F.mb,sb1,lb1,ac1,F.av⟩ L sk {m2 with calls:=m2.calls++[(⟨p,m.prog,m.pos+1,tm-1,(enS l).args,mac⟩:Cl)]}/\Chg (λg=>g=F.mb) W8 (w9.setCell ⟨F.mb,6,none⟩ (.slice (some ⟨g9,0,none⟩) (N+1) c9))):=λg9 c9 w9 hb ho9=>by
    have hlen:(m2.calls++[(⟨p,m.prog,m.pos+1,tm-1,(enS l).args,mac⟩:Cl)]).length=N+1:=by rw[La,<-HNN.o];rfl
    have hqc:=HQ.o.push (⟨p,m.prog,m.pos+1,tm-1,(enS l).args,mac⟩:Cl) C acc.length cap (by have:=HP.o;unfold I64;dsimp only;omega) (by have:=HT12.o;unfold I64;dsimp only;omega) (λq=>by dsimp only at q⊢;rw[HARG.o q];exact⟨rfl,HRA.o q⟩);have q:=(HX3.o.below hb).set_calls (AC':=some ⟨g9,0,none⟩) (cap':=c9) (hqc.keep hb.size (λ_ _ z=>z) (λg hg _=>hb.block g hg)) (by rw[hlen];exact HX3.o.own_row ho9) (by rw[hlen];have:=HN7.o;omega) (λd hd=>by
     rcases Ma.1 hd with k|k
     ·exact HX3.o.calls d k
     ·rw[Mt.1 k];exact⟨HPL.o,HX.o.prog,by have:=HT12.o;dsimp only;omega⟩)
    rw[hlen]at q;exact⟨q,(Chg.of_below hb).trans (aH _ F.mb 6 _ (λg=>g=F.mb) rfl)⟩
   clear hm2 hc2 hp2 hg2 hee hx3 hmv hch hra hL hq ho hfr hN hcc hiC hC0 d7;go_upto_region 35 with(fail)
   go_cut[]from 159 to 184 (λW=>QX W B ⟨F.mb,sb1,lb1,ac1,F.av⟩ L sk {m2 with calls:=m2.calls++[(⟨p,m.prog,m.pos+1,tm-1,(enS l).args,mac⟩:Cl)]}/\Chg (λg=>g=F.mb) W8 W)
   case first=>
    have HS0:Hid (Bw W8 W8.drew):=aA (Bf W8.heap.size W8) 1;refine eQ (S:=λW=>Bw W8 W) 24 27 rfl (by decide) (by decide+kernel) rfl ?_;simp only[List.extract_toArray,List.extract_eq_take_drop,Nat.sub_zero,List.drop_zero,List.take_succ_cons,List.take_zero];refine tkA 0 ?_ (hS:=HS0.o);refine tkA 2 ?_ (hS:=HS0.o);refine tkA 3 ?_ (hS:=HS0.o);refine tkA 4 ?_ (hS:=HS0.o);try simp only[Act.put,L0,L4,L5]
    refine tkL 5 (v:= ?_) rfl ?_ HS0.o ?_;rotate_left
    ·intro w1 hSw;have hSw:Bw W8 w1:=hSw;have u6:=hSw.ct HMB1.o d6;clear hSw;go_simp<;>with_reducible rfl
    try simp only[Act.put,L0,L4,L5]
    refine tkA 7 ?_ (hS:=HS0.o);refine tkA 8 ?_ (hS:=HS0.o);refine tkA 9 ?_ (hS:=HS0.o);refine tkA 10 ?_ (hS:=HS0.o);refine tkA 11 ?_ (hS:=HS0.o);refine tkA 12 ?_ (hS:=HS0.o);try simp only[Act.put,L0,L4,L5]
    refine tkL 13 (v:= ?_) rfl ?_ HS0.o ?_;rotate_left
    ·intro w1 hSw;have hSw:Bw W8 w1:=hSw;have u5:=hSw.ct HMB1.o d5;clear hSw;go_simp<;>with_reducible rfl
    try simp only[Act.put,L0,L4,L5]
    refine tkA 14 ?_ (hS:=HS0.o);refine tkA 15 ?_ (hS:=HS0.o);refine tkA 16 ?_ (hS:=HS0.o);refine tkA 17 ?_ (hS:=HS0.o);try simp only[Act.put,L0,L4,L5]
    refine tkL 18 (v:= ?_) rfl ?_ HS0.o ?_;rotate_left
    ·intro w1 hSw;have hSw:Bw W8 w1:=hSw;have u4:=hSw.ct HMB1.o d4;clear hSw;go_simp<;>with_reducible rfl
    try simp only[Act.put,L0,L4,L5]
    refine tkA 19 ?_ (hS:=HS0.o);refine tkA 20 ?_ (hS:=HS0.o);refine tkA 21 ?_ (hS:=HS0.o);try simp only[Act.put,L0,L4,L5]
    refine rd2 1 22 rfl rfl (λK hK=> ?_) λK hK=> ?_
    focus
     go_simp;refine hK.o _ _ (HBA.o _) (λhH=> ?_);clear hK K hH;try simp only[Act.put,L0,L4,L5]
     refine rd2 6 22 rfl rfl (λK hK=> ?_) λK hK=> ?_
     focus
      refine cG rfl (.tmp 160) (.tmp 164) 128 rfl W8.heap.size 163 iC zC 6 64 underlying128 HIC.o HZC.o hC1 hC2 hC3 (by omega) (W8.heap.size) 0 0 [] (by simp[Act.eval,Act.put]) (dW W8 _ _) AC N capc ys (by simp[Act.eval,Act.put]) HTL.o (HNW.o _ (HBA.o _)) HT1.o (by unfold maxLen;omega) (by omega) (by simp<;>omega) ?_;intro g9 c9 w9 ho9 hg9 hl9 hlt9;have HO9:Hid (w9.ownsRow W8.heap.size 163 6 (.slice (some ⟨g9,0,none⟩) N c9) N ys):=by unfold Hid;simpa using ho9
      have HB9:Hid (Bw W8 w9):=eH (Le _) (HBA.o _) hg9 (λg e=>by have:=Oj e;omega);have HG9:Hid (W8.heap.size<=g9):=(aI HO9.o rfl).1;clear ho9 hl9;refine hK.o _ _ HB9.o (λhH=> ?_);clear hK K hH;try simp only[Act.put,L0,L4,L5]
      refine rd1 22 rfl λK hK=> ?_;go_simp;refine hK.o _ _ (HB9.o.alloc HB9.o.size _) (λhH=> ?_);clear hK K hH;try simp only[Act.put,L0,L4,L5]
      obtain⟨wX,hwX,-,HONX⟩:=newWH w9 #[.int .i64 (p:Nat),.int .i64 (tm-1),.int .i64 (m.pos+1),.int .i64 (m.prog:Nat),.bool mac,.slice C acc.length cap] 163;have HBX:Hid (Bw W8 wX):=by unfold Hid;rw[hwX];exact HB9.o.alloc HB9.o.size _
      have HOX:Hid (wX.ownsRow W8.heap.size 163 6 (.slice (some ⟨g9,0,none⟩) N c9) N ys):=by unfold Hid;rw[hwX];exact bW (λg x hx=>(Bm w9 _ g (hlS hx)).trans hx) HO9.o
      rw[<-hwX];generalize w9.heap.size=gb at HONX⊢
      clear hwX HO9 HB9
     rotate_left
     focus
      go_simp;refine hK.o _ _ (HBA2.o _ _) (λhH=> ?_);clear hK K hH;try simp only[Act.put,L0,L4,L5]
      refine rd1 6 rfl λK hK=> ?_;refine cG rfl (.tmp 160) (.tmp 164) 128 rfl W8.heap.size 163 iC zC 6 64 underlying128 HIC.o HZC.o hC1 hC2 hC3 (by omega) (W8.heap.size) 0 0 [] (by simp[Act.eval,Act.put]) (HOW.o.1 _) AC N capc ys (by simp[Act.eval,Act.put]) HTL.o (HNW.o _ (HBA2.o _ _)) HT1.o (by unfold maxLen;omega) (by omega) (by simp<;>omega) ?_;intro g9 c9 w9 ho9 hg9 hl9 hlt9;have HO9:Hid (w9.ownsRow W8.heap.size 163 6 (.slice (some ⟨g9,0,none⟩) N c9) N ys):=by unfold Hid;simpa using ho9
      have HB9:Hid (Bw W8 w9):=eH (Le _) (HBA2.o _ _) hg9 (λg e=>by have:=Oj e;omega);have HG9:Hid (W8.heap.size<=g9):=(aI HO9.o rfl).1;clear ho9 hl9;refine hK.o _ _ HB9.o (λhH=> ?_);clear hK K hH;try simp only[Act.put,L0,L4,L5]
      have HONX:Hid (w9.heap[W8.heap.size+1]? =some (.cells #[.int .i64 (p:Nat),.int .i64 (tm-1),.int .i64 (m.pos+1),.int .i64 (m.prog:Nat),.bool mac,.slice C acc.length cap] 163 (0,0))):=(hg9.block _ (by simp<;>omega) (λe=>by have:=Oj e;omega)).trans (HA2.o.1 _ _);have HBX:=Hd HB9.o;have HOX:=Hd HO9.o;clear HO9 HB9;obtain⟨wX,hwX⟩:∃wX,wX=w9:=⟨_,rfl⟩;subst hwX;generalize W8.heap.size+1=gb at HONX⊢
    rotate_left 2
    focus
     go_simp;refine hK.o _ _ (HBA.o _) (λhH=> ?_);clear hK K hH;try simp only[Act.put,L0,L4,L5]
     refine rd1 1 rfl λK hK=> ?_;go_simp;refine hK.o _ _ (HBA2.o _ _) (λhH=> ?_);clear hK K hH;try simp only[Act.put,L0,L4,L5]
     refine rd1 6 rfl λK hK=> ?_;refine cG rfl (.tmp 160) (.tmp 164) 128 rfl W8.heap.size 163 iC zC 6 64 underlying128 HIC.o HZC.o hC1 hC2 hC3 (by omega) (W8.heap.size+1) 0 0 [] (by simp[Act.eval,Act.put]) (HOW.o.2 _) AC N capc ys (by simp[Act.eval,Act.put]) HTL.o (HNW.o _ (HBA2.o _ _)) HT1.o (by unfold maxLen;omega) (by omega) (by simp<;>omega) ?_;intro g9 c9 w9 ho9 hg9 hl9 hlt9;have HO9:Hid (w9.ownsRow W8.heap.size 163 6 (.slice (some ⟨g9,0,none⟩) N c9) N ys):=by unfold Hid;simpa using ho9
     have HB9:Hid (Bw W8 w9):=eH (Le _) (HBA2.o _ _) hg9 (λg e=>by have:=Oj e;omega);have HG9:Hid (W8.heap.size<=g9):=(aI HO9.o rfl).1;clear ho9 hl9;refine hK.o _ _ HB9.o (λhH=> ?_);clear hK K hH;try simp only[Act.put,L0,L4,L5]
     have HONX:Hid (w9.heap[W8.heap.size]? =some (.cells #[.int .i64 (p:Nat),.int .i64 (tm-1),.int .i64 (m.pos+1),.int .i64 (m.prog:Nat),.bool mac,.slice C acc.length cap] 163 (0,0))):=(hg9.block _ (by simp<;>omega) (λe=>by have:=Oj e;omega)).trans (HA2.o.2 _ _);have HBX:=Hd HB9.o;have HOX:=Hd HO9.o;clear HO9 HB9;obtain⟨wX,hwX⟩:∃wX,wX=w9:=⟨_,rfl⟩;subst hwX
    all_goals
     refine rd1 23 rfl λK hK=> ?_;first|refine cG rfl (.tmp 165) (.tmp 181) 128 rfl W8.heap.size 163 iC zC 6 64 underlying128 HIC.o HZC.o hC1 hC2 hC3 (by omega) g9 N c9 ys (by simp[Act.eval,Act.put]) HOX.o (some ⟨gb,0,none⟩) 1 1 [.int .i64 (p:Nat),.int .i64 (tm-1),.int .i64 (m.pos+1),.int .i64 (m.prog:Nat),.bool mac,.slice C acc.length cap] (by simp[Act.eval,Act.put]) rfl (λ_=>⟨_,rfl,Nk HONX.o⟩) HONE.o (by unfold maxLen;omega) (by omega) HBX.o.size ?_|refine cG rfl (.tmp 165) (.tmp 181) 128 rfl W8.heap.size 163 iC zC 6 64 underlying128 HIC.o HZC.o hC1 hC2 hC3 (by omega) g9 N c9 ys (by simp[Act.eval,Act.put]) HOX.o (some ⟨W8.heap.size,0,none⟩) 1 1 [.int .i64 (p:Nat),.int .i64 (tm-1),.int .i64 (m.pos+1),.int .i64 (m.prog:Nat),.bool mac,.slice C acc.length cap] (by simp[Act.eval,Act.put]) rfl (λ_=>⟨_,rfl,Nk HONX.o⟩) HONE.o (by unfold maxLen;omega) (by omega) HBX.o.size ?_
     intro g5 c5 w5 ho5 hg5 hl5 hlt5;have HO5:=Hd ho5;have HB5:Hid (Bw W8 w5):=eH (Le _) HBX.o hg5 (λg e=>by have:=Oj e;have:=HG9.o;omega);have f65:=(cekF F.mb 6 (HB5.o.block _ HMB1.o)).trans f6;have d65:=HB5.o.ct HMB1.o d6;clear ho5 hg5 hl5;refine hK.o _ _ HB5.o (λhH=> ?_);clear hK K hH;try simp only[Act.put,L0,L4,L5]
     refine wpAnyH_done (by decide+kernel) ⟨rfl,?_⟩ _;refine wpAny_ready (rs:=[24]) (by decide+kernel) (by simp) ?_;refine AllReady.cons rfl (λK hK=> ?_) AllReady.nil;go_simp;refine hK _ _ ?_;clear hK K;try simp only[Act.put,L0,L4,L5]
     refine wpAny_ready (rs:=[25]) (by decide+kernel) (by simp) ?_;refine AllReady.cons rfl (λK hK=> ?_) AllReady.nil;go_simp;refine hK _ _ ?_;clear hK K;try simp only[Act.put,L0,L4,L5]
     refine wpAny_ready (rs:=[26]) (by decide+kernel) (by simp) ?_;refine AllReady.cons rfl (λK hK=> ?_) AllReady.nil;go_simp;refine hK _ _ ?_;clear hK K;try simp only[Act.put,L0,L4,L5]
     refine wpAny_done (by decide+kernel) ?_ _;go_wp2_with fail;go_meet;exact HFIN.o g5 c5 w5 HB5.o (by simpa using HO5.o)
   case rest=>
   obtain⟨hx4,hch4⟩:=hcut;have HX4:=Hd hx4;have HCH4:=Hd hch4;obtain⟨B2,c2'',ab',off',p1,rfl,pb,p2,p3,p4⟩:=hx4.prog_cells HPL.o;obtain⟨_,_,_,_,_,_,_,_,_,⟨-,-,-,-,e4,e5,-,-,-,-,-⟩,-,-,hfr4⟩:=hx4.cells;dsimp only at p1 e4 e5 hfr4;have f4:=hfr4 4;have f5:=hfr4 5;unfold maxLen at p4;have hpr:(p:Int)<(L.pr.length:Int):=by have:=HPL.o;omega
   have hpr0:(0:Int)<=(p:Int):=by omega
   have HPF:=nH HX.o.fine p;have HFB:=HX.o.fine.bl;clear hx4 hch4 d4 d5 d6 f6;go_wp2_with fail;go_ret;refine⟨aO HE0.o.symm,?_⟩;have q5:=(HX4.o.set_prog (t:=p) HPL.o).set_pos (t:=(L.prg p).first) (by unfold I64;omega);have em:zcV L m l mac={m2 with calls:=m2.calls++[(⟨p,m.prog,m.pos+1,tm-1,(enS l).args,mac⟩:Cl)],prog:=p,pos:=(L.prg p).first}:=by
    unfold zcV;have hA:(if mac=true then zbU m.sto (enS l).args else m.sto)=(if mac=true then zbU m.sto acc else m.sto):=by
     rcases mac with _|_
     ·rfl
     ·rw[HARG.o rfl]
    rw[HE0.o,Iq (by simp),HNM.o,HWN.o,HM2.o];dsimp only;rw[HFDE.o,HSTT.o,hA];rfl
   rw[em];exact⟨_,HMV.o,q5,HCH.o.trans (((HCH4.o.trans (aH _ F.mb 4 _ (λg=>g=F.mb) rfl)).trans (aH _ F.mb 5 _ (λg=>g=F.mb) rfl)).mono λg _ e=>.inl e)⟩
