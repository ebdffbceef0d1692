/- The walk of. -/
import Derived.Test.YtdcjbhdfphcefaaGreatDoorAx
import Derived.Test.YtdcjbhdfphcefaaGreatDoorRbl
import Derived.Test.YtdcjbhdfphcefaaGreatDoorRnx
namespace Go.Proofs.YtdcjbhdfphcefaaGreatDoor
set_option linter.all false
set_option maxRecDepth 100000
set_option maxHeartbeats 40000000
open Go.Proofs.Tryz
open Go.RowKit
def SmR(w:World)(n:Nat)(i:Value)(W:World):Prop:=∃k:Nat,k<=n/\i=.int .i64 (k:Int)/\Bw w W
theorem jB(w:World)(I J:Nat->Prop)(A1 A2:OA)(c1 c2:Nat)(a b:Int)(l:LI)(h1:RdV w I A1 l.length l)(h2:RdV w J A2 l.length l):
 Calls Tryz.prog 21 #[.agg #[.int .i64 a,.int .i64 b,.slice A1 l.length c1],.agg #[.int .i64 a,.int .i64 b,.slice A2 l.length c2]] w λe w'=>e=.returned (.bool true)/\Bw w w':=by
 obtain⟨_,hn2,_,hv1⟩:=h1;obtain⟨_,_,_,hv2⟩:=h2;have HV1:=Hd hv1;have HV2:=Hd hv2;unfold maxLen at hn2;clear hv1 hv2;obtain⟨W1,hW1⟩:∃W1,W1=w.alloc (.cells #[.int .i64 a,.int .i64 b,.slice A1 l.length c1] 40):=⟨_,rfl⟩;obtain⟨W2,hW2⟩:∃W2,W2=W1.alloc (.cells #[.int .i64 a,.int .i64 b,.slice A2 l.length c2] 40):=⟨_,rfl⟩;have HB1:Hid (Bw w W1):=by unfold Hid;rw[hW1];exact nB _ _
 have HB2:Hid (Bw w W2):=by unfold Hid;rw[hW2];exact HB1.o.alloc HB1.o.size _
 have q1:W1.heap[w.heap.size]? =some (.cells #[.int .i64 a,.int .i64 b,.slice A1 l.length c1] 40 (0,0)):=by rw[hW1];exact Hn _ _
 have hs1:=hlS q1;have q2:W2.heap[w.heap.size]? =some (.cells #[.int .i64 a,.int .i64 b,.slice A1 l.length c1] 40 (0,0)):=by
  rw[<-q1,hW2];exact((Bf _ W1).alloc (Le _) _).block _ hs1
 have q3:W2.heap[W1.heap.size]? =some (.cells #[.int .i64 a,.int .i64 b,.slice A2 l.length c2] 40 (0,0)):=by rw[hW2];exact Hn _ _
 have a0:=ce0 q2;have a1:=ce1 q2;have a2:=ce2 q2;have b0:=ce0 q3;have b1:=ce1 q3;have b2:=ce2 q3;have hz:W1.heap.size=w.heap.size+1:=by rw[hW1];exact Array.size_push _
 have hz2:=hlS q2;have hz3:=hlS q3;rw[hz]at b0 b1 b2 hz3;clear q1 q2 q3 hz;go_enter func21,ntmps21;go_upto_region 1 with(fail)
 rw[<-hW1,<-hW2];clear hW1 hW2;go_wp2_with fail;go_loopw[5] (SmR W2 l.length) (λi _=>l.length-(intOf i).toNat)
 case atStart=>exact⟨0,by omega,rfl,Bf _ _⟩
 case round=>
  obtain⟨k,hk,rfl,hb⟩:=hrel;have HB:=Hd hb;have HBW:Hid (Bw w wr):=HB2.o.tm hb;have f2:=hb.ct hz2 a2;have g2:=hb.ct hz3 b2;clear hb;by_cases hlt:k<l.length
  ·obtain⟨ab,off,rfl,_,hab,hc⟩:=HV1.o (by omega);obtain⟨ad,of2,rfl,_,had,hd⟩:=HV2.o (by omega);obtain⟨⟨cc,nn⟩,hx⟩:∃x,l[k]? =some x:=⟨_,Gg hlt⟩;have d0:=(HBW.o.cel ab (off+k*2) hab).trans (hc k _ hx).1;have d1:=(HBW.o.cel ab (off+k*2+1) hab).trans (hc k _ hx).2;have e0:=(HBW.o.cel ad (of2+k*2) had).trans (hd k _ hx).1;have e1:=(HBW.o.cel ad (of2+k*2+1) had).trans (hd k _ hx).2;dsimp only at d0 d1 e0 e1;have i0:(0:Int)<=(k:Int):=by omega
   have i1:(k:Int)<(l.length:Int):=by omega
   clear hc hd hx;go_upto_region 6 with(fail)
   go_quiet(fail);go_wp2_with fail;exact⟨⟨k+1,by omega,by go_num,aA HB.o nq⟩,by simp only[intOf];omega⟩
  ·have hke:k=l.length:=by omega
   go_wp2_with fail;go_ret;exact⟨rfl,HBW.o⟩
def zjE(b:Nat)(L:Lb)(sk:Bool)(w:World)(e:Ending)(w':World):Prop:=
 Bw w w'/\match zgA L with
  |none=>e=.returned (.tuple #[.pointer none,.int .i64 6])
  |some m=>∃F:Fp,e=.returned (.tuple #[.pointer (some ⟨F.mb,0,none⟩),.int .i64 0])/\QX w' b F L sk m/\F.av=[]/\RJ m/\∀g,F.own g->w.heap.size<=g
theorem qnT{b:Nat}{w w2:World}{L:Lb}{sk:Bool}{k sb lb:Nat}{first:Int}{A1 A2 A3:OA}{c1 c2 c3:Nat}(hbb:b<=w.heap.size)(hL:RdLb w b L A1 L.bl.length A2 L.pr.length A3 L.mt.length)(hb:Bw w w2)(hf:L.fine)(hm:L.mated)(hk:k<L.pr.length)(hi:0<=first/\first<=L.bl.length)(hs:SxR w2 sb lb ⟨[λ_=>0],λ_=>0⟩)(h1:w.heap.size<=sb)(h2:w.heap.size<=lb):
 QX (w2.alloc (.cells ⟨zdG A1 A2 A3 none c1 c2 c3 0 sb L sk (zeJ (k,first))⟩ 130)) b ⟨w2.heap.size,sb,lb,none,[]⟩ L sk (zeJ (k,first))/\∀g,Fp.own ⟨w2.heap.size,sb,lb,none,[]⟩ g->w.heap.size<=g:=by
 have hlt:=hs.lt;have hb2:Bw w2 (w2.alloc (.cells ⟨zdG A1 A2 A3 none c1 c2 c3 0 sb L sk (zeJ (k,first))⟩ 130)):=nB _ _;have hfb:=hf.bl;have hbs:=hb.size;refine⟨⟨rfl,⟨by dsimp only;omega,by dsimp only;omega,by dsimp only;omega⟩,⟨by dsimp only;omega,by dsimp only;omega⟩,λx hx=>(by cases hx),hf,hm,hs.below hb2,⟨λf hf=> ?_,Vf.zero⟩,by show I64 first;unfold I64;omega,hk,by show(0:Int)<=0/\(0:Int)<=20000;omega,by show(0:Nat)<=8;omega,λc hc=>(by cases hc),A1,A2,A3,none,c1,c2,c3,0,[],Hn _ _,hL.below ((hb.tm hb2).mono hbb),QC.nil _ _,Le _,by unfold maxLen;omega,λh=>absurd h (Nat.lt_irrefl 0)⟩,λg hg=> ?_⟩
 ·rw[Mt.1 hf];exact Vf.zero
 ·rcases(Fp.own3 rfl).1 hg with e|e|e<;>dsimp only at e<;>omega
theorem qnM{k:Nat}{first:Int}(hi:0<=first/\first<=200000):RJ (zeJ (k,first)):=⟨rfl,λc hc=>(by cases hc),hi,λc hc=>(by cases hc),by show(0:Nat)<=8;omega⟩
theorem qnK(w:World)(b:Nat)(hbb:b<=w.heap.size)(L:Lb)(sk:Bool)(A1 A2 A3:OA)(c1 c2 c3:Nat)(h:RdLb w b L A1 L.bl.length A2 L.pr.length A3 L.mt.length)(hf:L.fine)(hm:L.mated):
 Calls Tryz.prog 42 #[.agg #[.slice A1 L.bl.length c1,.slice A2 L.pr.length c2,.slice A3 L.mt.length c3],.bool sk] w (zjE b L sk w):=by
 have HL:=Hd h;have HF:=Hd hf;have HM:=Hd hm;have HRP:=Hd (h.keep (λ_ _=>rfl) hbb).pr;have HBB:=Hd hbb;have hn2:=h.pr.2.1;unfold maxLen at hn2;obtain⟨W0,hW0,HB0,hbx⟩:=newW w #[.slice A1 L.bl.length c1,.slice A2 L.pr.length c2,.slice A3 L.mt.length c3] 32;have hx0:=hlS hbx;have HBX:=Hd hbx;have hbs0:=HB0.o.size;clear h hf hm hbx hbb;go_enter func42,ntmps42;go_upto_region 1 with(fail)
 rw[<-hW0];clear hW0;go_wp2_with fail;go_loopw[6] (zkL W0 L) (λi _=>L.pr.length-(intOf i).toNat)
 case atStart=>exact⟨0,by omega,rfl,Bf _ _,rfl⟩
 case round=>
  obtain⟨k,hk,rfl,hb,her⟩:=hrel;have HB:=Hd hb;have HER:=Hd her;have HBW:=Hd (HB0.o.trans (hb.mono hbs0));have hbr:w.heap.size<wr.heap.size:=Lt hx0 hb.size;have b0:wr.cell? ⟨w.heap.size,0,none⟩=some (.slice A1 L.bl.length c1):=(hb.cel w.heap.size 0 hx0).trans (Ro W0 _ 0 _ _ _ HBX.o);have b1:wr.cell? ⟨w.heap.size,1,none⟩=some (.slice A2 L.pr.length c2):=(hb.cel w.heap.size 1 hx0).trans (Ro W0 _ 1 _ _ _ HBX.o);have b2:wr.cell? ⟨w.heap.size,2,none⟩=some (.slice A3 L.mt.length c3):=(hb.cel w.heap.size 2 hx0).trans (Ro W0 _ 2 _ _ _ HBX.o);clear hb her;by_cases hlt:k<L.pr.length
  ·obtain⟨ab,off,rfl,hab,hc⟩:=HRP.o.2.2.2 (by omega);obtain⟨⟨num,first,stop⟩,hx⟩:∃x,L.pr[k]? =some x:=⟨_,Gg hlt⟩;obtain⟨y0,y1,y2⟩:=hc k _ hx;dsimp only at y0 y1 y2;have z0:=HBW.o.ct hab y0;have z1:=HBW.o.ct hab y1;have z2:=HBW.o.ct hab y2;have hok:=HF.o.ok k _ hx;dsimp only at hok;have hcase:zdU L.bl.length L.pr 0=if 0<=first/\first<stop/\stop<=(L.bl.length:Int)then some (k,first)else zdU L.bl.length (L.pr.drop (k+1)) (k+1):=by
    rw[HER.o,cE hx];rfl
   have HCS:=Hd hcase;have HKL:Hid (k<L.pr.length):=hlt;obtain⟨W1,hW1,HB1,q1⟩:=newW wr #[.int .i64 num,.int .i64 first,.int .i64 stop] 73;have p1:=ce1 q1;have p2:=ce2 q1;have hs1:=hlS q1;have hbr1:w.heap.size<W1.heap.size:=Lt hbr HB1.o.size;have e0:=HB1.o.ct hbr b0;have e1:=HB1.o.ct hbr b1;have e2:=HB1.o.ct hbr b2;clear hc y0 y1 y2 hcase hx q1;go_upto_region 5 with(fail)
   rw[<-hW1];clear hW1 b0 b1 b2 z0 z1 z2;by_cases hgo:first<stop
   ·have g1:decide (stop>first)=true:=Dt hgo;have EN:Hid (zgA L=some (zeJ (k,first))):=by unfold Hid zgA;rw[HCS.o,Ip ⟨by omega,hgo,by omega⟩];rfl
    have HI:Hid (0<=first/\first<=L.bl.length):=by unfold Hid;omega
    clear hgo hok;go_wp2_with fail;go_region_held3(λW=>W.cell? ⟨w.heap.size,0,none⟩=some (.slice A1 L.bl.length c1)/\W.cell? ⟨w.heap.size,1,none⟩=some (.slice (some ⟨ab,off,none⟩) L.pr.length c2)/\W.cell? ⟨w.heap.size,2,none⟩=some (.slice A3 L.mt.length c3)/\W.cell? ⟨wr.heap.size,1,none⟩=some (.int .i64 first)) (first|exact⟨e0,e1,e2,p1⟩|exact⟨HN.o.ct hbr1 e0,HN.o.ct hbr1 e1,HN.o.ct hbr1 e2,HN.o.ct hs1 p1⟩|exact⟨((HN.o.alloc HN.o.size _).cel w.heap.size 0 hbr1).trans e0,((HN.o.alloc HN.o.size _).cel w.heap.size 1 hbr1).trans e1,((HN.o.alloc HN.o.size _).cel w.heap.size 2 hbr1).trans e2,((HN.o.alloc HN.o.size _).cel wr.heap.size 1 hs1).trans p1⟩|fail) (first|(go_at_call 68;refine(eM _).mono ?_;rintro e w2 ⟨rfl,hst,hb2⟩;have HST:=Hd hst;have HN:Hid (Bw W1 w2):=(unB hb2);clear hb2 hst));go_wp2_with fail;go_ret2;have hbw:=HBW.o.tm HB1.o;have hb2:=hbw.tm HN.o;obtain⟨hq,hqo⟩:=qnT (sk:=sk) (c1:=c1) (c2:=c2) (c3:=c3) HBB.o HL.o hb2 HF.o HM.o HKL.o HI.o HST.o (by show w.heap.size<=W1.heap.size+1;have:=hbw.size;omega) hbw.size;have hfb:=HF.o.bl;have hfin:∀W,W=w2.alloc (.cells ⟨zdG A1 (some ⟨ab,off,none⟩) A3 none c1 c2 c3 0 (W1.heap.size+1) L sk (zeJ (k,first))⟩ 130)->Bw w W/\∃F:Fp,Value.tuple #[.pointer (some ⟨w2.heap.size,0,none⟩),.int .i64 0]=.tuple #[.pointer (some ⟨F.mb,0,none⟩),.int .i64 0]/\QX W b F L sk (zeJ (k,first))/\F.av=[]/\RJ (zeJ (k,first))/\∀g,F.own g->w.heap.size<=g:=λW hW=>by
     subst hW;refine⟨hb2.trans ((nB _ _).mono hb2.size),_,rfl,hq,rfl,qnM (by have:=HI.o;omega),hqo⟩
    unfold zjE;rw[EN.o];obtain⟨r1,F,r2,r3,r4,r5,r6⟩:=hfin _ rfl;first
     |exact⟨r1,F,congrArg Ending.returned r2,r3,r4,r5,r6⟩
     |exact⟨aA r1 1,F,congrArg Ending.returned r2,r3.below (aA (Bf _ _) 1),r4,r5,r6⟩
   ·have g1:decide (stop>first)=false:=Df hgo;have EN:Hid (zdU L.bl.length L.pr 0=zdU L.bl.length (L.pr.drop (k+1)) (k+1)):=by unfold Hid;rw[HCS.o,Iq (λz=>hgo z.2.1)]
    clear hgo hok;go_wp2_with fail;exact⟨⟨k+1,by have:=HKL.o;omega,by go_num,HB.o.tm HB1.o,EN.o⟩,by simp only[intOf];have:=HKL.o;omega⟩
  ·have hke:k=L.pr.length:=by omega
   subst hke;have EN:Hid (zgA L=none):=by unfold Hid zgA;rw[HER.o,Dl];rfl
   go_wp2_with fail;go_ret2;refine⟨HBW.o,?_⟩;rw[EN.o];rfl
theorem qlV(w:World)(B:Nat)(F:Fp)(L:Lb)(sk:Bool)(m:MS)(h:MX w B F L sk m):
 Calls Tryz.prog 72 #[.pointer (some ⟨F.mb,0,none⟩)] w λe w'=>e=.returned (.pointer (some ⟨F.sb,0,none⟩))/\w=w':=by
 obtain⟨A1,A2,A3,AC,c1,c2,c3,capc,xs,⟨_,_,_,_,_,_,_,d7,_,_,_⟩,_⟩:=h.cells;clear h;go_enter func72,ntmps72;go_wp2;go_ret;exact⟨rfl,rfl⟩
def AkR(w:World)(i:Value)(W:World):Prop:=∃k:Nat,1<=k/\k<=7/\i=.int .i64 (k:Int)/\Bw w W
theorem qlN(w:World)(B B2:Nat)(F G:Fp)(L:Lb)(sk:Bool)(m:MS)(h:MX w B F L sk m)(h2:QX w B2 G L sk m):
 Calls Tryz.prog 44 #[.pointer (some ⟨F.mb,0,none⟩),.pointer (some ⟨G.mb,0,none⟩)] w λe w'=>e=.returned (.bool true)/\Bw w w':=by
 have HM:=Hd (λn=>h.below (aA (Bf w.heap.size w) n));have HQ:=Hd (λn=>h2.below (aA (Bf w.heap.size w) n));have HV:=Hd (qlV w B F L sk m h);obtain⟨A1,A2,A3,AC,c1,c2,c3,capc,xs,⟨_,_,_,_,_,_,_,d7,_,_,_⟩,_⟩:=h2.cells;have HS1:=Hd (λn=>qiW (w.drewN n) B F L sk m (HM.o n));have HS2:=Hd (λn=>qeQ (w.drewN n) B2 G L sk m (HQ.o n));have HD1:=Hd (λn=>xW (w.drewN n) B F L sk m (HM.o n));have HD2:=Hd (λn=>qeV (w.drewN n) B2 G L sk m (HQ.o n));have HL1:=Hd (λn=>jQ (w.drewN n) _ _ _ (HM.o n).sto);have HL2:=Hd (λn=>nM (w.drewN n) _ _ _ (HQ.o n).sto);have HG1:=Hd (λ(W:World) (hW:Bw w W) x=>sK W B F.sb m.sto.f x ⟨_,_,(h.below hW).sto,rfl⟩);have HG2:=Hd (λ(W:World) (hW:Bw w W) x=>pJ W B G.sb m.sto.f x ⟨_,_,(h2.below hW).sto,rfl⟩);have D7:=Hd d7;have hgl:=h2.lt;clear h h2;go_enter func44,ntmps44;go_wp2_with(go_at_call 72;refine HV.o.mono ?_;rintro e w1 ⟨rfl,rfl⟩);go_quiet(first|(go_at_call 18;exact bD (HS1.o _))|(go_at_call 73;exact bD (HS2.o _))|(go_at_call 20;exact bD (HD1.o _))|(go_at_call 74;exact bD (HD2.o _))|(go_at_call 75;exact bD (HL1.o _))|(go_at_call 76;exact bD (HL2.o _)));go_wp2_with fail;clear d7;go_loopw[6] (AkR w) (λi _=>8-(intOf i).toNat)
 case atStart=>exact⟨1,by omega,by omega,rfl,aA (Bf _ _) nq⟩
 case round=>
  obtain⟨k,k1,k7,rfl,hb⟩:=hrel;have HB:=Hd hb;have e7:=hb.ct hgl D7.o;clear hb;by_cases hlt:k<=6
  ·have w1:IntKind.i64.wrap (100+(k:Int))=100+(k:Int):=IntWalk.i64_in _ (by omega);have w2:IntKind.i64.wrap (100+(k:Int)-1)=100+(k:Int)-1:=IntWalk.i64_in _ (by omega);have tok1:=trivial;have tok2:=trivial;generalize zbG m.sto.f=gf at*
   have ga:((gf (k:Int)).1 !=(gf (k:Int)).1)=false:=by simp
   have gb:((gf (k:Int)).2 !=(gf (k:Int)).2)=false:=by simp
   have gc:((gf (100+(k:Int)-1)).1 !=(gf (100+(k:Int)-1)).1)=false:=by simp
   have gd:((gf (100+(k:Int)-1)).2 !=(gf (100+(k:Int)-1)).2)=false:=by simp
   go_wp2_with(first|(go_at_call 77;clear tok1;refine(HG1.o _ HB.o _).mono ?_;rintro e v1 ⟨rfl,q1,rfl⟩)|(go_at_call 78;clear tok2;refine(HG2.o _ (aA HB.o q1) _).mono ?_;rintro e v2 ⟨rfl,q2,rfl⟩)|(go_at_call 77;refine(HG1.o _ (aA HB.o (q1+q2)) _).mono ?_;rintro e v3 ⟨rfl,q3,rfl⟩)|(go_at_call 78;refine(HG2.o _ (aA HB.o (q1+q2+q3)) _).mono ?_;rintro e v4 ⟨rfl,q4,rfl⟩));exact⟨⟨k+1,by omega,by omega,by go_num,aA HB.o (q1+q2+q3+q4)⟩,by simp only[intOf];omega⟩
  ·have hke:k=7:=by omega
   subst hke;go_wp2_with fail;go_ret;exact⟨rfl,HB.o⟩
theorem oU(F:Fp):∃l:List Nat,∀x,x∈l↔F.own x:=by
 rcases F with⟨a,b,c,d,e⟩
 rcases d with _|d
 ·exact⟨[a,b,c],λx=>by simp[Fp.own]⟩
 ·exact⟨[a,b,c,d],λx=>by simp[Fp.own,eq_comm (a:=x) (b:=d)]⟩
theorem MX.keepA{w w':World}{B:Nat}{F:Fp}{L:Lb}{sk:Bool}{m:MS}(h:MX w B F L sk m)(hs:w.heap.size<=w'.heap.size)(hk:∀g,g<w.heap.size->g∉F.av->w'.heap[g]? =w.heap[g]?)(hav:∀g∈F.av,B<=g/\¬F.own g)(av:List Nat)(ha:∀x∈av,x<w'.heap.size/\(x∈F.av\/w.heap.size<=x)):MX w' B {F with av:=av} L sk m:=by
 have q:=h.keep hs hk hav;have hlt:=h.lt;have hge:=h.mb_ge;obtain⟨A1,A2,A3,AC,c1,c2,c3,capc,xs,hb,hL,ho,hf,hq,hc⟩:=h.ex;have kl:∀g,g<B->w'.heap[g]? =w.heap[g]? :=λg hg=>hk g (by omega) λhc=>by have:=(hav g hc).1;omega
 have ko:∀g,F.own g->w'.heap[g]? =w.heap[g]? :=λg hg=>hk g (h.own_ge g hg).2 λhc=>(hav g hc).2 hg;refine⟨q.mb_ge,q.sb_ge,q.lb_ge,q.ne1,q.ne2,λx hx=>(ha x hx).1,q.tab,q.tabB,q.tn,q.tnB,q.fine,q.sto,q.vf,q.pos,q.prog,q.steps,q.err,q.few,q.calls,A1,A2,A3,AC,c1,c2,c3,capc,xs,(ko _ (.inl rfl)).trans hb,
  hL.keep (λp hp=>Wb (kl p.block hp)) (Le _),aC ho λg hg hv=>ko g (.inr (.inr (.inr ?_))),hf,hq,hc.keep hs (λg hg hi=>⟨hi.1,λhx=>(ha g hx).2.elim hi.2 λk=>by omega⟩) λg hg hI=>hk g hg hI.2⟩
 rcases AC with _|a
 ·simp[Value.ownBlock]at hv
 ·rw[<-hq];simpa[Value.ownBlock]using hv
theorem qeZ{L:Lb}{sk:Bool}{m':MS}{t:Stp}{e:Int}(hq:e≠0\/t.1=2):∀(k:Nat) (m:MS),zfZ L sk k m=(m',t,e)->zcY L sk m'=(m',t,e):=by
 have one:∀m:MS,(zbZ L sk m).2=some (t,e)->(zbZ L sk m).1=m'->zcY L sk m'=(m',t,e):=by
  intro m h1 h2;unfold zbZ at h1 h2;by_cases c1:m.err≠0
  ·rw[Ip c1]at h1 h2;dsimp only at h1 h2;subst h2;unfold zcY zeB;rw[Ip c1];simp only[zfZ,zbZ,Ip c1];rw[Oj h1]
  rw[Iq c1]at h1 h2;by_cases c2:m.ended=true
  ·rw[Ip c2]at h1 h2;dsimp only at h1 h2;subst h2;unfold zcY zeB;rw[Iq c1,Ip c2];simp only[zfZ,zbZ,Iq c1,Ip c2];rw[Oj h1]
  rw[Iq c2]at h1 h2;exfalso;by_cases c3:m.steps=20000
  ·rw[Ip c3]at h1;cases h1
  rw[Iq c3]at h1;dsimp only at h1;split at h1
  ·cases h1
  ·split at h1
   ·split at h1
    ·simp only[Oi,Pj]at h1;obtain⟨rfl,rfl⟩:=h1;rcases hq with q|q
     ·exact q rfl
     ·simp at q
    ·cases h1
   ·cases h1
 intro k;induction k with
 |zero=>
  intro m h;simp only[zfZ,Pj]at h;obtain⟨_,rfl,rfl⟩:=h;rcases hq with q|q
  ·exact absurd rfl q
  ·exact absurd q (by decide)
 |succ k ih=>
  intro m h;rw[zfZ]at h;split at h
  ·rename_i r hr;simp only[Pj]at h;exact one m (by rw[hr,<-h.2]) h.1
  ·exact ih _ h
def RuP(B b mb rb:Nat)(L:Lb)(sk:Bool)(z:Nat)(m n:MS)(W:World):Prop:=
 ∃F G:Fp,F.mb=mb/\G.mb=rb/\MX W B F L sk m/\QX W b G L sk n/\(n.err=0->RJ n)/\(∀x,x∈F.av↔G.own x)/\(∀x,x∈G.av↔F.own x)/\(∀g,G.own g->B<=g)/\(∀g,F.own g\/G.own g->g<z)
theorem RuP.below{B b mb rb z:Nat}{L:Lb}{sk:Bool}{m n:MS}{W W':World}(h:RuP B b mb rb L sk z m n W)(hb:Bw W W'):RuP B b mb rb L sk z m n W':=by
 obtain⟨F,G,e1,e2,hx,hq,hr⟩:=h;exact⟨F,G,e1,e2,hx.below hb,hq.below hb,hr⟩
theorem qfB{L:Lb}{m:MS}(h:zgA L=some m):m.calls=[]:=by
 unfold zgA at h;obtain⟨x,_,rfl⟩:=Option.map_eq_some_iff.1 h;rfl
theorem QX.av0{w:World}{b:Nat}{G:Fp}{L:Lb}{sk:Bool}{m:MS}(h:QX w b G L sk m)(hc:m.calls=[])(av:List Nat)(hav:∀x∈av,b<=x/\¬G.own x/\x<w.heap.size):QX w b {G with av:=av} L sk m:=by
 refine h.re (Le _) (λ_ _ _ _=>rfl) h.ac h.ge h.ne hav h.sto h.vf h.pos h.prog h.steps h.few h.calls ?_;intro A1 A2 A3 AC c1 c2 c3 capc xs hb hq ho;exact⟨AC,capc,xs,hb,⟨hq.1,λi c k=>by rw[hc]at k;simp at k⟩,ho.1,ho.2.1,λhn=>by rw[hc]at hn;exact absurd hn (Nat.lt_irrefl 0)⟩
theorem RuP.start{B b:Nat}{F G:Fp}{L:Lb}{sk:Bool}{m:MS}{w W:World}(hx:MX w B F L sk m)(hw:Bw w W)(hq:QX W b G L sk m)(hj:RJ m)(hB:b<=B)(h2:∀g,G.own g->w.heap.size<=g)(h3:F.av=[])(h4:m.calls=[]):RuP B b F.mb G.mb L sk W.heap.size m m W:=by
 obtain⟨l1,e1⟩:=oU F;obtain⟨l2,e2⟩:=oU G;have hs:=hw.size;have hBw:=hx.Ble;refine⟨{F with av:=l2},{G with av:=l1},rfl,rfl,hx.keepA hs (λg hg _=>hw.block g hg) (λg hg=>by rw[h3]at hg;cases hg) l2 (λx hx'=> ?_),hq.av0 h4 l1 (λx hx'=> ?_),λ_=>hj,e2,e1,λg hg=>Ly hBw (h2 g hg),?_⟩
 ·have ho:=(e2 x).1 hx';exact⟨(hq.own_ge x ho).2,.inr (h2 x ho)⟩
 ·have ho:=(e1 x).1 hx';have k:=hx.own_ge x ho;exact⟨Ly hB k.1,λq=>by have:=h2 x q;omega,by omega⟩
 ·rintro g (ho|ho)
  ·exact Lt (hx.own_ge g ho).2 hs
  ·exact(hq.own_ge g ho).2
theorem RuP.next1{B b mb rb z:Nat}{L:Lb}{sk:Bool}{m n:MS}{W:World}(h:RuP B b mb rb L sk z m n W)(hbB:b<=B){m':MS}{t:Stp}{er:Int}(hn:zcY L sk m=(m',t,er)):
 Calls Tryz.prog 19 #[.pointer (some ⟨mb,0,none⟩)] W λe w'=>∃(A:OA) (c n1:Nat),e=.returned (.tuple #[.agg #[.int .i64 t.1,.int .i64 t.2.1,.slice A t.2.2.length c],.int .i64 er])/\RdV w' (λg=>n1<=g) A t.2.2.length t.2.2/\RuP B b mb rb L sk n1 m' n w'/\Below b W w'/\(W.heap.size<=n1/\n1<=w'.heap.size)/\∀g,z<=g->g<W.heap.size->w'.heap[g]? =W.heap[g]? :=by
 obtain⟨F,G,rfl,rfl,hx,hq,hj,h1,h2,h3,h4⟩:=h;have q:=qM W B F L sk m hx;unfold zjH at q;rw[hn]at q;refine q.mono ?_;rintro e w' ⟨v,n1,he,⟨A,c,hv,hr,_⟩,hn1,F',hlow,hmv,hmx,hch⟩;subst hv;obtain⟨l,hl⟩:=oU F';refine⟨A,c,min n1 w'.heap.size,he,hr.keep (Le _) (λ_ _ k=>Ly (Nat.min_le_left _ _) k) (λ_ _ _=>rfl),⟨F',{G with av:=l},hmv.mb,rfl,hmx,hq.keep hch.size (λg hg hn=>hch.block g hg λho=>hn ((h2 g).2 ho)) l λx hx'=> ?_,hj,λx=>by rw[hmv.av];exact h1 x,hl,h3,?_⟩,⟨hch.os,hch.tape,hch.output,hch.size,λg hg=>hch.block g (Lt hg hq.Ble) λho=> ?_⟩,⟨by have:=hch.size;omega,Nat.min_le_right _ _⟩,λg k1 k2=>hch.block g k2 λho=> ?_⟩
 ·have ho:=(hl x).1 hx';have k:=hmx.own_ge x ho;refine⟨by omega,k.2,?_⟩;by_cases c:x<W.heap.size
  ·exact .inl ((h2 x).2 (hmv.own x c ho))
  ·exact .inr (by omega)
 ·rintro g (ho|ho)
  ·have:=hlow g ho;have:=(hmx.own_ge g ho).2;omega
  ·have:=(hq.own_ge g ho).2;have:=hch.size;omega
 ·have:=(hx.own_ge g ho).1;omega
 ·have:=h4 g (.inl ho);omega
theorem RuP.next2{B b mb rb z:Nat}{L:Lb}{sk:Bool}{m n:MS}{W:World}(h:RuP B b mb rb L sk z m n W){n':MS}{t:Stp}{er:Int}(hn:zcY L sk n=(n',t,er)):
 Calls Tryz.prog 43 #[.pointer (some ⟨rb,0,none⟩)] W λe w'=>∃(A:OA) (c n1:Nat),e=.returned (.tuple #[.agg #[.int .i64 t.1,.int .i64 t.2.1,.slice A t.2.2.length c],.int .i64 er])/\RdV w' (λg=>n1<=g) A t.2.2.length t.2.2/\RuP B b mb rb L sk n1 m n' w'/\Below b W w'/\(W.heap.size<=n1/\n1<=w'.heap.size)/\∀g,z<=g->g<W.heap.size->w'.heap[g]? =W.heap[g]? :=by
 obtain⟨F,G,rfl,rfl,hx,hq,hj,h1,h2,h3,h4⟩:=h;have q:=qjH W b G L sk n hq hj;unfold zjF at q;rw[hn]at q;refine q.mono ?_;rintro e w' ⟨A,c,n1,he,hr,hn1,hj',G',hlow,hmv,hqx,hch⟩;obtain⟨l,hl⟩:=oU G';have hG:∀g,G'.own g->B<=g:=λg ho=>by
  by_cases c:g<W.heap.size
  ·exact h3 g (hmv.own g c ho)
  ·have:=hx.Ble;omega
 refine⟨A,c,min n1 w'.heap.size,he,hr.keep (Le _) (λ_ _ k=>Ly (Nat.min_le_left _ _) k) (λ_ _ _=>rfl),⟨{F with av:=l},G',rfl,hmv.mb,hx.keepA hch.size (λg hg hn=>hch.block g hg λho=>hn ((h1 g).2 ho)) (λg hg=>⟨h3 g ((h1 g).1 hg),λho=>(hq.av g ((h2 g).2 ho)).2.1 ((h1 g).1 hg)⟩) l λx hx'=> ?_,hqx,hj',hl,λx=>by rw[hmv.av];exact h2 x,hG,?_⟩,⟨hch.os,hch.tape,hch.output,hch.size,λg hg=>hch.block g (Lt hg hq.Ble) λho=> ?_⟩,⟨by have:=hch.size;omega,Nat.min_le_right _ _⟩,λg k1 k2=>hch.block g k2 λho=> ?_⟩
 ·have ho:=(hl x).1 hx';refine⟨(hqx.own_ge x ho).2,?_⟩;by_cases c:x<W.heap.size
  ·exact .inl ((h1 x).2 (hmv.own x c ho))
  ·exact .inr (by omega)
 ·rintro g (ho|ho)
  ·have:=(hx.own_ge g ho).2;have:=hch.size;omega
  ·have:=hlow g ho;have:=(hqx.own_ge g ho).2;omega
 ·have:=(hq.own_ge g ho).1;omega
 ·have:=h4 g (.inr ho);omega
theorem RuP.alike{B b mb rb z:Nat}{L:Lb}{sk:Bool}{m:MS}{W:World}(h:RuP B b mb rb L sk z m m W):
 Calls Tryz.prog 44 #[.pointer (some ⟨mb,0,none⟩),.pointer (some ⟨rb,0,none⟩)] W λe w'=>e=.returned (.bool true)/\Bw W w':=by
 obtain⟨F,G,rfl,rfl,hx,hq,_⟩:=h;exact qlN W B b F G L sk m hx hq
def RuR(w:World)(B b mb rb:Nat)(L:Lb)(sk:Bool)(i:Value)(W:World):Prop:=∃(k z:Nat) (m:MS),k<=60/\i=.int .i64 (k:Int)/\RuP B b mb rb L sk z m m W/\Bw w W
theorem qbN(w:World)(I:Nat->Prop)(L:Lb)(sk:Bool)(A1 A2 A3:OA)(c1 c2 c3:Nat)(h:LzB w I L A1 A2 A3)(hm:L.mated)(ht:Tab w)(htn:Tn w):
 Calls Tryz.prog 26 #[.agg #[.slice A1 L.bl.length c1,.slice A2 L.pr.length c2,.slice A3 L.mt.length c3],.bool sk] w λe w'=>e=.returned (.bool true)/\Bw w w':=by
 obtain⟨W0,hW0,HB0,q0⟩:=newW w #[.slice A1 L.bl.length c1,.slice A2 L.pr.length c2,.slice A3 L.mt.length c3] 32;have hx0:=hlS q0;have HZ:=Hd (h.below HB0.o);have hq:=lU W0 I L sk A1 A2 A3 c1 c2 c3 HZ.o (ht.below HB0.o ht.lt) (htn.below HB0.o htn.lt);have HRN:=Hd (λ(W:World) (hW:Bw W0 W)=>qnK W W0.heap.size hW.size L sk A1 A2 A3 c1 c2 c3 (HZ.o.rd.below hW) HZ.o.fine hm);have y0:=ce0 q0;have y1:=ce1 q0;have y2:=ce2 q0;have HY:Hid (∀W,Bw W0 W->W.cell? ⟨w.heap.size,0,none⟩=some (.slice A1 L.bl.length c1)/\W.cell? ⟨w.heap.size,1,none⟩=some (.slice A2 L.pr.length c2)/\W.cell? ⟨w.heap.size,2,none⟩=some (.slice A3 L.mt.length c3)):=λW hW=>⟨hW.ct hx0 y0,hW.ct hx0 y1,hW.ct hx0 y2⟩;have hs0:=HB0.o.size;clear h hm ht htn q0 HZ;unfold ziG at hq;unfold zjE at HRN;cases hN:zgA L with
 |none=>
  rw[hN]at hq HRN;have HQ:=Hd hq;clear hq hN;go_enter func26,ntmps26;go_upto_region 1 with(fail)
  rw[<-hW0];clear hW0;go_wp2_with(first|(go_at_call 14;refine HQ.o.mono ?_;rintro e w1 ⟨hb,rfl⟩;have HB1:=Hd hb;obtain⟨u0,u1,u2⟩:=HY.o _ hb;clear hb)|(go_at_call 42;refine(HRN.o _ HB1.o).mono ?_;rintro e w2 ⟨hb,rfl⟩;have HB2:=Hd ((HB0.o.trans (HB1.o.mono hs0)).trans (hb.mono (Ly hs0 HB1.o.size)));clear hb));go_loopw[9] (λi W=>i=.int .i64 0/\Bw w W) (λ_ _=>0)
  case atStart=>exact⟨rfl,HB2.o⟩
  case round=>
   obtain⟨rfl,hb⟩:=hrel;have HB:=Hd hb;clear hb;go_wp2_with fail;go_ret;exact⟨rfl,HB.o⟩
 |some m0=>
  rw[hN]at hq HRN;have HQ:=Hd hq;have HC:=Hd (qfB hN);clear hq hN;go_enter func26,ntmps26;go_upto_region 1 with(fail)
  rw[<-hW0];clear hW0;go_wp2_with fail;refine HQ.o.mono ?_;rintro e w1 ⟨hb,B,F,rfl,hx,hB,hav,-⟩;obtain⟨u0,u1,u2⟩:=HY.o _ hb;have HX:=Hd hx;have HB1:=Hd hb;have HAV:=Hd hav;have HBB:Hid (W0.heap.size<=B):=hB;clear hx hb hav hB y0 y1 y2 HQ HY;go_wp2_with fail;refine(HRN.o _ HB1.o).mono ?_;rintro e w2 ⟨hb,G,rfl,hg,-,hj,hge⟩;have HP:Hid (RuP B W0.heap.size F.mb G.mb L sk w2.heap.size m0 m0 w2):=RuP.start HX.o hb hg hj HBB.o hge HAV.o HC.o;have HB2:=Hd ((HB0.o.trans (HB1.o.mono hs0)).trans (hb.mono (Ly hs0 HB1.o.size)));have HR0:Hid (RuR w B W0.heap.size F.mb G.mb L sk (.int .i64 0) w2):=⟨0,_,m0,by omega,rfl,HP.o,HB2.o⟩;clear hb hg hj hge HAV HC HX HB1 HP HB2 HRN HB0;obtain⟨b0,hb0⟩:∃b0,b0=W0.heap.size:=⟨_,rfl⟩;rw[<-hb0]at HBB HR0 hs0;generalize F.mb=mb at*
  generalize G.mb=rb at*
  clear hb0 hx0 u0 u1 u2 F G;go_wp2_with fail;go_loopw[9] (RuR w B b0 mb rb L sk) (λi _=>60-(intOf i).toNat)
  case atStart=>exact HR0.o
  case round=>
   obtain⟨k,z,m,hk,rfl,hp,hbe⟩:=hrel;have HP:=Hd hp;have HBE:=Hd hbe;clear HR0 hp hbe;by_cases hlt:k<60
   case neg=>
    obtain rfl:k=60:=by omega
    go_wp2_with fail;go_ret;exact⟨rfl,HBE.o⟩
   have g0:decide ((k:Int)<60)=true:=Dt (by omega);obtain⟨⟨m2,⟨a,b,l⟩,er⟩,hr⟩:∃r,zcY L sk m=r:=⟨_,rfl⟩;have HN1:=Hd (HP.o.next1 HBB.o hr);have HRR:=Hd hr;clear hr HP;go_wp2_with fail;refine HN1.o.mono ?_;rintro e w1 ⟨A5,c5,z1,rfl,hv1,hp1,hb1,hz1,-⟩;dsimp only;obtain⟨W1,hW1,HA1,q1⟩:=newW w1 #[.int .i64 a,.int .i64 b,.slice A5 l.length c5] 40;have HP1:=Hd (hp1.below HA1.o);have HV1:=Hd (hv1.keep HA1.o.size (λ_ _ h=>h) λg hg _=>HA1.o.block g hg);have HBE1:=Hd ((HBE.o.trans (hb1.mono hs0)).trans (HA1.o.mono (Ly HBE.o.size hb1.size)));have hs1:=hlS q1;have hz1':=hz1.2;have HQ1:=Hd q1;have HN2:=Hd (HP1.o.next2 HRR.o);clear hv1 hp1 hb1 hz1 q1 HN1 HBE HP1;go_upto_region 9 with(fail)
   rw[<-hW1];clear hW1;go_wp2_with fail;refine HN2.o.mono ?_;rintro e w2 ⟨A6,c6,z2,rfl,hv2,hp2,hb2,hz2,hk2⟩;dsimp only;obtain⟨W2,hW2,HA2,q2⟩:=newW w2 #[.int .i64 a,.int .i64 b,.slice A6 l.length c6] 40;have p1:W2.heap[w1.heap.size]? =some (.cells #[.int .i64 a,.int .i64 b,.slice A5 l.length c5] 40 (0,0)):=(HA2.o.block _ (by omega)).trans ((hk2 _ hz1' hs1).trans HQ1.o);have HP2:=Hd (hp2.below HA2.o);have HV2:=Hd (hv2.keep HA2.o.size (λ_ _ h=>h) λg hg _=>HA2.o.block g hg);have HV1':=Hd ((HV1.o.keep (by omega) (λ_ _ h=>h) λg hg hi=>hk2 g hi hg).keep HA2.o.size (λ_ _ h=>h) λg hg _=>HA2.o.block g hg);have HBE2:=Hd ((HBE1.o.trans (hb2.mono hs0)).trans (HA2.o.mono (Ly HBE1.o.size hb2.size)));have s0:=ce0 p1;have s1:=ce1 p1;have s2:=ce2 p1;have r0:=ce0 q2;have r1:=ce1 q2;have r2:=ce2 q2;have hs2:=hlS q2;have hz2':=hz2.2;have HS:=Hd (jB W2 _ _ A5 A6 c5 c6 a b l HV1'.o HV2.o);have e1:(er !=er)=false:=bne_self_eq_false _;have e2:(er==er)=true:=beq_self_eq_true _;clear hv2 hp2 hb2 hz2 hk2 p1 HN2 HBE1 HV1 HV1' HQ1 hz1';have HQ2:=Hd q2;clear q2;go_upto_region 10 with(fail)
   rw[<-hW2];clear hW2;by_cases hst:er≠0\/a=2
   case neg=>
    have g1:(er !=0)=false:=by rw[bne_eq_false_iff_eq];exact Classical.byContradiction λq=>hst (.inl q)
    have g2:(a==2)=false:=beq_eq_false_iff_ne.2 λq=>hst (.inr q);clear hst;go_wp2_with(first|(go_at_call 21;refine HS.o.mono ?_;rintro e w3 ⟨rfl,hb3⟩;have HB3:=Hd hb3;clear hb3)|(go_at_call 44;refine(HP2.o.below HB3.o).alike.mono ?_;rintro e w4 ⟨rfl,hb4⟩;have HB4:=Hd (HB3.o.tm hb4);have v0:=HB4.o.ct hs2 r0;clear hb4));exact⟨⟨k+1,z2,m2,by omega,by go_num,HP2.o.below HB4.o,HBE2.o.tm HB4.o⟩,by simp only[intOf];omega⟩
   have HST:=Hd (qeZ hst _ _ HRR.o);have g1:(er !=0)=true\/(er !=0)=false/\(a==2)=true:=by
    by_cases c:er=0
    ·right;rcases hst with q|q
     ·exact absurd c q
     ·exact⟨by rw[c];rfl,by rw[q];rfl⟩
    ·left;exact bne_iff_ne.2 c
   clear hst;rcases g1 with g1|⟨g1,g2⟩
   all_goals
    go_wp2_with(first|(go_at_call 21;refine HS.o.mono ?_;rintro e w3 ⟨rfl,hb3⟩;have HB3:=Hd hb3;clear hb3)|(go_at_call 44;refine(HP2.o.below HB3.o).alike.mono ?_;rintro e w4 ⟨rfl,hb4⟩;have HB4:=Hd (HB3.o.tm hb4);have v0:=HB4.o.ct hs2 r0;have hs4:=HB4.o.size;clear hb4));refine((HP2.o.below HB4.o).next1 HBB.o HST.o).mono ?_;rintro e w5 ⟨A7,c7,z3,rfl,hv3,hp3,hb3,hz3,hk3⟩;dsimp only;obtain⟨W5,hW5,HA5,q5⟩:=newW w5 #[.int .i64 a,.int .i64 b,.slice A7 l.length c7] 40;have p2:W5.heap[w2.heap.size]? =some (.cells #[.int .i64 a,.int .i64 b,.slice A6 l.length c6] 40 (0,0)):=(HA5.o.block _ (by have:=hb3.size;omega)).trans ((hk3 _ hz2' (by omega)).trans ((HB4.o.block _ hs2).trans HQ2.o));have HP5:=Hd (hp3.below HA5.o);have HV5:=Hd (hv3.keep HA5.o.size (λ_ _ h=>h) λg hg _=>HA5.o.block g hg);have HV6:=Hd (((HV2.o.keep HB4.o.size (λ_ _ h=>h) λg hg _=>HB4.o.block g hg).keep hb3.size (λ_ _ h=>h) λg hg hi=>hk3 g hi hg).keep HA5.o.size (λ_ _ h=>h) λg hg _=>HA5.o.block g hg);have HBE4:=Hd (HBE2.o.tm HB4.o);have HBE5:=Hd ((HBE4.o.trans (hb3.mono hs0)).trans (HA5.o.mono (Ly HBE4.o.size hb3.size)));have s0:=ce0 q5;have s1:=ce1 q5;have s2:=ce2 q5;have r0:=ce0 p2;have r1:=ce1 p2;have r2:=ce2 p2;have HS5:=Hd (jB W5 _ _ A7 A6 c7 c6 a b l HV5.o HV6.o);clear hv3 hp3 hb3 hz3 hk3 p2 q5 v0 HB4 HP2;go_upto_region 14 with(fail)
    rw[<-hW5];clear hW5;go_wp2_with(first|(go_at_call 21;refine HS5.o.mono ?_;rintro e w6 ⟨rfl,hb3⟩;have HB6:=Hd hb3;clear hb3)|(go_at_call 44;refine(HP5.o.below HB6.o).alike.mono ?_;rintro e w7 ⟨rfl,hb4⟩;have HB7:=Hd (HB6.o.tm hb4);clear hb4));go_ret;exact⟨rfl,HBE5.o.tm HB7.o⟩
