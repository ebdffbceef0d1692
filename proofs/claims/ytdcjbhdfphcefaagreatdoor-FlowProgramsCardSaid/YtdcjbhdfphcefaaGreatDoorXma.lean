/- The contract. -/
import Derived.Test.YtdcjbhdfphcefaaGreatDoorEn
namespace Go.Proofs.YtdcjbhdfphcefaaGreatDoor
set_option linter.all false
set_option maxRecDepth 100000
set_option maxHeartbeats 4000000
open Go.Proofs.Tryz
open Go.RowKit
theorem dN{L:Lb}(h:L.fine)(p:Int): -1<=zcM L p/\zcM L p<=100000:=by
 unfold zcM;split
 ·rw[Gd];rcases e:L.mt[p.toNat]? with _|x
  ·simp
  ·exact h.mt x (Mg e)
 ·omega
theorem MP.below2{w W w':World}{B:Nat}{F:Fp}{L:Lb}{sk:Bool}{m':MS}(hb:Bw w W)(k:MP B F L sk m' W w'):MP B F L sk m' w w':=MP.then (Chg.of_below hb) k
def zgM(L:Lb)(m:MS)(b:Bk):MS×Option (LI)×Int:=
 if b.kind=1 then((zdM m b).1,none,(zdM m b).2)
 else if b.kind=2 then((zbQ L m b.x).1,none,(zbQ L m b.x).2)
 else if b.kind=3\/b.kind=4 then
  let e:=zcH (zbG m.sto.f) b.x
  if e.2≠0 then(m,none,e.2)
  else if b.kind=3/\e.1≠0 then((zbQ L m b.left).1,none,(zbQ L m b.left).2)
  else if b.kind=4/\e.1=0 then({m with pos:=zcM L m.pos+1},none,0)
  else({m with pos:=m.pos+1},none,0)
 else if b.kind=5 then({m with pos:=zcM L m.pos},none,0)
 else if b.kind=0/\b.words≠[]then zbT L m b.words
 else({m with pos:=m.pos+1},none,0)
def ExP(w:World)(B:Nat)(F:Fp)(L:Lb)(sk:Bool)(m:MS)(b:Bk)(A:OA)(k c:Nat)(l0 l1 l2 x0 x1 x2:Value)(W1:World):Prop:=
 (Hid (Bw w W1))/\(Hid (W1.heap[w.heap.size]? =some (.cells ⟨zaW b A k c l0 l1 l2 x0 x1 x2⟩ 54 (0,0))))/\(Hid (W1.heap[w.heap.size+1]? =some (.cells zcT 40 (0,0))))/\(Hid (W1.heap[w.heap.size+2]? =some (.cells zcT 40 (0,0))))/\(W1.cell? ⟨w.heap.size,0,none⟩=some (.int .i64 b.kind))/\(W1.cell? ⟨w.heap.size,1,none⟩=some (.int .i64 b.label))/\(W1.cell? ⟨w.heap.size,2,none⟩=some (.bool b.skip))/\(W1.cell? ⟨w.heap.size,3,none⟩=some (.slice A k c))/\(W1.cell? ⟨w.heap.size,4,none⟩=some l0)/\(W1.cell? ⟨w.heap.size,5,none⟩=some l1)/\(W1.cell? ⟨w.heap.size,6,none⟩=some l2)/\(W1.cell? ⟨w.heap.size,7,none⟩=some x0)/\(W1.cell? ⟨w.heap.size,8,none⟩=some x1)/\(W1.cell? ⟨w.heap.size,9,none⟩=some x2)/\(W1.cell? ⟨w.heap.size,10,none⟩=some (.int .i64 b.n))/\(W1.cell? ⟨w.heap.size+1,0,none⟩=some (.int .i64 0))/\(W1.cell? ⟨w.heap.size+1,1,none⟩=some (.int .i64 0))/\(W1.cell? ⟨w.heap.size+1,2,none⟩=some (.slice none 0 0))/\(∀i,W1.frozen? ⟨w.heap.size+1,i,none⟩=false)/\(W1.cell? ⟨w.heap.size+2,0,none⟩=some (.int .i64 0))/\(W1.cell? ⟨w.heap.size+2,1,none⟩=some (.int .i64 0))/\(W1.cell? ⟨w.heap.size+2,2,none⟩=some (.slice none 0 0))/\(W1.cell? ⟨F.mb,3,none⟩=some (.bool sk))/\(W1.cell? ⟨F.mb,5,none⟩=some (.int .i64 m.pos))/\(W1.cell? ⟨F.mb,7,none⟩=some (.pointer (some ⟨F.sb,0,none⟩)))/\(W1.frozen? ⟨F.mb,5,none⟩=false)/\(Hid (MX W1 B {F with av:=(w.heap.size+1)::F.av} L sk m))/\(F.mb<W1.heap.size)/\(Hid (∀W,Bw W1 W->RdB W B b A k l0 l1 l2 x0 x1 x2))/\(Hid (∀g,w.heap.size<=g->g<W1.heap.size->¬({F with av:=(w.heap.size+1)::F.av}:Fp).own g))/\(Hid (I64 (m.pos+1)))/\(Hid (W1=((w.alloc (.cells ⟨zaW b A k c l0 l1 l2 x0 x1 x2⟩ 54)).alloc (.cells #[.int .i64 0,.int .i64 0,.slice none 0 0] 40)).alloc (.cells #[.int .i64 0,.int .i64 0,.slice none 0 0] 40)))/\(Hid (w.heap.size+2<W1.heap.size))
theorem qY(w:World)(B:Nat)(F:Fp)(L:Lb)(sk:Bool)(m:MS)(b:Bk)(A:OA)(k c:Nat)(l0 l1 l2 x0 x1 x2:Value)(h:MX w B F L sk m)(hr:RdB w B b A k l0 l1 l2 x0 x1 x2)(hp:0<=m.pos/\m.pos<=1000000):∃W1,ExP w B F L sk m b A k c l0 l1 l2 x0 x1 x2 W1:=by
 have HX:=Hd h;have hBle:=h.Ble;have hmb:=h.lt;obtain⟨A1,A2,A3,AC,c1,c2,c3,capc,xs,⟨-,-,-,d3,-,d5,-,d7,-,-,-⟩,-,-,-,-,hfr⟩:=h.cells;obtain⟨W1,hW1⟩:∃W1,W1=((w.alloc (.cells ⟨zaW b A k c l0 l1 l2 x0 x1 x2⟩ 54)).alloc (.cells zcT 40)).alloc (.cells zcT 40):=⟨_,rfl⟩;have HB1:Hid (Bw w W1):=by unfold Hid;rw[hW1];exact((nB _ _).alloc (by simp) _).alloc (by simp;omega) _
 have h0:W1.heap[w.heap.size]? =some (.cells ⟨zaW b A k c l0 l1 l2 x0 x1 x2⟩ 54 (0,0)):=by rw[hW1];exact(Bm _ _ _ (by simp;omega)).trans ((Bm _ _ _ (by simp)).trans (Hn w _))
 have h1:W1.heap[w.heap.size+1]? =some (.cells zcT 40 (0,0)):=by
  rw[hW1];refine(Bm _ _ _ (by simp)).trans ?_;have:=Hn (w.alloc (.cells ⟨zaW b A k c l0 l1 l2 x0 x1 x2⟩ 54)) (.cells zcT 40);simpa using this
 have h2:W1.heap[w.heap.size+2]? =some (.cells zcT 40 (0,0)):=by
  rw[hW1];have:=Hn ((w.alloc (.cells ⟨zaW b A k c l0 l1 l2 x0 x1 x2⟩ 54)).alloc (.cells zcT 40)) (.cells zcT 40);simpa using this
 have H0:=Hd h0;have H1:=Hd h1;have H2:=Hd h2;have hsz:w.heap.size+2<W1.heap.size:=hlS h2;have q:=λj=>Ro W1 w.heap.size j _ _ _ h0;have b0:W1.cell? ⟨w.heap.size,0,none⟩=some (.int .i64 b.kind):=(q 0).trans rfl;have b1:W1.cell? ⟨w.heap.size,1,none⟩=some (.int .i64 b.label):=(q 1).trans rfl;have b2:W1.cell? ⟨w.heap.size,2,none⟩=some (.bool b.skip):=(q 2).trans rfl;have b3:W1.cell? ⟨w.heap.size,3,none⟩=some (.slice A k c):=(q 3).trans rfl;have b4:W1.cell? ⟨w.heap.size,4,none⟩=some l0:=(q 4).trans rfl;have b5:W1.cell? ⟨w.heap.size,5,none⟩=some l1:=(q 5).trans rfl;have b6:W1.cell? ⟨w.heap.size,6,none⟩=some l2:=(q 6).trans rfl;have b7:W1.cell? ⟨w.heap.size,7,none⟩=some x0:=(q 7).trans rfl;have b8:W1.cell? ⟨w.heap.size,8,none⟩=some x1:=(q 8).trans rfl;have b9:W1.cell? ⟨w.heap.size,9,none⟩=some x2:=(q 9).trans rfl;have b10:W1.cell? ⟨w.heap.size,10,none⟩=some (.int .i64 b.n):=(q 10).trans rfl;have s0:=ce0 h1;have s1:=ce1 h1;have s2:=ce2 h1;have sf:∀i,W1.frozen? ⟨w.heap.size+1,i,none⟩=false:=λi=>by simp[World.frozen?,h1]
 have z0:=ce0 h2;have z1:=ce1 h2;have z2:=ce2 h2;have e3:=HB1.o.ct hmb d3;have e5:=HB1.o.ct hmb d5;have e7:=HB1.o.ct hmb d7;have ef5:W1.frozen? ⟨F.mb,5,none⟩=false:=(cekF F.mb 5 (HB1.o.block _ hmb)).trans (hfr 5);have HX1:=Hd (h.hide (s:=w.heap.size+1) HB1.o (by omega) (by omega));have hmb1:F.mb<W1.heap.size:=Lt hmb HB1.o.size;have HRW:Hid (∀W,Bw W1 W->RdB W B b A k l0 l1 l2 x0 x1 x2):=λW hb=>hr.keep (λp hq=>(hb.cell (by omega)).trans (HB1.o.cell (by omega))) (Le _);have HNO:Hid (∀g,w.heap.size<=g->g<W1.heap.size->¬({F with av:=(w.heap.size+1)::F.av}:Fp).own g):=λg h1 h2 ho=>by
  have:F.own g:=ho;have:=(HX.o.own_ge g this).2;omega
 have HSP:Hid (I64 (m.pos+1)):=by unfold Hid I64;omega
 have HW1:Hid (W1=((w.alloc (.cells ⟨zaW b A k c l0 l1 l2 x0 x1 x2⟩ 54)).alloc (.cells #[.int .i64 0,.int .i64 0,.slice none 0 0] 40)).alloc (.cells #[.int .i64 0,.int .i64 0,.slice none 0 0] 40)):=hW1;have HSZ:=Hd hsz;exact⟨W1,HB1,H0,H1,H2,b0,b1,b2,b3,b4,b5,b6,b7,b8,b9,b10,s0,s1,s2,sf,z0,z1,z2,e3,e5,e7,ef5,HX1,hmb1,HRW,HNO,HSP,HW1,HSZ⟩
theorem qrC(w:World)(B:Nat)(F:Fp)(L:Lb)(sk:Bool)(m:MS)(b:Bk)(A:OA)(k c:Nat)(l0 l1 l2 x0 x1 x2:Value)(h:MX w B F L sk m)(hr:RdB w B b A k l0 l1 l2 x0 x1 x2)(hp:0<=m.pos/\m.pos<=1000000)(hwl:b.words.length<=1000)(hsk:(b.skip&&sk)=true):
 Calls prog 39 #[.pointer (some ⟨F.mb,0,none⟩),.agg ⟨zaW b A k c l0 l1 l2 x0 x1 x2⟩] w (zcB B F L sk m (zbK L sk m b) w):=by
 have HX:=Hd h;have HR:=Hd hr;have hBle:=h.Ble;have hmb:=h.lt;obtain⟨W1,HB1,H0,H1,H2,b0,b1,b2,b3,b4,b5,b6,b7,b8,b9,b10,s0,s1,s2,sf,z0,z1,z2,e3,e5,e7,ef5,HX1,hmb1,HRW,HNO,HSP,HW1,HSZ⟩:=qY w B F L sk m b A k c l0 l1 l2 x0 x1 x2 h hr hp;have hsz:=HSZ.o;clear h hr;obtain⟨bk,bl,bs,bw,blf,bx,bn⟩:=b;dsimp only at b0 b1 b2 b10 hwl;have HKL:Hid (k=bw.length):=(HRW.o W1 (Bf _ _)).words.1;have hsz:=HSZ.o;try dsimp only at hsk
 have EJ:Hid (zbK L sk m ⟨bk,bl,bs,bw,blf,bx,bn⟩=({m with pos:=m.pos+1},none,0)):=by unfold Hid zbK;dsimp only;rw[hsk];rfl
 simp only[Ba1]at hsk;obtain⟨hs1,hs2⟩:=hsk;subst hs1;subst hs2;go_enter func39,ntmps39;go_upto_region 2 with(fail)
 rw[<-HW1.o];go_wp2_with fail;refine bodyPost_ret (aM rfl _ _ (w.heap.size+1) _ _ _ _ rfl (aS ((Bj _ _ _ _ (by show w.heap.size+1≠F.mb;omega)).trans H1.o)) underlying40 zbL) rfl ?_;exact zcB.no EJ.o (MP.around HX.o HB1.o (by omega) (by have:=HSZ.o;omega) (MP.of (HX1.o.set_pos HSP.o) (aH _ _ _ _ _ (.inl rfl))) (aV _ _ _))
theorem qkQ(w:World)(B:Nat)(F:Fp)(L:Lb)(sk:Bool)(m:MS)(b:Bk)(A:OA)(k c:Nat)(l0 l1 l2 x0 x1 x2:Value)(h:MX w B F L sk m)(hr:RdB w B b A k l0 l1 l2 x0 x1 x2)(hp:0<=m.pos/\m.pos<=1000000)(hwl:b.words.length<=1000)(hsk:(b.skip&&sk)=false)(c1:b.kind≠1)(c2:b.kind≠2)(c3:b.kind≠3)(c4:b.kind≠4):
 Calls prog 39 #[.pointer (some ⟨F.mb,0,none⟩),.agg ⟨zaW b A k c l0 l1 l2 x0 x1 x2⟩] w (zcB B F L sk m (zbK L sk m b) w):=by
 have HX:=Hd h;have HR:=Hd hr;have hBle:=h.Ble;have hmb:=h.lt;obtain⟨W1,HB1,H0,H1,H2,b0,b1,b2,b3,b4,b5,b6,b7,b8,b9,b10,s0,s1,s2,sf,z0,z1,z2,e3,e5,e7,ef5,HX1,hmb1,HRW,HNO,HSP,HW1,HSZ⟩:=qY w B F L sk m b A k c l0 l1 l2 x0 x1 x2 h hr hp;have hsz:=HSZ.o;clear h hr;obtain⟨bk,bl,bs,bw,blf,bx,bn⟩:=b;dsimp only at b0 b1 b2 b10 hwl;have HKL:Hid (k=bw.length):=(HRW.o W1 (Bf _ _)).words.1;have hsz:=HSZ.o;try dsimp only at hsk c0 c1 c2 c3 c4
 have EX:Hid (zbK L sk m ⟨bk,bl,bs,bw,blf,bx,bn⟩=zgM L m ⟨bk,bl,bs,bw,blf,bx,bn⟩):=by unfold Hid zbK zgM;dsimp only;rw[hsk];rfl
 have HMB1:Hid (F.mb<W1.heap.size):=hmb1;have HS1:Hid (w.heap.size<W1.heap.size):=by unfold Hid;omega
 have HMTB:Hid (I64 (zcM L m.pos)):=by have:=dN HX.o.fine m.pos;unfold Hid I64;omega
 have HMTC:Hid (I64 (zcM L m.pos+1)):=by have:=dN HX.o.fine m.pos;unfold Hid I64;omega
 have hmtb:=dN HX.o.fine m.pos;by_cases c5:bk=5
 ·subst c5;have EJ:Hid (zbK L sk m ⟨5,bl,bs,bw,blf,bx,bn⟩=({m with pos:=zcM L m.pos},none,0)):=EX.o;have HMT:Hid (Calls prog 64 #[.pointer (some ⟨F.mb,0,none⟩)] W1 λe w'=>e=.returned (.int .i64 (zcM L m.pos))/\w'.heap=W1.heap/\Bw W1 w'):=qcJ W1 B {F with av:=(w.heap.size+1)::F.av} L _ m HX1.o hp.1;rcases bs with _|_
  rotate_left;have hs2:sk=false:=by simpa using hsk
  subst hs2;all_goals
   go_enter func39,ntmps39;go_upto_region 2 with(fail)
   rw[<-HW1.o];go_wp2_with(first|(go_at_call 64;refine HMT.o.mono ?_;rintro e w3 ⟨rfl,hhp,hb3⟩;have HB3:=Hd hb3;have p5:=(cekC F.mb 5 (congrArg (λh=>h[F.mb]?) hhp)).trans e5;have p5f:=(cekF F.mb 5 (congrArg (λh=>h[F.mb]?) hhp)).trans ef5;have hh1:w3.heap[w.heap.size+1]? =some (.cells zcT 40 (0,0)):=(congrArg (λh=>h[w.heap.size+1]?) hhp).trans H1.o;have hh2:w3.heap[w.heap.size+2]? =some (.cells zcT 40 (0,0)):=(congrArg (λh=>h[w.heap.size+2]?) hhp).trans H2.o;have HH1:=Hd hh1;have t0:=ce0 hh1;have t1:=ce1 hh1;have t2:=ce2 hh1;have tf:(∀i,w3.frozen? ⟨w.heap.size+1,i,none⟩=false):=(λi=>by simp[World.frozen?,hh1]);have y0:=ce0 hh2;have y1:=ce1 hh2;have y2:=ce2 hh2;have v0:w3.cell? ⟨w.heap.size+1+1,0,none⟩=some (.int .i64 0):=y0;have v1:w3.cell? ⟨w.heap.size+1+1,1,none⟩=some (.int .i64 0):=y1;have v2:w3.cell? ⟨w.heap.size+1+1,2,none⟩=some (.slice none 0 0):=y2;clear hh1 hh2;clear hhp hb3));refine bodyPost_ret (aM rfl _ _ (w.heap.size+1) _ _ _ _ rfl (aS ((Bj _ _ _ _ (by show w.heap.size+1≠F.mb;omega)).trans HH1.o)) underlying40 zbL) rfl ?_;exact zcB.no EJ.o (MP.around HX.o HB1.o (by omega) (by have:=HSZ.o;omega) (MP.below2 HB3.o (MP.of ((HX1.o.below HB3.o).set_pos HMTB.o) (aH _ _ _ _ _ (.inl rfl)))) (aV _ _ _))
 by_cases c0:bk=0
 ·subst c0;by_cases hw:bw.length=0
  ·have EJ:Hid (zbK L sk m ⟨0,bl,bs,bw,blf,bx,bn⟩=({m with pos:=m.pos+1},none,0)):=by
    unfold Hid;rw[EX.o];unfold zgM;have:bw=[]:=Ez hw;simp[this]
   have hkz:k=0:=HKL.o.trans hw;subst hkz;clear hw;rcases bs with _|_
   rotate_left;have hs2:sk=false:=by simpa using hsk
   subst hs2;all_goals
    go_enter func39,ntmps39;go_upto_region 2 with(fail)
    rw[<-HW1.o];go_wp2_with fail;refine bodyPost_ret (aM rfl _ _ (w.heap.size+1) _ _ _ _ rfl (aS ((Bj _ _ _ _ (by show w.heap.size+1≠F.mb;omega)).trans H1.o)) underlying40 zbL) rfl ?_;exact zcB.no EJ.o (MP.around HX.o HB1.o (by omega) (by have:=HSZ.o;omega) (MP.of (HX1.o.set_pos HSP.o) (aH _ _ _ _ _ (.inl rfl))) (aV _ _ _))
  have hkp:0<k:=by have:=HKL.o;omega
  have hkp2:decide (0<k)=true:=Dt hkp;have hne:bw≠[]:=λe=>hw (by rw[e];rfl);have HC:Hid (Calls prog 65 #[.pointer (some ⟨F.mb,0,none⟩),.slice A k c] W1 (zcB B {F with av:=(w.heap.size+1)::F.av} L sk m (zbT L m bw) W1)):=
   qiK W1 B _ L sk m A k c bw HX1.o (HRW.o W1 (Bf _ _)).words hp hwl
  have EJ:Hid (zbK L sk m ⟨0,bl,bs,bw,blf,bx,bn⟩=zbT L m bw):=by unfold Hid;rw[EX.o];unfold zgM;simp[hne]
  clear hne hw;generalize zbT L m bw=r at HC EJ;obtain⟨m',o,er⟩:=r;rcases o with _|l
  ·rcases bs with _|_
   ·go_enter func39,ntmps39;go_upto_region 2 with(fail)
    rw[<-HW1.o];go_wp2_with(first|(go_at_call 65;refine HC.o.mono ?_;rintro e w3 ⟨v,rfl,hv,hmp,hmq⟩;have HMQ:=Hd hmq;clear hmq;obtain rfl:v=.agg #[.int .i64 0,.int .i64 0,.slice none 0 0]:=hv;have KB2:Hid (∀g,w.heap.size<=g->g<W1.heap.size->w3.heap[g]? =W1.heap[g]?):=(by obtain⟨F',k1,k2,k3⟩:=hmp;exact λg h1 h2=>k3.block g (Lt h2 (Le _)) (HNO.o g h1 h2));have hh1:=(KB2.o (w.heap.size+1) (by omega) (by omega)).trans H1.o;have hh2:=(KB2.o (w.heap.size+2) (by omega) (by omega)).trans H2.o;have HH1:=Hd hh1;have t0:=ce0 hh1;have t1:=ce1 hh1;have t2:=ce2 hh1;have tf:(∀i,w3.frozen? ⟨w.heap.size+1,i,none⟩=false):=(λi=>by simp[World.frozen?,hh1]);have y0:=ce0 hh2;have y1:=ce1 hh2;have y2:=ce2 hh2;have v0:w3.cell? ⟨w.heap.size+1+1,0,none⟩=some (.int .i64 0):=y0;have v1:w3.cell? ⟨w.heap.size+1+1,1,none⟩=some (.int .i64 0):=y1;have v2:w3.cell? ⟨w.heap.size+1+1,2,none⟩=some (.slice none 0 0):=y2;have HMP:=Hd hmp;clear hh1 hh2 hmp));refine bodyPost_ret (aM rfl _ _ (w.heap.size+1) _ _ _ _ rfl (aS HH1.o) underlying40 zbL) rfl ?_;exact zcB.no EJ.o (MP.around HX.o HB1.o (by omega) (by have:=HSZ.o;omega) HMP.o (aV _ _ _))
   ·have hs2:sk=false:=by simpa using hsk
    subst hs2;go_enter func39,ntmps39;go_upto_region 2 with(fail)
    rw[<-HW1.o];go_wp2_with(first|(go_at_call 65;refine HC.o.mono ?_;rintro e w3 ⟨v,rfl,hv,hmp,hmq⟩;have HMQ:=Hd hmq;clear hmq;obtain rfl:v=.agg #[.int .i64 0,.int .i64 0,.slice none 0 0]:=hv;have KB2:Hid (∀g,w.heap.size<=g->g<W1.heap.size->w3.heap[g]? =W1.heap[g]?):=(by obtain⟨F',k1,k2,k3⟩:=hmp;exact λg h1 h2=>k3.block g (Lt h2 (Le _)) (HNO.o g h1 h2));have hh1:=(KB2.o (w.heap.size+1) (by omega) (by omega)).trans H1.o;have hh2:=(KB2.o (w.heap.size+2) (by omega) (by omega)).trans H2.o;have HH1:=Hd hh1;have t0:=ce0 hh1;have t1:=ce1 hh1;have t2:=ce2 hh1;have tf:(∀i,w3.frozen? ⟨w.heap.size+1,i,none⟩=false):=(λi=>by simp[World.frozen?,hh1]);have y0:=ce0 hh2;have y1:=ce1 hh2;have y2:=ce2 hh2;have v0:w3.cell? ⟨w.heap.size+1+1,0,none⟩=some (.int .i64 0):=y0;have v1:w3.cell? ⟨w.heap.size+1+1,1,none⟩=some (.int .i64 0):=y1;have v2:w3.cell? ⟨w.heap.size+1+1,2,none⟩=some (.slice none 0 0):=y2;have HMP:=Hd hmp;clear hh1 hh2 hmp));refine bodyPost_ret (aM rfl _ _ (w.heap.size+1) _ _ _ _ rfl (aS HH1.o) underlying40 zbL) rfl ?_;exact zcB.no EJ.o (MP.around HX.o HB1.o (by omega) (by have:=HSZ.o;omega) HMP.o (aV _ _ _))
  ·rcases bs with _|_
   ·go_enter func39,ntmps39;go_upto_region 2 with(fail)
    rw[<-HW1.o];go_wp2_with(first|(go_at_call 65;refine HC.o.mono ?_;rintro e w3 ⟨v,rfl,hv,hmp,hmq⟩;have HMQ:=Hd hmq;clear hmq;obtain⟨C,cp,hve,hrv,hll⟩:∃(C:OA) (cp:Nat),v=.agg #[.int .i64 1,.int .i64 m.pos,.slice C l.length cp]/\RdV w3 (λg=>W1.heap.size<=g) C l.length l/\l.length<=1000:=hv;subst hve;have HRV:=Hd hrv;have HLL:=Hd hll;clear hrv hll;have KB2:Hid (∀g,w.heap.size<=g->g<W1.heap.size->w3.heap[g]? =W1.heap[g]?):=(by obtain⟨F',k1,k2,k3⟩:=hmp;exact λg h1 h2=>k3.block g (Lt h2 (Le _)) (HNO.o g h1 h2));have hh1:=(KB2.o (w.heap.size+1) (by omega) (by omega)).trans H1.o;have hh2:=(KB2.o (w.heap.size+2) (by omega) (by omega)).trans H2.o;have HH1:=Hd hh1;have t0:=ce0 hh1;have t1:=ce1 hh1;have t2:=ce2 hh1;have tf:(∀i,w3.frozen? ⟨w.heap.size+1,i,none⟩=false):=(λi=>by simp[World.frozen?,hh1]);have y0:=ce0 hh2;have y1:=ce1 hh2;have y2:=ce2 hh2;have v0:w3.cell? ⟨w.heap.size+1+1,0,none⟩=some (.int .i64 0):=y0;have v1:w3.cell? ⟨w.heap.size+1+1,1,none⟩=some (.int .i64 0):=y1;have v2:w3.cell? ⟨w.heap.size+1+1,2,none⟩=some (.slice none 0 0):=y2;have HMP:=Hd hmp;clear hh1 hh2 hmp));refine bodyPost_ret (aM rfl _ _ (w.heap.size+1) _ _ _ _ rfl (aS HH1.o) underlying40 zbL) rfl ?_;refine⟨_,by rw[EJ.o];rfl,?_,?_,λ_=> ?_⟩
    ·rw[EJ.o];refine⟨C,cp,rfl,HRV.o.keep (by simp[World.setCell]) (λg _ q=>by have:=HSZ.o;omega) (λg hg hI=>(aV _ _ _).block g hg (by have:=HSZ.o;omega)),HLL.o⟩
    ·rw[EJ.o];exact MP.around HX.o HB1.o (by omega) (by have:=HSZ.o;omega) HMP.o (aV _ _ _)
    ·rw[EJ.o];exact MX.around HX.o (by omega) (HMQ.o rfl) (aV _ _ _)
   ·have hs2:sk=false:=by simpa using hsk
    subst hs2;go_enter func39,ntmps39;go_upto_region 2 with(fail)
    rw[<-HW1.o];go_wp2_with(first|(go_at_call 65;refine HC.o.mono ?_;rintro e w3 ⟨v,rfl,hv,hmp,hmq⟩;have HMQ:=Hd hmq;clear hmq;obtain⟨C,cp,hve,hrv,hll⟩:∃(C:OA) (cp:Nat),v=.agg #[.int .i64 1,.int .i64 m.pos,.slice C l.length cp]/\RdV w3 (λg=>W1.heap.size<=g) C l.length l/\l.length<=1000:=hv;subst hve;have HRV:=Hd hrv;have HLL:=Hd hll;clear hrv hll;have KB2:Hid (∀g,w.heap.size<=g->g<W1.heap.size->w3.heap[g]? =W1.heap[g]?):=(by obtain⟨F',k1,k2,k3⟩:=hmp;exact λg h1 h2=>k3.block g (Lt h2 (Le _)) (HNO.o g h1 h2));have hh1:=(KB2.o (w.heap.size+1) (by omega) (by omega)).trans H1.o;have hh2:=(KB2.o (w.heap.size+2) (by omega) (by omega)).trans H2.o;have HH1:=Hd hh1;have t0:=ce0 hh1;have t1:=ce1 hh1;have t2:=ce2 hh1;have tf:(∀i,w3.frozen? ⟨w.heap.size+1,i,none⟩=false):=(λi=>by simp[World.frozen?,hh1]);have y0:=ce0 hh2;have y1:=ce1 hh2;have y2:=ce2 hh2;have v0:w3.cell? ⟨w.heap.size+1+1,0,none⟩=some (.int .i64 0):=y0;have v1:w3.cell? ⟨w.heap.size+1+1,1,none⟩=some (.int .i64 0):=y1;have v2:w3.cell? ⟨w.heap.size+1+1,2,none⟩=some (.slice none 0 0):=y2;have HMP:=Hd hmp;clear hh1 hh2 hmp));refine bodyPost_ret (aM rfl _ _ (w.heap.size+1) _ _ _ _ rfl (aS HH1.o) underlying40 zbL) rfl ?_;refine⟨_,by rw[EJ.o];rfl,?_,?_,λ_=> ?_⟩
    ·rw[EJ.o];refine⟨C,cp,rfl,HRV.o.keep (by simp[World.setCell]) (λg _ q=>by have:=HSZ.o;omega) (λg hg hI=>(aV _ _ _).block g hg (by have:=HSZ.o;omega)),HLL.o⟩
    ·rw[EJ.o];exact MP.around HX.o HB1.o (by omega) (by have:=HSZ.o;omega) HMP.o (aV _ _ _)
    ·rw[EJ.o];exact MX.around HX.o (by omega) (HMQ.o rfl) (aV _ _ _)
 have EJ:Hid (zbK L sk m ⟨bk,bl,bs,bw,blf,bx,bn⟩=({m with pos:=m.pos+1},none,0)):=by
  unfold Hid;rw[EX.o];unfold zgM;simp[c0,c1,c2,c3,c4,c5]
 have k0:(bk==0)=false:=by simpa using c0
 have k1:(bk==1)=false:=by simpa using c1
 have k2:(bk==2)=false:=by simpa using c2
 have k3:(bk==3)=false:=by simpa using c3
 have k4:(bk==4)=false:=by simpa using c4
 have k5:(bk==5)=false:=by simpa using c5
 clear c0 c1 c2 c3 c4 c5;rcases bs with _|_
 rotate_left;have hs2:sk=false:=by simpa using hsk
 subst hs2;all_goals
  go_enter func39,ntmps39;go_upto_region 2 with(fail)
  rw[<-HW1.o];go_wp2_with fail;refine bodyPost_ret (aM rfl _ _ (w.heap.size+1) _ _ _ _ rfl (aS ((Bj _ _ _ _ (by show w.heap.size+1≠F.mb;omega)).trans H1.o)) underlying40 zbL) rfl ?_;exact zcB.no EJ.o (MP.around HX.o HB1.o (by omega) (by have:=HSZ.o;omega) (MP.of (HX1.o.set_pos HSP.o) (aH _ _ _ _ _ (.inl rfl))) (aV _ _ _))
theorem qvI(w:World)(B:Nat)(F:Fp)(L:Lb)(sk:Bool)(m:MS)(b:Bk)(A:OA)(k c:Nat)(l0 l1 l2 x0 x1 x2:Value)(h:MX w B F L sk m)(hr:RdB w B b A k l0 l1 l2 x0 x1 x2)(hp:0<=m.pos/\m.pos<=1000000)(hwl:b.words.length<=1000)(hsk:(b.skip&&sk)=false)(c1:b.kind=1):
 Calls prog 39 #[.pointer (some ⟨F.mb,0,none⟩),.agg ⟨zaW b A k c l0 l1 l2 x0 x1 x2⟩] w (zcB B F L sk m (zbK L sk m b) w):=by
 have HX:=Hd h;have HR:=Hd hr;have hBle:=h.Ble;have hmb:=h.lt;obtain⟨W1,HB1,H0,H1,H2,b0,b1,b2,b3,b4,b5,b6,b7,b8,b9,b10,s0,s1,s2,sf,z0,z1,z2,e3,e5,e7,ef5,HX1,hmb1,HRW,HNO,HSP,HW1,HSZ⟩:=qY w B F L sk m b A k c l0 l1 l2 x0 x1 x2 h hr hp;have hsz:=HSZ.o;clear h hr;obtain⟨bk,bl,bs,bw,blf,bx,bn⟩:=b;dsimp only at b0 b1 b2 b10 hwl;have HKL:Hid (k=bw.length):=(HRW.o W1 (Bf _ _)).words.1;have hsz:=HSZ.o;try dsimp only at hsk c0 c1 c2 c3 c4
 have EX:Hid (zbK L sk m ⟨bk,bl,bs,bw,blf,bx,bn⟩=zgM L m ⟨bk,bl,bs,bw,blf,bx,bn⟩):=by unfold Hid zbK zgM;dsimp only;rw[hsk];rfl
 have HMB1:Hid (F.mb<W1.heap.size):=hmb1;have HS1:Hid (w.heap.size<W1.heap.size):=by unfold Hid;omega
 have HMTB:Hid (I64 (zcM L m.pos)):=by have:=dN HX.o.fine m.pos;unfold Hid I64;omega
 have HMTC:Hid (I64 (zcM L m.pos+1)):=by have:=dN HX.o.fine m.pos;unfold Hid I64;omega
 have hmtb:=dN HX.o.fine m.pos;subst c1;have EJ:Hid (zbK L sk m ⟨1,bl,bs,bw,blf,bx,bn⟩=((zdM m ⟨1,bl,bs,bw,blf,bx,bn⟩).1,none,(zdM m ⟨1,bl,bs,bw,blf,bx,bn⟩).2)):=EX.o;have HC:Hid (∀W,Bw W1 W->Calls prog 60 #[.pointer (some ⟨F.mb,0,none⟩),.agg ⟨zaW ⟨1,bl,bs,bw,blf,bx,bn⟩ A k c l0 l1 l2 x0 x1 x2⟩] W (zgS B {F with av:=(w.heap.size+1)::F.av} L sk m ⟨1,bl,bs,bw,blf,bx,bn⟩ W)):=
  λW hb=>qoM W B _ L sk m _ A k c l0 l1 l2 x0 x1 x2 (HX1.o.below hb) (HRW.o W hb) hp
 rcases bs with _|_
 rotate_left;have hs2:sk=false:=by simpa using hsk
 subst hs2;all_goals
  go_enter func39,ntmps39;go_upto_region 2 with(fail)
  rw[<-HW1.o];go_wp2_with fail;go_region_with(go_at_call 60;refine(HC.o _ (aA (Bf _ _) 1)).mono ?_;rintro e w3 ⟨rfl,hmp⟩;have KB2:Hid (∀g,w.heap.size<=g->g<W1.heap.size->w3.heap[g]? =W1.heap[g]?):=(by obtain⟨F',k1,k2,k3⟩:=hmp;exact λg h1 h2=>k3.block g (Lt h2 (Le _)) (HNO.o g h1 h2));have hh1:=(KB2.o (w.heap.size+1) (by omega) (by omega)).trans H1.o;have hh2:=(KB2.o (w.heap.size+2) (by omega) (by omega)).trans H2.o;have HH1:=Hd hh1;have t0:=ce0 hh1;have t1:=ce1 hh1;have t2:=ce2 hh1;have tf:(∀i,w3.frozen? ⟨w.heap.size+1,i,none⟩=false):=(λi=>by simp[World.frozen?,hh1]);have y0:=ce0 hh2;have y1:=ce1 hh2;have y2:=ce2 hh2;have v0:w3.cell? ⟨w.heap.size+1+1,0,none⟩=some (.int .i64 0):=y0;have v1:w3.cell? ⟨w.heap.size+1+1,1,none⟩=some (.int .i64 0):=y1;have v2:w3.cell? ⟨w.heap.size+1+1,2,none⟩=some (.slice none 0 0):=y2;have HMP:=Hd hmp;clear hh1 hh2 hmp);all_goals
   go_wp2_with fail;refine bodyPost_ret (aM rfl _ _ (w.heap.size+1) _ _ _ _ rfl (aS HH1.o) underlying40 zbL) rfl ?_;exact zcB.no EJ.o (MP.around HX.o HB1.o (by omega) (by have:=HSZ.o;omega) (MP.below2 (aA (Bf _ _) 1) HMP.o) (aV _ _ _))
theorem qrE(w:World)(B:Nat)(F:Fp)(L:Lb)(sk:Bool)(m:MS)(b:Bk)(A:OA)(k c:Nat)(l0 l1 l2 x0 x1 x2:Value)(h:MX w B F L sk m)(hr:RdB w B b A k l0 l1 l2 x0 x1 x2)(hp:0<=m.pos/\m.pos<=1000000)(hwl:b.words.length<=1000)(hsk:(b.skip&&sk)=false)(c2:b.kind=2):
 Calls prog 39 #[.pointer (some ⟨F.mb,0,none⟩),.agg ⟨zaW b A k c l0 l1 l2 x0 x1 x2⟩] w (zcB B F L sk m (zbK L sk m b) w):=by
 have HX:=Hd h;have HR:=Hd hr;have hBle:=h.Ble;have hmb:=h.lt;obtain⟨W1,HB1,H0,H1,H2,b0,b1,b2,b3,b4,b5,b6,b7,b8,b9,b10,s0,s1,s2,sf,z0,z1,z2,e3,e5,e7,ef5,HX1,hmb1,HRW,HNO,HSP,HW1,HSZ⟩:=qY w B F L sk m b A k c l0 l1 l2 x0 x1 x2 h hr hp;have hsz:=HSZ.o;clear h hr;obtain⟨bk,bl,bs,bw,blf,bx,bn⟩:=b;dsimp only at b0 b1 b2 b10 hwl;have HKL:Hid (k=bw.length):=(HRW.o W1 (Bf _ _)).words.1;have hsz:=HSZ.o;try dsimp only at hsk c0 c1 c2 c3 c4
 have EX:Hid (zbK L sk m ⟨bk,bl,bs,bw,blf,bx,bn⟩=zgM L m ⟨bk,bl,bs,bw,blf,bx,bn⟩):=by unfold Hid zbK zgM;dsimp only;rw[hsk];rfl
 have HMB1:Hid (F.mb<W1.heap.size):=hmb1;have HS1:Hid (w.heap.size<W1.heap.size):=by unfold Hid;omega
 have HMTB:Hid (I64 (zcM L m.pos)):=by have:=dN HX.o.fine m.pos;unfold Hid I64;omega
 have HMTC:Hid (I64 (zcM L m.pos+1)):=by have:=dN HX.o.fine m.pos;unfold Hid I64;omega
 have hmtb:=dN HX.o.fine m.pos;subst c2;have EJ:Hid (zbK L sk m ⟨2,bl,bs,bw,blf,bx,bn⟩=((zbQ L m bx).1,none,(zbQ L m bx).2)):=EX.o;have HC:Hid (∀W,Bw W1 W->Calls prog 61 #[.pointer (some ⟨F.mb,0,none⟩),.agg #[x0,x1,x2]] W (zfO B {F with av:=(w.heap.size+1)::F.av} L sk m bx W)):=
  λW hb=>qcS W B _ L sk m bx _ (HX1.o.below hb) (HRW.o W hb).x
 rcases bs with _|_
 rotate_left;have hs2:sk=false:=by simpa using hsk
 subst hs2;all_goals
  go_enter func39,ntmps39;go_upto_region 2 with(fail)
  rw[<-HW1.o];go_wp2_with fail;go_region_with(go_at_call 61;refine(HC.o _ (aA (Bf _ _) 1)).mono ?_;rintro e w3 ⟨rfl,hmp⟩;have KB2:Hid (∀g,w.heap.size<=g->g<W1.heap.size->w3.heap[g]? =W1.heap[g]?):=(by obtain⟨F',k1,k2,k3⟩:=hmp;exact λg h1 h2=>k3.block g (Lt h2 (Le _)) (HNO.o g h1 h2));have hh1:=(KB2.o (w.heap.size+1) (by omega) (by omega)).trans H1.o;have hh2:=(KB2.o (w.heap.size+2) (by omega) (by omega)).trans H2.o;have HH1:=Hd hh1;have t0:=ce0 hh1;have t1:=ce1 hh1;have t2:=ce2 hh1;have tf:(∀i,w3.frozen? ⟨w.heap.size+1,i,none⟩=false):=(λi=>by simp[World.frozen?,hh1]);have y0:=ce0 hh2;have y1:=ce1 hh2;have y2:=ce2 hh2;have v0:w3.cell? ⟨w.heap.size+1+1,0,none⟩=some (.int .i64 0):=y0;have v1:w3.cell? ⟨w.heap.size+1+1,1,none⟩=some (.int .i64 0):=y1;have v2:w3.cell? ⟨w.heap.size+1+1,2,none⟩=some (.slice none 0 0):=y2;have HMP:=Hd hmp;clear hh1 hh2 hmp);all_goals
   go_wp2_with fail;refine bodyPost_ret (aM rfl _ _ (w.heap.size+1) _ _ _ _ rfl (aS HH1.o) underlying40 zbL) rfl ?_;exact zcB.no EJ.o (MP.around HX.o HB1.o (by omega) (by have:=HSZ.o;omega) (MP.below2 (aA (Bf _ _) 1) HMP.o) (aV _ _ _))
