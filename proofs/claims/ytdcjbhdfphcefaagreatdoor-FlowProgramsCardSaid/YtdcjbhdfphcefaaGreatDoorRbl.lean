/- The contract. -/
import Derived.Test.YtdcjbhdfphcefaaGreatDoorRcl
namespace Go.Proofs.YtdcjbhdfphcefaaGreatDoor
set_option linter.all false
set_option maxRecDepth 100000
set_option maxHeartbeats 16000000
open Go.Proofs.Tryz
open Go.RowKit
def zcJ(B:Nat)(F:Fp)(L:Lb)(sk:Bool)(m:MS)(r:MS×Option (LI)×Int)(w:World)(e:Ending)(w':World):Prop:=
 (∃(l:LI) (C:OA) (cp:Nat),r.2.1=some l/\r.2.2=0/\e=.returned (.tuple #[.slice C l.length cp,.bool true,.int .i64 0])/\RdV w' (λg=>w.heap.size<=g) C l.length l/\l.length<=1000/\Bw w w')\/
 (r.2.1=none/\e=.returned (.tuple #[.slice none 0 0,.bool false,.int .i64 r.2.2])/\QP B F L sk r.1 w w')
theorem zcJ.no{B:Nat}{F:Fp}{L:Lb}{sk:Bool}{m m':MS}{r:MS×Option (LI)×Int}{w w':World}{er:Int}(he:r=(m',none,er))(h:QP B F L sk m' w w'):zcJ B F L sk m r w (.returned (.tuple #[.slice none 0 0,.bool false,.int .i64 er])) w':=
 .inr ⟨by rw[he],by rw[he],by rw[he];exact h⟩
def QwR(W1:World)(f:Int->Int)(ws:List (Int×Tr))(vv iv:Value)(W:World):Prop:=
 ∃(k cap:Nat) (C:OA) (acc:LI),k<=ws.length/\acc.length=k/\iv=.int .i64 (k:Int)/\vv=.slice C k cap/\Vi acc/\
  zbX f ws=(if(zbX f (ws.drop k)).2≠0 then([],(zbX f (ws.drop k)).2)else(acc++(zbX f (ws.drop k)).1,0))/\
  W.ownsRow W1.heap.size 59 2 (.slice C k cap) k (zdS acc)/\Bw W1 W
def QkR(W1:World)(l:LI)(cv iv:Value)(W:World):Prop:=
 ∃k:Nat,k<=l.length/\iv=.int .i64 (k:Int)/\cv=.int .i64 ((l.take k).countP isK:Nat)/\Bw W1 W
theorem qeO(w:World)(B:Nat)(F:Fp)(L:Lb)(sk:Bool)(m:MS)(b:Bk)(A:OA)(n c:Nat)(l0 l1 l2 x0 x1 x2:Value)(h:QX w B F L sk m)(hj:RJ m)(hr:RdB w B b A n l0 l1 l2 x0 x1 x2)(hlen:b.words.length<=1000):
 Calls prog 109 #[.pointer (some ⟨F.mb,0,none⟩),.agg ⟨zaW b A n c l0 l1 l2 x0 x1 x2⟩] w (zcJ B F L sk m (zbT L m b.words) w):=by
 obtain⟨i0,z0,hi,hz0,hz1,hz2,hzs⟩:=oD;have HX:=Hd h;have HJ:=Hd hj;have hw:=hr.words;generalize b.words=ws at*
 obtain⟨hn1,hn2,hvb,hvc⟩:=hw;have HVC:=Hd hvc;have HVB:=Hd hvb;have HEV:=Hd (λx v hr W hW=>h.eval x v hr W hW);have HI64:=Hd (λx=>xZ h.vf x);obtain⟨A1,A2,A3,AC,c1,c2,c3,capc,xs,⟨-,-,-,-,-,-,-,d7,-,-,-⟩,-,-,-⟩:=h.cells;have hmb:=h.lt;have hBle:=h.Ble;have D7:=Hd d7;have HI:=Hd hi;clear h hvc hvb d7 hr hj hi;subst hn1;obtain⟨W1,hW1,HB1,hbx⟩:=newW w ⟨zaW b A ws.length c l0 l1 l2 x0 x1 x2⟩ 54;have b3:W1.cell? ⟨w.heap.size,3,none⟩=some (.slice A ws.length c):=Ro W1 _ 3 _ _ _ hbx;have HB3:=Hd b3;have hs1:=hlS hbx;have hs1':=HB1.o.size;clear hbx b3;go_enter func109,ntmps109;go_upto_region 1 with(fail)
 rw[<-hW1];clear hW1;go_wp2_with fail;go_loopw[7,8] (QwR W1 m.sto.f ws) (λ_ i _=>ws.length-(intOf i).toNat)
 case atStart=>
  refine⟨0,0,none,[],Lq _,rfl,rfl,rfl,qdW,?_,World.ownsRow_nil _ _ _ _,Bf _ _⟩;rw[List.drop_zero,List.nil_append];rcases hv:zbX m.sto.f ws with⟨a,b⟩
  split
  ·rename_i hb;rw[wE hv hb]
  ·rename_i hb;have:b=0:=by simpa using hb
   rw[this]
 case round=>
  obtain⟨k,cap,C,acc,hk,hacl,rfl,rfl,hvi,hval,hown,hnx⟩:=hrel;have HN:=Hd hnx;have HNW:=Hd (HB1.o.tm hnx);have hsz:=HNW.o.size;have HO:=Hd hown;have HVAL:=Hd hval;have HVI:=Hd hvi;have HACL:=Hd hacl;have b3:=hnx.ct hs1 HB3.o;have hbr:w.heap.size<wr.heap.size:=Lt hs1 hnx.size;have hmbr:F.mb<wr.heap.size:=Lt hmb HNW.o.size;have r7:=HNW.o.ct hmb D7.o;clear hnx hown hval hvi hacl;by_cases hlt:k<ws.length
  ·obtain⟨ab,off,rfl,hab,hc⟩:=HVC.o (by omega);obtain⟨⟨cc,x⟩,hx⟩:∃x,ws[k]? =some x:=⟨_,Gg hlt⟩;obtain⟨q0,y0,y1,y2,q1,q2,q3,hrd⟩:=hc k _ hx;dsimp only at q0 q1 q2 q3 hrd;obtain⟨xo,xn,xA,xk,xc,rfl,rfl,rfl⟩:=hrd.shape;have habr:ab<w.heap.size:=by omega
   have habw:ab<wr.heap.size:=by omega
   have e0:=HNW.o.ct habr q0;have e1:wr.cell? ⟨ab,off+k*4+1,none⟩=some (.int .i64 xo):=HNW.o.ct habr q1;have e2:wr.cell? ⟨ab,off+k*4+2,none⟩=some (.int .i64 xn):=HNW.o.ct habr q2;have e3:wr.cell? ⟨ab,off+k*4+3,none⟩=some (.slice xA xk xc):=HNW.o.ct habr q3;have HE0:=Hd e0;have HX1:=Hd hx;have HBC:=Hd (HVB.o _ (Mg hx));have HEX:=Hd (HEV.o x _ hrd);have HBRC:=Hd b3;have i0':(0:Int)<=(k:Int):=by omega
   have i1':(k:Int)<(ws.length:Int):=by omega
   clear hc hx q0 q1 q2 q3 hrd;generalize hE:zcH (zbG m.sto.f) x=ev at HEX;obtain⟨nv,er⟩:=ev;have HE:=Hd hE;have HNV:Hid (I64 nv):=by have:=HI64.o x;rw[hE]at this;exact this
   clear hE;go_wp2_with fail;go_region_held3(λW=>W.cell? ⟨w.heap.size,3,none⟩=some (.slice (some ⟨ab,off,none⟩) ws.length c)/\W.cell? ⟨ab,off+k*4+1,none⟩=some (.int .i64 xo)/\W.cell? ⟨ab,off+k*4+2,none⟩=some (.int .i64 xn)/\W.cell? ⟨ab,off+k*4+3,none⟩=some (.slice xA xk xc)/\W.cell? ⟨F.mb,7,none⟩=some (.pointer (some ⟨F.sb,0,none⟩))) (first|exact⟨b3,e1,e2,e3,r7⟩|exact⟨HN2.o.ct hbr b3,HN2.o.ct habw e1,HN2.o.ct habw e2,HN2.o.ct habw e3,HN2.o.ct hmbr r7⟩|fail) (first|(go_at_call 107;refine(HEX.o _ (aA HNW.o 1)).mono ?_;rintro e w2 ⟨rfl,hb2⟩;have HN2:Hid (Bw wr w2):=(unB hb2);clear hb2));have HB2:=Hd (HNW.o.tm HN2.o);have HBN2:=Hd (HN.o.tm HN2.o);clear b3 e0 e1 e2 e3 r7;by_cases he:er=0
   case neg=>
    have he':(er !=0)=true:=by simpa using he
    have EJ:Hid (zbT L m ws=(m,none,er)):=by
     unfold Hid zbT;have e1:zbX m.sto.f (ws.drop k)=([],er):=by rw[cE HX1.o,zbX,HE.o];simp[he]
     have e2:=HVAL.o;rw[e1]at e2;simp[he]at e2;rw[e2];simp[he]
    clear he;go_wp2_with fail;go_ret3;exact zcJ.no EJ.o (QP.below HX.o HB2.o)
   have he':(er !=0)=false:=by simpa using he
   subst he;have hvl:zbX m.sto.f (ws.drop k)=if(zbX m.sto.f (ws.drop (k+1))).2≠0 then([],(zbX m.sto.f (ws.drop (k+1))).2)else((cc,nv)::(zbX m.sto.f (ws.drop (k+1))).1,0):=by
    rw[cE HX1.o,zbX,HE.o];simp
   have HVL:Hid (zbX m.sto.f ws=(if(zbX m.sto.f (ws.drop (k+1))).2≠0 then([],(zbX m.sto.f (ws.drop (k+1))).2)else((acc++[(cc,nv)])++(zbX m.sto.f (ws.drop (k+1))).1,0))):=by
    unfold Hid;rw[HVAL.o,hvl];by_cases hz:(zbX m.sto.f (ws.drop (k+1))).2=0
    ·simp[hz]
    ·simp[hz]
   have HVI2:Hid (Vi (acc++[(cc,nv)])):=by
    intro y hy;rcases Ma.1 hy with q|q
    ·exact HVI.o y q
    ·rw[Mt.1 q];exact⟨HBC.o,HNV.o⟩
   clear hvl;have hB2s:=HBN2.o.size;have b3:=HN2.o.ct hbr HBRC.o;have e0:=HN2.o.ct habw HE0.o;have HOW2:Hid (w2.ownsRow W1.heap.size 59 2 (.slice C k cap) k (zdS acc)):=aC HO.o λg hg _=>HN2.o.block g hg;go_wp2_with(first|(at_builtin;refine wpList_append_lies _ rfl (.tmp 37) (.tmp 46) 38 rfl W1.heap.size 59 i0 z0 2 16 underlying38 HI.o hz0 hz1 hz2 hzs (by omega) (.slice C k cap) k (zdS acc) rfl (HOW2.o.alloc _) ⟨w2.heap.size,0,none⟩ 1 1 [.int .i64 cc,.int .i64 nv] rfl rfl (yD _ _ _ _) (zkU _ _ _ _) (by omega) (by unfold maxLen;omega) (by omega) (by simp;omega) _ rfl ?_;intro g9 c9 w9 ho9 hg9 hl9 hlt9;have HO9:=Hd ho9;have HG9:=Hd hg9;clear ho9 hg9 hl9 hlt9));exact⟨⟨k+1,c9,some ⟨g9,0,none⟩,acc++[(cc,nv)],by omega,by rw[La,HACL.o];rfl,by go_num,rfl,HVI2.o,HVL.o,by rw[qK];exact HO9.o,(HBN2.o.alloc hB2s _).grown HG9.o (by simp;omega) (λj hj=>(HOW2.o.lt j hj).1)⟩,by simp only[intOf];omega⟩
  ·have hke:k=ws.length:=by omega
   subst hke;have HVALS:Hid (zbX m.sto.f ws=(acc,0)):=by
    unfold Hid;rw[HVAL.o,Dl];simp[zbX]
   have HRV:Hid (RdV wr (λg=>W1.heap.size<=g) C acc.length acc):=oR (by rw[HACL.o];exact HO.o) rfl HVI.o;have hal:=HACL.o;have HL1:Hid (acc.length<=1000):=by unfold Hid;omega
   have hL1:=HL1.o;rw[<-HACL.o];obtain⟨wq,hwq⟩:∃wq,wq=wr:=⟨_,rfl⟩;subst hwq;rw[<-HACL.o]at b3;clear r7 HN HO HVAL HACL hal;have hct:=xY acc (0,0);have HCS:Hid ((zeU acc).1=(acc.countP isK:Nat)):=by have:=hct.1;unfold Hid zeU;rw[this];simp
   have HCL:Hid (acc.countP isK<=1->(zeU acc).2=if acc.any (λv=>isC v 77 98)then 98 else if acc.any (λv=>isC v 71 65)then 65 else if acc.any (λv=>isC v 77 99)then 99 else 0):=λq=>qrT acc (0,0) q;have hcl:acc.countP isK<=acc.length:=List.countP_le_length;clear hct;go_wp2_with fail;go_loopw[11,12] (QkR wq acc) (λ_ i _=>acc.length-(intOf i).toNat)
   case atStart=>exact⟨0,by omega,rfl,rfl,Bf _ _⟩
   case round=>
    obtain⟨j,hj,rfl,rfl,hb⟩:=hrel;have HBJ:=Hd hb;clear hb;by_cases hlt:j<acc.length
    ·obtain⟨ab,off,rfl,_,hab,hc⟩:=HRV.o.2.2.2 (by omega);obtain⟨⟨cc,nn⟩,hx⟩:∃x,acc[j]? =some x:=⟨_,Gg hlt⟩;obtain⟨x0,x1⟩:=hc j _ hx;dsimp only at x0 x1;have d0:=HBJ.o.ct hab x0;have d1:=HBJ.o.ct hab x1;have D0:=Hd x0;have D1:=Hd x1;have HCT:Hid ((acc.take (j+1)).countP isK=(acc.take j).countP isK+if isK (cc,nn)=true then 1 else 0):=by
      unfold Hid;rw[Ta,hx,List.countP_append,Option.toList_some,List.countP_cons,List.countP_nil];simp
     have htb:(acc.take j).countP isK<=1000:=Ly List.countP_le_length (by rw[Lr];omega);have HI1:=Hd (λW=>gN cc nn 77 98 W (by omega));have HI2:=Hd (λW=>gN cc nn 77 99 W (by omega));have HI3:=Hd (λW=>gN cc nn 71 65 W (by omega));have HABL:=Hd hab;have j0:(0:Int)<=(j:Int):=by omega
     have j1:(j:Int)<(acc.length:Int):=by omega
     clear hc hx x0 x1;generalize(acc.take j).countP isK=q at*
     have tok1:=trivial;have tok2:=trivial;rcases h1:isC (cc,nn) 77 98 with _|_
     ·rcases h2:isC (cc,nn) 77 99 with _|_
      ·rcases h3:isC (cc,nn) 71 65 with _|_
       ·have HK:Hid (isK (cc,nn)=false):=by unfold Hid isK;rw[h1,h2,h3];rfl
        rw[h1]at HI1;rw[h2]at HI2;rw[h3]at HI3;clear h1 h2 h3;go_wp2_with(first|(go_at_call 110;clear tok1;refine(HI1.o _).mono ?_;rintro e v1 ⟨rfl,hbx⟩;have HBX:=Hd (HBJ.o.tm hbx);have d0:=HBX.o.ct HABL.o D0.o;have d1:=HBX.o.ct HABL.o D1.o;clear hbx)|(go_at_call 110;clear tok2;refine(HI2.o _).mono ?_;rintro e v2 ⟨rfl,hbx⟩;have HBY:=Hd (HBX.o.tm hbx);have d0:=HBY.o.ct HABL.o D0.o;have d1:=HBY.o.ct HABL.o D1.o;clear hbx)|(go_at_call 110;refine(HI3.o _).mono ?_;rintro e v3 ⟨rfl,hbx⟩;have HBZ:=Hd (HBY.o.tm hbx);have d0:=HBZ.o.ct HABL.o D0.o;have d1:=HBZ.o.ct HABL.o D1.o;clear hbx));exact⟨⟨j+1,by omega,by go_num,by rw[HCT.o,HK.o];simp,HBZ.o⟩,by simp only[intOf];omega⟩
       ·have HK:Hid (isK (cc,nn)=true):=by unfold Hid isK;rw[h1,h2,h3];rfl
        rw[h1]at HI1;rw[h2]at HI2;rw[h3]at HI3;clear h1 h2 h3;go_wp2_with(first|(go_at_call 110;clear tok1;refine(HI1.o _).mono ?_;rintro e v1 ⟨rfl,hbx⟩;have HBX:=Hd (HBJ.o.tm hbx);have d0:=HBX.o.ct HABL.o D0.o;have d1:=HBX.o.ct HABL.o D1.o;clear hbx)|(go_at_call 110;clear tok2;refine(HI2.o _).mono ?_;rintro e v2 ⟨rfl,hbx⟩;have HBY:=Hd (HBX.o.tm hbx);have d0:=HBY.o.ct HABL.o D0.o;have d1:=HBY.o.ct HABL.o D1.o;clear hbx)|(go_at_call 110;refine(HI3.o _).mono ?_;rintro e v3 ⟨rfl,hbx⟩;have HBZ:=Hd (HBY.o.tm hbx);have d0:=HBZ.o.ct HABL.o D0.o;have d1:=HBZ.o.ct HABL.o D1.o;clear hbx));exact⟨⟨j+1,by omega,by go_num,by rw[HCT.o,HK.o];go_num,HBZ.o⟩,by simp only[intOf];omega⟩
      ·have HK:Hid (isK (cc,nn)=true):=by unfold Hid isK;rw[h1,h2];rfl
       rw[h1]at HI1;rw[h2]at HI2;clear h1 h2;go_wp2_with(first|(go_at_call 110;clear tok1;refine(HI1.o _).mono ?_;rintro e v1 ⟨rfl,hbx⟩;have HBX:=Hd (HBJ.o.tm hbx);have d0:=HBX.o.ct HABL.o D0.o;have d1:=HBX.o.ct HABL.o D1.o;clear hbx)|(go_at_call 110;clear tok2;refine(HI2.o _).mono ?_;rintro e v2 ⟨rfl,hbx⟩;have HBY:=Hd (HBX.o.tm hbx);have d0:=HBY.o.ct HABL.o D0.o;have d1:=HBY.o.ct HABL.o D1.o;clear hbx));exact⟨⟨j+1,by omega,by go_num,by rw[HCT.o,HK.o];go_num,HBY.o⟩,by simp only[intOf];omega⟩
     ·have HK:Hid (isK (cc,nn)=true):=by unfold Hid isK;rw[h1];rfl
      rw[h1]at HI1;clear h1;go_wp2_with(first|(go_at_call 110;clear tok1;refine(HI1.o _).mono ?_;rintro e v1 ⟨rfl,hbx⟩;have HBX:=Hd (HBJ.o.tm hbx);have d0:=HBX.o.ct HABL.o D0.o;have d1:=HBX.o.ct HABL.o D1.o;clear hbx));exact⟨⟨j+1,by omega,by go_num,by rw[HCT.o,HK.o];go_num,HBX.o⟩,by simp only[intOf];omega⟩
    ·have hke:j=acc.length:=by omega
     subst hke;rw[Tm];have HBE:=Hd (HNW.o.tm HBJ.o);have HRV2:Hid (RdV wr (λg=>W1.heap.size<=g) C acc.length acc):=HRV.o.keep HBJ.o.size (λ_ _ z=>z) λg hg _=>HBJ.o.block g hg;clear HRV HBJ HNW;generalize hq:acc.countP isK=q at*
     have HQ:=Hd hq;clear hq;by_cases q1:1<q
     ·have g1:decide ((q:Int)>1)=true:=Dt (by omega);have EJ:Hid (zbT L m ws=(m,none,8)):=by
       unfold Hid zbT;rw[HVALS.o];dsimp only;rw[Iq (by simp),HCS.o,Ip (by omega)]
      clear q1;go_wp2_with fail;go_ret3;exact zcJ.no EJ.o (QP.below HX.o HBE.o)
     have g1:decide ((q:Int)>1)=false:=Df (by omega);have EW:Hid (zbT L m ws=if(zeU acc).2=99/\1<acc.length then(m,none,8)else if(zeU acc).2=99 then((zbJ L m).1,none,(zbJ L m).2)else if(zeU acc).2≠0 then(zcV L m acc ((zeU acc).2==65),none,zbH L m acc ((zeU acc).2==65))else({m with pos:=m.pos+1,ended:=m.ended||acc.any λv=>isC v 77 2||isC v 77 30},some acc,0)):=by
      unfold Hid zbT;rw[HVALS.o];dsimp only;rw[Iq (by simp),HCS.o,Iq (by omega)]
     have hcl2:=HCL.o (by omega);have HQ1:Hid (acc.countP isK<=1):=by unfold Hid;rw[HQ.o];omega
     have HH:=Hd (λ(W:World) (hW:Bw wr W) (a t:Int) (ht:0<=t/\t<=1000)=>uR W (λg=>W1.heap.size<=g) C acc.length cap acc (HRV2.o.keep hW.size (λ_ _ z=>z) λg hg _=>hW.block g hg) a t ht);have H98:=Hd (HH.o wr (Bf _ _) 77 98 (by omega));have H65:=Hd (λW hW=>HH.o W hW 71 65 (by omega));have H99:=Hd (λW hW=>HH.o W hW 77 99 (by omega));have HPOS:Hid (0<=m.pos/\m.pos<=1000000):=by have:=HJ.o.pos;unfold Hid;omega
     have tok1:=trivial;have tok2:=trivial;clear q1 HH HCL HCS;rcases a98:acc.any (λv=>isC v 77 98)with _|_
     ·rw[a98]at hcl2 H98;rcases a65:acc.any (λv=>isC v 71 65)with _|_
      ·rw[a65]at hcl2 H65;rcases a99:acc.any (λv=>isC v 77 99)with _|_
       ·rw[a99]at hcl2 H99;have EJ:Hid (zbT L m ws=({m with pos:=m.pos+1,ended:=m.ended||acc.any λv=>isC v 77 2||isC v 77 30},some acc,0)):=by
         unfold Hid;rw[EW.o,hcl2];simp
        clear hcl2 a98 a65 a99;go_wp2_with(first|(go_at_call 71;clear tok1;refine H98.o.mono ?_;rintro e v1 ⟨rfl,hbx⟩;have HY1:Hid (Bw wr v1):=hbx;clear hbx)|(go_at_call 71;clear tok2;refine(H65.o _ HY1.o).mono ?_;rintro e v2 ⟨rfl,hbx⟩;have HY2:Hid (Bw wr v2):=(HY1.o.tm hbx);clear hbx)|(go_at_call 71;refine(H99.o _ HY2.o).mono ?_;rintro e v3 ⟨rfl,hbx⟩;have HY3:Hid (Bw wr v3):=(HY2.o.tm hbx);clear hbx));go_ret3;refine .inl ⟨acc,C,cap,by rw[EJ.o],by rw[EJ.o],rfl,HRV2.o.keep HY3.o.size (λg _ hi=>Ly HB1.o.size hi) (λg hg _=>HY3.o.block g hg),HL1.o,HBE.o.tm HY3.o⟩
       ·rw[a99]at hcl2 H99;by_cases q2:1<acc.length
        ·have g2:decide (((acc.length:Nat):Int)>1)=true:=Dt (by omega);have EJ:Hid (zbT L m ws=(m,none,8)):=by unfold Hid;rw[EW.o,hcl2,Ip ⟨rfl,q2⟩]
         clear hcl2 a98 a65 a99 q2;go_wp2_with(first|(go_at_call 71;clear tok1;refine H98.o.mono ?_;rintro e v1 ⟨rfl,hbx⟩;have HY1:Hid (Bw wr v1):=hbx;clear hbx)|(go_at_call 71;clear tok2;refine(H65.o _ HY1.o).mono ?_;rintro e v2 ⟨rfl,hbx⟩;have HY2:Hid (Bw wr v2):=(HY1.o.tm hbx);clear hbx)|(go_at_call 71;refine(H99.o _ HY2.o).mono ?_;rintro e v3 ⟨rfl,hbx⟩;have HY3:Hid (Bw wr v3):=(HY2.o.tm hbx);clear hbx));go_ret3;exact zcJ.no EJ.o (QP.below HX.o (HBE.o.tm HY3.o))
        ·have g2:decide (((acc.length:Nat):Int)>1)=false:=Df (by omega);have EJ:Hid (zbT L m ws=((zbJ L m).1,none,0)):=by
          unfold Hid;rw[EW.o,hcl2,Iq (λz=>q2 z.2)];have:=(jU HX.o.fine HJ.o).2;simp[this]
         clear hcl2 a98 a65 a99 q2;go_wp2_with(first|(go_at_call 71;clear tok1;refine H98.o.mono ?_;rintro e v1 ⟨rfl,hbx⟩;have HY1:Hid (Bw wr v1):=hbx;clear hbx)|(go_at_call 71;clear tok2;refine(H65.o _ HY1.o).mono ?_;rintro e v2 ⟨rfl,hbx⟩;have HY2:Hid (Bw wr v2):=(HY1.o.tm hbx);clear hbx)|(go_at_call 71;refine(H99.o _ HY2.o).mono ?_;rintro e v3 ⟨rfl,hbx⟩;have HY3:Hid (Bw wr v3):=(HY2.o.tm hbx);clear hbx)|(go_at_call 69;refine(xC _ B F L sk m (HX.o.below (HBE.o.tm HY3.o)) HJ.o).mono ?_;rintro e w8 ⟨rfl,hq8⟩;have HQ8:=Hd hq8;clear hq8));go_ret3;exact zcJ.no EJ.o (QP.then (Chg.of_below (HBE.o.tm HY3.o)) HQ8.o)
      ·rw[a65]at hcl2 H65;have EJ:Hid (zbT L m ws=(zcV L m acc true,none,zbH L m acc true)):=by unfold Hid;rw[EW.o,hcl2];simp
       have HA65:=Hd a65;clear hcl2 a98 a65;go_wp2_with(first|(go_at_call 71;clear tok1;refine H98.o.mono ?_;rintro e v1 ⟨rfl,hbx⟩;have HY1:Hid (Bw wr v1):=hbx;clear hbx)|(go_at_call 71;clear tok2;refine(H65.o _ HY1.o).mono ?_;rintro e v2 ⟨rfl,hbx⟩;have HY2:Hid (Bw wr v2):=(HY1.o.tm hbx);clear hbx)|(go_at_call 148;refine(xB _ B F L sk m (λg=>W1.heap.size<=g) C acc.length cap acc true (HX.o.below (HBE.o.tm HY2.o)) (HRV2.o.keep HY2.o.size (λ_ _ z=>z) λg hg _=>HY2.o.block g hg) HPOS.o HL1.o HQ1.o (by rw[Ip rfl];exact HA65.o)).mono ?_;rintro e w8 ⟨rfl,hq8⟩;have HQ8:=Hd hq8;clear hq8));go_ret3;exact zcJ.no EJ.o (QP.then (Chg.of_below (HBE.o.tm HY2.o)) HQ8.o)
     ·rw[a98]at hcl2 H98;have EJ:Hid (zbT L m ws=(zcV L m acc false,none,zbH L m acc false)):=by unfold Hid;rw[EW.o,hcl2];simp
      have HA98:=Hd a98;clear hcl2 a98;go_wp2_with(first|(go_at_call 71;clear tok1;refine H98.o.mono ?_;rintro e v1 ⟨rfl,hbx⟩;have HY1:Hid (Bw wr v1):=hbx;clear hbx)|(go_at_call 148;refine(xB _ B F L sk m (λg=>W1.heap.size<=g) C acc.length cap acc false (HX.o.below (HBE.o.tm HY1.o)) (HRV2.o.keep HY1.o.size (λ_ _ z=>z) λg hg _=>HY1.o.block g hg) HPOS.o HL1.o HQ1.o (by rw[Iq (by decide)];exact HA98.o)).mono ?_;rintro e w8 ⟨rfl,hq8⟩;have HQ8:=Hd hq8;clear hq8));go_ret3;exact zcJ.no EJ.o (QP.then (Chg.of_below (HBE.o.tm HY1.o)) HQ8.o)
theorem zcJ.up{B:Nat}{F:Fp}{L:Lb}{sk:Bool}{m:MS}{r:MS×Option (LI)×Int}{w W1:World}{e:Ending}{w':World}(h:zcJ B F L sk m r W1 e w')(hb:Bw w W1):zcJ B F L sk m r w e w':=by
 rcases h with⟨l,C,cp,h1,h2,h3,h4,h5,h6⟩|⟨h1,h2,h3⟩
 ·exact .inl ⟨l,C,cp,h1,h2,h3,h4.keep (Le _) (λg _ hi=>Ly hb.size hi) (λ_ _ _=>rfl),h5,hb.tm h6⟩
 ·exact .inr ⟨h1,h2,QP.then (Chg.of_below hb) h3⟩
theorem QP.dn{B:Nat}{F:Fp}{L:Lb}{sk:Bool}{m:MS}{w w':World}(h:QP B F L sk m w w')(k:Nat):QP B F L sk m w (w'.drewN k):=by
 obtain⟨F',a,b,c⟩:=h;exact⟨F',a,b.below (aA (Bf _ _) k),c.drewN k⟩
theorem qeX(w:World)(B:Nat)(F:Fp)(L:Lb)(sk:Bool)(m:MS)(b:Bk)(A:OA)(n c:Nat)(l0 l1 l2 x0 x1 x2:Value)(h:QX w B F L sk m)(hj:RJ m)(hb:L.bl[m.pos.toNat]? =some b)(hr:RdB w B b A n l0 l1 l2 x0 x1 x2):
 Calls prog 70 #[.pointer (some ⟨F.mb,0,none⟩),.agg ⟨zaW b A n c l0 l1 l2 x0 x1 x2⟩] w (zcJ B F L sk m (zbK L sk m b) w):=by
 have HX:=Hd h;have HJ:=Hd hj;have hlen:=h.fine.wl b (Mg hb);have HLEN:=Hd hlen;have hwn:=hr.words.1;subst hwn;obtain⟨lo,ln,lA,lk,lc,rfl,rfl,rfl⟩:=hr.left.shape;obtain⟨xo,xn,xA,xk,xc,rfl,rfl,rfl⟩:=hr.x.shape;have HR:=Hd hr;have hkind:=h.mated.kind b (Mg hb);have hup:=(h.mated.up _ b hb).1;have HUP:=Hd hup;have HMB:=qcK h.fine m.pos;have hpos:=hj.pos;have hfb:=h.fine.bl;have hlt:m.pos.toNat<L.bl.length:=(Gu.1 hb).1;have hml:=h.mated.len;obtain⟨P,hP⟩:∃P:Nat,m.pos=(P:Int):=⟨m.pos.toNat,by omega⟩;have hms:zcM L m.pos=L.mt.getD m.pos.toNat 0:=by unfold zcM;rw[Ip (by omega)]
 obtain⟨A1,A2,A3,AC,c1,c2,c3,capc,xs,⟨-,-,d2,d3,-,d5,-,d7,-,-,-⟩,hL,-,hfr⟩:=h.cells;obtain⟨_,hm2,_,hmc⟩:=hL.mt;obtain⟨mab,moff,rfl,hmab,hmd⟩:=hmc (by omega);obtain⟨mt,hmt⟩:∃x,L.mt[P]? =some x:=⟨_,Gg (by omega)⟩;have e9:=hmd P mt hmt;have hmv:L.mt.getD m.pos.toNat 0=mt:=by rw[hP,It,Gd,hmt];rfl
 have HMV:Hid (zcM L m.pos=mt):=hms.trans hmv;have hmb:=h.lt;have hBle:=h.Ble;have hmab':mab<w.heap.size:=by omega
 rw[hP]at d5;have hPl:P<L.mt.length:=by omega
 have HP:=Hd hP;unfold maxLen at hm2;have wP:IntKind.i64.wrap ((P:Int)+1)=(P:Int)+1:=IntWalk.i64_in _ (by omega);have i0:(0:Int)<=(P:Int):=by omega
 have i1:(P:Int)<(L.mt.length:Int):=by omega
 rw[HMV.o]at HMB;obtain⟨W1,hW1,HB1,hbx⟩:=newW w ⟨zaW b A b.words.length c (.int .i64 lo) (.int .i64 ln) (.slice lA lk lc) (.int .i64 xo) (.int .i64 xn) (.slice xA xk xc)⟩ 54;have q:=λj=>Ro W1 w.heap.size j _ _ _ hbx;have b0:W1.cell? ⟨w.heap.size,0,none⟩=some (.int .i64 b.kind):=(q 0).trans rfl;have b1:W1.cell? ⟨w.heap.size,1,none⟩=some (.int .i64 b.label):=(q 1).trans rfl;have b2:W1.cell? ⟨w.heap.size,2,none⟩=some (.bool b.skip):=(q 2).trans rfl;have b3:W1.cell? ⟨w.heap.size,3,none⟩=some (.slice A b.words.length c):=(q 3).trans rfl;have b4:W1.cell? ⟨w.heap.size,4,none⟩=some (.int .i64 lo):=(q 4).trans rfl;have b5:W1.cell? ⟨w.heap.size,5,none⟩=some (.int .i64 ln):=(q 5).trans rfl;have b6:W1.cell? ⟨w.heap.size,6,none⟩=some (.slice lA lk lc):=(q 6).trans rfl;have b7:W1.cell? ⟨w.heap.size,7,none⟩=some (.int .i64 xo):=(q 7).trans rfl;have b8:W1.cell? ⟨w.heap.size,8,none⟩=some (.int .i64 xn):=(q 8).trans rfl;have b9:W1.cell? ⟨w.heap.size,9,none⟩=some (.slice xA xk xc):=(q 9).trans rfl;have b10:W1.cell? ⟨w.heap.size,10,none⟩=some (.int .i64 b.n):=(q 10).trans rfl;have HBX:=Hd hbx;have hs1:=hlS hbx;have s2:=HB1.o.ct hmb d2;have s3:=HB1.o.ct hmb d3;have s5:=HB1.o.ct hmb d5;have s7:=HB1.o.ct hmb d7;have s9:=HB1.o.ct hmab' e9;have f5:W1.frozen? ⟨F.mb,5,none⟩=false:=(cekF F.mb 5 (HB1.o.block _ hmb)).trans (hfr 5);have HX1:=Hd (h.below HB1.o);have HR1:=Hd (hr.keep (B':=B) (λp hp=>HB1.o.cell (Lt hp hBle)) (Le _));have HNX:Hid (∀t:Int,-1<=t/\t<=1000000->QP B F L sk {m with pos:=t} w (W1.setCell ⟨F.mb,5,none⟩ (.int .i64 t))):=λt ht=>QP.of (HX1.o.set_pos (by unfold I64;omega)) ((Chg.of_below HB1.o).trans (aH _ _ _ _ _ F.own_mb));have HPB:Hid (P<=200000):=by unfold Hid;omega
 have hPB:=HPB.o;clear h hj hb hr hup hL hmc hmd hmt e9 hmv hms d2 d3 d5 d7 hfr hbx q hlen hlt hml hpos hP;by_cases hse:(b.skip&&sk)=true
 ·obtain⟨hs1',hs2'⟩:b.skip=true/\sk=true:=by simpa using hse
  subst hs2';rw[hs1']at b2;have EJ:Hid (zbK L true m b=({m with pos:=m.pos+1},none,0)):=by unfold Hid zbK;rw[hse];rfl
  clear hse hs1';go_enter func70,ntmps70;go_upto_region 1 with(fail)
  rw[<-hW1];clear hW1;go_wp2_with fail;go_ret3;refine zcJ.no EJ.o ?_;have q:=HNX.o ((P:Int)+1) (by omega);rw[HP.o];exact q
 have HE:=Hd (show zbK L sk m b=_ by unfold zbK;rw[Iq hse]);dsimp only at HE;go_enter func70,ntmps70;go_upto_region 1 with(fail)
 rw[<-hW1];clear hW1;have hskv:b.skip=false\/sk=false:=by
  rcases h1:b.skip with _|_
  ·exact .inl rfl
  ·rcases sk with _|_
   ·exact .inr rfl
   ·rw[h1]at hse;exact absurd rfl hse
 go_cut[16]from 9 to 16 (λs16 W=>s16=.bool false/\W=W1)
 case first=>
  rcases h1:b.skip with _|_
  ·rw[h1]at b2;go_wp2_with fail;go_meet;exact⟨rfl,rfl⟩
  ·rw[h1]at b2 hskv;rcases hskv with q|rfl
   ·cases q
   ·go_wp2_with fail;go_meet;exact⟨rfl,rfl⟩
 case rest=>
 obtain⟨rfl,hwc⟩:=hcut;subst hwc;obtain⟨W1,hwd⟩:∃x,x=wc:=⟨_,rfl⟩;subst hwd;clear hse hskv s3;by_cases k1:b.kind=1
 ·have EJ:Hid (zbK L sk m b=((zdM m b).1,none,(zdM m b).2)):=by unfold Hid;rw[HE.o,Ip k1]
  have HST:=Hd (qjI W1 B F L sk m b A b.words.length c _ _ _ _ _ _ HX1.o HR1.o (by rw[HP.o];omega));have K1:=Hd k1;rw[k1]at b0;unfold zaW at HST;rw[k1]at HST;clear k1;go_wp2_with(go_at_call 105;refine HST.o.mono ?_;rintro e w2 ⟨rfl,hq2⟩;have HQ2:=Hd hq2;clear hq2);go_ret3;exact zcJ.no EJ.o (QP.then (Chg.of_below HB1.o) HQ2.o)
 rw[Iq k1]at HE;have g1:(b.kind==1)=false:=by simpa using k1
 by_cases k2:b.kind=2
 ·have EJ:Hid (zbK L sk m b=((zbQ L m b.x).1,none,(zbQ L m b.x).2)):=by unfold Hid;rw[HE.o,Ip k2]
  have HST:=Hd (wV W1 B F L sk m b.x _ HX1.o HR1.o.x);rw[k2]at b0;clear k1 k2 g1;go_wp2_with(go_at_call 106;refine HST.o.mono ?_;rintro e w2 ⟨rfl,hq2⟩;have HQ2:=Hd hq2;clear hq2);go_ret3;exact zcJ.no EJ.o (QP.then (Chg.of_below HB1.o) HQ2.o)
 rw[Iq k2]at HE;have g2:(b.kind==2)=false:=by simpa using k2
 by_cases k34:b.kind=3\/b.kind=4
 ·rw[Ip k34]at HE;have HEV:=Hd (λW hW=>HX1.o.eval b.x _ HR1.o.x W hW);generalize hev:zcH (zbG m.sto.f) b.x=ev at HEV HE;obtain⟨v,er⟩:=ev;dsimp only at HE;have HMB0:=Hd hmb;have hmb1:F.mb<W1.heap.size:=Lt hmb HB1.o.size;have B0:=Hd b0;have B4:=Hd b4;have B5:=Hd b5;have B6:=Hd b6;have S2:=Hd s2;have S5:=Hd s5;have S9:=Hd s9;have g3:(b.kind==3)=false\/(b.kind==3)=true:=by rcases h:(b.kind==3)with _|_;exact .inl rfl;exact .inr rfl
  have hmabW:mab<W1.heap.size:=Lt hmab' HB1.o.size;have hk34:(b.kind=3/\(b.kind==3)=true/\(b.kind==4)=false)\/(b.kind=4/\(b.kind==3)=false/\(b.kind==4)=true):=by
   rcases k34 with k|k
   ·left;rw[k];exact⟨rfl,rfl,rfl⟩
   ·right;rw[k];exact⟨rfl,rfl,rfl⟩
  clear hev g3 k34;have B7:W1.cell? ⟨w.heap.size,7,none⟩=some (.int .i64 xo)/\W1.cell? ⟨w.heap.size,8,none⟩=some (.int .i64 xn)/\W1.cell? ⟨w.heap.size,9,none⟩=some (.slice xA xk xc)/\W1.cell? ⟨F.mb,7,none⟩=some (.pointer (some ⟨F.sb,0,none⟩)):=⟨b7,b8,b9,s7⟩;rcases hk34 with⟨k3,g3,g4⟩|⟨k3,g3,g4⟩
  all_goals
   clear k1 k2;go_upto_region 11 with(fail)
   go_region_held3(λW=>W.cell? ⟨w.heap.size,7,none⟩=some (.int .i64 xo)/\W.cell? ⟨w.heap.size,8,none⟩=some (.int .i64 xn)/\W.cell? ⟨w.heap.size,9,none⟩=some (.slice xA xk xc)/\W.cell? ⟨F.mb,7,none⟩=some (.pointer (some ⟨F.sb,0,none⟩))) (first|exact B7|exact⟨HN2.o.ct hs1 b7,HN2.o.ct hs1 b8,HN2.o.ct hs1 b9,HN2.o.ct hmb1 s7⟩|fail) (first|(go_at_call 107;refine(HEV.o _ (aA (Bf _ _) 1)).mono ?_;rintro e w2 ⟨rfl,hb2⟩;have HN2:Hid (Bw W1 w2):=(unB hb2);clear hb2));have HB2:=Hd (HB1.o.tm HN2.o);clear b1 b2 b3 b4 b5 b6 b7 b8 b9 b10 b0 s2 s5 s7 s9 B7;by_cases he:er=0
   case neg=>
    have he':(er !=0)=true:=by simpa using he
    have EJ:Hid (zbK L sk m b=(m,none,er)):=by unfold Hid;rw[HE.o,Ip he]
    clear he;go_wp2_with fail;go_ret3;exact zcJ.no EJ.o (QP.below HX.o HB2.o)
   have he':(er !=0)=false:=by simpa using he
   subst he;have HE2:=HE.o;rw[Iq (by simp)]at HE2;have b0:=HN2.o.ct hs1 B0.o;have b4:=HN2.o.ct hs1 B4.o;have b5:=HN2.o.ct hs1 B5.o;have b6:=HN2.o.ct hs1 B6.o;have s2:=HN2.o.ct hmb1 S2.o;have s5:=HN2.o.ct hmb1 S5.o;have s9:=HN2.o.ct hmabW S9.o;have f5':w2.frozen? ⟨F.mb,5,none⟩=false:=(cekF F.mb 5 (HN2.o.block _ hmb1)).trans f5;have HX2:=Hd (HX1.o.below HN2.o);have HTR:=Hd (λW=>fN v W);have HNY:Hid (∀t:Int,-1<=t/\t<=1000000->QP B F L sk {m with pos:=t} w (w2.setCell ⟨F.mb,5,none⟩ (.int .i64 t))):=λt ht=>QP.of (HX2.o.set_pos (by unfold I64;omega)) ((Chg.of_below HB2.o).trans (aH _ _ _ _ _ F.own_mb));have HR2:=Hd (HR1.o.left.keep (B':=B) (λp hp=>HN2.o.cell (Lt hp (Ly hBle HB1.o.size))) (Le _));have HJP:=Hd (wV w2 B F L sk m b.left _ HX2.o HR2.o);have HE3:=Hd HE2;clear HE2;by_cases hv:v=0
   ·subst hv;first
     |(have EJ:Hid (zbK L sk m b=({m with pos:=m.pos+1},none,0)):=(by unfold Hid;rw[HE3.o,Iq (by simp),Iq (by omega)]);rw[k3]at b0;clear k3 g3 g4;go_wp2_with(go_at_call 108;refine mo0 (HTR.o _) ?_);go_ret3;refine zcJ.no EJ.o ?_;have q:=HNY.o ((P:Int)+1) (by omega);rw[HP.o];exact q)
     |(have EJ:Hid (zbK L sk m b=({m with pos:=mt+1},none,0)):=(by unfold Hid;rw[HE3.o,Iq (by simp),Ip ⟨k3,rfl⟩,HMV.o]);rw[k3]at b0;have hm1:IntKind.i64.wrap (mt+1)=mt+1:=IntWalk.i64_in _ (by omega);clear k3 g3 g4;go_wp2_with(go_at_call 108;refine mo0 (HTR.o _) ?_);go_region;go_wp2_with fail;go_ret3;refine zcJ.no EJ.o ?_;exact(QP.of ((HX2.o.set_pos (t:=mt) (by unfold I64;omega)).set_pos (t:=mt+1) (by unfold I64;omega)) (((Chg.of_below HB2.o).trans (aH _ _ _ _ _ F.own_mb)).trans (aH _ _ _ _ _ F.own_mb))).dn 1)
   ·have hv':(v !=0)=true:=by simpa using hv
    first
     |(have EJ:Hid (zbK L sk m b=((zbQ L m b.left).1,none,(zbQ L m b.left).2)):=(by unfold Hid;rw[HE3.o,Ip ⟨k3,hv⟩]);rw[k3]at b0;clear k3 g3 g4 hv;go_wp2_with(first|(go_at_call 108;refine mo0 (HTR.o _) ?_)|(go_at_call 106;refine HJP.o.mono ?_;rintro e w4 ⟨rfl,hq4⟩;have HQ4:=Hd hq4;clear hq4));go_ret3;exact zcJ.no EJ.o (QP.then (Chg.of_below HB2.o) HQ4.o))
     |(have EJ:Hid (zbK L sk m b=({m with pos:=m.pos+1},none,0)):=(by unfold Hid;rw[HE3.o,Iq (by omega),Iq (by omega)]);rw[k3]at b0;clear k3 g3 g4 hv;go_wp2_with(go_at_call 108;refine mo0 (HTR.o _) ?_);go_ret3;refine zcJ.no EJ.o ?_;have q:=HNY.o ((P:Int)+1) (by omega);rw[HP.o];exact q)
 rw[Iq k34]at HE;have g3:(b.kind==3)=false:=by simpa using λz=>k34 (.inl z)
 have g4:(b.kind==4)=false:=by simpa using λz=>k34 (.inr z)
 by_cases k5:b.kind=5
 ·have EJ:Hid (zbK L sk m b=({m with pos:=zcM L m.pos},none,0)):=by unfold Hid;rw[HE.o,Ip k5]
  rw[k5]at b0;clear k1 k2 k34 k5 g1 g2 g3 g4;go_wp2_with fail;go_region;go_wp2_with fail;go_ret3;refine zcJ.no EJ.o ?_;rw[HMV.o];have q:=HNX.o mt (by omega);exact q.dn 1
 rw[Iq k5]at HE;have g5:(b.kind==5)=false:=by simpa using k5
 by_cases k6:b.kind=6\/b.words.length=0
 ·have EJ:Hid (zbK L sk m b=({m with pos:=m.pos+1},none,0)):=by
   unfold Hid;rw[HE.o,Iq];rintro⟨z1,z2⟩;rcases k6 with z|z
   ·omega
   ·exact z2 (Ez z)
  have g6:(b.kind==6)=true\/((b.kind==6)=false/\(((b.words.length:Nat):Int)==0)=true):=by
   rcases h:(b.kind==6)with _|_
   ·right;refine⟨rfl,?_⟩;rcases k6 with z|z
    ·rw[z]at h;cases h
    ·rw[z];rfl
   ·exact .inl rfl
  clear k1 k2 k34 k5 k6;rcases g6 with g6|⟨g6,g7⟩
  all_goals
   go_wp2_with fail;go_ret3;refine zcJ.no EJ.o ?_;have q:=HNX.o ((P:Int)+1) (by omega);rw[HP.o];exact q
 ·have k6a:b.kind≠6:=λz=>k6 (.inl z);have k6b:b.words.length≠0:=λz=>k6 (.inr z);have EJ:Hid (zbK L sk m b=zbT L m b.words):=by
   unfold Hid;rw[HE.o,Ip];exact⟨by omega,λz=>k6b (by rw[z];rfl)⟩
  have g6:(b.kind==6)=false:=by simpa using k6a
  have g7:(((b.words.length:Nat):Int)==0)=false:=beq_eq_false_iff_ne.2 (by omega);have HST:=Hd (qeO W1 B F L sk m b A b.words.length c _ _ _ _ _ _ HX1.o HJ.o HR1.o HLEN.o);unfold zaW at HST;clear k1 k2 k34 k5 k6 k6a k6b;go_wp2_with fail;refine HST.o.mono ?_;rintro e w2 (⟨l,C,cp,h1,h2,rfl,h4,h5,h6⟩|⟨h1,rfl,h3⟩)
  ·have HA:=Hd (And.intro h1 (And.intro h2 (And.intro h4 (And.intro h5 h6))));clear h1 h2 h4 h5 h6;go_wp2_with fail;go_ret3;rw[EJ.o];exact zcJ.up (.inl ⟨l,C,cp,HA.o.1,HA.o.2.1,rfl,HA.o.2.2.1,HA.o.2.2.2.1,HA.o.2.2.2.2⟩) HB1.o
  ·have HA:=Hd (And.intro h1 h3);clear h1 h3;go_wp2_with fail;go_ret3;rw[EJ.o];exact zcJ.up (.inr ⟨HA.o.1,rfl,HA.o.2⟩) HB1.o
