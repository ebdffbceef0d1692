/- The contract. -/
import Derived.Test.YtdcjbhdfphcefaaGreatDoorBx
import Derived.Test.YtdcjbhdfphcefaaGreatDoorVa
import Derived.Test.YtdcjbhdfphcefaaGreatDoorNv
namespace Go.Proofs.YtdcjbhdfphcefaaGreatDoor
set_option linter.all false
set_option maxRecDepth 100000
set_option maxHeartbeats 200000000
open Go.Proofs.Tryz
open Go.RowKit
def ziI(bs:List Bk)(w:World)(e:Ending)(w':World):Prop:=
 ∃(A1 A2 A3:OA) (c1 c2 c3:Nat),e=.returned (.tuple #[.agg #[.slice A1 (zbN bs).1.bl.length c1,.slice A2 (zbN bs).1.pr.length c2,.slice A3 (zbN bs).1.mt.length c3],.int .i64 (zbN bs).2.1,.int .i64 (zbN bs).2.2])/\LzB w' (λg=>w.heap.size<=g) (zbN bs).1 A1 A2 A3/\Bw w w'
theorem qyC(w:World)(I:Nat->Prop):LzB w I noL none none none:=
 ⟨⟨rfl,Lq _,.inl ⟨rfl,rfl⟩⟩,⟨rfl,Lq _,λp hp=>by simp[noL]at hp,λh=>absurd h (by simp[noL])⟩,.inl rfl,⟨rfl,Lq _,λp hp=>by simp[noL]at hp,λh=>absurd h (by simp[noL])⟩,.inl rfl,λb hb=>by simp[noL]at hb,lN,by simp[noL]⟩
def zlX(W0:World)(bs:List Bk)(i:Value)(W:World):Prop:=∃k:Nat,k<=bs.length/\i=.int .i64 (k:Int)/\Bw W0 W/\zeG bs 0=zeG (bs.drop k) k
theorem dE{fn:Func}{p u v:Tmp}{ty:TypeId}(h:fn.results= #[.cell p ty,.tmp u,.tmp v])(tmps:Array Value)(w:World)(g:Nat)(t:TypeId)(cs:Array Value)(fr:Nat×Nat)(fs:Array Field)
 (hp:tmps.getD p undef=.pointer (some ⟨g,0,none⟩)) (hg:w.heap[g]? =some (.cells cs t fr))
 (hu:prog.underlying ty=some (.struct fs)) (hi:(prog.info? ty).map (·.size)=some cs.size):
 (results fn tmps).run prog w=.ok (.tuple #[.agg cs,tmps.getD u undef,tmps.getD v undef]) w:=by
 have hp':tmps[p]?.getD undef=.pointer (some ⟨g,0,none⟩):=by simpa using hp
 simp[results,h,hp',asAddr,run_loadVar_row w g t ty cs fr (.struct fs) hg hu rfl hi]
theorem qlH(w:World)(B:Nat)(A:OA)(c:Nat)(bs:List Bk)(h:RdL w B A bs.length bs)(hB:B<=w.heap.size):Calls prog 35 #[.slice A bs.length c] w (ziI bs w):=by
 have HIN:=Hd h;have hml:=h.2.1;unfold maxLen at hml;obtain⟨W0,hW0⟩:∃W0,W0=(w.alloc (.cells #[.slice none 0 0,.slice none 0 0,.slice none 0 0] 32)).alloc (.cells #[.slice none 0 0,.slice none 0 0,.slice none 0 0] 32):=⟨_,rfl⟩;have HB0:Hid (Bw w W0):=by unfold Hid;rw[hW0];exact(nB _ _).alloc (by simp) _
 have h0:W0.heap[w.heap.size]? =some (.cells #[.slice none 0 0,.slice none 0 0,.slice none 0 0] 32 (0,0)):=by rw[hW0];exact(Bm _ _ _ (by simp)).trans (Hn w _)
 have h1:W0.heap[w.heap.size+1]? =some (.cells #[.slice none 0 0,.slice none 0 0,.slice none 0 0] 32 (0,0)):=by
  rw[hW0];have:=Hn (w.alloc (.cells #[.slice none 0 0,.slice none 0 0,.slice none 0 0] 32)) (.cells #[.slice none 0 0,.slice none 0 0,.slice none 0 0] 32);simpa using this
 have H0:=Hd h0;have H1:=Hd h1;have hs0:=hlS h0;have hs1:=hlS h1;have HN0:Hid (∀W,Bw W0 W->W.cell? ⟨w.heap.size+1,0,none⟩=some (.slice none 0 0)/\W.cell? ⟨w.heap.size+1,1,none⟩=some (.slice none 0 0)/\W.cell? ⟨w.heap.size+1,2,none⟩=some (.slice none 0 0)/\W.cell? ⟨w.heap.size,0,none⟩=some (.slice none 0 0)/\W.cell? ⟨w.heap.size,1,none⟩=some (.slice none 0 0)/\W.cell? ⟨w.heap.size,2,none⟩=some (.slice none 0 0)/\(∀i,W.frozen? ⟨w.heap.size,i,none⟩=false)/\W.heap[w.heap.size]? =some (.cells #[.slice none 0 0,.slice none 0 0,.slice none 0 0] 32 (0,0))):=λW hW=>
  have q0:=(hW.block _ hs0).trans H0.o;have q1:=(hW.block _ hs1).trans H1.o
  ⟨Ro W _ 0 _ _ _ q1,Ro W _ 1 _ _ _ q1,Ro W _ 2 _ _ _ q1,Ro W _ 0 _ _ _ q0,Ro W _ 1 _ _ _ q0,Ro W _ 2 _ _ _ q0,λi=>by simp[World.frozen?,q0],q0⟩
 have HBW:Hid (∀W,Bw W0 W->Bw w W):=λW hW=>HB0.o.tm hW;have HNP:Hid (∀(W:World) (x y:Int),Bw w W->zbN bs=(noL,x,y)->ziI bs w (.returned (.tuple #[.agg #[.slice none 0 0,.slice none 0 0,.slice none 0 0],.int .i64 x,.int .i64 y])) W):=λW x y hW he=>
  ⟨none,none,none,0,0,0,by rw[he];rfl,by rw[he];exact qyC _ _,hW⟩
 have HNO:Hid (∀(W:World) (x y:Int),Bw W0 W->zbN bs=(noL,x,y)->ziI bs w (.returned (.tuple #[.agg #[.slice none 0 0,.slice none 0 0,.slice none 0 0],.int .i64 x,.int .i64 y])) (set3 W w.heap.size 0 (.slice none 0 0) (.slice none 0 0) (.slice none 0 0))):=λW x y hW he=>
  HNP.o _ x y (aQ (HBW.o W hW) (Le _) 0 _ _ _) he
 clear h h0 h1;by_cases hbig:2000<bs.length
 ·have E:Hid (zbN bs=(noL,0,10)):=by unfold Hid zbN;rw[Ip hbig]
  obtain⟨n0,n1,n2,n3,n4,n5,nf,nb⟩:=HN0.o W0 (Bf _ _);have NB:=Hd nb;clear nb;go_enter func35,ntmps35;go_wp2_with fail;rw[<-hW0];exact bodyPost_ret (dE results35 _ _ w.heap.size _ _ _ _ rfl NB.o underlying32 (by kernel_rfl)) rfl (HNP.o W0 0 10 HB0.o E.o)
 have hsm:bs.length<=2000:=by omega
 have HR0:Hid (zlX W0 bs (.int .i64 0) W0):=⟨0,by omega,rfl,Bf _ _,rfl⟩;clear hbig;go_enter func35,ntmps35;go_wp2_with fail;rw[<-hW0];clear hW0;go_loopw[6] (zlX W0 bs) (λi _=>bs.length-(intOf i).toNat)
 case atStart=>exact HR0.o
 case round=>
  obtain⟨k,hk,rfl,hbw,her⟩:=hrel;have HW:=Hd hbw;have HER:=Hd her;clear hbw her;by_cases hlt:k<bs.length
  ·obtain⟨ab,off,rfl,hab,hkd⟩:=HIN.o.2.2 (by omega);obtain⟨b,hb⟩:∃b,bs[k]? =some b:=⟨_,Gg hlt⟩;obtain⟨A1,n1,c1,l0,l1,l2,x0,x1,x2,hbr,d0,d1,d2,d3,d4,d5,d6,d7,d8,d9,d10⟩:=(hkd k b hb).cells;have hab1:ab<w.heap.size:=by omega
   have hww:=HBW.o _ HW.o;have hq:∀i,wr.cell? ⟨ab,i,none⟩=w.cell? ⟨ab,i,none⟩:=λi=>hww.cel ab i hab1;have y0:=(hq _).trans d0;have y1:=(hq _).trans d1;have y2:=(hq _).trans d2;have y3:=(hq _).trans d3;have y4:=(hq _).trans d4;have y5:=(hq _).trans d5;have y6:=(hq _).trans d6;have y7:=(hq _).trans d7;have y8:=(hq _).trans d8;have y9:=(hq _).trans d9;have y10:=(hq _).trans d10;have HV:=Hd (qdY wr B b A1 n1 c1 l0 l1 l2 x0 x1 x2 (hbr.keep (λp hp=>hww.cell (by omega)) (Le _)) (Ly hB hww.size));have hcase:zeG bs 0=if zbA b=true then zeG (bs.drop (k+1)) (k+1)else some k:=by rw[HER.o,cE hb];rfl
   have HCS:=Hd hcase;have i1:(0:Int)<=(k:Int):=by omega
   have i2:(k:Int)<(bs.length:Int):=by omega
   clear hkd hb hbr d0 d1 d2 d3 d4 d5 d6 d7 d8 d9 d10 hq hcase hww;rcases hv:zbA b with _|_
   ·have E:Hid (zbN bs=(noL,(k:Int),1)):=by
     unfold Hid zbN;rw[Iq (by omega),HCS.o,hv];rfl
    rw[hv]at HV;go_wp2_with(go_at_call 54;refine HV.o.mono ?_;rintro e w2 ⟨rfl,hb2⟩;have HB2:=Hd (HW.o.tm hb2);clear hb2;obtain⟨n0,n1',n2,n3,n4,n5,nf,nb⟩:=HN0.o w2 HB2.o;have NB:=Hd nb;clear nb);exact bodyPost_ret (dE results35 _ _ w.heap.size _ _ _ _ rfl (cL NB.o) underlying32 (by kernel_rfl)) rfl (HNO.o w2 k 1 HB2.o E.o)
   ·have E1:Hid (zeG bs 0=zeG (bs.drop (k+1)) (k+1)):=by unfold Hid;rw[HCS.o,hv];rfl
    rw[hv]at HV;go_wp2_with(go_at_call 54;refine HV.o.mono ?_;rintro e w2 ⟨rfl,hb2⟩;have HB2:=Hd (HW.o.tm hb2);clear hb2);exact⟨⟨k+1,by omega,by go_num,HB2.o,E1.o⟩,by simp only[intOf];omega⟩
  ·have hke:k=bs.length:=by omega
   have HGD:Hid (zeG bs 0=none):=by unfold Hid;rw[HER.o,hke,Dl];rfl
   subst hke;have HSL:Hid (∀b∈bs,zhG b):=λb hb=>sV (pW bs 0 HGD.o b hb);have hww:=HBW.o _ HW.o;have HCO:=Hd (tV wr B A c bs (HIN.o.keep (λp hp=>hww.cell (by omega)) (Le _)) (Ly hB hww.size) HSL.o (by omega));clear hww HER;go_wp2_with(go_at_call 55;refine HCO.o.mono ?_;rintro e WC ⟨C,cp,rfl,hz,hb⟩;have HZ:=Hd hz;have HBC:=Hd hb;clear hz hb);have HWC:Hid (∀W,Bw WC W->Bw W0 W):=λW hW=>(HW.o.tm HBC.o).trans (hW.mono (Ly HW.o.size HBC.o.size));have HFB:Hid (zbN bs=ziF bs (zcC bs bs 0 (zcP bs))):=by unfold Hid zbN;rw[Iq (by omega),HGD.o]
   have HS0:Hid (BuX WC C bs.length cp ⟨[⟨0,0,0⟩],[],[]⟩ WC.heap.size 1 none 0 none 0 ((WC.alloc (.cells #[.int .i64 0,.int .i64 0,.int .i64 0] 73)).alloc (.cells #[.slice C bs.length cp,.slice (some ⟨WC.heap.size,0,none⟩) 1 1,.slice none 0 0] 32))):=by
    have hb1:Bw WC (WC.alloc (.cells #[.int .i64 0,.int .i64 0,.int .i64 0] 73)):=nB _ _;refine⟨hb1.alloc (by simp) _,?_,?_,World.ownsRow_nil _ _ _ _,World.ownsRow_nil _ _ _ _,by omega,λg hg=>(by simp at hg),λg hg=>(by simp at hg)⟩
    ·have:=Hn (WC.alloc (.cells #[.int .i64 0,.int .i64 0,.int .i64 0] 73)) (.cells #[.slice C bs.length cp,.slice (some ⟨WC.heap.size,0,none⟩) 1 1,.slice none 0 0] 32);simpa using this
    ·exact World.ownsRow.alloc (World.ownsRow_lit WC #[.int .i64 0,.int .i64 0,.int .i64 0] 1 (Le _) (by unfold maxLen;omega) rfl) _
   obtain⟨iI,zI,hiI,hI0,hI1,hI2,hIs⟩:=gK;obtain⟨iP,zP,hiP,hP0,hP1,hP2,hPs⟩:=pE;have HII:=Hd hiI;have HZI:=Hd hI0;have HIP:=Hd hiP;have HZP:=Hd hP0;clear hiI hI0 hiP hP0 HCO HR0 HGD;go_loopw[9] (λj W=>∃(k:Nat) (M:OA) (cM:Nat),k<=bs.length/\j=.int .i64 (k:Int)/\BuX WC C bs.length cp ⟨[⟨0,0,0⟩],List.replicate k (-1),[]⟩ WC.heap.size 1 M cM none 0 W) (λj _=>bs.length-(intOf j).toNat)
   case atStart=>exact⟨0,none,0,by omega,rfl,HS0.o⟩
   case round=>
    obtain⟨k,M,cM,hk,rfl,hX⟩:=hrel;have HX:=Hd hX;clear hX HS0;by_cases hlt:k<bs.length
    ·have m2:wr.cell? ⟨WC.heap.size+1,2,none⟩=some (.slice M k cM):=by
      have:=Ro wr _ 2 _ _ _ HX.o.lib;simpa using this
     have hlb:=hlS HX.o.lib;have hom:wr.ownsRow WC.heap.size 3 1 (.slice M k cM) k (iL (List.replicate k (-1))):=by have:=HX.o.mt;simpa using this
     have HOM:=Hd hom;clear hom;have hwcs:=HX.o.bel.size;have HKL:Hid (∀(o:Obj) (w9:World),(wr.alloc o).grownBy w9 (Value.slice M k cM).ownBlock->w9.cell? ⟨WC.heap.size+1,2,none⟩=some (.slice M k cM)/\w9.frozen? ⟨WC.heap.size+1,2,none⟩=false):=λo w9 hg=>by
      have hne:(Value.slice M k cM).ownBlock≠some (WC.heap.size+1):=λe=>by rw[aU]at e;exact(HX.o.d2 _ e).1 rfl
      have hb:=(bF ((Bf wr.heap.size wr).alloc (Le _) o) hg _ hlb hne);exact⟨(aB hb).trans m2,by simp[World.frozen?,hb,HX.o.lib]⟩
     go_wp2_with(first|(at_builtin;refine wpList_append_lies _ rfl (.tmp 48) (.tmp 49) 22 rfl WC.heap.size 3 iI zI 1 8 underlying22 HII.o HZI.o hI1 hI2 hIs (by omega) (.slice M k cM) k (iL (List.replicate k (-1))) rfl (HOM.o.alloc _) ⟨wr.heap.size,0,none⟩ 1 1 [.int .i64 (-1)] rfl rfl (Nk (Hn wr _)) (by intro u hu;simp only[Mt]at hu;rw[hu];rfl) (by omega) (by unfold maxLen;omega) (by omega) (by simp;omega) _ rfl ?_;intro g9 c9 w9 ho9 hg9 hl9 hlt9;have HNX:=Hd (HX.o.addM rfl (x:= -1) ((Bf wr.heap.size wr).alloc (Le _) _) (by simpa using ho9) (by simpa using hg9) (by simpa using hl9));obtain⟨q9,f9⟩:=HKL.o _ w9 hg9;clear ho9 hg9 hl9 hlt9));refine⟨⟨k+1,some ⟨g9,0,none⟩,c9,by omega,by go_num,?_⟩,by simp only[intOf];omega⟩;have:=HNX.o;simpa[List.replicate_succ']using this
    ·have hke:k=bs.length:=by omega
     subst hke;have HS3:Hid (BuX WC C bs.length cp (zcP bs) WC.heap.size 1 M cM none 0 wr):=HX.o;have i3:decide ((bs.length:Int)<(bs.length:Int))=false:=Df (by omega);go_wp2_with fail;clear i3 HX;go_loopw[8,10] (λo i W=>∃(k:Nat) (s:Bu) (gP cP:Nat) (M:OA) (cM:Nat) (O:OA) (cO:Nat),k<=bs.length/\i=.int .i64 (k:Int)/\o=.slice O s.op.length cO/\BuX WC C bs.length cp s gP cP M cM O cO W/\BuOk bs.length k s/\zcC bs bs 0 (zcP bs)=zcC bs (bs.drop k) k s/\s.pr.length<=k+1/\s.op.length<=k/\∀p∈s.pr,I64 p.num) (λ_ i _=>bs.length-(intOf i).toNat)
     case atStart=>exact⟨0,zcP bs,_,_,M,cM,none,0,by omega,rfl,rfl,HS3.o,wJ bs,rfl,by simp[zcP],by simp[zcP],λp hp=>(by simp[zcP]at hp;subst hp;show I64 0;unfold I64;omega)⟩
     case round=>
      obtain⟨k,s,gP,cP,M,cM,O,cO,hk,rfl,rfl,hX,hok,her,hpl,hol,hnum⟩:=hrel;have HNUM:=Hd hnum;clear hnum;have HX:=Hd hX;have HOK:=Hd hok;have HER:=Hd her;clear hX hok her HS3;obtain⟨WO,hWO⟩:∃WO,WO=wr:=⟨_,rfl⟩;subst hWO;by_cases hlt:k<bs.length
      ·obtain⟨ab,off,rfl,hab,hkd⟩:=HIN.o.2.2 (by omega);obtain⟨b,hb⟩:∃b,bs[k]? =some b:=⟨_,Gg hlt⟩;obtain⟨A1,n1,c1,l0,l1,l2,x0,x1,x2,hbr,d0,d1,d2,d3,d4,d5,d6,d7,d8,d9,d10⟩:=(hkd k b hb).cells;obtain⟨lo,ln,lA,lk,lc,rfl,rfl,rfl⟩:=hbr.left.form;obtain⟨xo,xn,xA,xk,xc,rfl,rfl,rfl⟩:=hbr.x.form;have hab1:ab<w.heap.size:=by omega
       have HINP:Hid (∀W,Bw WC W->∀i,W.cell? ⟨ab,i,none⟩=w.cell? ⟨ab,i,none⟩):=λW hW i=>(HBW.o W (HWC.o W hW)).cel ab i hab1;have hq:=HINP.o WO HX.o.bel;have y0:=(hq _).trans d0;have y1:=(hq _).trans d1;have y2:=(hq _).trans d2;have y3:=(hq _).trans d3;have y4:=(hq _).trans d4;have y5:=(hq _).trans d5;have y6:=(hq _).trans d6;have y7:=(hq _).trans d7;have y8:=(hq _).trans d8;have y9:=(hq _).trans d9;have y10:=(hq _).trans d10;have hcase:zcC bs bs 0 (zcP bs)=if(zdH bs k b s).2.2≠0 then zdH bs k b s else zcC bs (bs.drop (k+1)) (k+1) (zdH bs k b s).1:=by rw[HER.o,cE hb];rfl
       have HCS:=Hd hcase;have HBK:=Hd hb;have HKD:=Hd hkd;have HFAIL:Hid ((zdH bs k b s).2.2≠0->zbN bs=(noL,(zdH bs k b s).2.1,(zdH bs k b s).2.2)):=λhe=>by rw[HFB.o,HCS.o,Ip he];unfold ziF;rw[Ip he]
       have i1:(0:Int)<=(k:Int):=by omega
       have i2:(k:Int)<(bs.length:Int):=by omega
       have hK1:=hbr.kind;have hK2:=hbr.label;have hK3:=hbr.n;clear hkd hb hbr d0 d1 d2 d3 d4 d5 d6 d7 d8 d9 d10 hq hcase HER;go_upto_if 64 with(fail)
       clear y0 y1 y2 y3 y4 y5 y6 y7 y8 y9 y10;obtain⟨W1,hW1⟩:∃W1,W1=WO.alloc (.cells #[.int .i64 b.kind,.int .i64 b.label,.bool b.skip,.slice A1 n1 c1,.int .i64 lo,.int .i64 ln,.slice lA lk lc,.int .i64 xo,.int .i64 xn,.slice xA xk xc,.int .i64 b.n] 54):=⟨_,rfl⟩;rw[<-hW1];have HB1:Hid (Bw WO W1):=by unfold Hid;rw[hW1];exact nB _ _
       have X1:Hid (W1.heap[WO.heap.size]? =some (.cells #[.int .i64 b.kind,.int .i64 b.label,.bool b.skip,.slice A1 n1 c1,.int .i64 lo,.int .i64 ln,.slice lA lk lc,.int .i64 xo,.int .i64 xn,.slice xA xk xc,.int .i64 b.n] 54 (0,0))):=by unfold Hid;rw[hW1];exact Hn _ _
       have HX1:=Hd (HX.o.below HB1.o);have hx1:=hlS X1.o;have HWOC:Hid (WC.heap.size+1<WO.heap.size):=hlS HX.o.lib;clear hW1;go_cut[]from 64 to 93 (λW=>∃(s1:Bu) (gP1 cP1:Nat),BuX WC C bs.length cp s1 gP1 cP1 M cM O cO W/\W.heap[WO.heap.size]? =some (.cells #[.int .i64 b.kind,.int .i64 b.label,.bool b.skip,.slice A1 n1 c1,.int .i64 lo,.int .i64 ln,.slice lA lk lc,.int .i64 xo,.int .i64 xn,.slice xA xk xc,.int .i64 b.n] 54 (0,0))/\zdD k b s=(s1,0,0)/\(b.kind=6->s.op=[])/\gP1≠WO.heap.size)
       case first=>
        by_cases h6:b.kind=6
        ·have h6':(b.kind==6)=true:=by simpa using h6
         have HK6:=Hd h6;clear h6;by_cases hop:s.op=[]
         ·have g8:decide ((0:Int)<(s.op.length:Int))=false:=Df (by rw[hop];simp);have g8':decide (0<s.op.length)=false:=Df (by rw[hop];simp);have g8'':¬(0<s.op.length):=by rw[hop];simp
          have HOPN:=Hd hop;have hpl0:s.pr.length<=2001:=by omega
          have HPR:Hid (RdP W1 W1.heap.size (some ⟨gP,0,none⟩) s.pr.length s.pr):=rY HX1.o.pr (λi p hp=>qhW hp) (by unfold maxLen;omega) λp hp=>by
           have q:=HOK.o.pr p hp;refine⟨HNUM.o p hp,?_,?_⟩<;>unfold I64<;>omega
          have p0:W1.cell? ⟨WC.heap.size+1,0,none⟩=some (.slice C bs.length cp):=Ro W1 _ 0 _ _ _ HX1.o.lib;have p1:W1.cell? ⟨WC.heap.size+1,1,none⟩=some (.slice (some ⟨gP,0,none⟩) s.pr.length cP):=Ro W1 _ 1 _ _ _ HX1.o.lib;have p2:W1.cell? ⟨WC.heap.size+1,2,none⟩=some (.slice M s.mt.length cM):=Ro W1 _ 2 _ _ _ HX1.o.lib;have p6:W1.cell? ⟨WO.heap.size,10,none⟩=some (.int .i64 b.n):=Ro W1 _ 10 _ _ _ X1.o;have HFD:Hid (∀W,W=W1->Calls prog 56 #[.agg #[.slice C bs.length cp,.slice (some ⟨gP,0,none⟩) s.pr.length cP,.slice M s.mt.length cM],.int .i64 b.n] W λe w'=>e=.returned (.tuple #[.int .i64 (zbM b.n s.pr 0).1,.bool (zbM b.n s.pr 0).2])/\Bw W w'):=λW hW=>by
           subst hW;exact wY _ _ _ _ _ _ _ _ HPR.o (Le _) rfl rfl
          clear hop;generalize hfd:zbM b.n s.pr 0=fd at HFD;obtain⟨fi,fk⟩:=fd;have HFD0:=Hd hfd;clear hfd;rcases fk with _|_
          ·have HE0:Hid (zdD k b s=({s with pr:=s.pr++[⟨b.n,k,0⟩]},0,0)):=by
            unfold Hid zdD;rw[Ip HK6.o,Iq (by rw[HOPN.o];simp),Iq (by rw[HFD0.o];simp)]
           go_wp2_with(first|(go_at_call 56;refine(HFD.o _ rfl).mono ?_;rintro e w2 ⟨rfl,hb2⟩;have HB2:=Hd hb2;clear hb2;have HX2:=Hd (HX1.o.below HB2.o);have X2:=Hd ((HB2.o.block _ hx1).trans X1.o);have r1:w2.cell? ⟨WC.heap.size+1,1,none⟩=some (.slice (some ⟨gP,0,none⟩) s.pr.length cP):=Ro w2 _ 1 _ _ _ HX2.o.lib;have r6:w2.cell? ⟨WO.heap.size,10,none⟩=some (.int .i64 b.n):=Ro w2 _ 10 _ _ _ X2.o;have HOP:=Hd HX2.o.pr;have HKL:Hid (∀(o:Obj) (w9:World),(w2.alloc o).grownBy w9 (some gP)->w9.cell? ⟨WC.heap.size+1,1,none⟩=some (.slice (some ⟨gP,0,none⟩) s.pr.length cP)/\w9.frozen? ⟨WC.heap.size+1,1,none⟩=false/\w9.heap[WO.heap.size]? =some (.cells #[.int .i64 b.kind,.int .i64 b.label,.bool b.skip,.slice A1 n1 c1,.int .i64 lo,.int .i64 ln,.slice lA lk lc,.int .i64 xo,.int .i64 xn,.slice xA xk xc,.int .i64 b.n] 54 (0,0))):=(λo w9 hg=>by{have hbl:=bF ((Bf w2.heap.size w2).alloc (Le _) o) hg _ (hlS HX2.o.lib) (λe=>HX2.o.d1 (by simpa using e));have hbb:=bF ((Bf w2.heap.size w2).alloc (Le _) o) hg _ (hlS X2.o) (λe=>by{have:=(fD HX.o.pr (g:=gP) rfl).2;simp at e;omega});exact⟨(aB hbl).trans r1,by simp[World.frozen?,hbl,HX2.o.lib],hbb.trans X2.o⟩}))|(at_builtin;refine wpList_append_lies _ rfl (.tmp 86) (.tmp 91) 30 rfl WC.heap.size 73 iP zP 3 24 underlying30 HIP.o HZP.o hP1 hP2 hPs (by omega) (.slice (some ⟨gP,0,none⟩) s.pr.length cP) s.pr.length (fP s.pr) rfl (HOP.o.alloc _) ⟨w2.heap.size,0,none⟩ 1 1 [.int .i64 b.n,.int .i64 (k:Int),.int .i64 0] rfl rfl (Nk (Hn w2 _)) (by intro u hu;simp only[List.mem_cons,List.not_mem_nil,or_false]at hu;rcases hu with rfl|rfl|rfl<;>rfl) (by omega) (by unfold maxLen;omega) (by omega) (by have:=HX2.o.bel.size;simp;omega) _ rfl ?_;intro g9 c9 w9 ho9 hg9 hl9 hlt9;have HNX:=Hd (HX2.o.addP (p:=⟨b.n,k,0⟩) ((Bf w2.heap.size w2).alloc (Le _) _) ho9 hg9 hl9);obtain⟨q9,f9,x9⟩:=HKL.o _ w9 hg9;have HX9:=Hd x9;have HNG:Hid (g9≠WO.heap.size):=(λe=>by{have q1:=(fD HX.o.pr (g:=gP) rfl).2;have q2:=HB2.o.size;rcases hl9 with e2|e2;(have e3:some gP=some g9:=e2;simp at e3;omega);((try simp at e2);omega)});clear ho9 hg9 hl9 hlt9 x9));go_meet;exact⟨_,g9,c9,HNX.o,(Bj _ _ _ _ (show WO.heap.size≠WC.heap.size+1 by have:=HWOC.o;omega)).trans HX9.o,HE0.o,λ_=>HOPN.o,HNG.o⟩
          ·have E:Hid (zbN bs=(noL,(k:Int),7)):=by
            have e:zdD k b s=(s,(k:Int),7):=by
             unfold zdD;rw[Ip HK6.o,Iq (by rw[HOPN.o];simp),Ip (by rw[HFD0.o])]
            have e2:zdH bs k b s=(s,(k:Int),7):=by unfold zdH;rw[e];rw[Ip (by simp)]
            have:=HFAIL.o (by rw[e2];simp);rw[e2]at this;exact this
           go_wp2_with(first|(go_at_call 56;refine(HFD.o _ rfl).mono ?_;rintro e w2 ⟨rfl,hb2⟩;have HB2:=Hd hb2;clear hb2;have HX2:=Hd (HX1.o.below HB2.o);obtain⟨n0,n1',n2,n3,n4,n5,nf,nb⟩:=HN0.o _ (HWC.o _ HX2.o.bel);have NB:=Hd nb;clear nb));exact bodyPost_ret (dE results35 _ _ w.heap.size _ _ _ _ rfl (cL NB.o) underlying32 (by kernel_rfl)) rfl (HNO.o w2 k 7 (HWC.o _ HX2.o.bel) E.o)
         ·have E:Hid (zbN bs=(noL,(zdE s:Int),11)):=by
           have e:zdD k b s=(s,(zdE s:Int),11):=by
            unfold zdD;rw[Ip HK6.o,Ip hop]
           have e2:zdH bs k b s=(s,(zdE s:Int),11):=by unfold zdH;rw[e];rw[Ip (by simp)]
           have:=HFAIL.o (by rw[e2];simp);rw[e2]at this;exact this
          obtain⟨N,hN⟩:∃N,s.op.length=N+1:=⟨s.op.length-1,by have:=List.length_pos_iff.2 hop;omega⟩;obtain⟨gO,hgO,hO1,hO2,hO3,hO4,_⟩:=dQ HX1.o.op (by omega);subst hgO;have hNn:N<=2000:=by omega
          have e9:W1.cell? ⟨gO,N,none⟩=some (.int .i64 (zdE s:Int)):=by
           rw[HX1.o.op.cellAt N (by omega)];refine xQ ?_;unfold opI zdE;rw[Gm,hN,Nat.add_sub_cancel,Gd];rw[Gg (by omega)];rfl
          obtain⟨n0,n1',n2,n3,n4,n5,nf,nb⟩:=HN0.o _ (HWC.o _ HX1.o.bel);have NB:=Hd nb;have hgR:gO≠w.heap.size:=by have q1:=hO1;have q2:=HBC.o.size;have q3:=HW.o.size;omega
          have s0:W1.drew.cell? ⟨w.heap.size+1,0,none⟩=some (.slice none 0 0)/\W1.drew.cell? ⟨w.heap.size+1,1,none⟩=some (.slice none 0 0)/\W1.drew.cell? ⟨w.heap.size+1,2,none⟩=some (.slice none 0 0)/\W1.drew.cell? ⟨gO,N,none⟩=some (.int .i64 (zdE s:Int)):=⟨n0,n1',n2,e9⟩;have S0:=Hd s0;have S1:Hid ((((W1.setCell ⟨w.heap.size,0,none⟩ (.slice none 0 0)).setCell ⟨w.heap.size,1,none⟩ (.slice none 0 0)).setCell ⟨w.heap.size,2,none⟩ (.slice none 0 0)).drew.cell? ⟨w.heap.size+1,0,none⟩=some (.slice none 0 0)/\(((W1.setCell ⟨w.heap.size,0,none⟩ (.slice none 0 0)).setCell ⟨w.heap.size,1,none⟩ (.slice none 0 0)).setCell ⟨w.heap.size,2,none⟩ (.slice none 0 0)).drew.cell? ⟨w.heap.size+1,1,none⟩=some (.slice none 0 0)/\(((W1.setCell ⟨w.heap.size,0,none⟩ (.slice none 0 0)).setCell ⟨w.heap.size,1,none⟩ (.slice none 0 0)).setCell ⟨w.heap.size,2,none⟩ (.slice none 0 0)).drew.cell? ⟨w.heap.size+1,2,none⟩=some (.slice none 0 0)/\(((W1.setCell ⟨w.heap.size,0,none⟩ (.slice none 0 0)).setCell ⟨w.heap.size,1,none⟩ (.slice none 0 0)).setCell ⟨w.heap.size,2,none⟩ (.slice none 0 0)).drew.cell? ⟨gO,N,none⟩=some (.int .i64 (zdE s:Int))):=⟨(aB (aL W1 w.heap.size 0 (w.heap.size+1) _ _ _ (by omega))).trans n0,(aB (aL W1 w.heap.size 0 (w.heap.size+1) _ _ _ (by omega))).trans n1',(aB (aL W1 w.heap.size 0 (w.heap.size+1) _ _ _ (by omega))).trans n2,(aB (aL W1 w.heap.size 0 gO _ _ _ hgR)).trans e9⟩;have w1:IntKind.i64.wrap ((N:Int)+1-1)=(N:Int):=by rw[show(N:Int)+1-1=N by omega];exact IntWalk.i64_in _ (by omega)
          have w2':IntKind.i64.wrap (N:Int)=(N:Int):=IntWalk.i64_in _ (by omega);have hlt1:(N:Int)<(N:Int)+1:=by omega
          have h0N:(0:Int)<=(N:Int):=by omega
          rw[hN];clear nb s0 e9 hO1 hO3 hO4 hN;have hc8:decide ((N:Int)+1>0)=true:=Dt (by omega);go_upto_region 21 with(fail)
          go_region_held3(λw'=>w'.cell? ⟨w.heap.size+1,0,none⟩=some (.slice none 0 0)/\w'.cell? ⟨w.heap.size+1,1,none⟩=some (.slice none 0 0)/\w'.cell? ⟨w.heap.size+1,2,none⟩=some (.slice none 0 0)/\w'.cell? ⟨gO,N,none⟩=some (.int .i64 (zdE s:Int))) (first|with_reducible exact S0.o|with_reducible exact S1.o|fail) (fail);go_wp2_with fail;exact bodyPost_ret (dE results35 _ _ w.heap.size _ _ _ _ rfl (cL NB.o) underlying32 (by kernel_rfl)) rfl (HNO.o W1.drew (zdE s:Int) 11 (aA (HWC.o _ HX1.o.bel) 1) E.o)
        ·have E0:zdD k b s=(s,0,0):=by unfold zdD;rw[Iq h6]
         have h6':(b.kind==6)=false:=by simpa using h6
         have HE0:=Hd E0;have HN6:=Hd h6;clear E0 h6;go_wp2_with fail;go_meet;exact⟨s,gP,cP,HX1.o,X1.o,HE0.o,λe=>absurd e HN6.o,λe=>by have:=(fD HX.o.pr (g:=gP) rfl).2;omega⟩
       case rest=>
        obtain⟨s1,gP1,cP1,hX1,hB11,hop1,hk6,hPW⟩:=hcut;have HXa:=Hd hX1;have HBa:=Hd hB11;have HOPA:=Hd hop1;have HK6:=Hd hk6;have hok1:BuOk bs.length k s1:=by have:=qcB (b:=b) HOK.o hlt;rw[hop1]at this;exact this
        have HOKA:=Hd hok1;have hpl1:s1.pr.length<=k+2:=by
         have:s1=(zdD k b s).1:=by rw[hop1]
         rw[this];unfold zdD;split
         ·split
          ·dsimp only;omega
          ·split
           ·dsimp only;omega
           ·simp;omega
         ·dsimp only;omega
        have hne1:=hok1.ne;obtain⟨NP,hNP⟩:∃NP,s1.pr.length=NP+1:=⟨s1.pr.length-1,by have:=List.length_pos_iff.2 hne1;omega⟩;have p1:wc.cell? ⟨WC.heap.size+1,1,none⟩=some (.slice (some ⟨gP1,0,none⟩) (NP+1) cP1):=by rw[<-hNP];exact Ro wc _ 1 _ _ _ hX1.lib
        have hlast:s1.pr[NP]? =some (zeV s1):=by unfold zeV;rw[hNP,Nat.add_sub_cancel,Gd,Gg (by omega)];rfl
        have f1:wc.cell? ⟨gP1,NP*3+1,none⟩=some (.int .i64 (zeV s1).first):=(hX1.pr.cellAt _ (by omega)).trans (qhW hlast).2.1;have f2:wc.cell? ⟨gP1,NP*3+2,none⟩=some (.int .i64 (zeV s1).stop):=(hX1.pr.cellAt _ (by omega)).trans (qhW hlast).2.2;have hgPl:=(fD hX1.pr (g:=gP1) rfl).2;have ff:∀i,wc.frozen? ⟨gP1,i,none⟩=false:=by
         obtain⟨g,e,_,_,_,_,cur,hcu⟩:=dQ hX1.pr (by omega);cases e;exact λi=>by simp[World.frozen?,hcu]
        have b0:wc.cell? ⟨WO.heap.size,0,none⟩=some (.int .i64 b.kind):=Ro wc _ 0 _ _ _ hB11;have b1:wc.cell? ⟨WO.heap.size,1,none⟩=some (.int .i64 b.label):=Ro wc _ 1 _ _ _ hB11;have b10:wc.cell? ⟨WO.heap.size,10,none⟩=some (.int .i64 b.n):=Ro wc _ 10 _ _ _ hB11;have hbl:=hlS hB11;have hF0:0<=(zeV s1).first:=(hok1.pr _ (Mg hlast)).1;have hFk:=hok1.lastF;obtain⟨F,hF⟩:∃F:Nat,(zeV s1).first=(F:Int):=⟨(zeV s1).first.toNat,by omega⟩;have HF:=Hd hF;rw[hF]at f1 hFk;have HLAST:=Hd hlast;have w1:IntKind.i64.wrap (NP:Int)=(NP:Int):=IntWalk.i64_in _ (by omega);have w2:IntKind.i64.wrap ((NP:Int)+1-1)=(NP:Int):=by rw[show(NP:Int)+1-1=NP by omega];exact w1
        have hN0:(0:Int)<=(NP:Int):=by omega
        have hN1:(NP:Int)<(NP:Int)+1:=by omega
        clear hX1 hB11 hop1 hk6 hok1 hF0 hF hlast hne1;have hso:s1.op=s.op/\s1.mt=s.mt:=by
         have:s1=(zdD k b s).1:=by rw[HOPA.o]
         rw[this];unfold zdD;split
         ·split
          ·exact⟨rfl,rfl⟩
          ·split
           ·exact⟨rfl,rfl⟩
           ·exact⟨rfl,rfl⟩
         ·exact⟨rfl,rfl⟩
        have HSO:=Hd hso;have hnum1:∀p∈s1.pr,I64 p.num:=by
         have:s1=(zdD k b s).1:=by rw[HOPA.o]
         rw[this];unfold zdD;split
         ·split
          ·exact HNUM.o
          ·split
           ·exact HNUM.o
           ·intro p hp;rcases Ma.1 hp with q|q
            ·exact HNUM.o p q
            ·rw[Mt.1 q];exact hK3
         ·exact HNUM.o
        have HNUM1:=Hd hnum1;clear hnum1 hso;go_upto_if 100 with(fail)
        obtain⟨WB,hWB⟩:∃X,X=wc:=⟨_,rfl⟩;subst hWB;go_cut[]from 100 to 121 (λW=>zjC bs k b s1=false/\Bw WB W)
        case first=>
         by_cases hl:0<b.label
         ·have hdup:zjC bs k b s1=(zbB ⟨bs,[],[]⟩ b.label (k-F) F).2:=by unfold zjC;rw[HF.o,It];simp[hl]
          have HDUP:=Hd hdup;have hFk2:F<=k:=by omega
          clear hdup;go_wp2_with fail;go_loopw[15] (λi W=>∃j:Nat,F<=j/\j<=k/\i=.int .i64 (j:Int)/\Bw WB W/\zbB ⟨bs,[],[]⟩ b.label (k-F) F=zbB ⟨bs,[],[]⟩ b.label (k-j) j) (λi _=>k-(intOf i).toNat)
          case atStart=>exact⟨F,by omega,hFk2,rfl,Bf _ _,rfl⟩
          case round=>
           obtain⟨j,hj1,hj2,rfl,hbj,hlj⟩:=hrel;have HBJ:=Hd hbj;have HLJ:=Hd hlj;clear hbj hlj;by_cases hjk:j<k
           ·obtain⟨bj,hbj⟩:∃x,bs[j]? =some x:=⟨_,Gg (by omega)⟩;obtain⟨_,_,_,_,_,_,_,_,_,-,-,e1,-⟩:=(HKD.o j bj hbj).cells;have q1:=(HINP.o _ (HXa.o.bel.tm HBJ.o) (off+j*11+1)).trans e1;have b1':=HBJ.o.ct hbl b1;have hcs:zbB ⟨bs,[],[]⟩ b.label (k-F) F=if bj.label=b.label then((j:Int),true)else zbB ⟨bs,[],[]⟩ b.label (k-(j+1)) (j+1):=by
             rw[HLJ.o,show k-j=(k-(j+1))+1 by omega,zbB];have:(⟨bs,[],[]⟩:Lb).blk j=bj:=by unfold Lb.blk;rw[Gd,hbj];rfl
             rw[this]
            have HCJ:=Hd hcs;have j1:(0:Int)<=(j:Int):=by omega
            have j2:(j:Int)<(bs.length:Int):=by omega
            clear hcs e1 hbj;by_cases hq:bj.label=b.label
            ·have hq':(bj.label==b.label)=true:=by simpa using hq
             have E:Hid (zbN bs=(noL,(k:Int),7)):=by
              have e2:zdH bs k b s=(s1,(k:Int),7):=by
               unfold zdH;rw[HOPA.o];dsimp only;rw[Iq (by simp),Ip (by rw[HDUP.o,HCJ.o,Ip hq])]
              have:=HFAIL.o (by rw[e2];simp);rw[e2]at this;exact this
             obtain⟨n0,n1',n2,n3,n4,n5,nf,nb⟩:=HN0.o _ (HWC.o _ (HXa.o.bel.tm HBJ.o));have NB:=Hd nb;clear hq nb;go_wp2_with fail;go_quiet(fail);go_wp2_with fail;exact bodyPost_ret (dE results35 _ _ w.heap.size _ _ _ _ rfl (cL NB.o) underlying32 (by kernel_rfl)) rfl (HNO.o (wr.drewN nq) k 7 (aA (HWC.o _ (HXa.o.bel.tm HBJ.o)) nq) E.o)
            ·have hq':(bj.label==b.label)=false:=by simpa using hq
             have E1:Hid (zbB ⟨bs,[],[]⟩ b.label (k-F) F=zbB ⟨bs,[],[]⟩ b.label (k-(j+1)) (j+1)):=by unfold Hid;rw[HCJ.o,Iq hq]
             clear hq;go_wp2_with fail;go_quiet(fail);go_wp2_with fail;exact⟨⟨j+1,by omega,by omega,by go_num,aA HBJ.o nq,E1.o⟩,by simp only[intOf];omega⟩
           ·have hje:j=k:=by omega
            have E1:Hid (zjC bs k b s1=false):=by unfold Hid;rw[HDUP.o,HLJ.o,show k-j=0 by omega];rfl
            have j3:¬((j:Int)<(k:Int)):=by omega
            clear hjk;go_wp2_with fail;go_meet;exact⟨E1.o,HBJ.o⟩
         ·have E1:Hid (zjC bs k b s1=false):=by unfold Hid zjC;simp[hl]
          have g1:b.label<=0:=by omega
          have g2:decide (b.label>0)=false:=Df hl;go_wp2_with fail;go_meet;exact⟨E1.o,Bf _ _⟩
        case rest=>
         obtain⟨hdu,hbw⟩:=hcut;have HDU:=Hd hdu;have HXb:=Hd (HXa.o.below hbw);have HBb:=Hd ((hbw.block _ hbl).trans HBa.o);have p1':=(hbw.cel (WC.heap.size+1) 1 (hlS HXa.o.lib)).trans p1;have f2':=hbw.ct hgPl f2;have ff':wc.frozen? ⟨gP1,NP*3+2,none⟩=false:=(cekF gP1 (NP*3+2) (hbw.block gP1 hgPl)).trans (ff _);have hX2:BuX WC C bs.length cp {s1 with pr:=zcS s1.pr ((k:Int)+1)} gP1 cP1 M cM O cO (wc.setCell ⟨gP1,NP*3+2,none⟩ (.int .i64 ((k:Int)+1))):=by
          have:=HXb.o.stop HOKA.o.ne ((k:Int)+1);rw[hNP,Nat.add_sub_cancel]at this;exact this
         have HX2:=Hd hX2;have b0':(wc.setCell ⟨gP1,NP*3+2,none⟩ (.int .i64 ((k:Int)+1))).cell? ⟨WO.heap.size,0,none⟩=some (.int .i64 b.kind):=(aB (Bj _ _ _ _ (λe=>hPW e.symm))).trans (Ro wc _ 0 _ _ _ HBb.o);have b10':(wc.setCell ⟨gP1,NP*3+2,none⟩ (.int .i64 ((k:Int)+1))).cell? ⟨WO.heap.size,10,none⟩=some (.int .i64 b.n):=(aB (Bj _ _ _ _ (λe=>hPW e.symm))).trans (Ro wc _ 10 _ _ _ HBb.o);have HNXT:Hid (∀s3,zeF bs k b {s1 with pr:=zcS s1.pr ((k:Int)+1)}=(s3,0,0)->BuOk bs.length (k+1) s3/\zcC bs bs 0 (zcP bs)=zcC bs (bs.drop (k+1)) (k+1) s3):=by
          intro s3 h3;have e2:zdH bs k b s=(s3,0,0):=by
           unfold zdH;rw[HOPA.o];dsimp only;rw[Iq (by simp),Iq (by rw[HDU.o];simp),h3]
          have hk3:=qbF (bs:=bs) (b:=b) HOK.o hlt (by rw[e2]);rw[e2]at hk3;refine⟨hk3,?_⟩;rw[HCS.o,e2];exact Iq (by simp)
         have HFL2:Hid (∀x:Int,∀y:Int,∀s3,y≠0->zeF bs k b {s1 with pr:=zcS s1.pr ((k:Int)+1)}=(s3,x,y)->zbN bs=(noL,x,y)):=by
          intro x y s3 hy h3;have e2:zdH bs k b s=(s3,x,y):=by
           unfold zdH;rw[HOPA.o];dsimp only;rw[Iq (by simp),Iq (by rw[HDU.o];simp),h3]
          have:=HFAIL.o (by rw[e2];exact hy);rw[e2]at this;exact this
         have HNM2:Hid (∀p∈zcS s1.pr ((k:Int)+1),I64 p.num):=by
          intro p hp;obtain⟨q,hq,e1,_⟩:=qcI hp;rw[e1];exact HNUM1.o q hq
         have hsl:(zcS s1.pr ((k:Int)+1)).length=NP+1:=by rw[oK];exact hNP
         have wk:IntKind.i64.wrap ((k:Int)+1)=(k:Int)+1:=IntWalk.i64_in _ (by omega);clear hbw hX2 hdu;by_cases h4:b.kind=4
         ·have h4':(b.kind==4)=true:=by simpa using h4
          have HK4:=Hd h4;rw[<-HSO.o.1];clear h4;go_wp2_with fail;obtain⟨W2,hW2⟩:∃W2,W2=wc.setCell ⟨gP1,NP*3+2,none⟩ (.int .i64 ((k:Int)+1)):=⟨_,rfl⟩;rw[<-hW2];rw[<-hW2]at b0' b10';have HY2:Hid (BuX WC C bs.length cp {s1 with pr:=zcS s1.pr ((k:Int)+1)} gP1 cP1 M cM O cO W2):=by unfold Hid;rw[hW2];exact HX2.o
          have HOPW:Hid (W2.ownsRow WC.heap.size 3 1 (.slice O s1.op.length cO) s1.op.length (iL (opI s1))):=HY2.o.op;have hbl2:WO.heap.size<W2.heap.size:=by rw[hW2];simp[World.setCell];exact hlS HBb.o
          have hol1:s1.op.length<=k:=by rw[HSO.o.1];exact hol
          have HOPLT:Hid (∀x∈s1.op,x<k):=by unfold Hid;rw[HSO.o.1];exact HOK.o.op
          clear hW2 HX2;go_loopw[16] (λi W=>∃j:Nat,j<=s1.op.length/\i=.int .i64 (j:Int)/\Bw W2 W/\(s1.op.any λq=>(bs.getD q zdY).n==b.n)=((s1.op.drop j).any λq=>(bs.getD q zdY).n==b.n)) (λi _=>s1.op.length-(intOf i).toNat)
          case atStart=>exact⟨0,by omega,rfl,Bf _ _,rfl⟩
          case round=>
           obtain⟨j,hj,rfl,hbj,haj⟩:=hrel;have HBJ:=Hd hbj;have HAJ:=Hd haj;clear hbj haj;by_cases hjl:j<s1.op.length
           ·obtain⟨gO,hgO,hO1,hO2,-,-,-⟩:=dQ HOPW.o (by omega);subst hgO;obtain⟨q,hq⟩:∃q,s1.op[j]? =some q:=⟨_,Gg hjl⟩;have hqk:=HOPLT.o q (Mg hq);obtain⟨bq,hbq⟩:∃x,bs[q]? =some x:=⟨_,Gg (by omega)⟩;obtain⟨_,_,_,_,_,_,_,_,_,-,-,-,-,-,-,-,-,-,-,-,e10⟩:=(HKD.o q bq hbq).cells;have q1:=(HINP.o _ (HY2.o.bel.tm HBJ.o) (off+q*11+10)).trans e10;have q2:=HBJ.o.ct hbl2 b10';have q3:wr.cell? ⟨gO,j,none⟩=some (.int .i64 (q:Int)):=by
             refine(HBJ.o.cel gO j hO2).trans ?_;rw[HOPW.o.cellAt j (by omega)];refine xQ ?_;unfold opI;rw[Gm,hq];rfl
            have hgd:(bs.getD q zdY)=bq:=by rw[Gd,hbq];rfl
            have hcs:(s1.op.any λq=>(bs.getD q zdY).n==b.n)=(bq.n==b.n||((s1.op.drop (j+1)).any λq=>(bs.getD q zdY).n==b.n)):=by
             rw[HAJ.o,cE hq,List.any_cons,hgd]
            have HCJ:=Hd hcs;have j1:(0:Int)<=(j:Int):=by omega
            have j2:(j:Int)<(s1.op.length:Int):=by omega
            have j3:(0:Int)<=(q:Int):=by omega
            have j4:(q:Int)<(bs.length:Int):=by omega
            clear hcs e10 hbq hq hgd;rcases hnn:(bq.n==b.n)with _|_
            ·have E1:Hid ((s1.op.any λq=>(bs.getD q zdY).n==b.n)=((s1.op.drop (j+1)).any λq=>(bs.getD q zdY).n==b.n)):=by unfold Hid;rw[HCJ.o,hnn,Bool.false_or]
             go_wp2_with fail;go_quiet(fail);go_wp2_with fail;exact⟨⟨j+1,by omega,by go_num,aA HBJ.o nq,E1.o⟩,by simp only[intOf];omega⟩
            ·have E:Hid (zbN bs=(noL,(k:Int),11)):=HFL2.o k 11 {s1 with pr:=zcS s1.pr ((k:Int)+1)} (by omega) (by
              unfold zeF
              rw[Ip HK4.o]
              exact Ip (by rw[HCJ.o,hnn,Bool.true_or]))
             obtain⟨n0,n1',n2,n3,n4,n5,nf,nb⟩:=HN0.o _ (HWC.o _ (HY2.o.bel.tm HBJ.o));have NB:=Hd nb;clear nb;go_wp2_with fail;go_quiet(fail);go_wp2_with fail;exact bodyPost_ret (dE results35 _ _ w.heap.size _ _ _ _ rfl (cL NB.o) underlying32 (by kernel_rfl)) rfl (HNO.o (wr.drewN nq) k 11 (aA (HWC.o _ (HY2.o.bel.tm HBJ.o)) nq) E.o)
           ·have hje:j=s1.op.length:=by omega
            subst hje;have HNO4:Hid ((s1.op.any λq=>(bs.getD q zdY).n==b.n)=false):=by unfold Hid;rw[HAJ.o,Dl];rfl
            have HCL:=Hd (HNXT.o {s1 with pr:=zcS s1.pr ((k:Int)+1),op:=s1.op++[k]} (by
             unfold zeF
             rw[Ip HK4.o]
             exact Iq (by rw[HNO4.o];simp)))
            have HYr:=Hd (HY2.o.below HBJ.o);have HOPR:Hid (wr.ownsRow WC.heap.size 3 1 (.slice O s1.op.length cO) s1.op.length (iL (opI s1))):=HYr.o.op;have hwcs:=HYr.o.bel.size;go_wp2_with(at_builtin;refine wpList_append_lies _ rfl (.tmp 152) (.tmp 154) 22 rfl WC.heap.size 3 iI zI 1 8 underlying22 HII.o HZI.o hI1 hI2 hIs (by omega) (.slice O s1.op.length cO) s1.op.length (iL (opI s1)) rfl (HOPR.o.alloc _) ⟨wr.heap.size,0,none⟩ 1 1 [.int .i64 (k:Int)] rfl rfl (Nk (Hn wr _)) (by intro u hu;simp only[Mt]at hu;rw[hu];rfl) (by omega) (by unfold maxLen;omega) (by omega) (by simp;omega) _ rfl ?_;intro g9 c9 w9 ho9 hg9 hl9 hlt9;have HNX:=Hd (HYr.o.pushO (x:=k) ((Bf wr.heap.size wr).alloc (Le _) _) (by first|exact ho9|simpa using ho9) (by first|exact hg9|simpa using hg9) (by first|exact hl9|simpa using hl9));clear ho9 hg9 hl9 hlt9);exact⟨⟨k+1,{s1 with pr:=zcS s1.pr ((k:Int)+1),op:=s1.op++[k]},gP1,cP1,M,cM,some ⟨g9,0,none⟩,c9,by omega,by go_num,by simp,HNX.o,HCL.o.1,HCL.o.2,by show(zcS s1.pr ((k:Int)+1)).length<=k+1+1;omega,by simp;omega,HNM2.o⟩,by simp only[intOf];omega⟩
         by_cases h5:b.kind=5
         ·have h4':(b.kind==4)=false:=by simpa using h4
          have h5':(b.kind==5)=true:=by simpa using h5
          have HK4:=Hd h4;have HK5:=Hd h5;rw[<-HSO.o.1];clear h4 h5;go_upto_region 43 with(fail)
          obtain⟨W2,hW2⟩:∃W2,W2=wc.setCell ⟨gP1,NP*3+2,none⟩ (.int .i64 ((k:Int)+1)):=⟨_,rfl⟩;rw[<-hW2];rw[<-hW2]at b0' b10';have HY2:Hid (BuX WC C bs.length cp {s1 with pr:=zcS s1.pr ((k:Int)+1)} gP1 cP1 M cM O cO W2):=by unfold Hid;rw[hW2];exact HX2.o
          have HOPW:Hid (W2.ownsRow WC.heap.size 3 1 (.slice O s1.op.length cO) s1.op.length (iL (opI s1))):=HY2.o.op;have hbl2:WO.heap.size<W2.heap.size:=by rw[hW2];simp[World.setCell];exact hlS HBb.o
          have hol1:s1.op.length<=k:=by rw[HSO.o.1];exact hol
          have HOPLT:Hid (∀x∈s1.op,x<k):=by unfold Hid;rw[HSO.o.1];exact HOK.o.op
          clear hW2 HX2;by_cases hop:s1.op=[]
          ·have E:Hid (zbN bs=(noL,(k:Int),11)):=HFL2.o k 11 {s1 with pr:=zcS s1.pr ((k:Int)+1)} (by omega) (by
            unfold zeF
            rw[Iq HK4.o,Ip HK5.o]
            exact Ip (.inl hop))
           have hl0:((s1.op.length:Int)==0)=true:=by rw[hop];rfl
           have hl0':(s1.op.length==0)=true:=by rw[hop];rfl
           obtain⟨n0,n1',n2,n3,n4,n5,nf,nb⟩:=HN0.o _ (HWC.o _ HY2.o.bel);have NB:=Hd nb;clear nb hop;go_quiet(fail);go_wp2_with fail;exact bodyPost_ret (dE results35 _ _ w.heap.size _ _ _ _ rfl (cL NB.o) underlying32 (by kernel_rfl)) rfl (HNO.o (W2.drewN nq) k 11 (aA (HWC.o _ HY2.o.bel) nq) E.o)
          ·obtain⟨N,hN⟩:∃N,s1.op.length=N+1:=⟨s1.op.length-1,by have:=List.length_pos_iff.2 hop;omega⟩;obtain⟨gO,hgO,hO1,hO2,hO3,hO4,-⟩:=dQ HOPW.o (by omega);subst hgO;obtain⟨q,hqd⟩:∃q,q=zdE s1:=⟨_,rfl⟩;have hq:s1.op[N]? =some q:=by rw[hqd];unfold zdE;rw[hN,Nat.add_sub_cancel,Gd,Gg (by omega)];rfl
           have hqk:=HOPLT.o q (Mg hq);obtain⟨bq,hbq⟩:∃x,bs[q]? =some x:=⟨_,Gg (by omega)⟩;obtain⟨_,_,_,_,_,_,_,_,_,-,-,-,-,-,-,-,-,-,-,-,e10⟩:=(HKD.o q bq hbq).cells;have q1:=(HINP.o _ HY2.o.bel (off+q*11+10)).trans e10;have q3:W2.cell? ⟨gO,N,none⟩=some (.int .i64 (q:Int)):=by
            rw[HOPW.o.cellAt N (by omega)];refine xQ ?_;unfold opI;rw[Gm,hq];rfl
           have hgd:(bs.getD (zdE s1) zdY)=bq:=by rw[<-hqd,Gd,hbq];rfl
           have HGD:=Hd hgd;have HQD:=Hd hqd;have HOPNE:=Hd hop;have HNL:=Hd hN;have hl0:(((N:Int)+1)==0)=false:=by simp;omega
           have j1:(0:Int)<=(N:Int):=by omega
           have j2:(N:Int)<(N:Int)+1:=by omega
           have j3:(0:Int)<=(q:Int):=by omega
           have j4:(q:Int)<(bs.length:Int):=by omega
           have hNn:N<=2000:=by omega
           have hNc:N<=cO:=by omega
           have u1:IntKind.i64.wrap ((N:Int)+1-1)=(N:Int):=by rw[show(N:Int)+1-1=N by omega];exact IntWalk.i64_in _ (by omega)
           have u2:IntKind.i64.wrap (N:Int)=(N:Int):=IntWalk.i64_in _ (by omega);rw[hN];clear e10 hbq hq hgd hqd hop hN;rcases hnn:(bq.n==b.n)with _|_
           ·have hnn':(bq.n !=b.n)=true:=by simp[bne,hnn]
            have E:Hid (zbN bs=(noL,(k:Int),11)):=HFL2.o k 11 {s1 with pr:=zcS s1.pr ((k:Int)+1)} (by omega) (by
             unfold zeF
             rw[Iq HK4.o,Ip HK5.o]
             refine Ip (.inr ?_)
             show(bs.getD (zdE s1) zdY).n≠b.n
             rw[HGD.o]
             simpa using hnn)
            obtain⟨n0,n1',n2,n3,n4,n5,nf,nb⟩:=HN0.o _ (HWC.o _ HY2.o.bel);have NB:=Hd nb;clear nb;go_quiet(fail);go_wp2_with fail;exact bodyPost_ret (dE results35 _ _ w.heap.size _ _ _ _ rfl (cL NB.o) underlying32 (by kernel_rfl)) rfl (HNO.o (W2.drewN nq) k 11 (aA (HWC.o _ HY2.o.bel) nq) E.o)
           ·have hnn':(bq.n !=b.n)=false:=by simp[bne,hnn]
            have hml2:s1.mt.length=bs.length:=by rw[HSO.o.2];exact HOK.o.mt.1
            obtain⟨gM,hgM,hM1,hM2,hM3,hM4,cur,hcur⟩:=dQ HY2.o.mt (by show 0<s1.mt.length;omega);subst hgM;have hd2:=HY2.o.d2 gM rfl;have hMl:gM≠WC.heap.size+1:=hd2.1;have hMf:∀i,W2.frozen? ⟨gM,i,none⟩=false:=λi=>by simp[World.frozen?,hcur]
            have hMc:∀i x,s1.mt[i]? =some x->W2.cell? ⟨gM,i,none⟩=some (.int .i64 x):=λi x hx=>by
             have hil:=(Gu.1 hx).1;exact(HY2.o.mt.cellAt i (by show i<s1.mt.length*1;omega)).trans (xQ hx)
            obtain⟨x1,hx1⟩:∃x,s1.mt[q]? =some x:=⟨_,Gg (by omega)⟩;obtain⟨x2,hx2⟩:∃x,s1.mt[k]? =some x:=⟨_,Gg (by omega)⟩;have m1:=hMc q x1 hx1;have m2:=hMc k x2 hx2;have m0:W2.cell? ⟨WC.heap.size+1,2,none⟩=some (.slice (some ⟨gM,0,none⟩) s1.mt.length cM):=Ro W2 _ 2 _ _ _ HY2.o.lib;have j5:(q:Int)<(s1.mt.length:Int):=by omega
            have j6:(k:Int)<(s1.mt.length:Int):=by omega
            have HCL:=Hd (HNXT.o {s1 with pr:=zcS s1.pr ((k:Int)+1),mt:=(s1.mt.set (zdE s1) (k:Int)).set k (zdE s1:Int),op:=s1.op.dropLast} (by
             unfold zeF
             rw[Iq HK4.o,Ip HK5.o]
             refine Iq ?_
             rintro(e|e)
             ·exact HOPNE.o e
             ·refine e ?_
              show(bs.getD (zdE s1) zdY).n=b.n
              rw[HGD.o]
              simpa using hnn))
            have HX4:Hid (∀n:Nat,BuX WC C bs.length cp {s1 with pr:=zcS s1.pr ((k:Int)+1),mt:=(s1.mt.set q (k:Int)).set k (q:Int),op:=s1.op.dropLast} gP1 cP1 (some ⟨gM,0,none⟩) cM (some ⟨gO,0,none⟩) cO (((W2.drewN n).setCell ⟨gM,q,none⟩ (.int .i64 (k:Int))).setCell ⟨gM,k,none⟩ (.int .i64 (q:Int)))):=λn=>((HY2.o.below (aA (Bf _ _) n)).pair q k).popO HOPNE.o;clear hcur hMc hx1 hx2 hd2;go_quiet(fail);go_upto_region 46 with(fail)
            have S00:Hid ((W2.drewN nq).drew.cell? ⟨WC.heap.size+1,2,none⟩=some (.slice (some ⟨gM,0,none⟩) s1.mt.length cM)):=m0;have S0:Hid ((W2.drewN (nq+1)).cell? ⟨WC.heap.size+1,2,none⟩=some (.slice (some ⟨gM,0,none⟩) s1.mt.length cM)):=m0;have S1:Hid (((W2.drewN (nq+1)).setCell ⟨gM,q,none⟩ (.int .i64 (k:Int))).cell? ⟨WC.heap.size+1,2,none⟩=some (.slice (some ⟨gM,0,none⟩) s1.mt.length cM)):=(aB (Bj _ _ _ _ (λe=>hMl e.symm))).trans m0;have S2:Hid ((((W2.drewN (nq+1)).setCell ⟨gM,q,none⟩ (.int .i64 (k:Int))).setCell ⟨gM,k,none⟩ (.int .i64 (q:Int))).cell? ⟨WC.heap.size+1,2,none⟩=some (.slice (some ⟨gM,0,none⟩) s1.mt.length cM)):=(aB (Bj _ _ _ _ (λe=>hMl e.symm))).trans ((aB (Bj _ _ _ _ (λe=>hMl e.symm))).trans m0);have hqk2:q≠k:=by omega
            go_region_held3(λw'=>w'.cell? ⟨WC.heap.size+1,2,none⟩=some (.slice (some ⟨gM,0,none⟩) s1.mt.length cM)) (first|with_reducible exact S00.o|with_reducible exact S0.o|with_reducible exact S1.o|with_reducible exact S2.o|fail) (fail);go_wp2_with fail;have HCLo:=HCL.o;rw[<-HQD.o]at HCLo;exact⟨⟨k+1,{s1 with pr:=zcS s1.pr ((k:Int)+1),mt:=(s1.mt.set q (k:Int)).set k (q:Int),op:=s1.op.dropLast},gP1,cP1,some ⟨gM,0,none⟩,cM,some ⟨gO,0,none⟩,cO,by omega,by go_num,by show _=Value.slice _ s1.op.dropLast.length cO;rw[Ld,HNL.o];rfl,HX4.o _,HCLo.1,HCLo.2,by show(zcS s1.pr ((k:Int)+1)).length<=k+1+1;omega,by show s1.op.dropLast.length<=k+1;rw[Ld];omega,HNM2.o⟩,by simp only[intOf];omega⟩
         have HCL:=Hd (HNXT.o {s1 with pr:=zcS s1.pr ((k:Int)+1)} (by unfold zeF;rw[Iq h4,Iq h5]));have h4':(b.kind==4)=false:=by simpa using h4
         have h5':(b.kind==5)=false:=by simpa using h5
         clear h4 h5;go_wp2_with fail;exact⟨⟨k+1,{s1 with pr:=zcS s1.pr ((k:Int)+1)},gP1,cP1,M,cM,O,cO,by omega,by go_num,by show _=Value.slice O s1.op.length cO;rw[HSO.o.1],HX2.o,HCL.o.1,HCL.o.2,by show(zcS s1.pr ((k:Int)+1)).length<=k+1+1;omega,by show s1.op.length<=k+1;rw[HSO.o.1];omega,HNM2.o⟩,by simp only[intOf];omega⟩
      ·have hke:k=bs.length:=by omega
       subst hke;have HFI:Hid (zbN bs=ziF bs (s,(bs.length:Int),0)):=by unfold Hid;rw[HFB.o,HER.o,Dl];rfl
       by_cases hop:s.op=[]
       ·have E:Hid (zbN bs=(⟨bs,s.pr,s.mt⟩,(bs.length:Int),0)):=by
         unfold Hid;rw[HFI.o];unfold ziF;rw[Iq (by simp),Iq (by rw[hop];simp)]
        have g8:decide ((0:Int)<(s.op.length:Int))=false:=Df (by rw[hop];simp);have g8':decide (0<s.op.length)=false:=Df (by rw[hop];simp);have g8'':¬(0<s.op.length):=by rw[hop];simp
        have p0:WO.cell? ⟨WC.heap.size+1,0,none⟩=some (.slice C bs.length cp):=Ro WO _ 0 _ _ _ HX.o.lib;have p1:WO.cell? ⟨WC.heap.size+1,1,none⟩=some (.slice (some ⟨gP,0,none⟩) s.pr.length cP):=Ro WO _ 1 _ _ _ HX.o.lib;have p2:WO.cell? ⟨WC.heap.size+1,2,none⟩=some (.slice M s.mt.length cM):=Ro WO _ 2 _ _ _ HX.o.lib;obtain⟨n0,n1',n2,n3,n4,n5,nf,nb⟩:=HN0.o _ (HWC.o _ HX.o.bel);have NB:=Hd nb;clear hop nb;go_wp2_with fail;refine bodyPost_ret (dE results35 _ _ w.heap.size _ _ _ _ rfl (cL NB.o) underlying32 (by kernel_rfl)) rfl ⟨C,some ⟨gP,0,none⟩,M,cp,cP,cM,by rw[E.o];rfl,?_,aQ (HBW.o _ (HWC.o _ HX.o.bel)) (Le _) 0 _ _ _⟩;have hP64:∀p∈s.pr,I64 p.num/\I64 p.first/\I64 p.stop:=λp hp=>by
         have q:=HOK.o.pr p hp;refine⟨HNUM.o p hp,?_,?_⟩
         ·unfold I64;omega
         ·unfold I64;omega
        have hM64:∀x∈s.mt,I64 x:=λx hx=>by
         have q:=HOK.o.mt.2 x hx;unfold I64;omega
        have hfine:=qgG bs;have hslim:=qgF bs;rw[E.o]at hfine hslim⊢
        have q2:=HBC.o.size;have q3:=HW.o.size;have hsz:=λ(x y z:Value)=>bJ WO w.heap.size 0 x y z;have hbs:=HX.o.bel.size;have kk:∀(x y z:Value) (g:Nat),g≠w.heap.size->(set3 WO w.heap.size 0 x y z).heap[g]? =WO.heap[g]? :=λx y z g hg=>aL _ _ _ _ _ _ _ hg;refine⟨?_,?_,.inr ⟨gP,0,rfl⟩,?_,?_,hslim,hfine,by show s.pr.length<=100000;omega⟩
        ·exact Lz.keep (w':=set3 WO w.heap.size 0 (.slice C bs.length cp) (.slice (some ⟨gP,0,none⟩) s.pr.length cP) (.slice M s.mt.length cM)) (by rw[hsz];exact hbs) (λg _ hg=>by have q:_<=g:=hg;show w.heap.size<=g;omega) (λg hg hi=>(kk _ _ _ g (by have q:_<=g:=hi;omega)).trans (HX.o.bel.block g hg)) HZ.o
        ·exact rY (w:=set3 WO w.heap.size 0 (.slice C bs.length cp) (.slice (some ⟨gP,0,none⟩) s.pr.length cP) (.slice M s.mt.length cM)) (aC HX.o.pr λg _ hv=>kk _ _ _ g (by have:=aI HX.o.pr hv;omega)) (λi p hp=>qhW hp) (show s.pr.length<=maxLen by unfold maxLen;omega) hP64
        ·exact yL (w:=set3 WO w.heap.size 0 (.slice C bs.length cp) (.slice (some ⟨gP,0,none⟩) s.pr.length cP) (.slice M s.mt.length cM)) (aC HX.o.mt λg _ hv=>kk _ _ _ g (by have:=aI HX.o.mt hv;omega)) (λi x hx=>xQ hx) (show s.mt.length<=maxLen by have:=HOK.o.mt.1;unfold maxLen;omega) hM64
        ·rcases HX.o.mt.2 with⟨e1,_⟩|⟨g,cap,cur,e1,_⟩
         ·simp only[Vs]at e1;exact .inl e1.1
         ·simp only[Vs,true_and]at e1;exact .inr ⟨g,0,e1.1⟩
       ·have E:Hid (zbN bs=(noL,(zdE s:Int),11)):=by
         unfold Hid;rw[HFI.o];unfold ziF;rw[Iq (by simp),Ip hop]
        obtain⟨N,hN⟩:∃N,s.op.length=N+1:=⟨s.op.length-1,by have:=List.length_pos_iff.2 hop;omega⟩;obtain⟨gO,hgO,hO1,hO2,hO3,hO4,_⟩:=dQ HX.o.op (by omega);subst hgO;have hNn:N<=2000:=by omega
        have e9:WO.cell? ⟨gO,N,none⟩=some (.int .i64 (zdE s:Int)):=by
         rw[HX.o.op.cellAt N (by omega)];refine xQ ?_;unfold opI zdE;rw[Gm,hN,Nat.add_sub_cancel,Gd];rw[Gg (by omega)];rfl
        obtain⟨n0,n1',n2,n3,n4,n5,nf,nb⟩:=HN0.o _ (HWC.o _ HX.o.bel);have NB:=Hd nb;have hgR:gO≠w.heap.size:=by have q1:=hO1;have q2:=HBC.o.size;have q3:=HW.o.size;omega
        have s0:WO.drew.cell? ⟨w.heap.size+1,0,none⟩=some (.slice none 0 0)/\WO.drew.cell? ⟨w.heap.size+1,1,none⟩=some (.slice none 0 0)/\WO.drew.cell? ⟨w.heap.size+1,2,none⟩=some (.slice none 0 0)/\WO.drew.cell? ⟨gO,N,none⟩=some (.int .i64 (zdE s:Int)):=⟨n0,n1',n2,e9⟩;have S0:=Hd s0;have S1:Hid ((((WO.setCell ⟨w.heap.size,0,none⟩ (.slice none 0 0)).setCell ⟨w.heap.size,1,none⟩ (.slice none 0 0)).setCell ⟨w.heap.size,2,none⟩ (.slice none 0 0)).drew.cell? ⟨w.heap.size+1,0,none⟩=some (.slice none 0 0)/\(((WO.setCell ⟨w.heap.size,0,none⟩ (.slice none 0 0)).setCell ⟨w.heap.size,1,none⟩ (.slice none 0 0)).setCell ⟨w.heap.size,2,none⟩ (.slice none 0 0)).drew.cell? ⟨w.heap.size+1,1,none⟩=some (.slice none 0 0)/\(((WO.setCell ⟨w.heap.size,0,none⟩ (.slice none 0 0)).setCell ⟨w.heap.size,1,none⟩ (.slice none 0 0)).setCell ⟨w.heap.size,2,none⟩ (.slice none 0 0)).drew.cell? ⟨w.heap.size+1,2,none⟩=some (.slice none 0 0)/\(((WO.setCell ⟨w.heap.size,0,none⟩ (.slice none 0 0)).setCell ⟨w.heap.size,1,none⟩ (.slice none 0 0)).setCell ⟨w.heap.size,2,none⟩ (.slice none 0 0)).drew.cell? ⟨gO,N,none⟩=some (.int .i64 (zdE s:Int))):=⟨(aB (aL WO w.heap.size 0 (w.heap.size+1) _ _ _ (by omega))).trans n0,(aB (aL WO w.heap.size 0 (w.heap.size+1) _ _ _ (by omega))).trans n1',(aB (aL WO w.heap.size 0 (w.heap.size+1) _ _ _ (by omega))).trans n2,(aB (aL WO w.heap.size 0 gO _ _ _ hgR)).trans e9⟩;have w1:IntKind.i64.wrap ((N:Int)+1-1)=(N:Int):=by rw[show(N:Int)+1-1=N by omega];exact IntWalk.i64_in _ (by omega)
        have w2':IntKind.i64.wrap (N:Int)=(N:Int):=IntWalk.i64_in _ (by omega);have hlt1:(N:Int)<(N:Int)+1:=by omega
        have h0N:(0:Int)<=(N:Int):=by omega
        rw[hN];clear nb s0 e9 hO1 hO3 hO4 hN;have hc8:decide ((N:Int)+1>0)=true:=Dt (by omega);go_upto_region 49 with(fail)
        go_region_held3(λw'=>w'.cell? ⟨w.heap.size+1,0,none⟩=some (.slice none 0 0)/\w'.cell? ⟨w.heap.size+1,1,none⟩=some (.slice none 0 0)/\w'.cell? ⟨w.heap.size+1,2,none⟩=some (.slice none 0 0)/\w'.cell? ⟨gO,N,none⟩=some (.int .i64 (zdE s:Int))) (first|with_reducible exact S0.o|with_reducible exact S1.o|fail) (fail);go_wp2_with fail;exact bodyPost_ret (dE results35 _ _ w.heap.size _ _ _ _ rfl (cL NB.o) underlying32 (by kernel_rfl)) rfl (HNO.o WO.drew (zdE s:Int) 11 (aA (HWC.o _ HX.o.bel) 1) E.o)
