/- The contract. -/
import Derived.Test.YtdcjbhdfphcefaaGreatDoorCt
import Derived.Test.YtdcjbhdfphcefaaGreatDoorTz
import Derived.Test.YtdcjbhdfphcefaaGreatDoorDp
import Derived.Test.YtdcjbhdfphcefaaGreatDoorEn
namespace Go.Proofs.YtdcjbhdfphcefaaGreatDoor
set_option linter.all false
set_option maxRecDepth 100000
set_option maxHeartbeats 16000000
open Go.Proofs.Tryz
open Go.RowKit
def LnPost(b:Bk)(n:Int)(w:World)(e:Ending)(w':World):Prop:=
 ∃(A:OA) (k c:Nat) (l0 l1 l2 x0 x1 x2:Value),e=.returned (.tuple #[.agg ⟨cellsB b A k c l0 l1 l2 x0 x1 x2⟩,.int .i64 n,.int .i64 0])∧Bz w' (fun g=>w.heap.size≤g) b A k l0 l1 l2 x0 x1 x2∧Bw w w'
theorem qbT{fn:Func}{p u v:Tmp}{ty:TypeId}(h:fn.results= #[.cell p ty,.tmp u,.tmp v])(tmps:Array Value)(w:World)(g:Nat)(t:TypeId)(cs:Array Value)(fr:Nat×Nat)(fs:Array Field)
 (hp:tmps.getD p undef=.pointer (some ⟨g,0,none⟩)) (hg:w.heap[g]? =some (.cells cs t fr))
 (hu:prog.underlying ty=some (.struct fs)) (hi:(prog.info? ty).map (·.size)=some cs.size):
 (results fn tmps).run prog w=.ok (.tuple #[.agg cs,tmps.getD u undef,tmps.getD v undef]) w:=by
 have hp':tmps[p]?.getD undef=.pointer (some ⟨g,0,none⟩):=by simpa using hp
 simp[results,h,hp',asAddr,run_loadVar_row w g t ty cs fr (.struct fs) hg hu rfl hi]
def set11(w:World)(g:Nat)(v0 v1 v2 v3 v4 v5 v6 v7 v8 v9 v10:Value):World:=(((((((((((w.setCell ⟨g,0,none⟩ v0).setCell ⟨g,1,none⟩ v1).setCell ⟨g,2,none⟩ v2).setCell ⟨g,3,none⟩ v3).setCell ⟨g,4,none⟩ v4).setCell ⟨g,5,none⟩ v5).setCell ⟨g,6,none⟩ v6).setCell ⟨g,7,none⟩ v7).setCell ⟨g,8,none⟩ v8).setCell ⟨g,9,none⟩ v9).setCell ⟨g,10,none⟩ v10)
theorem gW(w:World)(g q:Nat)(v0 v1 v2 v3 v4 v5 v6 v7 v8 v9 v10:Value)(h:q≠g):(set11 w g v0 v1 v2 v3 v4 v5 v6 v7 v8 v9 v10).heap[q]? =w.heap[q]? :=by
 unfold set11
 repeat rw[Bj _ _ _ q h]
theorem fO(w:World)(g:Nat)(v0 v1 v2 v3 v4 v5 v6 v7 v8 v9 v10:Value):(set11 w g v0 v1 v2 v3 v4 v5 v6 v7 v8 v9 v10).heap.size=w.heap.size:=by
 have q:∀(w:World) (p:Addr) (v:Value),(w.setCell p v).heap.size=w.heap.size:=fun w p v=>by simp[World.setCell]
 unfold set11;simp only[q]
theorem gF{B:Nat}{w w':World}(h:Below B w w'){g:Nat}(hg:B≤g)(v0 v1 v2 v3 v4 v5 v6 v7 v8 v9 v10:Value):Below B w (set11 w' g v0 v1 v2 v3 v4 v5 v6 v7 v8 v9 v10):=by
 exact(((((((((((h.setCell (p:=⟨g,0,none⟩) hg v0).setCell (p:=⟨g,1,none⟩) hg v1).setCell (p:=⟨g,2,none⟩) hg v2).setCell (p:=⟨g,3,none⟩) hg v3).setCell (p:=⟨g,4,none⟩) hg v4).setCell (p:=⟨g,5,none⟩) hg v5).setCell (p:=⟨g,6,none⟩) hg v6).setCell (p:=⟨g,7,none⟩) hg v7).setCell (p:=⟨g,8,none⟩) hg v8).setCell (p:=⟨g,9,none⟩) hg v9).setCell (p:=⟨g,10,none⟩) hg v10)
theorem jA{w:World}{g:Nat}{T:TypeId}{u0 u1 u2 u3 u4 u5 u6 u7 u8 u9 u10 v0 v1 v2 v3 v4 v5 v6 v7 v8 v9 v10:Value}(h:w.heap[g]? =some (.cells ⟨[u0,u1,u2,u3,u4,u5,u6,u7,u8,u9,u10]⟩ T (0,0))):(set11 w g v0 v1 v2 v3 v4 v5 v6 v7 v8 v9 v10).heap[g]? =some (.cells ⟨[v0,v1,v2,v3,v4,v5,v6,v7,v8,v9,v10]⟩ T (0,0)):=by
 have h0:=aD (i:=0) (u:=v0) h;have h1:=aD (i:=1) (u:=v1) h0;have h2:=aD (i:=2) (u:=v2) h1;have h3:=aD (i:=3) (u:=v3) h2;have h4:=aD (i:=4) (u:=v4) h3;have h5:=aD (i:=5) (u:=v5) h4;have h6:=aD (i:=6) (u:=v6) h5;have h7:=aD (i:=7) (u:=v7) h6;have h8:=aD (i:=8) (u:=v8) h7;have h9:=aD (i:=9) (u:=v9) h8;have h10:=aD (i:=10) (u:=v10) h9;simpa[set11]using h10
theorem kQ(s:ByteArray)(hs:s.size≤65536)(l:List Tk)(n0:Int)(htk:tokS s=(l,n0,0))(h1:isA l (0,-1) ⟨#[47]⟩=false)(h2:letA l (0,-1) 78=false)(b:Bk)(r2:Rs)(hr2:r2.2= -1)(hbw:b.words.length≤24)
 (hd1:depthS 17 b.left≤16) (hd2:depthS 17 b.x≤16) (hd3:∀p∈b.words,depthS 17 p.2≤16)
 (HCT:∀(W:World) (B rb bb:Nat) (A:OA) (c:Nat),RX W B rb A c l (0,-1)→W.heap[bb]? =some (.cells (cells0 false 0) 54 (0,0))→bb≠rb→B≤bb→Calls prog 101 #[.pointer (some ⟨rb,0,none⟩),.pointer (some ⟨bb,0,none⟩)] W (CtPost B rb bb A c l b r2 W))
 (w:World):Calls prog 67 #[.string s] w (LnPost b (s.size:Int) w):=by
 have HCC:=Hd HCT;have HD3:=Hd hd3;clear HCT hd3;obtain⟨W0,hW0⟩:∃W0,W0=w.alloc (.cells (cells0 false 0) 54):=⟨_,rfl⟩;have HB0:Hid (Bw w W0):=by unfold Hid;rw[hW0];exact nB _ _
 have H0:Hid (W0.heap[w.heap.size]? =some (.cells (cells0 false 0) 54 (0,0))):=by unfold Hid;rw[hW0];exact Hn w _
 have hs0:=hlS H0.o;have HTK:=Hd (qeD s (by omega) W0);have g0:decide ((s.size:Int)>65536)=false:=Df (by omega);have HTE:=Hd htk;unfold cells0 at hW0;clear htk;have tok1:=trivial;have tok2:=trivial;go_enter func67,ntmps67;go_wp2_with(first
  |(rw[←hW0];clear hW0;go_at_call 97;(refine HTK.o.mono ?_);rintro e w1 ⟨O,cO,he,hrt,hb⟩;rw[HTE.o]at he hrt;dsimp only at he hrt;subst he;have HRT:=Hd hrt;have HB1:=Hd hb;clear hrt hb)
  |(go_at_call 98;(obtain⟨rb,hrb⟩:∃rb,rb=w1.heap.size:=⟨_,rfl⟩);(obtain⟨W2,hW2⟩:∃W2,W2=(w1.alloc (.cells #[.slice O l.length cO,.int .i64 0,.int .i64 (-1)] 153)).alloc (.cells (cells0 false 0) 54):=⟨_,rfl⟩);have hW2':=hW2;unfold cells0 at hW2';rw[←hrb,←hW2'];clear hW2';have HB2:Hid (Bw w1 W2):=(by{unfold Hid;rw[hW2];exact(nB _ _).alloc (by simp) _});have HX2:Hid (RX W2 rb rb O cO l (0,-1)):=(by{refine⟨Le _,?_,?_,Lq _,by omega,by omega⟩;·{rw[hW2,hrb];exact(Bm _ _ _ (by simp)).trans (Hn w1 _)};·{rw[hrb];exact HRT.o.keep (fun p hp=>HB2.o.cell hp) (Le _)}});have HBK2:Hid (W2.heap[rb+1]? =some (.cells (cells0 false 0) 54 (0,0))):=(by{have q:=Hn (w1.alloc (.cells #[.slice O l.length cO,.int .i64 0,.int .i64 (-1)] 153)) (.cells (cells0 false 0) 54);unfold Hid;rw[hW2,hrb];simpa using q});have hw0:w.heap.size<rb:=(by{rw[hrb];exact Lt hs0 HB1.o.size});have HB02:Hid (Bw W0 W2):=HB1.o.tm HB2.o;have hr0:W0.heap.size≤rb:=(by{rw[hrb];exact HB1.o.size});clear hW2 hrb;(refine(aR h1 HX2.o).mono ?_);rintro e w2 ⟨rfl,hrp⟩;have HX3:=Hd hrp.1;have HO3:=Hd hrp.2;have HBK3:=Hd ((hrp.2.2.2.2.2 _ (hlS HBK2.o) (by omega)).trans HBK2.o);have d2:w2.cell? ⟨rb+1,2,none⟩=some (.bool false):=Ro w2 _ 2 _ _ _ HBK3.o;have df:∀i,w2.frozen? ⟨rb+1,i,none⟩=false:=(fun i=>by simp[World.frozen?,HBK3.o]);clear hrp)
  |(go_at_call 99;(obtain⟨W3,hW3⟩:∃W3,W3=w2.setCell ⟨rb+1,2,none⟩ (.bool false):=⟨_,rfl⟩);rw[←hW3];have HX4:Hid (RX W3 rb rb O cO l (0,-1)):=(by{unfold Hid;rw[hW3];exact HX3.o.put (by omega) (by omega) 2 _});have HC4:Hid (Chg (fun g=>g=rb∨g=rb+1) W2 W3):=(by{unfold Hid;rw[hW3];exact(eY HO3.o).trans (aH _ (rb+1) 2 _ _ (.inr rfl))});have HBK4:Hid (W3.heap[rb+1]? =some (.cells (cells0 false 0) 54 (0,0))):=(by{unfold Hid;rw[hW3];have q:=aD (i:=2) (u:=.bool false) HBK3.o;simpa[cells0]using q});clear hW3 d2 df;(refine(dJ h2 HX4.o).mono ?_);rintro e w4 ⟨rfl,hb⟩;have HX5:=Hd (HX4.o.below hb);have HC5:=Hd (HC4.o.trans (Chg.of_below (O:=fun g=>g=rb∨g=rb+1) hb));have HBK5:=Hd ((hb.block _ (hlS HBK4.o)).trans HBK4.o);clear hb)
  |(go_at_call 101;(refine(HCC.o w4 rb rb (rb+1) O cO HX5.o HBK5.o (by omega) (by omega)).mono ?_);rintro e w5 ⟨rfl,hx6,hc6,A6,k6,c6,l0,l1,l2,x0,x1,x2,hbk6,hbz6⟩;have HX6:=Hd hx6;obtain⟨m0,m1,m2,mf⟩:=hx6.cells;rw[hr2]at m2;have HC6:=Hd (HC5.o.trans hc6);have HS5:=Hd HC5.o.size;have HBK6:=Hd hbk6;have HBZ6:=Hd hbz6;(obtain⟨lo,ln,lA,lk,lc,rfl,rfl,rfl⟩:=hbz6.left.form);(obtain⟨xo,xn,xA,xk,xc,rfl,rfl,rfl⟩:=hbz6.x.form);have hk6:=hbz6.words.1;subst hk6;have HCL:Hid (∀W,Bw w5 W→W.cell? ⟨rb+1,3,none⟩=some (.slice A6 b.words.length c6)∧W.cell? ⟨rb+1,4,none⟩=some (.int .i64 lo)∧W.cell? ⟨rb+1,5,none⟩=some (.int .i64 ln)∧W.cell? ⟨rb+1,6,none⟩=some (.slice lA lk lc)∧W.cell? ⟨rb+1,7,none⟩=some (.int .i64 xo)∧W.cell? ⟨rb+1,8,none⟩=some (.int .i64 xn)∧W.cell? ⟨rb+1,9,none⟩=some (.slice xA xk xc)):=(fun W hW=>by{have q:=(hW.block _ (hlS hbk6)).trans hbk6;exact⟨Ro W _ 3 _ _ _ q,Ro W _ 4 _ _ _ q,Ro W _ 5 _ _ _ q,Ro W _ 6 _ _ _ q,Ro W _ 7 _ _ _ q,Ro W _ 8 _ _ _ q,Ro W _ 9 _ _ _ q⟩});(obtain⟨y3,y4,y5,y6,y7,y8,y9⟩:=HCL.o w5 (Bf _ _));clear hx6 hc6 hbk6 hbz6)
  |(clear tok1;go_at_call 102;(refine(nX b.left w5 _ _ HBZ6.o.left.rd (Le _)).mono ?_);rintro e w6 ⟨rfl,hb⟩;have HB6:=Hd hb;clear y3 y4 y5 y6 y7 y8 y9;(obtain⟨y3,y4,y5,y6,y7,y8,y9⟩:=HCL.o w6 hb);have gd1:decide ((depthS 17 b.left:Int)>16)=false:=Df (by omega);clear hb)
  |(clear tok2;go_at_call 102;(refine(nX b.x w6 _ _ (HBZ6.o.x.below HB6.o).rd (Le _)).mono ?_);rintro e w7 ⟨rfl,hb⟩;have HB7:=Hd (HB6.o.tm hb);clear y3 y4 y5 y6 y7 y8 y9;have gd2:decide ((depthS 17 b.x:Int)>16)=false:=Df (by omega);clear hb))
 clear gd1 gd2;go_loopw[10] (fun i W=>∃j:Nat,j≤b.words.length∧i=.int .i64 (j:Int)∧Bw w7 W) (fun i _=>b.words.length-(intOf i).toNat)
 case atStart=>exact⟨0,by omega,rfl,Bf _ _⟩
 case round=>
  obtain⟨j,hj,rfl,hbj⟩:=hrel;have HBJ:=Hd (HB7.o.tm hbj);obtain⟨y3,y4,y5,y6,y7,y8,y9⟩:=HCL.o wr HBJ.o;have HBJ7:=Hd hbj;clear hbj;by_cases hjl:j<b.words.length
  ·have hlt:decide ((j:Int)<(b.words.length:Int))=true:=Dt (by omega);rcases HBZ6.o.words.2.2.2 with⟨_,q⟩|⟨g,hgA,_,hgl,hgc⟩
   ·omega
   subst hgA;obtain⟨⟨cc,t⟩,hx⟩:∃x,b.words[j]? =some x:=⟨_,Gg hjl⟩;obtain⟨v0,x,y,z,v1,v2,v3,hr⟩:=hgc j cc t hx;obtain⟨to_,tn,tA,tk,tc,rfl,rfl,rfl⟩:=hr.form;have z1:=HBJ.o.ct hgl v1;have z2:=HBJ.o.ct hgl v2;have z3:=HBJ.o.ct hgl v3;have hdt:=HD3.o _ (Mg hx);have HDC:=Hd (nX t wr _ _ (hr.below HBJ.o).rd (Le _));have j1:(0:Int)≤(j:Int):=by omega
   have j2:(j:Int)<(b.words.length:Int):=by omega
   dsimp only at hdt;clear hgc v0 v1 v2 v3 hr hx;generalize depthS 17 t=d at HDC hdt;have gd3:decide ((d:Int)>16)=false:=Df (by omega);go_wp2_with(go_at_call 102;(refine HDC.o.mono ?_);rintro e w8 ⟨rfl,hb⟩;have HB8:=Hd (HBJ7.o.tm hb);clear hb);exact⟨⟨j+1,by omega,by go_num,HB8.o⟩,by simp only[intOf];omega⟩
  ·have hlt:decide ((j:Int)<(b.words.length:Int))=false:=Df (by omega);have qb:=(HBJ.o.block _ (hlS HBK6.o)).trans HBK6.o;have y0:wr.cell? ⟨rb+1,0,none⟩=some (.int .i64 b.kind):=Ro wr _ 0 _ _ _ qb;have y1:wr.cell? ⟨rb+1,1,none⟩=some (.int .i64 b.label):=Ro wr _ 1 _ _ _ qb;have y2:wr.cell? ⟨rb+1,2,none⟩=some (.bool b.skip):=Ro wr _ 2 _ _ _ qb;have y10:wr.cell? ⟨rb+1,10,none⟩=some (.int .i64 b.n):=Ro wr _ 10 _ _ _ qb;have q0:wr.heap[w.heap.size]? =some (.cells (cells0 false 0) 54 (0,0)):=by
    have e1:=HB02.o.block _ hs0;have hs2:=HB02.o.size;have e2:=HC6.o.block w.heap.size (by omega) (by omega);have hs6:=HC6.o.size;have e3:=HBJ.o.block w.heap.size (by omega);exact e3.trans (e2.trans (e1.trans H0.o))
   have HQ0:=Hd q0;have n0':wr.cell? ⟨w.heap.size,0,none⟩=some (.int .i64 0):=Ro wr _ 0 _ _ _ q0;have n1':wr.cell? ⟨w.heap.size,1,none⟩=some (.int .i64 0):=Ro wr _ 1 _ _ _ q0;have n2':wr.cell? ⟨w.heap.size,2,none⟩=some (.bool false):=Ro wr _ 2 _ _ _ q0;have n3':wr.cell? ⟨w.heap.size,3,none⟩=some (.slice none 0 0):=Ro wr _ 3 _ _ _ q0;have n4':wr.cell? ⟨w.heap.size,4,none⟩=some (.int .i64 0):=Ro wr _ 4 _ _ _ q0;have n5':wr.cell? ⟨w.heap.size,5,none⟩=some (.int .i64 0):=Ro wr _ 5 _ _ _ q0;have n6':wr.cell? ⟨w.heap.size,6,none⟩=some (.slice none 0 0):=Ro wr _ 6 _ _ _ q0;have n7':wr.cell? ⟨w.heap.size,7,none⟩=some (.int .i64 0):=Ro wr _ 7 _ _ _ q0;have n8':wr.cell? ⟨w.heap.size,8,none⟩=some (.int .i64 0):=Ro wr _ 8 _ _ _ q0;have n9':wr.cell? ⟨w.heap.size,9,none⟩=some (.slice none 0 0):=Ro wr _ 9 _ _ _ q0;have n10':wr.cell? ⟨w.heap.size,10,none⟩=some (.int .i64 0):=Ro wr _ 10 _ _ _ q0;have nf:∀i,wr.frozen? ⟨w.heap.size,i,none⟩=false:=fun i=>by simp[World.frozen?,q0]
   have hne:¬(rb+1=w.heap.size):=by omega
   clear q0 qb;go_wp2_with fail;have hs5:=HS5.o;have hsW2:rb+1<W2.heap.size:=hlS HBK2.o;refine bodyPost_ret (qbT results67 _ _ w.heap.size _ _ _ _ rfl (jA HQ0.o) underlying54 (by kernel_rfl)) rfl ⟨A6,b.words.length,c6,_,_,_,_,_,_,rfl,?_,?_⟩
   ·refine Bz.keep (w:=wr) (Nat.le_of_eq (fO _ _ _ _ _ _ _ _ _ _ _ _ _).symm) (fun g _ hg=> ?_) (fun g _ hg=> ?_) (Bz.keep HBJ.o.size (fun _ _ h=>h) (fun g hg _=>HBJ.o.block g hg) HBZ6.o)
    ·have q:w4.heap.size≤g:=hg;show w.heap.size≤g;omega
    ·have q:w4.heap.size≤g:=hg;exact gW _ _ _ _ _ _ _ _ _ _ _ _ _ _ (by omega)
   ·refine gF ?_ (Le _) _ _ _ _ _ _ _ _ _ _ _;have q1:=HB0.o.tm HB02.o;have q2:Below w.heap.size W2 w5:=⟨HC6.o.os,HC6.o.tape,HC6.o.output,HC6.o.size,fun g hg=>HC6.o.block g (by have:=q1.size;omega) (by omega)⟩;exact(q1.trans q2).trans (HBJ.o.mono (Ly q1.size q2.size))
def PaPost(bl:List Bk)(w:World)(e:Ending)(w':World):Prop:=
 ∃(C:OA) (cp:Nat) (base:Nat) (xs:LV),e=.returned (.tuple #[.slice C bl.length cp,.int .i64 (bl.length:Int),.int .i64 0])∧BkS w' base (fun _=>True) C cp bl xs∧Bw w w'
theorem qbS{fn:Func}{t u v:Tmp}(h:fn.results= #[.tmp t,.tmp u,.tmp v])(tmps:Array Value)(P:Program)(w:World):
 (results fn tmps).run P w=.ok (.tuple #[tmps.getD t undef,tmps.getD u undef,tmps.getD v undef]) w:=by simp[results,h]
theorem Bz.sizes{w:World}{I:Nat→Prop}{b:Bk}{A:OA}{k:Nat}{l0 l1 l2 x0 x1 x2:Value}(h:Bz w I b A k l0 l1 l2 x0 x1 x2):(∃lo ln lA lk lc,l0=.int .i64 lo∧l1=.int .i64 ln∧l2=.slice lA lk lc)∧∃lo ln lA lk lc,x0=.int .i64 lo∧x1=.int .i64 ln∧x2=.slice lA lk lc:=by
 obtain⟨a,b,c,d,e,h1,h2,h3⟩:=h.left.form;obtain⟨a',b',c',d',e',h4,h5,h6⟩:=h.x.form;exact⟨⟨a,b,c,d,e,h1,h2,h3⟩,a',b',c',d',e',h4,h5,h6⟩
theorem quG{W1 wr w2 W3 w9:World}{bl:List Bk}{b:Bk}{C:OA}{cp k g9 c9:Nat}{xs:LV}{o:Obj}{A2:OA}{k2 c2:Nat}{l0 l1 l2 x0 x1 x2:Value}(h:BkS wr W1.heap.size (fun _=>True) C cp (bl.take k) xs)(h2:Bw wr w2)(h3:Bw w2 W3)
 (hz:Bz w2 (fun g=>wr.heap.size≤g) b A2 k2 l0 l1 l2 x0 x1 x2) (htk:(bl.take k).length=k) (ho:w9.ownsRow W1.heap.size 54 11 (.slice (some ⟨g9,0,none⟩) (k+1) c9) (k+1) (xs++cellsB b A2 k2 c2 l0 l1 l2 x0 x1 x2)) (hg:(W3.alloc o).grownBy w9 (Value.slice C k cp).ownBlock) (hl:(Value.slice C k cp).ownBlock=some g9∨g9=(W3.alloc o).heap.size) (hb:Bw W1 wr):
 BkS w9 W1.heap.size (fun _=>True) (some ⟨g9,0,none⟩) c9 (bl.take k++[b]) (xs++cellsB b A2 k2 c2 l0 l1 l2 x0 x1 x2)∧Bw W1 w9:=by
 have hs2:=h2.size;have hs3:=h3.size;have hb4:Bw W3 (W3.alloc o):=nB _ _;have hs4:=hb4.size;have hgs:=hg.size;have hbs:=hb.size;refine⟨h.push hs2 (fun q hq _=>h2.block q hq) hz (fun _ _=>trivial) (by omega) (fun q hq=>(hb4.block q (by omega)).trans (h3.block q hq)) (by rw[htk];exact ho) (by rw[htk];exact hg) (by rw[htk];exact hl),?_⟩;have kk:∀q,q<W1.heap.size→(Value.slice C k cp).ownBlock≠some q:=fun q hq e=>by
  have q2:=h.own;rw[htk]at q2;have:=(aI q2 e).1;omega
 exact⟨hg.os.trans (hb4.os.trans (h3.os.trans (h2.os.trans hb.os))),hg.tape.trans (hb4.tape.trans (h3.tape.trans (h2.tape.trans hb.tape))),hg.output.trans (hb4.output.trans (h3.output.trans (h2.output.trans hb.output))),by omega,fun q hq=>(hg.block q (by omega) (fun e=>kk q hq e.symm)).trans ((hb4.block q (by omega)).trans ((h3.block q (by omega)).trans ((h2.block q (by omega)).trans (hb.block q hq))))⟩
theorem tY(s:ByteArray)(hs:s.size≤65536)(bl:List Bk)(hn:(linesS s).length=bl.length)(hn2:bl.length≤2000)
 (hL:∀(i:Nat) (x:ByteArray) (b:Bk),(linesS s)[i]? =some x→bl[i]? =some b→∀w,Calls prog 67 #[.string x] w (LnPost b (x.size:Int) w)) (w:World):
 Calls prog 40 #[.string s] w (PaPost bl w):=by
 have HL:=Hd hL;have HN:=Hd hn;clear hL;obtain⟨iB,zB,hiB,hB0,hB1,hB2,hBs⟩:=eG;have HIB:=Hd hiB;have HZB:=Hd hB0;have HLN:=Hd (qkB s (by omega) w);have g0:decide ((s.size:Int)>65536)=false:=Df (by omega);clear hiB hB0 hn;go_enter func40,ntmps40;go_wp2_with(go_at_call 66;(refine HLN.o.mono ?_);rintro e W1 ⟨O,cO,rfl,hLS⟩;have HLS:=Hd hLS;have hnl:=HN.o;have g1:decide ((((linesS s).length:Nat):Int)>2000)=false:=Df (by omega);clear hLS);have hw1:=HLS.o.bel.size;go_loopw[6,7] (fun o i W=>∃(k:Nat) (C:OA) (cp:Nat) (xs:LV),k≤bl.length∧o=.slice C (bl.take k).length cp∧i=.int .i64 (k:Int)∧BkS W W1.heap.size (fun _=>True) C cp (bl.take k) xs∧Bw W1 W) (fun _ i _=>bl.length-(intOf i).toNat)
 case atStart=>exact⟨0,none,0,[],by omega,rfl,rfl,BkS.nil _ _ _,Bf _ _⟩
 case round=>
  obtain⟨k,C,cp,xs,hk,rfl,rfl,hB,hbw⟩:=hrel;have HB:=Hd hB;have HBW:=Hd hbw;have hbs:=hbw.size;clear hB hbw;have htk:(bl.take k).length=k:=by rw[Lr];omega
  by_cases hlt:k<bl.length
  ·obtain⟨x,hx⟩:∃x,(linesS s)[k]? =some x:=⟨_,Gg (by omega)⟩;obtain⟨b,hb⟩:∃b,bl[k]? =some b:=⟨_,Gg hlt⟩;have HLC:=Hd (HL.o k x b hx hb wr);have htk1:bl.take (k+1)=bl.take k++[b]:=by rw[Ta,hb];rfl
   have HT1:=Hd htk1;obtain⟨gO,hgO,q1,q2,q3,q4,_⟩:=dQ HLS.o.own (by omega);subst hgO;have c0:wr.cell? ⟨gO,k,none⟩=some (.string x):=by
    refine(HBW.o.cel gO k q2).trans ?_;rw[HLS.o.own.cellAt k (by omega),Gm,hx];rfl
   have i0:(0:Int)≤(k:Int):=by omega
   have i1:(k:Int)<((linesS s).length:Int):=by omega
   have HOW:Hid (wr.ownsRow W1.heap.size 54 11 (.slice C k cp) k xs):=by have q:=HB.o.own;rw[htk]at q;exact q
   clear hx hb htk1;go_wp2_with(first
    |(go_at_call 67;(refine HLC.o.mono ?_);rintro e w2 ⟨A2,k2,c2,l0,l1,l2,x0,x1,x2,rfl,hz,hb2⟩;have HZ:=Hd hz;(obtain⟨⟨lo,ln,lA,lk,lc,rfl,rfl,rfl⟩,xo,xn,xA,xk,xc,rfl,rfl,rfl⟩:=hz.sizes);have HB2:=Hd hb2;clear hz hb2;unfold cellsB)
    |(at_builtin;(obtain⟨W3,hW3⟩:∃W3,W3=(w2.alloc (.cells #[.int .i64 b.kind,.int .i64 b.label,.bool b.skip,.slice A2 k2 c2,.int .i64 lo,.int .i64 ln,.slice lA lk lc,.int .i64 xo,.int .i64 xn,.slice xA xk xc,.int .i64 b.n] 54)):=⟨_,rfl⟩);rw[←hW3];have HB3:Hid (Bw w2 W3):=(by{unfold Hid;rw[hW3];exact nB _ _});have hs3e:W3.heap.size=w2.heap.size+1:=(by rw[hW3];simp);have HNB:Hid ((W3.alloc (.cells #[.int .i64 b.kind,.int .i64 b.label,.bool b.skip,.slice A2 k2 c2,.int .i64 lo,.int .i64 ln,.slice lA lk lc,.int .i64 xo,.int .i64 xn,.slice xA xk xc,.int .i64 b.n] 54)).heap[w2.heap.size+1]? =some (.cells #[.int .i64 b.kind,.int .i64 b.label,.bool b.skip,.slice A2 k2 c2,.int .i64 lo,.int .i64 ln,.slice lA lk lc,.int .i64 xo,.int .i64 xn,.slice xA xk xc,.int .i64 b.n] 54 (0,0))):=(by{unfold Hid;rw[←hs3e];exact Hn W3 _});clear hW3;have hs2:=HB2.o.size;have hs3:=HB3.o.size;have HOW3:Hid (W3.ownsRow W1.heap.size 54 11 (.slice C k cp) k xs):=aC HOW.o (fun g hg _=>(HB3.o.block g (by omega)).trans (HB2.o.block g hg));refine wpList_append_lies _ rfl (.tmp 38) (.tmp 40) 29 rfl W1.heap.size 54 iB zB 11 136 underlying29 HIB.o HZB.o hB1 hB2 hBs (by omega) (.slice C k cp) k xs rfl (HOW3.o.alloc _) ⟨w2.heap.size+1,0,none⟩ 1 1 [.int .i64 b.kind,.int .i64 b.label,.bool b.skip,.slice A2 k2 c2,.int .i64 lo,.int .i64 ln,.slice lA lk lc,.int .i64 xo,.int .i64 xn,.slice xA xk xc,.int .i64 b.n] rfl rfl (Nk HNB.o) (by intro u hu;simp only[List.mem_cons,List.not_mem_nil,or_false]at hu;rcases hu with rfl|rfl|rfl|rfl|rfl|rfl|rfl|rfl|rfl|rfl|rfl<;>rfl) (by omega) (by unfold maxLen;omega) (by omega) (by simp;omega) _ rfl ?_;intro g9 c9 w9 ho9 hg9 hl9 hlt9;have HNX:=Hd (quG HB.o HB2.o HB3.o HZ.o htk ho9 hg9 hl9 HBW.o);clear ho9 hg9 hl9 hlt9))
   exact⟨⟨k+1,some ⟨g9,0,none⟩,c9,_,by omega,by simp only[Lr];congr 1;omega,by go_num,by rw[HT1.o];exact HNX.o.1,HNX.o.2⟩,by simp only[intOf];omega⟩
  ·have hke:k=bl.length:=by omega
   subst hke;have hb2:=HB.o;rw[Tm]at hb2;have HB2:=Hd hb2;clear hb2;go_wp2_with fail;refine bodyPost_ret (qbS results40 _ _ _) rfl ⟨C,cp,W1.heap.size,xs,?_,HB2.o,HLS.o.bel.trans (HBW.o.mono hw1)⟩
   trace_state
   simp
