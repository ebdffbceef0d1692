/- The contract. -/
import Derived.Test.YtdcjbhdfphcefaaGreatDoorTn
import Derived.Test.YtdcjbhdfphcefaaGreatDoorCd
namespace Go.Proofs.YtdcjbhdfphcefaaGreatDoor
set_option linter.all false
set_option maxRecDepth 100000
set_option maxHeartbeats 8000000
open Go.Proofs.Tryz
open Go.RowKit
theorem dJ{w:World}{B rb:Nat}{A:OA}{c:Nat}{l:List Tk}{r:Rs}{q:Int}{v:Bool}(hs:letA l r q=v)(h:RX w B rb A c l r):
 Calls prog 99 #[.pointer (some ⟨rb,0,none⟩),.int .i64 q] w fun e w'=>e=.returned (.bool v)∧Bw w w':=by
 have q:=qcN w B rb A c l r q h;rw[hs]at q;exact q
theorem qrW{w:World}{B rb:Nat}{A:OA}{c:Nat}{l:List Tk}{r r2:Rs}{most v:Int}(hs:cntA l most r=(v,r2))(h:RX w B rb A c l r):
 Calls prog 100 #[.pointer (some ⟨rb,0,none⟩),.int .i64 most] w fun e w'=>e=.returned (.int .i64 v)∧RP B rb A c l r2 w w':=by
 have q:=nT w B rb A c l r most h;rw[hs]at q;exact q
theorem qaZ{w:World}{B rb:Nat}{A:OA}{c:Nat}{l:List Tk}{r r2:Rs}{t:Tr}(hs:numA l r=(t,r2))(n1:isA l r ⟨#[35]⟩=false)(n2:isA l r ⟨#[91]⟩=false)(n3:isA l r ⟨#[45]⟩=false)(n4:isA l r ⟨#[43]⟩=false)(h:RX w B rb A c l r):
 Calls prog 140 #[.pointer (some ⟨rb,0,none⟩)] w (XP B rb A c l (t,r2) w):=by
 have q:=qiN w B rb A c l r h n1 n2 n3 n4;rw[hs]at q;exact q
theorem RX.put{w:World}{B rb:Nat}{A:OA}{c:Nat}{l:List Tk}{r:Rs}(h:RX w B rb A c l r){g:Nat}(hg:g≠rb)(hB:B≤g)(i:Nat)(v:Value):RX (w.setCell ⟨g,i,none⟩ v) B rb A c l r:=by
 have k:∀q,q≠g→(w.setCell ⟨g,i,none⟩ v).heap[q]? =w.heap[q]? :=fun q hq=>Bj _ _ _ q hq;exact⟨h.ge,(k _ (fun e=>hg e.symm)).trans h.blk,h.tok.keep (fun p hp=>Wb (k p.block (by omega))) (Le _),h.pos,h.bad⟩
theorem qD(a b c d:Value)(W:World):(Instr.field 157 (.agg #[a,b,c,d]) 0).run prog W=.ok a W:=by
 simp[Instr.field,run_underlying underlying157,asAgg,part,go_sem]
theorem wG(a b c d:Value)(W:World):(Instr.field 157 (.agg #[a,b,c,d]) 1).run prog W=.ok b W:=by
 simp[Instr.field,run_underlying underlying157,asAgg,part,go_sem]
def cells0(sk:Bool)(lb:Int):Array Value:=⟨[.int .i64 0,.int .i64 lb,.bool sk,.slice none 0 0,.int .i64 0,.int .i64 0,.slice none 0 0,.int .i64 0,.int .i64 0,.slice none 0 0,.int .i64 0]⟩
def CtPost(B rb bb:Nat)(A:OA)(c:Nat)(l:List Tk)(b:Bk)(r2:Rs)(w:World)(e:Ending)(w':World):Prop:=
 e=.returned (.tuple #[])∧RX w' B rb A c l r2∧Chg (fun g=>g=rb∨g=bb) w w'∧∃(A:OA) (n c:Nat) (l0 l1 l2 x0 x1 x2:Value),w'.heap[bb]? =some (.cells ⟨cellsB b A n c l0 l1 l2 x0 x1 x2⟩ 54 (0,0))∧Bz w' (fun g=>w.heap.size≤g) b A n l0 l1 l2 x0 x1 x2
theorem eY{rb bb:Nat}{w w':World}(h:Only rb w w'):Chg (fun g=>g=rb∨g=bb) w w':=⟨h.1,h.2.1,h.2.2.1,h.2.2.2.1,fun g hg hz=>h.2.2.2.2 g hg fun e=>hz (.inl e)⟩
theorem mW(w:World)(I:Nat→Prop):Wz w I none 0 []:=⟨rfl,Lq _,fun x h=>by simp at h,.inl ⟨rfl,rfl⟩⟩
theorem qlB(w:World)(B rb bb:Nat)(A:OA)(c:Nat)(l:List Tk)(r r2:Rs)(sk:Bool)(lb v:Int)(h:RX w B rb A c l r)(hbb:w.heap[bb]? =some (.cells (cells0 sk lb) 54 (0,0)))(hne:bb≠rb)(hBb:B≤bb)(hI:I64 lb)(hv:I64 v)
 (n1:isA l r ⟨#[35]⟩=false) (n2:isA l r ⟨#[73,70]⟩=false) (n3:isA l r ⟨#[71,79,84,79]⟩=false) (n4:isA l r ⟨#[87,72,73,76,69]⟩=false) (n5:isA l r ⟨#[69,78,68]⟩=false) (n6:letA l r 79=true) (hc:cntA l 99999 (nxt r)=(v,r2)) (he:¬r2.1<l.length):
 Calls prog 101 #[.pointer (some ⟨rb,0,none⟩),.pointer (some ⟨bb,0,none⟩)] w (CtPost B rb bb A c l ⟨6,lb,sk,[],zeroT,zeroT,v⟩ r2 w):=by
 have HX:=Hd h;have HO:Hid (Only rb w w):=Only.refl _ _;have HBK:=Hd hbb;have hlt:r.1<l.length:=by
  refine gG (fun e=> ?_);unfold letA at n6;rw[e]at n6;simp at n6
 have hbl:=hlS hbb;have hbr:=h.lt;clear h hbb;have tok1:=trivial;go_enter func101,ntmps101;go_wp2_with(first
  |(go_at_call 98;(first|with_reducible refine(aR n1 HX.o).mono ?_|with_reducible refine(aR n2 HX.o).mono ?_|with_reducible refine(aR n3 HX.o).mono ?_|with_reducible refine(aR n4 HX.o).mono ?_|with_reducible refine(aR n5 HX.o).mono ?_);rintro e w1 ⟨rfl,hrp⟩;have HXn:=Hd hrp.1;have HOn:=Hd (HO.o.trans hrp.2);have HBn:=Hd ((hrp.2.2.2.2.2 _ (hlS HBK.o) hne).trans HBK.o);clear HX HO HBK hrp;have HX:=Hd HXn.o;have HO:=Hd HOn.o;have HBK:=Hd HBn.o;clear HXn HOn HBn)
  |(go_at_call 99;refine(dJ n6 HX.o).mono ?_;rintro e w2 ⟨rfl,hb⟩;have HX2:=Hd (HX.o.below hb);have HO2:=Hd (HO.o.trans (Only.of_below hb));have HBK2:=Hd ((hb.block _ (hlS HBK.o)).trans HBK.o);clear hb;obtain⟨c0,c1,c2,cf⟩:=HX2.o.cells;have hml:=HX2.o.tok.1;have d0:w2.cell? ⟨bb,0,none⟩=some (.int .i64 0):=Ro w2 _ 0 _ _ _ HBK2.o;have df:∀i,w2.frozen? ⟨bb,i,none⟩=false:=(fun i=>by simp[World.frozen?,HBK2.o]))
  |(go_at_call 100;refine(qrW hc ((HX2.o.next hlt).put hne hBb 0 _)).mono ?_;rintro e w3 ⟨rfl,hrp⟩;have HX3:=Hd hrp.1;have HO3:=Hd hrp.2;obtain⟨e0,e1,e2,ef⟩:=HX3.o.cells;have HBK3:Hid (w3.heap[bb]? =some (.cells ⟨[.int .i64 6,.int .i64 lb,.bool sk,.slice none 0 0,.int .i64 0,.int .i64 0,.slice none 0 0,.int .i64 0,.int .i64 0,.slice none 0 0,.int .i64 0]⟩ 54 (0,0))):=(by{refine(hrp.2.2.2.2.2 bb ?_ hne).trans ?_;·{have:=hlS HBK2.o;simpa[World.setCell]using this};·{have q:=aD (i:=0) (u:=.int .i64 6) ((Bj w2 ⟨rb,1,none⟩ (.int .i64 ((r.1:Int)+1)) bb hne).trans HBK2.o);simpa[cells0]using q}});have f0:w3.cell? ⟨bb,10,none⟩=some (.int .i64 0):=Ro w3 _ 10 _ _ _ HBK3.o;have ff:∀i,w3.frozen? ⟨bb,i,none⟩=false:=(fun i=>by simp[World.frozen?,HBK3.o]);clear hrp))
 obtain⟨W4,hW4⟩:∃W4,W4=w3.setCell ⟨bb,10,none⟩ (.int .i64 v):=⟨_,rfl⟩;have HX4:Hid (RX W4 B rb A c l r2):=by unfold Hid;rw[hW4];exact HX3.o.put hne hBb 10 _
 obtain⟨m0,m1,m2,mf⟩:=HX4.o.cells;have HBK4:Hid (W4.heap[bb]? =some (.cells ⟨cellsB ⟨6,lb,sk,[],zeroT,zeroT,v⟩ none 0 0 (.int .i64 0) (.int .i64 0) (.slice none 0 0) (.int .i64 0) (.int .i64 0) (.slice none 0 0)⟩ 54 (0,0))):=by
  unfold Hid;rw[hW4];have q:=aD (i:=10) (u:=.int .i64 v) HBK3.o;simpa[cellsB]using q
 have HCH:Hid (Chg (fun g=>g=rb∨g=bb) w W4):=by
  unfold Hid;rw[hW4];exact(((eY (HO2.o.trans (HX2.o.only _ _))).trans (aH _ bb 0 _ _ (.inr rfl))).trans (eY HO3.o)).trans (aH _ bb 10 _ _ (.inr rfl))
 have hge:decide ((r2.1:Int)<(l.length:Int))=false:=Df (by omega);rw[←hW4];clear hW4 e0 e1 e2 ef f0 ff;go_quiet(fail);go_wp2_with fail;exact bodyPost_end (results_none results101 _ _ _) rfl ⟨rfl,HX4.o.below (aA (Bf _ _) nq),HCH.o.drewN nq,none,0,0,_,_,_,_,_,_,HBK4.o,by show I64 6;unfold I64;omega,hI,hv,mW _ _,bN _ _ _ (by unfold I64;omega),bN _ _ _ (by unfold I64;omega)⟩
theorem qlC(w:World)(B rb bb:Nat)(A:OA)(c:Nat)(l:List Tk)(r r2:Rs)(sk:Bool)(lb:Int)(t:Tr)(h:RX w B rb A c l r)(hbb:w.heap[bb]? =some (.cells (cells0 sk lb) 54 (0,0)))(hne:bb≠rb)(hBb:B≤bb)(hI:I64 lb)
 (n1:isA l r ⟨#[35]⟩=false) (n2:isA l r ⟨#[73,70]⟩=false) (n3:isA l r ⟨#[71,79,84,79]⟩=true) (hc:numA l (nxt r)=(t,r2)) (m1:isA l (nxt r) ⟨#[35]⟩=false) (m2:isA l (nxt r) ⟨#[91]⟩=false) (m3:isA l (nxt r) ⟨#[45]⟩=false) (m4:isA l (nxt r) ⟨#[43]⟩=false) (he:¬r2.1<l.length):
 Calls prog 101 #[.pointer (some ⟨rb,0,none⟩),.pointer (some ⟨bb,0,none⟩)] w (CtPost B rb bb A c l ⟨2,lb,sk,[],zeroT,t,0⟩ r2 w):=by
 have HX:=Hd h;have HO:Hid (Only rb w w):=Only.refl _ _;have HBK:=Hd hbb;have hbl:=hlS hbb;have hbr:=h.lt;clear h hbb;go_enter func101,ntmps101;go_wp2_with(first
  |(go_at_call 98;(first|with_reducible refine(aR n1 HX.o).mono ?_|with_reducible refine(aR n2 HX.o).mono ?_);rintro e w1 ⟨rfl,hrp⟩;have HXn:=Hd hrp.1;have HOn:=Hd (HO.o.trans hrp.2);have HBn:=Hd ((hrp.2.2.2.2.2 _ (hlS HBK.o) hne).trans HBK.o);clear HX HO HBK hrp;have HX:=Hd HXn.o;have HO:=Hd HOn.o;have HBK:=Hd HBn.o;clear HXn HOn HBn)
  |(go_at_call 98;(with_reducible refine(dI n3 HX.o).mono ?_);rintro e w2 ⟨rfl,hrp⟩;have HX2:=Hd hrp.1;have HO2:=Hd (HO.o.trans hrp.2);have HBK2:=Hd ((hrp.2.2.2.2.2 _ (hlS HBK.o) hne).trans HBK.o);have d0:w2.cell? ⟨bb,0,none⟩=some (.int .i64 0):=Ro w2 _ 0 _ _ _ HBK2.o;have df:∀i,w2.frozen? ⟨bb,i,none⟩=false:=(fun i=>by simp[World.frozen?,HBK2.o]);clear hrp)
  |(go_at_call 140;refine(qaZ hc m1 m2 m3 m4 (HX2.o.put hne hBb 0 _)).mono ?_;rintro e w3 ⟨x,y,z,rfl,hz,hrp⟩;obtain⟨xo,xn,xA,xk,xc,rfl,rfl,rfl⟩:=hz.form;have HZ:=Hd hz;have HX3:=Hd hrp.1;have HO3:=Hd hrp.2;have HBK3:Hid (w3.heap[bb]? =some (.cells ⟨[.int .i64 2,.int .i64 lb,.bool sk,.slice none 0 0,.int .i64 0,.int .i64 0,.slice none 0 0,.int .i64 0,.int .i64 0,.slice none 0 0,.int .i64 0]⟩ 54 (0,0))):=(by{refine(hrp.2.2.2.2.2 bb ?_ hne).trans ?_;·{have:=hlS HBK2.o;simpa[World.setCell]using this};·{have q:=aD (i:=0) (u:=.int .i64 2) HBK2.o;simpa[cells0]using q}});have f7:w3.cell? ⟨bb,7,none⟩=some (.int .i64 0):=Ro w3 _ 7 _ _ _ HBK3.o;have f8:w3.cell? ⟨bb,8,none⟩=some (.int .i64 0):=Ro w3 _ 8 _ _ _ HBK3.o;have f9:w3.cell? ⟨bb,9,none⟩=some (.slice none 0 0):=Ro w3 _ 9 _ _ _ HBK3.o;have ff:∀i,w3.frozen? ⟨bb,i,none⟩=false:=(fun i=>by simp[World.frozen?,HBK3.o]);clear hrp hz))
 obtain⟨W4,hW4⟩:∃W4,W4=((w3.setCell ⟨bb,7,none⟩ (.int .i64 xo)).setCell ⟨bb,8,none⟩ (.int .i64 xn)).setCell ⟨bb,9,none⟩ (.slice xA xk xc):=⟨_,rfl⟩;have HX4:Hid (RX W4 B rb A c l r2):=by unfold Hid;rw[hW4];exact((HX3.o.put hne hBb 7 _).put hne hBb 8 _).put hne hBb 9 _
 obtain⟨p0,p1,p2,pf⟩:=HX4.o.cells;have HBK4:Hid (W4.heap[bb]? =some (.cells ⟨cellsB ⟨2,lb,sk,[],zeroT,t,0⟩ none 0 0 (.int .i64 0) (.int .i64 0) (.slice none 0 0) (.int .i64 xo) (.int .i64 xn) (.slice xA xk xc)⟩ 54 (0,0))):=by
  unfold Hid;rw[hW4];have q7:=aD (i:=7) (u:=.int .i64 xo) HBK3.o;have q8:=aD (i:=8) (u:=.int .i64 xn) q7;have q9:=aD (i:=9) (u:=.slice xA xk xc) q8;simpa[cellsB]using q9
 have HCH:Hid (Chg (fun g=>g=rb∨g=bb) w W4):=by
  unfold Hid;rw[hW4];exact((((eY HO2.o).trans (aH _ bb 0 _ _ (.inr rfl))).trans (eY HO3.o)).trans (aH _ bb 7 _ _ (.inr rfl))).trans ((aH _ bb 8 _ _ (.inr rfl)).trans (aH _ bb 9 _ _ (.inr rfl)))
 have HZ4:Hid (Rz W4 (fun g=>w.heap.size≤g) t (.agg #[.int .i64 xo,.int .i64 xn,.slice xA xk xc])):=by
  have hws:=HO2.o.size;have hbb2:=hlS HBK2.o;refine HZ.o.keep ?_ (fun g _ hg=> ?_) (fun g _ hg=> ?_)
  ·rw[hW4];simp[World.setCell]
  ·have q:(w2.setCell ⟨bb,0,none⟩ (.int .i64 2)).heap.size≤g:=hg;have e:(w2.setCell ⟨bb,0,none⟩ (.int .i64 2)).heap.size=w2.heap.size:=by simp[World.setCell]
   show w.heap.size≤g;omega
  ·have q:(w2.setCell ⟨bb,0,none⟩ (.int .i64 2)).heap.size≤g:=hg;have e:(w2.setCell ⟨bb,0,none⟩ (.int .i64 2)).heap.size=w2.heap.size:=by simp[World.setCell]
   rw[hW4];exact(Bj _ _ _ _ (show g≠bb by omega)).trans ((Bj _ _ _ _ (show g≠bb by omega)).trans (Bj _ _ _ _ (show g≠bb by omega)))
 have hge:decide ((r2.1:Int)<(l.length:Int))=false:=Df (by omega);rw[←hW4];clear hW4 f7 f8 f9 ff;go_quiet(fail);go_wp2_with fail;exact bodyPost_end (results_none results101 _ _ _) rfl ⟨rfl,HX4.o.below (aA (Bf _ _) nq),HCH.o.drewN nq,none,0,0,_,_,_,_,_,_,HBK4.o,by show I64 2;unfold I64;omega,hI,by show I64 0;unfold I64;omega,mW _ _,bN _ _ _ (by unfold I64;omega),HZ4.o.below (aA (Bf _ _) nq)⟩
def CwEnd(w:World)(B rb bb:Nat)(A:OA)(c:Nat)(l:List Tk)(r2:Rs)(b:Bk)(W:World):Prop:=
 RX W B rb A c l r2∧Chg (fun g=>g=rb∨g=bb) w W∧∃(A:OA) (n c:Nat) (l0 l1 l2 x0 x1 x2:Value),W.heap[bb]? =some (.cells ⟨cellsB b A n c l0 l1 l2 x0 x1 x2⟩ 54 (0,0))∧Bz W (fun g=>w.heap.size≤g) b A n l0 l1 l2 x0 x1 x2
def cwM(rb:Nat)(l:List Tk)(W:World):Nat:=match W.cell? ⟨rb,1,none⟩with
 |some (.int _ n)=>l.length-n.toNat
 |_=>0
theorem qfV{w:World}{B rb:Nat}{A:OA}{c:Nat}{l:List Tk}{r:Rs}(h:RX w B rb A c l r):cwM rb l w=l.length-r.1:=by
 unfold cwM;rw[h.cells.2.1];simp
theorem qhE{l:List Tk}{r r2:Rs}{t:Tr}(h:numA l (nxt r)=(t,r2))(hlt:r.1<l.length:=by omega):r.1<r2.1:=by
 unfold numA at h;split at h
 ·cases h;unfold failA nxt;split<;>(dsimp only;omega)
 ·cases h;unfold nxt;dsimp only;omega
theorem qrS{w W7 W8 w9:World}{B rb bb wg:Nat}{A:OA}{c:Nat}{l:List Tk}{r2:Rs}{sk:Bool}{lb cc xo xn:Int}{xA:OA}{xk xc g9 c9:Nat}{t:Tr}
 (h1:RX W7 B rb A c l r2) (h2:Only rb w W7) (h3:W7.heap[bb]? =some (.cells (cells0 sk lb) 54 (0,0))) (h4:Rz W7 (fun g=>wg<g) t (.agg #[.int .i64 xo,.int .i64 xn,.slice xA xk xc])) (hws:w.heap.size≤wg) (hb8:Bw W7 W8) (hs8:W8.heap.size=W7.heap.size+1)
 (k9:∀q,q<W8.heap.size→w9.heap[q]? =W8.heap[q]?) (hg9:W8.grownBy w9 (Value.slice none 0 0).ownBlock) (ho9:w9.ownsRow w.heap.size 57 4 (.slice (some ⟨g9,0,none⟩) 1 c9) 1 [.int .i64 cc,.int .i64 xo,.int .i64 xn,.slice xA xk xc]) (hl9:g9=W8.heap.size) (hne:bb≠rb) (hBb:B≤bb) (hI:I64 lb) (hcc:I64 cc) (hbw:bb<wg):
 CwEnd w B rb bb A c l r2 ⟨0,lb,sk,[(cc,t)],zeroT,zeroT,0⟩ (w9.setCell ⟨bb,3,none⟩ (.slice (some ⟨g9,0,none⟩) 1 c9)):=by
 have hbb7:=hlS h3;have hs9:=hg9.size;have hw7:=h2.size;obtain⟨W,hW⟩:∃W,W=w9.setCell ⟨bb,3,none⟩ (.slice (some ⟨g9,0,none⟩) 1 c9):=⟨_,rfl⟩;rw[←hW];have hWs:W.heap.size=w9.heap.size:=by rw[hW];simp[World.setCell]
 have kk:∀q,q<W8.heap.size→q≠bb→W.heap[q]? =W8.heap[q]? :=fun q hq hn=>by rw[hW];exact(Bj _ _ _ q hn).trans (k9 q hq)
 have k7:∀q,q<W7.heap.size→q≠bb→W.heap[q]? =W7.heap[q]? :=fun q hq hn=>(kk q (by omega) hn).trans (hb8.block q hq);have hrb:=h1.lt;have hge:=h1.ge;refine⟨⟨h1.ge,(k7 rb hrb (fun e=>hne e.symm)).trans h1.blk,h1.tok.keep (fun p hp=>Wb (k7 p.block (by omega) (by omega))) (Le _),h1.pos,h1.bad⟩,⟨?_,?_,?_,by omega,fun g hg hz=>(k7 g (by omega) (fun e=>hz (.inr e))).trans (h2.2.2.2.2 g hg (fun e=>hz (.inl e)))⟩,some ⟨g9,0,none⟩,1,c9,.int .i64 0,.int .i64 0,.slice none 0 0,.int .i64 0,.int .i64 0,.slice none 0 0,?_,?_⟩
 ·rw[hW];exact hg9.os.trans (hb8.os.trans h2.1)
 ·rw[hW];exact hg9.tape.trans (hb8.tape.trans h2.2.1)
 ·rw[hW];exact hg9.output.trans (hb8.output.trans h2.2.2.1)
 ·have q:=aD (i:=3) (u:=.slice (some ⟨g9,0,none⟩) 1 c9) (((k9 bb (by omega)).trans (hb8.block bb hbb7)).trans h3);rw[hW];simpa[cells0,cellsB]using q
 ·have hg9b:g9≠bb:=by omega
  have hcl:∀j,j<4→W.cell? ⟨g9,j,none⟩=[Value.int .i64 cc,.int .i64 xo,.int .i64 xn,.slice xA xk xc][j]? :=fun j hj=>by
   rw[hW];exact(aB (Bj _ _ _ g9 hg9b)).trans (ho9.cellAt j (by omega))
  have hg9w:g9<w9.heap.size:=by
   rcases ho9.2 with⟨_,e2⟩|⟨g',cap',cur,e1,e2,e3,_⟩
   ·omega
   ·simp only[Vs,Oi,Addr.mk.injEq,and_true,true_and]at e1;rw[e1.1];exact hlS e3
  refine⟨by show I64 0;unfold I64;omega,hI,by show I64 0;unfold I64;omega,⟨rfl,by unfold maxLen;omega,fun x hx=> ?_,.inr ⟨g9,rfl,by omega,by omega,fun i c2 t2 hx=> ?_⟩⟩,bN _ _ _ (by unfold I64;omega),bN _ _ _ (by unfold I64;omega)⟩
  ·rw[Mt.1 hx];exact hcc
  ·rcases i with _|i
   ·simp only[List.getElem?_cons_zero,Oi,Pj]at hx;obtain⟨rfl,rfl⟩:=hx;refine⟨(hcl 0 (by omega)).trans rfl,_,_,_,(hcl 1 (by omega)).trans rfl,(hcl 2 (by omega)).trans rfl,(hcl 3 (by omega)).trans rfl,?_⟩;exact h4.keep (by omega) (fun g hg hi=>by have q:wg<g:=hi;show w.heap.size≤g;omega) fun g hg hi=>k7 g hg (by
     intro e
     have q:wg<g:=hi
     omega)
   ·simp at hx
theorem qlA(w:World)(B rb bb:Nat)(A:OA)(c:Nat)(l:List Tk)(r r2:Rs)(sk:Bool)(lb cc:Int)(t:Tr)(h:RX w B rb A c l r)(hbb:w.heap[bb]? =some (.cells (cells0 sk lb) 54 (0,0)))(hne:bb≠rb)(hBb:B≤bb)(hI:I64 lb)(hcc:I64 cc)
 (n1:isA l r ⟨#[35]⟩=false) (n2:isA l r ⟨#[73,70]⟩=false) (n3:isA l r ⟨#[71,79,84,79]⟩=false) (n4:isA l r ⟨#[87,72,73,76,69]⟩=false) (n5:isA l r ⟨#[69,78,68]⟩=false) (n6:letA l r 79=false) (n7:letA l r 78=false) (n8:(tokA l r).kind=1) (n9:(tokA l r).n=cc)
 (hc:numA l (nxt r)=(t,r2)) (m1:isA l (nxt r) ⟨#[35]⟩=false) (m2:isA l (nxt r) ⟨#[91]⟩=false) (m3:isA l (nxt r) ⟨#[45]⟩=false) (m4:isA l (nxt r) ⟨#[43]⟩=false) (k1:(tokA l r2).kind≠1) (he:¬r2.1<l.length):
 Calls prog 101 #[.pointer (some ⟨rb,0,none⟩),.pointer (some ⟨bb,0,none⟩)] w (CtPost B rb bb A c l ⟨0,lb,sk,[(cc,t)],zeroT,zeroT,0⟩ r2 w):=by
 have HX:=Hd h;have HO:Hid (Only rb w w):=Only.refl _ _;have HBK:=Hd hbb;have hbl:=hlS hbb;have hbr:=h.lt;have hlt:r.1<l.length:=gG (by omega);clear h hbb;have HTV:Hid (∃p x,tkV (tokA l r)=.agg #[.int .i64 1,.int .i64 cc,.int .i64 p,.string x]):=⟨_,_,by unfold tkV;rw[n8,n9]⟩;obtain⟨tp,tx,hv⟩:=HTV.o;have HTV1:=Hd hv;clear hv HTV;go_enter func101,ntmps101;go_wp2_with(first
  |(go_at_call 98;(first|with_reducible refine(aR n1 HX.o).mono ?_|with_reducible refine(aR n2 HX.o).mono ?_|with_reducible refine(aR n3 HX.o).mono ?_|with_reducible refine(aR n4 HX.o).mono ?_|with_reducible refine(aR n5 HX.o).mono ?_);rintro e w1 ⟨rfl,hrp⟩;have HXn:=Hd hrp.1;have HOn:=Hd (HO.o.trans hrp.2);have HBn:=Hd ((hrp.2.2.2.2.2 _ (hlS HBK.o) hne).trans HBK.o);clear HX HO HBK hrp;have HX:=Hd HXn.o;have HO:=Hd HOn.o;have HBK:=Hd HBn.o;clear HXn HOn HBn)
  |(go_at_call 99;(refine(dJ n6 HX.o).mono ?_);rintro e w2 ⟨rfl,hb⟩;have HXn:=Hd (HX.o.below hb);have HOn:=Hd (HO.o.trans (Only.of_below hb));have HBn:=Hd ((hb.block _ (hlS HBK.o)).trans HBK.o);clear HX HO HBK hb;have HX:=Hd HXn.o;have HO:=Hd HOn.o;have HBK:=Hd HBn.o;clear HXn HOn HBn))
 go_loopw[] (fun W=>(RX W B rb A c l r∧Only rb w W∧W.heap[bb]? =some (.cells (cells0 sk lb) 54 (0,0)))∨CwEnd w B rb bb A c l r2 ⟨0,lb,sk,[(cc,t)],zeroT,zeroT,0⟩ W) (fun W=>cwM rb l W)
 case atStart=>exact .inl ⟨HX.o,HO.o,HBK.o⟩
 case round=>
  rcases hrel with⟨h1,h2,h3⟩|h1
  ·clear HX HO HBK;have HX:=Hd h1;have HO:=Hd h2;have HBK:=Hd h3;have HMS:Hid (cwM rb l wr=l.length-r.1):=qfV h1;clear h1 h2 h3;have fd0:=qD (.int .i64 1) (.int .i64 cc) (.int .i64 tp) (.string tx);have fd1:=wG (.int .i64 1) (.int .i64 cc) (.int .i64 tp) (.string tx);have tok1:=trivial;have tok2:=trivial;have tok3:=trivial;have tok4:=trivial;go_upto_region 4 with(first
    |(clear tok1;go_at_call 133;(refine(eA _ _ _ _ _ _ _ HX.o).mono ?_);rw[HTV1.o];rintro e w2 ⟨rfl,hb⟩;have HX2:=Hd (HX.o.below hb);have HO2:=Hd (HO.o.trans (Only.of_below hb));have HBK2:=Hd ((hb.block _ (hlS HBK.o)).trans HBK.o);clear hb)
    |(clear tok2;go_at_call 99;(refine(dJ n7 HX2.o).mono ?_);rintro e w3 ⟨rfl,hb⟩;have HX3:=Hd (HX2.o.below hb);have HO3:=Hd (HO2.o.trans (Only.of_below hb));have HBK3:=Hd ((hb.block _ (hlS HBK2.o)).trans HBK2.o);clear hb)
    |(clear tok3;go_at_call 99;(refine(dJ n6 HX3.o).mono ?_);rintro e w4 ⟨rfl,hb⟩;have HX4:=Hd (HX3.o.below hb);have HO4:=Hd (HO3.o.trans (Only.of_below hb));have HBK4:=Hd ((hb.block _ (hlS HBK3.o)).trans HBK3.o);clear hb)
    |(clear tok4;go_at_call 133;(refine(eA _ _ _ _ _ _ _ HX4.o).mono ?_);rw[HTV1.o];rintro e w5 ⟨rfl,hb⟩;have HB5:=Hd (hb.alloc hb.size (.cells #[.int .i64 cc,.int .i64 0,.int .i64 0,.slice none 0 0] 57));have HX5:=Hd (HX4.o.below HB5.o);have HO5:=Hd (HO4.o.trans (Only.of_below HB5.o));have HBK5:=Hd ((HB5.o.block _ (hlS HBK4.o)).trans HBK4.o);have hs45:=hb.size;clear hb;obtain⟨c0,c1,c2,cf⟩:=HX5.o.cells;have hml:=HX5.o.tok.1)
    |(go_at_call 140;(refine(qaZ hc m1 m2 m3 m4 (HX5.o.next hlt)).mono ?_);rintro e w6 ⟨x,y,z,rfl,hz,hrp⟩;obtain⟨xo,xn,xA,xk,xc,rfl,rfl,rfl⟩:=hz.form;have HZ:=Hd hz;have HX6:=Hd hrp.1;have HO6:=Hd (((HO5.o.trans (HX5.o.only _ _)).trans hrp.2));have HON:=Hd hrp.2;have hsz5:w5.heap.size<(w5.alloc (.cells #[.int .i64 cc,.int .i64 0,.int .i64 0,.slice none 0 0] 57)).heap.size:=(by simp);have hrb5:rb<w5.heap.size:=Lt HX4.o.lt hs45;have hbb5:bb<w5.heap.size:=Lt (hlS HBK4.o) hs45;have HBK6:=Hd ((hrp.2.2.2.2.2 bb (by{simp[World.setCell];omega}) hne).trans ((Bj _ _ _ bb hne).trans HBK5.o));have HWD6:Hid (w6.heap[w5.heap.size]? =some (.cells #[.int .i64 cc,.int .i64 0,.int .i64 0,.slice none 0 0] 57 (0,0))):=((hrp.2.2.2.2.2 w5.heap.size (by{simp[World.setCell]}) (by omega)).trans ((Bj _ _ _ w5.heap.size (show w5.heap.size≠rb by omega)).trans (Hn _ _)));have e1:w6.cell? ⟨w5.heap.size,1,none⟩=some (.int .i64 0):=Ro w6 _ 1 _ _ _ HWD6.o;have e2:w6.cell? ⟨w5.heap.size,2,none⟩=some (.int .i64 0):=Ro w6 _ 2 _ _ _ HWD6.o;have e3:w6.cell? ⟨w5.heap.size,3,none⟩=some (.slice none 0 0):=Ro w6 _ 3 _ _ _ HWD6.o;have ef:∀i,w6.frozen? ⟨w5.heap.size,i,none⟩=false:=(fun i=>by simp[World.frozen?,HWD6.o]);clear hrp hz))
   obtain⟨wg,hwg⟩:∃wg,wg=w5.heap.size:=⟨_,rfl⟩;rw[←hwg]at hrb5 hbb5 e1 e2 e3 ef;have HWD6':Hid (w6.heap[wg]? =some (.cells #[.int .i64 cc,.int .i64 0,.int .i64 0,.slice none 0 0] 57 (0,0))):=by unfold Hid;rw[hwg];exact HWD6.o
   obtain⟨W7,hW7⟩:∃W7,W7=((w6.setCell ⟨wg,1,none⟩ (.int .i64 xo)).setCell ⟨wg,2,none⟩ (.int .i64 xn)).setCell ⟨wg,3,none⟩ (.slice xA xk xc):=⟨_,rfl⟩;rw[←hwg,←hW7];have hws:w.heap.size≤wg:=by rw[hwg];exact Ly HO4.o.size hs45
   have hk7:∀q,q≠wg→W7.heap[q]? =w6.heap[q]? :=fun q hq=>by rw[hW7];exact aL w6 wg 1 q _ _ _ hq
   have hs7:W7.heap.size=w6.heap.size:=by rw[hW7];simp[World.setCell]
   have HX7:Hid (RX W7 B rb A c l r2):=by unfold Hid;rw[hW7];exact((HX6.o.put (show wg≠rb by omega) (by have:=HX6.o.ge;omega) 1 _).put (show wg≠rb by omega) (by have:=HX6.o.ge;omega) 2 _).put (show wg≠rb by omega) (by have:=HX6.o.ge;omega) 3 _
   have HBK7:Hid (W7.heap[bb]? =some (.cells (cells0 sk lb) 54 (0,0))):=(hk7 bb (by omega)).trans HBK6.o;have HWD7:Hid (W7.heap[wg]? =some (.cells #[.int .i64 cc,.int .i64 xo,.int .i64 xn,.slice xA xk xc] 57 (0,0))):=by
    unfold Hid;rw[hW7];have q1:=aD (i:=1) (u:=.int .i64 xo) HWD6'.o;have q2:=aD (i:=2) (u:=.int .i64 xn) q1;have q3:=aD (i:=3) (u:=.slice xA xk xc) q2;simpa using q3
   have hwg7:wg<W7.heap.size:=hlS HWD7.o;have HO7:Hid (Only rb w W7):=⟨HO6.o.1.symm▸(by rw[hW7];rfl),HO6.o.2.1.symm▸(by rw[hW7];rfl),HO6.o.2.2.1.symm▸(by rw[hW7];rfl),by rw[hs7];exact HO6.o.size,fun g hg hb=>(hk7 g (by omega)).trans (HO6.o.2.2.2.2 g hg hb)⟩;have HZ7:Hid (Rz W7 (fun g=>wg<g) t (.agg #[.int .i64 xo,.int .i64 xn,.slice xA xk xc])):=by
    have hsz5':wg<((w5.alloc (.cells #[.int .i64 cc,.int .i64 0,.int .i64 0,.slice none 0 0] 57)).setCell ⟨rb,1,none⟩ (.int .i64 ((r.1:Int)+1))).heap.size:=by rw[hwg];simp[World.setCell]
    refine HZ.o.keep (by omega) (fun g _ hg=> ?_) (fun g _ hg=> ?_)
    ·exact Lt hsz5' hg
    ·exact hk7 g (by have q:=Lt hsz5' hg;omega)
   have y0:=ce0 HWD7.o;have y1:=ce1 HWD7.o;have y2:=ce2 HWD7.o;have y3:=ce3 HWD7.o;have z3:W7.cell? ⟨bb,3,none⟩=some (.slice none 0 0):=Ro W7 _ 3 _ _ _ HBK7.o;have hbb7:bb<W7.heap.size:=hlS HBK7.o;have hww7:=HO7.o.size;have hbw:bb≠wg:=by omega
   obtain⟨iW,zW,hiW,hW0,hW1,hW2,hWs⟩:=cY;have HIW:=Hd hiW;have HZW:=Hd hW0;obtain⟨W8,hW8⟩:∃W8,W8=(W7.alloc (.cells #[.int .i64 cc,.int .i64 xo,.int .i64 xn,.slice xA xk xc] 57)).drew:=⟨_,rfl⟩;have HW8:=Hd hW8;have HB8:Hid (Bw W7 W8):=by unfold Hid;rw[hW8];exact aA (nB _ _) 1
   have HN8:Hid (W8.heap[W7.heap.size]? =some (.cells #[.int .i64 cc,.int .i64 xo,.int .i64 xn,.slice xA xk xc] 57 (0,0))):=by unfold Hid;rw[hW8];exact Hn W7 _
   have hs8:W8.heap.size=W7.heap.size+1:=by rw[hW8];show(W7.alloc _).heap.size=_;simp
   have S3:Hid (W8.cell? ⟨wg,0,none⟩=some (.int .i64 cc)∧W8.cell? ⟨wg,1,none⟩=some (.int .i64 xo)∧W8.cell? ⟨wg,2,none⟩=some (.int .i64 xn)∧W8.cell? ⟨wg,3,none⟩=some (.slice xA xk xc)):=⟨HB8.o.ct hwg7 y0,HB8.o.ct hwg7 y1,HB8.o.ct hwg7 y2,HB8.o.ct hwg7 y3⟩;have z38:W8.cell? ⟨bb,3,none⟩=some (.slice none 0 0):=HB8.o.ct hbb7 z3;have HOW:Hid (W8.ownsRow w.heap.size 57 4 (.slice none 0 0) 0 []):=World.ownsRow_nil _ _ _ _;clear hiW hW0 hW8 hW7 hwg;refine wp_region_noPanic ?_;refine wp_region_held_drew (S:=(fun w'=>w'.cell? ⟨wg,0,none⟩=some (.int .i64 cc)∧w'.cell? ⟨wg,1,none⟩=some (.int .i64 xo)∧w'.cell? ⟨wg,2,none⟩=some (.int .i64 xn)∧w'.cell? ⟨wg,3,none⟩=some (.slice xA xk xc))) (by kernel_rfl) ⟨y0,y1,y2,y3⟩ (fun hH=> ?_);refine tkL 0 (v:= ?_) rfl ?_ (by assumption) ?_;rotate_left
   ·rintro w1-
    go_simp<;>with_reducible rfl
   try simp only[Act.put,L0,L4,L5]
   refine tkL 1 (v:= ?_) rfl ?_ (by assumption) ?_;rotate_left
   ·rintro w1-
    go_simp<;>with_reducible rfl
   try simp only[Act.put,L0,L4,L5]
   refine tkL 2 (v:= ?_) rfl ?_ (by assumption) ?_;rotate_left
   ·rintro w1-
    go_simp<;>with_reducible rfl
   try simp only[Act.put,L0,L4,L5]
   refine tkL 3 (v:= ?_) rfl ?_ (by assumption) ?_;rotate_left
   ·rintro w1-
    go_simp<;>with_reducible rfl
   try simp only[Act.put,L0,L4,L5]
   refine tkL 5 (v:= ?_) rfl ?_ (by assumption) ?_;rotate_left
   ·intro w1 hSw;obtain⟨hS0,hS1,hS2,hS3⟩:=hSw;go_simp<;>with_reducible rfl
   try simp only[Act.put,L0,L4,L5]
   refine rd2 4 6 rfl rfl (fun K hK=> ?_) fun K hK=> ?_
   ·go_simp;refine hK.o _ _ ?_ (fun hH=> ?_)
    ·exact⟨y0,y1,y2,y3⟩
    clear hK K;try simp only[Act.put,L0,L4,L5]
    refine rd1 6 rfl fun K hK=> ?_;go_simp;rw[←HW8.o];refine hK.o _ _ ?_ (fun hH=> ?_)
    ·exact S3.o
    clear hK K;try simp only[Act.put,L0,L4,L5]
    refine rd1 7 rfl fun K hK=> ?_;refine step_append_lies _ rfl (.tmp 37) (.tmp 39) 49 rfl w.heap.size 57 iW zW 4 48 underlying49 HIW.o HZW.o hW1 hW2 hWs (by omega) (.slice none 0 0) 0 [] (by simp[Act.eval,Act.put]) HOW.o ⟨W7.heap.size,0,none⟩ 1 1 [.int .i64 cc,.int .i64 xo,.int .i64 xn,.slice xA xk xc] (by simp[Act.eval,Act.put]) rfl (Nk HN8.o) (by intro u hu;simp at hu;rcases hu with rfl|rfl|rfl|rfl<;>rfl) (by omega) (by unfold maxLen;omega) (by omega) (by omega) _ rfl ?_;intro g9 c9 w9 ho9 hg9 hl9 hlt9;have k9:∀q,q<W8.heap.size→w9.heap[q]? =W8.heap[q]? :=fun q hq=>hg9.block q hq (by simp[Value.ownBlock]);have HEND:Hid (CwEnd w B rb bb A c l r2 ⟨0,lb,sk,[(cc,t)],zeroT,zeroT,0⟩ (w9.setCell ⟨bb,3,none⟩ (.slice (some ⟨g9,0,none⟩) 1 c9))):=qrS HX7.o HO7.o HBK7.o HZ7.o hws HB8.o hs8 k9 hg9 (by simpa using ho9) (by simpa[Value.ownBlock]using hl9) hne hBb hI hcc hbb5;have z39:w9.cell? ⟨bb,3,none⟩=some (.slice none 0 0):=(aB (k9 _ (by omega))).trans z38;have z3f:w9.frozen? ⟨bb,3,none⟩=false:=(cekF bb 3 ((k9 bb (by omega)).trans (HB8.o.block bb hbb7))).trans (by simp[World.frozen?,HBK7.o]);have S4:Hid (w9.cell? ⟨wg,0,none⟩=some (.int .i64 cc)∧w9.cell? ⟨wg,1,none⟩=some (.int .i64 xo)∧w9.cell? ⟨wg,2,none⟩=some (.int .i64 xn)∧w9.cell? ⟨wg,3,none⟩=some (.slice xA xk xc)):=⟨(aB (k9 wg (by omega))).trans S3.o.1,(aB (k9 wg (by omega))).trans S3.o.2.1,(aB (k9 wg (by omega))).trans S3.o.2.2.1,(aB (k9 wg (by omega))).trans S3.o.2.2.2⟩;have kS:∀(v:Value) (o:Nat),(w9.setCell ⟨bb,3,none⟩ v).cell? ⟨wg,o,none⟩=w9.cell? ⟨wg,o,none⟩:=fun v o=>aB (Bj _ _ _ wg (fun e=>hbw e.symm));have S5:Hid (∀v:Value,(w9.setCell ⟨bb,3,none⟩ v).cell? ⟨wg,0,none⟩=some (.int .i64 cc)∧(w9.setCell ⟨bb,3,none⟩ v).cell? ⟨wg,1,none⟩=some (.int .i64 xo)∧(w9.setCell ⟨bb,3,none⟩ v).cell? ⟨wg,2,none⟩=some (.int .i64 xn)∧(w9.setCell ⟨bb,3,none⟩ v).cell? ⟨wg,3,none⟩=some (.slice xA xk xc)):=fun v=>⟨(kS v _).trans S4.o.1,(kS v _).trans S4.o.2.1,(kS v _).trans S4.o.2.2.1,(kS v _).trans S4.o.2.2.2⟩;clear ho9 hg9 hl9 hlt9 k9 kS;refine hK.o _ _ ?_ (fun hH=> ?_)
    ·exact S4.o
    clear hK K;try simp only[Act.put,L0,L4,L5]
    refine tkL 8 (v:= ?_) rfl ?_ (by assumption) ?_;rotate_left
    ·rintro w1-
     go_simp<;>with_reducible rfl
    try simp only[Act.put,L0,L4,L5]
    refine tkL 9 (v:= ?_) rfl ?_ (by assumption) ?_;rotate_left
    ·rintro w1-
     go_simp<;>with_reducible rfl
    try simp only[Act.put,L0,L4,L5]
    refine rd1 10 rfl fun K hK=> ?_;go_simp;refine hK.o _ _ ?_ (fun hH=> ?_)
    ·exact S5.o _
    clear hK K;try simp only[Act.put,L0,L4,L5]
    refine wpAnyH_done (by kernel_rfl) ?_ _;refine NoPanic.normal ?_;go_wp2_with fail;exact⟨.inr HEND.o,by rw[HMS.o,qfV HEND.o.1];have:=qhE hc;omega⟩
   ·go_simp;rw[←HW8.o];refine hK.o _ _ ?_ (fun hH=> ?_)
    ·exact S3.o
    clear hK K;try simp only[Act.put,L0,L4,L5]
    refine rd1 4 rfl fun K hK=> ?_;go_simp;refine hK.o _ _ ?_ (fun hH=> ?_)
    ·exact S3.o
    clear hK K;try simp only[Act.put,L0,L4,L5]
    refine rd1 7 rfl fun K hK=> ?_;refine step_append_lies _ rfl (.tmp 37) (.tmp 39) 49 rfl w.heap.size 57 iW zW 4 48 underlying49 HIW.o HZW.o hW1 hW2 hWs (by omega) (.slice none 0 0) 0 [] (by simp[Act.eval,Act.put]) HOW.o ⟨W7.heap.size,0,none⟩ 1 1 [.int .i64 cc,.int .i64 xo,.int .i64 xn,.slice xA xk xc] (by simp[Act.eval,Act.put]) rfl (Nk HN8.o) (by intro u hu;simp at hu;rcases hu with rfl|rfl|rfl|rfl<;>rfl) (by omega) (by unfold maxLen;omega) (by omega) (by omega) _ rfl ?_;intro g9 c9 w9 ho9 hg9 hl9 hlt9;have k9:∀q,q<W8.heap.size→w9.heap[q]? =W8.heap[q]? :=fun q hq=>hg9.block q hq (by simp[Value.ownBlock]);have HEND:Hid (CwEnd w B rb bb A c l r2 ⟨0,lb,sk,[(cc,t)],zeroT,zeroT,0⟩ (w9.setCell ⟨bb,3,none⟩ (.slice (some ⟨g9,0,none⟩) 1 c9))):=qrS HX7.o HO7.o HBK7.o HZ7.o hws HB8.o hs8 k9 hg9 (by simpa using ho9) (by simpa[Value.ownBlock]using hl9) hne hBb hI hcc hbb5;have z39:w9.cell? ⟨bb,3,none⟩=some (.slice none 0 0):=(aB (k9 _ (by omega))).trans z38;have z3f:w9.frozen? ⟨bb,3,none⟩=false:=(cekF bb 3 ((k9 bb (by omega)).trans (HB8.o.block bb hbb7))).trans (by simp[World.frozen?,HBK7.o]);have S4:Hid (w9.cell? ⟨wg,0,none⟩=some (.int .i64 cc)∧w9.cell? ⟨wg,1,none⟩=some (.int .i64 xo)∧w9.cell? ⟨wg,2,none⟩=some (.int .i64 xn)∧w9.cell? ⟨wg,3,none⟩=some (.slice xA xk xc)):=⟨(aB (k9 wg (by omega))).trans S3.o.1,(aB (k9 wg (by omega))).trans S3.o.2.1,(aB (k9 wg (by omega))).trans S3.o.2.2.1,(aB (k9 wg (by omega))).trans S3.o.2.2.2⟩;have kS:∀(v:Value) (o:Nat),(w9.setCell ⟨bb,3,none⟩ v).cell? ⟨wg,o,none⟩=w9.cell? ⟨wg,o,none⟩:=fun v o=>aB (Bj _ _ _ wg (fun e=>hbw e.symm));have S5:Hid (∀v:Value,(w9.setCell ⟨bb,3,none⟩ v).cell? ⟨wg,0,none⟩=some (.int .i64 cc)∧(w9.setCell ⟨bb,3,none⟩ v).cell? ⟨wg,1,none⟩=some (.int .i64 xo)∧(w9.setCell ⟨bb,3,none⟩ v).cell? ⟨wg,2,none⟩=some (.int .i64 xn)∧(w9.setCell ⟨bb,3,none⟩ v).cell? ⟨wg,3,none⟩=some (.slice xA xk xc)):=fun v=>⟨(kS v _).trans S4.o.1,(kS v _).trans S4.o.2.1,(kS v _).trans S4.o.2.2.1,(kS v _).trans S4.o.2.2.2⟩;clear ho9 hg9 hl9 hlt9 k9 kS;refine hK.o _ _ ?_ (fun hH=> ?_)
    ·exact S4.o
    clear hK K;try simp only[Act.put,L0,L4,L5]
    refine tkL 8 (v:= ?_) rfl ?_ (by assumption) ?_;rotate_left
    ·rintro w1-
     go_simp<;>with_reducible rfl
    try simp only[Act.put,L0,L4,L5]
    refine tkL 9 (v:= ?_) rfl ?_ (by assumption) ?_;rotate_left
    ·rintro w1-
     go_simp<;>with_reducible rfl
    try simp only[Act.put,L0,L4,L5]
    refine rd1 10 rfl fun K hK=> ?_;go_simp;refine hK.o _ _ ?_ (fun hH=> ?_)
    ·exact S5.o _
    clear hK K;try simp only[Act.put,L0,L4,L5]
    refine wpAnyH_done (by kernel_rfl) ?_ _;refine NoPanic.normal ?_;go_wp2_with fail;exact⟨.inr HEND.o,by rw[HMS.o,qfV HEND.o.1];have:=qhE hc;omega⟩
  ·obtain⟨h1,h2,h3⟩:=h1;have HX1:=Hd h1;have HC1:=Hd h2;have H3:=Hd h3;clear h1 h2 h3 HX HO HBK;have HTK:=Hd (eA wr B rb A c l r2 HX1.o);generalize tokA l r2=tk at HTK k1;obtain⟨tkk,tkn,tkp,tkx⟩:=tk;unfold tkV at HTK;dsimp only at HTK k1;have k1':(tkk==1)=false:=by simpa using k1
   have fd0:=qD (.int .i64 tkk) (.int .i64 tkn) (.int .i64 tkp) (.string tkx);have hge:decide ((r2.1:Int)<(l.length:Int))=false:=Df (by omega);go_upto_region 30 with(go_at_call 133;(refine HTK.o.mono ?_);rintro e w2 ⟨rfl,hb⟩;have HX2:=Hd (HX1.o.below hb);have HB2:=Hd hb;clear hb;obtain⟨c0,c1,c2,cf⟩:=HX2.o.cells)
   go_quiet(fail);go_wp2_with fail;obtain⟨A',n',c',l0,l1,l2,x0,x1,x2,q1,q2⟩:=H3.o;have hbl2:=Chg.of_below (O:=fun g=>g=rb∨g=bb) HB2.o;exact bodyPost_end (results_none results101 _ _ _) rfl ⟨rfl,HX2.o.below (aA (Bf _ _) nq),(HC1.o.trans hbl2).drewN nq,A',n',c',l0,l1,l2,x0,x1,x2,(HB2.o.block _ (hlS q1)).trans q1,Bz.keep HB2.o.size (fun _ _ h=>h) (fun g hg _=>HB2.o.block g hg) q2⟩
