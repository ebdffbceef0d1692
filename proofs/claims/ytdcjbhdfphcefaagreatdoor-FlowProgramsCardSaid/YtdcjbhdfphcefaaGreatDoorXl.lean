/- The reader o. -/
import Derived.Test.YtdcjbhdfphcefaaGreatDoorXe
namespace Go.Proofs.YtdcjbhdfphcefaaGreatDoor
set_option linter.all false
set_option maxRecDepth 100000
set_option maxHeartbeats 16000000
open Go.Proofs.Tryz
open Go.RowKit
def lfM(rb:Nat)(l:List Tk)(W:World):Nat:=match W.cell? ⟨rb,1,none⟩,W.cell? ⟨rb,2,none⟩with
 |some (.int _ p),some (.int _ b)=>zaX l (p.toNat,b)
 |_,_=>0
theorem zK{w:World}{B rb:Nat}{A:OA}{c:Nat}{l:List Tk}{r:Rs}(h:RX w B rb A c l r):lfM rb l w=zaX l r:=by
 obtain⟨_,c1,c2,_⟩:=h.cells;unfold lfM;rw[c1,c2];rfl
structure LvI(w:World)(B rb:Nat)(A:OA)(c:Nat)(l:List Tk)(r:Rs)(n b0 xb:Nat)(t:Tr)(r':Rs)(x y z:Value)(W:World):Prop where
 rx:RX W B rb A c l r'
 left:zaX l r'<=zaX l r
 only:zaZ rb w W
 rb0:RB W w.heap.size
 xc:W.heap[xb]? =some (.cells #[x,y,z] 52 (0,0))
 rz:Rz W (λg=>b0<=g/\g≠xb) t (.agg #[x,y,z])
 sg:W.heap[xb+1]? =some (.cells (zgK n) 9 (0,0))
 og:W.heap[xb+2]? =some (.cells (ziQ n) 3 (0,0))
theorem LvI.move{w W W':World}{B rb:Nat}{A:OA}{c:Nat}{l:List Tk}{r r' r2:Rs}{n b0 xb:Nat}{t:Tr}{x y z:Value}(h:LvI w B rb A c l r n b0 xb t r' x y z W)(hr:RP B rb A c l r2 W W')(hb:rb<w.heap.size)(hw:w.heap.size<b0)(hx:b0<=xb)(hl:zaX l r2<=zaX l r):LvI w B rb A c l r n b0 xb t r2 x y z W':=by
 have ho:=hr.2;have q1:=hlS h.xc;have q2:=hlS h.sg;have q3:=hlS h.og;exact⟨hr.1,hl,h.only.trans ho,h.rb0.only ho hb,(ho.2.2.2.2 _ q1 (by omega)).trans h.xc,h.rz.keep ho.2.2.2.1 (λ_ _ q=>q) λg hg hi=>ho.2.2.2.2 g hg (by omega),(ho.2.2.2.2 _ q2 (by omega)).trans h.sg,(ho.2.2.2.2 _ q3 (by omega)).trans h.og⟩
theorem LvI.push{w W W2:World}{B rb:Nat}{A:OA}{c:Nat}{l:List Tk}{r r':Rs}{n b0 xb:Nat}{t:Tr}{x y z x2 y2 z2:Value}{q:Tr×Rs}{op:Int}(h:LvI w B rb A c l r n b0 xb t r' x y z W)(hz:Rz W2 (λg=>W.heap.size<=g) q.1 (.agg #[x2,y2,z2]))(hr:RP B rb A c l q.2 W W2)(hb:rb<w.heap.size)(hw:w.heap.size<b0)(hx:b0<=xb)(hl:zaX l q.2<=zaX l r)(ho:I64 op):
 LvI w B rb A c l r n b0 xb (t2 op t q.1) q.2 (.int .i64 op) (.int .i64 0) (.slice (some ⟨W2.heap.size,0,none⟩) 2 2) ((((W2.setCell ⟨xb,0,none⟩ (.int .i64 op)).setCell ⟨xb,1,none⟩ (.int .i64 0)).setCell ⟨xb,2,none⟩ (.slice (some ⟨W2.heap.size,0,none⟩) 2 2)).alloc (.cells #[x,y,z,x2,y2,z2] 52)):=by
 have m:=h.move hr hb hw hx hl;obtain⟨X,hX⟩:∃X,X=((W2.setCell ⟨xb,0,none⟩ (.int .i64 op)).setCell ⟨xb,1,none⟩ (.int .i64 0)).setCell ⟨xb,2,none⟩ (.slice (some ⟨W2.heap.size,0,none⟩) 2 2):=⟨_,rfl⟩;have hXs:X.heap.size=W2.heap.size:=by rw[hX];exact bJ W2 xb 0 _ _ _
 have hk:∀g,g≠xb->X.heap[g]? =W2.heap[g]? :=λg hg=>by rw[hX];exact aL W2 xb 0 g _ _ _ hg
 have hxc:X.heap[xb]? =some (.cells #[.int .i64 op,.int .i64 0,.slice (some ⟨W2.heap.size,0,none⟩) 2 2] 52 (0,0)):=by rw[hX];exact bB m.xc
 have l1:=hlS h.xc;have l2:=hlS m.sg;have l3:=hlS m.og;have l4:=hlS m.rb0.blk;have l5:=hlS m.xc;have hs:=hr.2.2.2.2.1;have hXo:zaZ rb w X:=by rw[hX];exact gL m.only (by omega) _ _ _
 have hXr:RX X B rb A c l q.2:=by rw[hX];exact m.rx.set3 (by omega) _ _ _
 rw[<-hX];have hbl:Bw X (X.alloc (.cells #[x,y,z,x2,y2,z2] 52)):=nB _ _;have hnew:=Hn X (.cells #[x,y,z,x2,y2,z2] 52);rw[hXs]at hnew;have kz:∀g,g<W2.heap.size->g≠xb->(X.alloc (.cells #[x,y,z,x2,y2,z2] 52)).heap[g]? =W2.heap[g]? :=λg hg hn=>(hbl.block g (by omega)).trans (hk g hn);have hsz:=hbl.size;refine⟨hXr.below hbl,hl,hXo.trans (zaZ.of_below hbl),⟨(kz _ l4 (by omega)).trans m.rb0.blk⟩,(hbl.block _ (by omega)).trans hxc,?_,(kz _ l2 (by omega)).trans m.sg,(kz _ l3 (by omega)).trans m.og⟩;have rzA:Rz (X.alloc (.cells #[x,y,z,x2,y2,z2] 52)) (λg=>b0<=g/\g≠xb) t (.agg #[x,y,z]):=m.rz.keep (by omega) (λ_ _ q=>q) λg hg hi=>kz g hg hi.2;have rzB:Rz (X.alloc (.cells #[x,y,z,x2,y2,z2] 52)) (λg=>b0<=g/\g≠xb) q.1 (.agg #[x2,y2,z2]):=hz.keep (by omega) (λg _ (hg:W.heap.size<=g)=>⟨by omega,by omega⟩) λg hg (hi:W.heap.size<=g)=>kz g hg (by omega);refine⟨_,2,rfl,ho,by unfold I64;omega,by unfold maxLen;omega,.inr ⟨W2.heap.size,rfl,⟨by omega,by omega⟩,hlS hnew,λi hi=> ?_⟩⟩;obtain rfl|rfl:i=0\/i=1:=by omega
 ·exact⟨x,y,z,Ro _ _ 0 _ _ _ hnew,Ro _ _ 1 _ _ _ hnew,Ro _ _ 2 _ _ _ hnew,rzA⟩
 ·exact⟨x2,y2,z2,Ro _ _ 3 _ _ _ hnew,Ro _ _ 4 _ _ _ hnew,Ro _ _ 5 _ _ _ hnew,rzB⟩
theorem LvI.done{w W:World}{B rb:Nat}{A:OA}{c:Nat}{l:List Tk}{r r':Rs}{n b0 xb:Nat}{t:Tr}{x y z:Value}(h:LvI w B rb A c l r n b0 xb t r' x y z W)(hb:rb<w.heap.size)(hw:w.heap.size<b0):
 XP B rb A c l (t,r') w (.returned (.agg #[x,y,z])) (((W.setCell ⟨w.heap.size,0,none⟩ x).setCell ⟨w.heap.size,1,none⟩ y).setCell ⟨w.heap.size,2,none⟩ z):=
 ⟨x,y,z,rfl,h.rz.keep (Nat.le_of_eq (bJ W w.heap.size 0 x y z).symm) (λg _ hg=>by have:=hg.1;show w.heap.size<=g;omega) (λg _ hg=>aL W w.heap.size 0 g x y z (by have:=hg.1;omega)),h.rx.set3 hb _ _ _,gL h.only (Le _) _ _ _⟩
def LvR(w:World)(B rb:Nat)(A:OA)(c:Nat)(l:List Tk)(r:Rs)(n b0 xb:Nat)(Q:Tr×Rs)(again:Value)(W:World):Prop:=
 ∃(b:Bool) (t:Tr) (r':Rs) (x y z:Value),again=.bool b/\LvI w B rb A c l r n b0 xb t r' x y z W/\(b=true->EX l (.lop n t) r'=Q)/\(b=false->(t,r')=Q)
def LvJ(w:World)(B rb:Nat)(A:OA)(c:Nat)(l:List Tk)(r:Rs)(n b0 xb:Nat)(t0:Tr)(r0:Rs)(again i:Value)(W:World):Prop:=
 ∃(b:Bool) (k:Nat) (t:Tr) (r':Rs) (x y z:Value),again=.bool b/\i=.int .i64 (k:Int)/\k<=(zdC n).length/\LvI w B rb A c l r n b0 xb t r' x y z W/\(b=false->t=t0/\r'=r0/\zdP l r0 (zdC n)=zdP l r0 ((zdC n).drop k))/\
  (b=true->∃op,zdP l r0 (zdC n)=some op/\t=t2 op t0 (EX l (.lev (n+1)) (nxt r0)).1/\r'=(EX l (.lev (n+1)) (nxt r0)).2)
theorem qxP:∀n,∀p∈zdC n,I64 p.2:=by
 intro n p hp;rcases n with _|_|_|_|n<;>simp only[zdC,List.mem_cons,List.not_mem_nil,or_false]at hp<;>(rcases hp with rfl|rfl|rfl|rfl|rfl|rfl)<;>(unfold I64;dsimp only;omega)
theorem qhD(n:Nat):1<=(zdC n).length/\(zdC n).length<=6:=by
 rcases n with _|_|_|_|n<;>simp[zdC]
theorem qbP(w:World)(B rb:Nat)(A:OA)(c:Nat)(l:List Tk)(r:Rs)(h:RX w B rb A c l r)(k:∀W,RX W B rb A c l r->Calls prog 170 #[.pointer (some ⟨rb,0,none⟩)] W (XP B rb A c l (EX l .una r) W)):
 Calls prog 138 #[.pointer (some ⟨rb,0,none⟩),.int .i64 5] w (XP B rb A c l (EX l (.lev 5) r) w):=by
 have K:=Hd k;clear k;rw[qwA];obtain⟨W0,hW0,HB0,-⟩:=newW w #[.int .i64 0,.int .i64 0,.slice none 0 0] 52;have HR0:Hid (RB W0 w.heap.size):=by unfold Hid;rw[hW0];exact RB.start w
 have hlt:=h.lt;have HX0:=Hd (h.below HB0.o);have HO0:Hid (zaZ rb w W0):=zaZ.of_below HB0.o;have hs0:w.heap.size<W0.heap.size:=hlS HR0.o.blk;clear h;go_enter func138,ntmps138;go_wp2_with(rw[<-hW0];clear hW0;go_at_call 170;refine(K.o _ HX0.o).mono ?_;rintro e w3 ⟨x,y,z,rfl,hz,hrp⟩;obtain⟨xo,xn,xA,xk,xc,rfl,rfl,rfl⟩:=hz.form;have HZ:=Hd hz;have HRP:=Hd hrp;have HR3:=Hd (HR0.o.only hrp.2 hlt);obtain⟨m0,m1,m2,mf⟩:=HR3.o.facts;have hs3:w.heap.size<w3.heap.size:=hlS HR3.o.blk;clear hz hrp);exact bodyPost_ret (aN results138 _ _ w.heap.size _ _ _ _ rfl (bB HR3.o.blk) underlying52 (by kernel_rfl)) rfl (XP.done HO0.o HZ.o HRP.o hlt hs0)
theorem qeS(n:Nat)(hn:n<5)(w:World)(B rb:Nat)(A:OA)(c:Nat)(l:List Tk)(r:Rs)(h:RX w B rb A c l r)(k:∀r' W,zaX l r'<=zaX l r->RX W B rb A c l r'->Calls prog 138 #[.pointer (some ⟨rb,0,none⟩),.int .i64 (n+1:Nat)] W (XP B rb A c l (EX l (.lev (n+1)) r') W)):
 Calls prog 138 #[.pointer (some ⟨rb,0,none⟩),.int .i64 n] w (XP B rb A c l (EX l (.lev n) r) w):=by
 have K:=Hd k;clear k;obtain⟨W0,hW0,HB0,-⟩:=newW w #[.int .i64 0,.int .i64 0,.slice none 0 0] 52;have HR0:Hid (RB W0 w.heap.size):=by unfold Hid;rw[hW0];exact RB.start w
 have hlt:=h.lt;have HX0:=Hd (h.below HB0.o);have HO0:Hid (zaZ rb w W0):=zaZ.of_below HB0.o;have hs0:w.heap.size<W0.heap.size:=hlS HR0.o.blk;clear h;have K0:=Hd (K.o r W0 (Le _) HX0.o);have hQ:=zaT l n hn r;have hlq:=gJ l (.lev (n+1)) r;have g5:((n:Int)==5)=false:=beq_eq_false_iff_ne.2 (by omega);have wn:IntKind.i64.wrap ((n:Int)+1)=((n+1:Nat):Int):=by rw[IntWalk.i64_in _ (by omega)];omega
 have HOPS:Hid (∀W,Calls prog 171 #[.int .i64 n] W λe w'=>e=.returned (.tuple #[.slice (some ⟨W.heap.size,0,none⟩) (zdC n).length (zdC n).length,.slice (some ⟨W.heap.size+1,0,none⟩) (zdC n).length (zdC n).length])/\w'=(W.alloc (.cells (zgK n) 9)).alloc (.cells (ziQ n) 3)):=λW=>vO n hn W;obtain⟨hf1,hf2⟩:=qhD n;obtain⟨M,hM⟩:∃M,M=(zdC n).length:=⟨_,rfl⟩;rw[<-hM]at hf1 hf2;obtain⟨Q,hQe⟩:∃Q,EX l (.lev n) r=Q:=⟨_,rfl⟩;rw[hQe]at hQ⊢
 have HQ:=Hd hQ.symm;have HM:=Hd hM;clear hQ hQe hM;go_enter func138,ntmps138;go_wp2_with fail;rw[<-hW0];clear hW0;try rw[wn]
 refine K0.o.mono ?_;rintro e w1 ⟨x,y,z,rfl,hz,hrp⟩;obtain⟨xo,xn,xA,xk,xc,rfl,rfl,rfl⟩:=hz.form;obtain⟨W1,hW1,HB1,-⟩:=newW w1 #[.int .i64 xo,.int .i64 xn,.slice xA xk xc] 52;have hW1s:W1.heap.size=w1.heap.size+1:=by rw[hW1];exact Array.size_push _
 obtain⟨W2,hW2⟩:∃W2,W2=(W1.alloc (.cells (zgK n) 9)).alloc (.cells (ziQ n) 3):=⟨_,rfl⟩;have hI:LvI w B rb A c l r n W0.heap.size w1.heap.size (EX l (.lev (n+1)) r).1 (EX l (.lev (n+1)) r).2 (.int .i64 xo) (.int .i64 xn) (.slice xA xk xc) W2:=by
  have hb2:Bw W1 W2:=by rw[hW2];exact(nB _ _).alloc (by simp) _
  have hb:Bw w1 W2:=HB1.o.tm hb2;have n1:W1.heap[w1.heap.size]? =some (.cells #[.int .i64 xo,.int .i64 xn,.slice xA xk xc] 52 (0,0)):=by rw[hW1];exact Hn _ _
  have n2:W2.heap[W1.heap.size]? =some (.cells (zgK n) 9 (0,0)):=by rw[hW2];exact(Bm _ _ _ (by simp)).trans (Hn W1 _)
  have n3:W2.heap[W1.heap.size+1]? =some (.cells (ziQ n) 3 (0,0)):=by
   rw[hW2];have:=Hn (W1.alloc (.cells (zgK n) 9)) (.cells (ziQ n) 3);simpa using this
  rw[hW1s]at n2 n3;refine⟨hrp.1.below hb,hlq,(HO0.o.trans hrp.2).trans (zaZ.of_below hb),(HR0.o.only hrp.2 hlt).below hb,(hb2.block _ (hlS n1)).trans n1,hz.keep hb.size (λg hg (q:W0.heap.size<=g)=>⟨q,by omega⟩) λg hg _=>hb.block g hg,n2,n3⟩
 have HXB:Hid (W0.heap.size<=w1.heap.size):=hrp.2.2.2.2.1;have HR2:Hid (LvR w B rb A c l r n W0.heap.size w1.heap.size Q (.bool true) W2):=⟨true,_,_,_,_,_,rfl,hI,λ_=>HQ.o,(λe=>(by cases e))⟩;clear hz hrp hI;go_wp2_with(go_at_call 171;refine(HOPS.o _).mono ?_;rintro e w2 ⟨rfl,hw2⟩;obtain rfl:w2=W2:=(by rw[hw2,hW2,hW1]);clear hw2 hW2);clear hW1;go_loopw[8] (LvR w B rb A c l r n W0.heap.size w1.heap.size Q) (λa W=>(match a with| .bool true=>1|_=>0)+2*lfM rb l W)
 case atStart=>exact HR2.o
 case round=>
  obtain⟨b,t0,r0,x,y,z,rfl,hI,hT,hF⟩:=hrel;have HI:=Hd hI;obtain⟨xo,xn,xA,xk,xc,rfl,rfl,rfl⟩:=hI.rz.form;have m0:wr.cell? ⟨w1.heap.size,0,none⟩=some (.int .i64 xo):=Ro wr _ 0 _ _ _ hI.xc;have m1:wr.cell? ⟨w1.heap.size,1,none⟩=some (.int .i64 xn):=Ro wr _ 1 _ _ _ hI.xc;have m2:wr.cell? ⟨w1.heap.size,2,none⟩=some (.slice xA xk xc):=Ro wr _ 2 _ _ _ hI.xc;rcases b with _|_
  ·have HE:=Hd (hF rfl);obtain⟨f0,f1,f2,ff⟩:=hI.rb0.facts;have HRB:=Hd hI.rb0;clear hI hT hF HR2;go_wp2_with fail;rw[<-HE.o];exact bodyPost_ret (aN results138 _ _ w.heap.size _ _ _ _ rfl (bB HRB.o.blk) underlying52 (by kernel_rfl)) rfl (HI.o.done hlt hs0)
  have HT:=Hd (hT rfl);have HRJ:Hid (LvJ w B rb A c l r n W0.heap.size w1.heap.size t0 r0 (.bool false) (.int .i64 0) wr):=⟨false,0,t0,r0,_,_,_,rfl,rfl,Lq _,HI.o,λ_=>⟨rfl,rfl,rfl⟩,(λe=>(by cases e))⟩;have hms:=zK HI.o.rx;have HMS:=Hd hms;clear hI hT hF HR2 m0 m1 m2 hms;go_wp2_with fail;go_loopw[8,9] (LvJ w B rb A c l r n W0.heap.size w1.heap.size t0 r0) (λ_ i _=>(zdC n).length-(intOf i).toNat)
  case atStart=>exact HRJ.o
  case round=>
   obtain⟨b,k,t,r',x,y,z,rfl,rfl,hk,hI,hN,hY⟩:=hrel;have HI2:=Hd hI;obtain⟨xo,xn,xA,xk,xc,rfl,rfl,rfl⟩:=hI.rz.form;have hms2:=zK hI.rx;have HMS2:=Hd hms2;clear hI HRJ hms2;rcases b with _|_
   case true=>
    obtain⟨op,ho,rfl,rfl⟩:=hY rfl;have hl:=lM ho;have hle:=gJ l (.lev (n+1)) (nxt r0);have hE:=zaS (x:=t0) hn ho;rw[HT.o]at hE;have HE:=Hd hE;clear hN hY ho hE;have gk:decide (k<(zdC n).length)=decide (k<(zdC n).length):=rfl;by_cases h2:n=2
    ·have g2:((n:Int)==2)=true:=beq_iff_eq.2 (by omega);have HE2:=HE.o;rw[Ip h2]at HE2;have HE3:=Hd HE2;have HL2:=Hd hl;clear HE2 h2 hl;rcases Nat.lt_or_ge k (zdC n).length with hlt2|hlt2
     all_goals
      go_wp2_with fail;exact⟨⟨false,_,_,_,_,_,rfl,HI2.o,(λe=>(by cases e)),λ_=>HE3.o.symm⟩,by rw[HMS2.o,HMS.o];have:=HL2.o;dsimp only;omega⟩
    ·have g2:((n:Int)==2)=false:=beq_eq_false_iff_ne.2 (by omega);have HE2:=HE.o;rw[Iq h2]at HE2;have HE3:=Hd HE2;have HL2:=Hd hl;clear HE2 h2 hl;rcases Nat.lt_or_ge k (zdC n).length with hlt2|hlt2
     all_goals
      go_wp2_with fail;exact⟨⟨true,_,_,_,_,_,rfl,HI2.o,λ_=>HE3.o.symm,(λe=>(by cases e))⟩,by rw[HMS2.o,HMS.o];have:=HL2.o;dsimp only;omega⟩
   obtain⟨rfl,rfl,hd⟩:=hN rfl;clear hY;rcases Nat.lt_or_ge k (zdC n).length with hlt2|hge
   case inr=>
    have hke:k=(zdC n).length:=by omega
    have hno:zdP l r' (zdC n)=none:=by rw[hd,hke,Dl];rfl
    have hE:=qvZ (x:=t) hno;rw[HT.o]at hE;have HE:=Hd hE.symm;clear hd hke hno hE;by_cases h2:((n:Int)==2)=true
    ·go_wp2_with fail;exact⟨⟨false,_,_,_,_,_,rfl,HI2.o,(λe=>(by cases e)),λ_=>HE.o⟩,by rw[HMS2.o,HMS.o];dsimp only;omega⟩
    ·have g2:((n:Int)==2)=false:=by simpa using h2
     clear h2;go_wp2_with fail;exact⟨⟨false,_,_,_,_,_,rfl,HI2.o,(λe=>(by cases e)),λ_=>HE.o⟩,by rw[HMS2.o,HMS.o];dsimp only;omega⟩
   obtain⟨⟨sg,op⟩,hp⟩:∃p,(zdC n)[k]? =some p:=⟨_,Gg hlt2⟩;have hd2:zdP l r' (zdC n)=if isA l r' sg=true then some op else zdP l r' ((zdC n).drop (k+1)):=by rw[hd,cE hp];rfl
   have hob:=qxP n _ (Mg hp);have m3:wr.cell? ⟨w1.heap.size+1,k,none⟩=some (.string sg):=by
    refine(Ro wr _ k _ _ _ HI2.o.sg).trans ?_;unfold zgK;rw[List.getElem?_toArray,Gm,hp];rfl
   have HOG:Hid ((ziQ n)[k]? =some (.int .i64 op)):=by
    unfold Hid ziQ;rw[List.getElem?_toArray,Gm,hp];rfl
   have hk6:k<=6:=by have:=(qhD n).2;omega
   have i0:(0:Int)<=(k:Int):=by omega
   have i1:(k:Int)<((zdC n).length:Int):=by omega
   have HD2:=Hd hd2;have HOB:=Hd hob;clear hd hd2 hp hob;rcases hi:isA l r' sg with _|_
   ·have HD3:Hid (zdP l r' (zdC n)=zdP l r' ((zdC n).drop (k+1))):=by unfold Hid;rw[HD2.o,hi];rfl
    have HIS:=Hd hi;clear hi;go_wp2_with(go_at_call 98;refine(aR HIS.o HI2.o.rx).mono ?_;rintro e w3 ⟨rfl,hrp⟩;have HI3:=Hd (HI2.o.move hrp hlt hs0 HXB.o HI2.o.left);clear hrp);exact⟨⟨false,k+1,_,_,_,_,_,rfl,by go_num,by omega,HI3.o,λ_=>⟨rfl,rfl,HD3.o⟩,(λe=>(by cases e))⟩,by simp only[intOf];omega⟩
   ·have HD3:Hid (zdP l r' (zdC n)=some op):=by unfold Hid;rw[HD2.o,hi];rfl
    have hl:=cQ hi;have hle:=gJ l (.lev (n+1)) (nxt r');have HIS:=Hd hi;have hlr:=HI2.o.left;have KN:Hid (∀W,RX W B rb A c l (nxt r')->Calls prog 138 #[.pointer (some ⟨rb,0,none⟩),.int .i64 (n+1:Nat)] W (XP B rb A c l (EX l (.lev (n+1)) (nxt r')) W)):=λW hx=>K.o _ W (by omega) hx;have HLN:Hid (zaX l (nxt r')<=zaX l r):=Ly (by omega) hlr;have HLE:Hid (zaX l (EX l (.lev (n+1)) (nxt r')).2<=zaX l r):=Ly hle HLN.o;clear hi hl hle hlr;obtain⟨q,hq⟩:∃q,EX l (.lev (n+1)) (nxt r')=q:=⟨_,rfl⟩;rw[hq]at KN HLE;have HQQ:=Hd hq;clear hq;go_upto_region 12 with(go_at_call 98;refine(dI HIS.o HI2.o.rx).mono ?_;rintro e w3 ⟨rfl,hrp⟩;have HI3:=Hd (HI2.o.move hrp hlt hs0 HXB.o HLN.o);clear hrp)
    have p0:w3.cell? ⟨w1.heap.size,0,none⟩=some (.int .i64 xo):=Ro w3 _ 0 _ _ _ HI3.o.xc;have p1:w3.cell? ⟨w1.heap.size,1,none⟩=some (.int .i64 xn):=Ro w3 _ 1 _ _ _ HI3.o.xc;have p2:w3.cell? ⟨w1.heap.size,2,none⟩=some (.slice xA xk xc):=Ro w3 _ 2 _ _ _ HI3.o.xc;have p3:w3.cell? ⟨w1.heap.size+1+1,k,none⟩=some (.int .i64 op):=(Ro w3 _ k _ _ _ HI3.o.og).trans HOG.o;go_region_with(go_at_call 138;(first|(refine(KN.o _ (HI3.o.rx.below (aA (Bf _ _) 1))).mono ?_)|(rw[wn];refine(KN.o _ (HI3.o.rx.below (aA (Bf _ _) 1))).mono ?_));rintro e w4 ⟨x2,y2,z2,rfl,hz,hrp⟩;obtain⟨yo,yn,yA,yk,yc,rfl,rfl,rfl⟩:=hz.form;have HZ:=Hd hz;have HRP:Hid (RP B rb A c l q.2 w3 w4):=⟨hrp.1,(zaZ.of_below (aA (Bf w3.heap.size w3) 1)).trans hrp.2⟩;have hi4:=HI3.o.move HRP.o hlt hs0 HXB.o HLE.o;have u0:w4.cell? ⟨w1.heap.size,0,none⟩=some (.int .i64 xo):=Ro w4 _ 0 _ _ _ hi4.xc;have u1:w4.cell? ⟨w1.heap.size,1,none⟩=some (.int .i64 xn):=Ro w4 _ 1 _ _ _ hi4.xc;have u2:w4.cell? ⟨w1.heap.size,2,none⟩=some (.slice xA xk xc):=Ro w4 _ 2 _ _ _ hi4.xc;have u3:w4.cell? ⟨w1.heap.size+1+1,k,none⟩=some (.int .i64 op):=(Ro w4 _ k _ _ _ hi4.og).trans HOG.o;have uf:∀i,w4.frozen? ⟨w1.heap.size,i,none⟩=false:=(λi=>by simp[World.frozen?,hi4.xc]);have hx4:w1.heap.size<w4.heap.size:=hlS hi4.xc;have hx5:w1.heap.size+1+1<w4.heap.size:=hlS hi4.og;clear hz hrp hi4);all_goals
     go_wp2_with fail;exact⟨⟨true,k+1,_,q.2,_,_,_,rfl,by go_num,by omega,HI3.o.push HZ.o HRP.o hlt hs0 HXB.o HLE.o HOB.o,(λe=>(by cases e)),λ_=>⟨op,HD3.o,by rw[HQQ.o],by rw[HQQ.o]⟩⟩,by simp only[intOf];omega⟩
def RdM(B rb:Nat)(A:OA)(c:Nat)(l:List Tk):Md->Rs->World->Prop
 | .lev n,r,w=>Calls prog 138 #[.pointer (some ⟨rb,0,none⟩),.int .i64 n] w (XP B rb A c l (EX l (.lev n) r) w)
 | .lop _ _,_,_=>True
 | .una,r,w=>Calls prog 170 #[.pointer (some ⟨rb,0,none⟩)] w (XP B rb A c l (EX l .una r) w)
 | .pri,r,w=>Calls prog 197 #[.pointer (some ⟨rb,0,none⟩)] w (XP B rb A c l (EX l .pri r) w)
 | .brk,r,w=>Calls prog 139 #[.pointer (some ⟨rb,0,none⟩)] w (XP B rb A c l (EX l .brk r) w)
 | .cel,r,w=>Calls prog 136 #[.pointer (some ⟨rb,0,none⟩)] w (XP B rb A c l (EX l .cel r) w)
theorem c_levl{l:List Tk}{r r':Rs}{n:Nat}(hn:n<5)(h:zaX l r'<=zaX l r):zbI l (.lev (n+1)) r'<zbI l (.lev n) r:=by
 unfold zbI;split<;>(try split)<;>simp only[b0,b1]<;>omega
theorem yK(B rb:Nat)(A:OA)(c:Nat)(l:List Tk):∀N,∀(m:Md) (r:Rs) (w:World),m.ok->zbI l m r<=N->RX w B rb A c l r->RdM B rb A c l m r w:=by
 intro N;induction N with
 |zero=>intro m r w _ h;have:=pR l m r;omega
 |succ N ih=>
  intro m r w hok hN hx;cases m with
  |lev n=>
   have hn:n<=5:=hok;by_cases h5:n=5
   ·subst h5;exact qbP w B rb A c l r hx λW hW=>ih .una r W trivial (by have:= @znU l r;omega) hW
   ·exact qeS n (by omega) w B rb A c l r hx λr' W hl hW=>ih (.lev (n+1)) r' W (show n+1<=5 by omega) (by have:= @c_levl l r r' n (by omega) hl;omega) hW
  |lop n x=>trivial
  |una=>exact qdZ w B rb A c l r hx (λh W hW=>ih .una (nxt r) W trivial (by have:zbI l .una (nxt r)<zbI l .una r:=vH (h.elim cQ cQ);omega) hW) λW hW=>ih .pri r W trivial (by have:= @znV l r;omega) hW
  |pri=>
   by_cases h11:opA l r=11
   ·exact ziA w B rb A c l r hx h11 λr' W hl hW=>ih .brk r' W trivial (by have:=qdP (qcC (show 0<=opA l r by omega)) hl;omega) hW
   exact qbZ w B rb A c l r hx h11 (λh W hW=>ih .cel r W trivial (by have:= @znZ l r;omega) hW) λh W hW=>ih .brk (nxt r) W trivial (by have:=qdP (qcC h) (Le (zaX l (nxt r)));omega) hW
  |brk=>exact vV w B rb A c l r hx λW hW=>ih (.lev 0) (zbY l r ⟨#[91]⟩) W (show 0<=5 by omega) (by have:=qsE l r;omega) hW
  |cel=>exact qsC w B rb A c l r hx (λh W hW=>ih .cel (nxt r) W trivial (by have:=qsD (cQ h);omega) hW) λh W hW=>ih .brk r W trivial (by have:=zaF (cQ h);omega) hW
theorem qbV(w:World)(B rb:Nat)(A:OA)(c:Nat)(l:List Tk)(r:Rs)(h:RX w B rb A c l r):Calls prog 136 #[.pointer (some ⟨rb,0,none⟩)] w (XP B rb A c l (EX l .cel r) w):=yK B rb A c l _ .cel r w trivial (Le _) h
theorem qgX(w:World)(B rb:Nat)(A:OA)(c:Nat)(l:List Tk)(r:Rs)(h:RX w B rb A c l r):Calls prog 139 #[.pointer (some ⟨rb,0,none⟩)] w (XP B rb A c l (EX l .brk r) w):=yK B rb A c l _ .brk r w trivial (Le _) h
theorem qtU(w:World)(B rb:Nat)(A:OA)(c:Nat)(l:List Tk)(r:Rs)(h:RX w B rb A c l r):Calls prog 138 #[.pointer (some ⟨rb,0,none⟩),.int .i64 0] w (XP B rb A c l (EX l (.lev 0) r) w):=yK B rb A c l _ (.lev 0) r w (show 0<=5 by omega) (Le _) h
theorem yH(w:World)(B rb:Nat)(A:OA)(c:Nat)(l:List Tk)(r:Rs)(h:RX w B rb A c l r):Calls prog 140 #[.pointer (some ⟨rb,0,none⟩)] w (XP B rb A c l (zeS l r) w):=qdX w B rb A c l r h λr' W hx=>qbV W B rb A c l r' hx
