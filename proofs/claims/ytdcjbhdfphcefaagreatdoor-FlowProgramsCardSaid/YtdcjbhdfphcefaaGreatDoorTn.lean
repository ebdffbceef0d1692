/- The reader o. -/
import Derived.Test.YtdcjbhdfphcefaaGreatDoorTk
import Derived.Test.YtdcjbhdfphcefaaGreatDoorFa
namespace Go.Proofs.YtdcjbhdfphcefaaGreatDoor
set_option linter.all false
set_option maxHeartbeats 4000000
open Go.Proofs.Tryz
open Go.RowKit
def XP(B rb:Nat)(A:OA)(c:Nat)(l:List Tk)(q:Tr×Rs)(w:World)(e:Ending)(w':World):Prop:=
 ∃x y z:Value,e=.returned (.agg #[x,y,z])/\Rz w' (λg=>w.heap.size<=g) q.1 (.agg #[x,y,z])/\RP B rb A c l q.2 w w'
theorem bN(w:World)(I:Nat->Prop)(n:Int)(h:I64 n):Rz w I (.mk 0 n 0 λ_=>.none_) (.agg #[.int .i64 0,.int .i64 n,.slice none 0 0]):=
 ⟨none,0,rfl,by unfold I64;omega,h,by unfold maxLen;omega,.inl ⟨rfl,rfl⟩⟩
theorem bB{w:World}{g:Nat}{T:TypeId}{x0 x1 x2 x y z:Value}(h:w.heap[g]? =some (.cells #[x0,x1,x2] T (0,0))):
 (((w.setCell ⟨g,0,none⟩ x).setCell ⟨g,1,none⟩ y).setCell ⟨g,2,none⟩ z).heap[g]? =some (.cells #[x,y,z] T (0,0)):=cL h
theorem gL{b g:Nat}{w w':World}(h:zaZ b w w')(hg:w.heap.size<=g)(x y z:Value):zaZ b w (((w'.setCell ⟨g,0,none⟩ x).setCell ⟨g,1,none⟩ y).setCell ⟨g,2,none⟩ z):=
 ⟨h.1,h.2.1,h.2.2.1,by simpa[World.setCell]using h.2.2.2.1,λq hq hb=>(aL w' g 0 q x y z (by omega)).trans (h.2.2.2.2 q hq hb)⟩
theorem RX.set3{w:World}{B rb:Nat}{A:OA}{c:Nat}{l:List Tk}{r:Rs}(h:RX w B rb A c l r){g:Nat}(hg:rb<g)(x y z:Value):RX (((w.setCell ⟨g,0,none⟩ x).setCell ⟨g,1,none⟩ y).setCell ⟨g,2,none⟩ z) B rb A c l r:=by
 have k:∀q,q<g->(((w.setCell ⟨g,0,none⟩ x).setCell ⟨g,1,none⟩ y).setCell ⟨g,2,none⟩ z).heap[q]? =w.heap[q]? :=λq hq=>aL w g 0 q x y z (by omega);have hge:=h.ge;exact⟨h.ge,(k _ hg).trans h.blk,h.tok.keep (λp hp=>Wb (k p.block (by omega))) (Le _),h.pos,h.bad⟩
theorem rN(w:World)(B rb:Nat)(A:OA)(c:Nat)(l:List Tk)(r:Rs)(h:RX w B rb A c l r):
 Calls prog 169 #[.pointer (some ⟨rb,0,none⟩)] w (XP B rb A c l (ziC l r) w):=by
 obtain⟨W0,hW0,HB0,H0⟩:=newWH w #[.int .i64 0,.int .i64 0,.slice none 0 0] 52;have hlt:=h.lt;have HX0:=Hd (h.below HB0.o);have HC:=Hd (eA W0 B rb A c l r HX0.o);have HLT:Hid ((zcO l r).kind≠0->r.1<l.length):=gG;have HT:Hid (∀t,zcO l r=t->I64 t.n):=by
  intro t ht;unfold zcO at ht;split at ht
  ·rw[<-ht];show I64 0;unfold I64;omega
  ·rename_i q;rw[Gd,Gg (by omega)]at ht;rw[<-ht];exact(h.tok.2.1 _ (List.getElem_mem _)).2.1
 have hs0:=hlS H0.o;clear h;unfold ziC;generalize zcO l r=t at HC HLT HT;have hn:=HT.o t rfl;obtain⟨tk,tn,tp,tx⟩:=t;unfold tkV at HC;dsimp only at HC HLT hn⊢
 clear HT;by_cases ha:tk=2
 ·subst ha;have hlt2:=HLT.o (by omega);rw[Iq (by simp)];go_enter func169,ntmps169;go_wp2_with(rw[<-hW0];clear hW0;go_at_call 133;refine HC.o.mono ?_;rintro e w1 ⟨rfl,hb⟩;have HB1:=Hd (hb.alloc hb.size (.cells #[.int .i64 2,.int .i64 tn,.int .i64 tp,.string tx] 157));have HX1:=Hd (HX0.o.below HB1.o);obtain⟨c0,c1,c2,cf⟩:=HX1.o.cells;have hml:=HX1.o.tok.1;have q0:=(hb.block _ hs0).trans H0.o;have n0:=Ro w1 _ 0 _ _ _ q0;have n1:=Ro w1 _ 1 _ _ _ q0;have n2:=Ro w1 _ 2 _ _ _ q0;have nf:∀i,w1.frozen? ⟨w.heap.size,i,none⟩=false:=(λi=>by simp[World.frozen?,q0]);have hne1:¬rb=w1.heap.size:=(by have:=hb.size;omega);have hne2:¬rb=w.heap.size:=(by omega);have hne3:w.heap.size<w1.heap.size:=(by have:=hb.size;omega);have Q0:Hid ((w1.alloc (.cells #[.int .i64 2,.int .i64 tn,.int .i64 tp,.string tx] 157)).heap[w.heap.size]? =some (.cells #[.int .i64 0,.int .i64 0,.slice none 0 0] 52 (0,0))):=(Bm _ _ _ hne3).trans q0;clear q0 hb);refine bodyPost_ret (aN results169 _ _ w.heap.size _ _ _ _ rfl (bB ((Bj _ _ _ _ (show w.heap.size≠rb by omega)).trans Q0.o)) underlying52 (by kernel_rfl)) rfl ?_;refine⟨_,_,_,rfl,bN _ _ _ hn,?_,?_⟩
  ·exact(HX1.o.next hlt2).set3 (by omega) _ _ _
  ·exact gL ((zaZ.of_below (HB0.o.tm HB1.o)).trans (HX1.o.only _ _)) (Le _) _ _ _
 ·have ha1:(tk==2)=false:=by simpa using ha
  have ha2:(tk !=2)=true:=by simpa using ha
  rw[Ip (by simpa using ha)];go_enter func169,ntmps169;go_wp2_with(first|(rw[<-hW0];clear hW0;go_at_call 133;refine HC.o.mono ?_;rintro e w1 ⟨rfl,hb⟩;have HB1:=Hd (hb.alloc hb.size (.cells #[.int .i64 tk,.int .i64 tn,.int .i64 tp,.string tx] 157));have HX1:=Hd (HX0.o.below HB1.o);obtain⟨c0,c1,c2,cf⟩:=HX1.o.cells;have hml:=HX1.o.tok.1;have q0:=(hb.block _ hs0).trans H0.o;have n0:=Ro w1 _ 0 _ _ _ q0;have n1:=Ro w1 _ 1 _ _ _ q0;have n2:=Ro w1 _ 2 _ _ _ q0;have nf:∀i,w1.frozen? ⟨w.heap.size,i,none⟩=false:=(λi=>by simp[World.frozen?,q0]);have hne1:¬rb=w1.heap.size:=(by have:=hb.size;omega);have hne2:¬rb=w.heap.size:=(by omega);have hne3:w.heap.size<w1.heap.size:=(by have:=hb.size;omega);have Q0:Hid ((w1.alloc (.cells #[.int .i64 tk,.int .i64 tn,.int .i64 tp,.string tx] 157)).heap[w.heap.size]? =some (.cells #[.int .i64 0,.int .i64 0,.slice none 0 0] 52 (0,0))):=(Bm _ _ _ hne3).trans q0;clear q0 hb)|(go_at_call 135;refine(dB _ _ _ _ _ _ _ HX1.o).mono ?_;rintro e w3 ⟨rfl,hrp⟩;have HRP:=Hd hrp;have Q3:=Hd ((hrp.2.2.2.2.2 _ (hlS Q0.o) (λe=>hne2 e.symm)).trans Q0.o);clear hrp n0 n1 n2 nf;have n0:=Ro w3 _ 0 _ _ _ Q3.o;have n1:=Ro w3 _ 1 _ _ _ Q3.o;have n2:=Ro w3 _ 2 _ _ _ Q3.o;have nf:∀i,w3.frozen? ⟨w.heap.size,i,none⟩=false:=(λi=>by simp[World.frozen?,Q3.o])));refine bodyPost_ret (aN results169 _ _ w.heap.size _ _ _ _ rfl (bB Q3.o) underlying52 (by kernel_rfl)) rfl ?_;refine⟨_,_,_,rfl,bN _ _ _ (by unfold I64;omega),?_,?_⟩
  ·exact HRP.o.1.set3 (by omega) _ _ _
  ·exact gL ((zaZ.of_below (HB0.o.tm HB1.o)).trans HRP.o.2) (Le _) _ _ _
theorem aR{w:World}{B rb:Nat}{A:OA}{c:Nat}{l:List Tk}{r:Rs}{s:ByteArray}(hs:isA l r s=false)(h:RX w B rb A c l r):
 Calls prog 98 #[.pointer (some ⟨rb,0,none⟩),.string s] w λe w'=>e=.returned (.bool false)/\RP B rb A c l r w w':=by
 have q:=wH w B rb A c l r s h;have e:zgH l r s=(false,r):=by unfold zgH;rw[hs];rfl
 rw[e]at q;exact q
theorem dI{w:World}{B rb:Nat}{A:OA}{c:Nat}{l:List Tk}{r:Rs}{s:ByteArray}(hs:isA l r s=true)(h:RX w B rb A c l r):
 Calls prog 98 #[.pointer (some ⟨rb,0,none⟩),.string s] w λe w'=>e=.returned (.bool true)/\RP B rb A c l (nxt r) w w':=by
 have q:=wH w B rb A c l r s h;have e:zgH l r s=(true,nxt r):=by unfold zgH;rw[hs];rfl
 rw[e]at q;exact q
structure RB(W:World)(g:Nat):Prop where
 blk:W.heap[g]? =some (.cells #[.int .i64 0,.int .i64 0,.slice none 0 0] 52 (0,0))
theorem RB.facts{W:World}{g:Nat}(h:RB W g):W.cell? ⟨g,0,none⟩=some (.int .i64 0)/\W.cell? ⟨g,1,none⟩=some (.int .i64 0)/\W.cell? ⟨g,2,none⟩=some (.slice none 0 0)/\∀i,W.frozen? ⟨g,i,none⟩=false:=
 ⟨Ro W _ 0 _ _ _ h.blk,Ro W _ 1 _ _ _ h.blk,Ro W _ 2 _ _ _ h.blk,λi=>by simp[World.frozen?,h.blk]⟩
theorem RB.only{W W':World}{g b:Nat}(h:RB W g)(ho:zaZ b W W')(hb:b<g):RB W' g:=⟨(ho.2.2.2.2 _ (hlS h.blk) (by omega)).trans h.blk⟩
theorem RB.below{W W':World}{g:Nat}(h:RB W g)(ho:Bw W W'):RB W' g:=⟨(ho.block _ (hlS h.blk)).trans h.blk⟩
theorem RB.start(w:World):RB (w.alloc (.cells #[.int .i64 0,.int .i64 0,.slice none 0 0] 52)) w.heap.size:=⟨Hn w _⟩
theorem XP.done{w W W2:World}{B rb:Nat}{A:OA}{c:Nat}{l:List Tk}{q:Tr×Rs}{x y z:Value}(h1:zaZ rb w W)(h2:Rz W2 (λg=>W.heap.size<=g) q.1 (.agg #[x,y,z]))(h3:RP B rb A c l q.2 W W2)(hrb:rb<w.heap.size)(hlt:w.heap.size<W.heap.size):
 XP B rb A c l q w (.returned (.agg #[x,y,z])) (((W2.setCell ⟨w.heap.size,0,none⟩ x).setCell ⟨w.heap.size,1,none⟩ y).setCell ⟨w.heap.size,2,none⟩ z):=by
 refine⟨x,y,z,rfl,h2.keep (Nat.le_of_eq (bJ W2 w.heap.size 0 x y z).symm) (λg _ hg=>by have q:W.heap.size<=g:=hg;show w.heap.size<=g;omega) (λg _ hg=>aL W2 w.heap.size 0 g x y z (by have q:W.heap.size<=g:=hg;omega)),h3.1.set3 hrb _ _ _,gL (h1.trans h3.2) (Le _) _ _ _⟩
