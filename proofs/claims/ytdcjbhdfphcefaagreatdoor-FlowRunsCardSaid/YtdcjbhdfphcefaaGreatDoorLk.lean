/- The contract. -/
import Derived.Test.YtdcjbhdfphcefaaGreatDoorCt
import Derived.Test.YtdcjbhdfphcefaaGreatDoorBx
import Derived.Test.YtdcjbhdfphcefaaGreatDoorNv
import Derived.Test.YtdcjbhdfphcefaaGreatDoorPa
import Derived.Test.YtdcjbhdfphcefaaGreatDoorAx
namespace Go.Proofs.YtdcjbhdfphcefaaGreatDoor
set_option linter.all false
set_option maxHeartbeats 4000000
open Go.Proofs.Tryz
open Go.RowKit
def wordT(n:Int):Tr:=if n<0 then .mk 2 0 1 (fun _=>numT (-n))else numT n
theorem fL{n:Int}(h:0≤n):wordT n=numT n:=by unfold wordT;rw[Iq (by omega)]
def WdPost(c n:Int)(w:World)(e:Ending)(w':World):Prop:=
 ∃x y z:Value,e=.returned (.agg #[.int .i64 c,x,y,z])∧Rz w' (fun g=>w.heap.size≤g) (wordT n) (.agg #[x,y,z])∧Bw w w'
theorem fA(w:World)(c n:Int)(h0: -1000000000000000≤n)(h1:n≤1000000000000000):Calls prog 41 #[.int .i64 c,.int .i64 n] w (WdPost c n w):=by
 have w1:IntKind.i64.wrap (-n)= -n:=IntWalk.i64_in _ (by omega);by_cases hn:n<0
 ·have g0:decide (n<0)=true:=Dt hn;have m1:max n (-n)= -n:=by omega
  have e:wordT n=.mk 2 0 1 (fun _=>numT (-n)):=by unfold wordT;rw[Ip hn]
  go_enter func41,ntmps41;go_wp2_with fail;have hb1:(((w.alloc (.cells #[.int .i64 c,.int .i64 2,.int .i64 0,.slice (some ⟨w.heap.size+1+1,0,none⟩) 1 1] 57)).alloc (.cells #[.int .i64 2,.int .i64 0,.slice (some ⟨w.heap.size+1+1,0,none⟩) 1 1] 52)).alloc (.cells #[.int .i64 0,.int .i64 (-n),.slice none 0 0] 52)).heap[w.heap.size]? =some (.cells #[.int .i64 c,.int .i64 2,.int .i64 0,.slice (some ⟨w.heap.size+1+1,0,none⟩) 1 1] 57 (0,0)):=
   (Bm _ _ _ (by simp;omega)).trans ((Bm _ _ _ (by simp)).trans (Hn w _))
  have hb2:(((w.alloc (.cells #[.int .i64 c,.int .i64 2,.int .i64 0,.slice (some ⟨w.heap.size+1+1,0,none⟩) 1 1] 57)).alloc (.cells #[.int .i64 2,.int .i64 0,.slice (some ⟨w.heap.size+1+1,0,none⟩) 1 1] 52)).alloc (.cells #[.int .i64 0,.int .i64 (-n),.slice none 0 0] 52)).heap[w.heap.size+1+1]? =some (.cells #[.int .i64 0,.int .i64 (-n),.slice none 0 0] 52 (0,0)):=by
   have q:=Hn ((w.alloc (.cells #[.int .i64 c,.int .i64 2,.int .i64 0,.slice (some ⟨w.heap.size+1+1,0,none⟩) 1 1] 57)).alloc (.cells #[.int .i64 2,.int .i64 0,.slice (some ⟨w.heap.size+1+1,0,none⟩) 1 1] 52)) (.cells #[.int .i64 0,.int .i64 (-n),.slice none 0 0] 52);simpa using q
  refine bodyPost_ret (aN results41 _ _ w.heap.size _ _ _ _ rfl hb1 underlying57 (by kernel_rfl)) rfl ⟨_,_,_,rfl,?_,(nB _ _).alloc (by simp) _|>.alloc (by simp;omega) _⟩;rw[e];exact⟨_,_,rfl,by unfold I64;omega,by unfold I64;omega,by unfold maxLen;omega,.inr ⟨_,rfl,by dsimp only;omega,hlS hb2,fun i hi=>by
   obtain rfl:i=0:=by omega
   exact⟨_,_,_,Ro _ _ 0 _ _ _ hb2,Ro _ _ 1 _ _ _ hb2,Ro _ _ 2 _ _ _ hb2,bN _ _ _ (by unfold I64;omega)⟩⟩⟩
 ·have g0:decide (n<0)=false:=Df hn;have m1:max n (-n)=n:=by omega
  go_enter func41,ntmps41;go_wp2_with fail;have hb1:((w.alloc (.cells #[.int .i64 c,.int .i64 0,.int .i64 n,.slice none 0 0] 57)).alloc (.cells #[.int .i64 0,.int .i64 n,.slice none 0 0] 52)).heap[w.heap.size]? =some (.cells #[.int .i64 c,.int .i64 0,.int .i64 n,.slice none 0 0] 57 (0,0)):=
   (Bm _ _ _ (by simp)).trans (Hn w _)
  refine bodyPost_ret (aN results41 _ _ w.heap.size _ _ _ _ rfl hb1 underlying57 (by kernel_rfl)) rfl ⟨_,_,_,rfl,?_,(nB _ _).alloc (by simp) _⟩;rw[fL hn];exact bN _ _ _ (by unfold I64;omega)
theorem MP.bel{B:Nat}{F:Fp}{L:Lb}{sk:Bool}{m m':MS}{w w':World}(hx:MX w B F L sk m)(h:MP B F L sk m' w w'){b:Nat}(hb:b≤B):Below b w w':=by
 obtain⟨F',_,_,hc⟩:=h;exact⟨hc.os,hc.tape,hc.output,hc.size,fun g hg=>hc.block g (by have:=hx.Ble;omega) (fun ho=>by have:=(hx.own_ge g ho).1;omega)⟩
theorem BkS.mono{W:World}{base:Nat}{I I':Nat→Prop}{C:OA}{cp:Nat}{bs:List Bk}{xs:LV}(h:BkS W base I C cp bs xs)(hI:∀g,g<W.heap.size→I g→I' g):BkS W base I' C cp bs xs:=
 ⟨h.own,fun q hq=>hI q (aI h.own hq).2 (h.ownI q hq),fun i b hb=>by
  obtain⟨A,n,c,l0,l1,l2,x0,x1,x2,h1,h2⟩:=h.parts i b hb
  exact⟨A,n,c,l0,l1,l2,x0,x1,x2,h1,h2.keep (Le _) (fun g hg hi=>⟨hI g hg hi.1,hi.2⟩) fun _ _ _=>rfl⟩⟩
def setL(W:World)(g:Nat):Nat→LV→World
 |_,[]=>W
 |o,v::r=>setL (W.setCell ⟨g,o,none⟩ v) g (o+1) r
theorem wS(g:Nat):∀(l:LV) (W:World) (o:Nat),(setL W g o l).heap.size=W.heap.size:=by
 intro l;induction l with
 |nil=>intro W o;rfl
 |cons v r ih=>intro W o;rw[setL,ih];simp[World.setCell]
theorem qjE(g q:Nat)(h:q≠g):∀(l:LV) (W:World) (o:Nat),(setL W g o l).heap[q]? =W.heap[q]? :=by
 intro l;induction l with
 |nil=>intro W o;rfl
 |cons v r ih=>intro W o;rw[setL,ih];exact Bj _ _ _ q h
theorem qgS(g j:Nat):∀(l:LV) (W:World) (o:Nat),(j<o∨o+l.length≤j)→(setL W g o l).cell? ⟨g,j,none⟩=W.cell? ⟨g,j,none⟩:=by
 intro l;induction l with
 |nil=>intro W o _;rfl
 |cons v r ih=>
  intro W o h;rw[setL,ih _ _ (by simp only[Lc]at h;omega)];exact bP (by simp only[Lc]at h;omega)
theorem qtP(g:Nat):∀(l:LV) (W:World) (o:Nat),(∀j,j<l.length→∃u,W.cell? ⟨g,o+j,none⟩=some u)→∀(j:Nat) (v:Value),l[j]? =some v→(setL W g o l).cell? ⟨g,o+j,none⟩=some v:=by
 intro l;induction l with
 |nil=>intro W o _ j v h;simp at h
 |cons x r ih=>
  intro W o h j v hj;rw[setL];rcases j with _|j
  ·simp only[List.getElem?_cons_zero,Oi]at hj;subst hj;rw[qgS g (o+0) r _ (o+1) (by omega)];obtain⟨u,hu⟩:=h 0 (by simp);exact World.cell?_setCell_same _ _ _ hu
  ·rw[List.getElem?_cons_succ]at hj;have q:=ih (W.setCell ⟨g,o,none⟩ x) (o+1) (fun k hk=>by
    obtain⟨u,hu⟩:=h (k+1) (by simp;omega)
    refine⟨u,(bP (by omega)).trans ?_⟩
    rw[show o+1+k=o+(k+1)by omega]
    exact hu) j v hj
   rw[show o+(j+1)=o+1+j by omega];exact q
theorem qhJ{W:World}{I:Nat→Prop}{g:Nat}{l:List Bk}(hg:I g)(hgl:g<W.heap.size)(hn:l.length≤maxLen)(h:∀(i:Nat) (b:Bk),l[i]? =some b→Kz W (fun j=>I j∧j≠g) g (i*11) b):Lz W I (some ⟨g,0,none⟩) l.length l:=
 ⟨rfl,hn,.inr ⟨g,rfl,hg,hgl,h⟩⟩
theorem Lz.set{W:World}{I:Nat→Prop}{g i:Nat}{l:List Bk}{b:Bk}{A:OA}{n c:Nat}{l0 l1 l2 x0 x1 x2:Value}(h:Lz W I (some ⟨g,0,none⟩) l.length l)(hi:i<l.length)(hb:Bz W (fun j=>I j∧j≠g) b A n l0 l1 l2 x0 x1 x2):
 Lz (setL W g (i*11) (cellsB b A n c l0 l1 l2 x0 x1 x2)) I (some ⟨g,0,none⟩) (l.set i b).length (l.set i b):=by
 obtain⟨h1,h2,h4⟩:=h;rcases h4 with⟨h4,_⟩|⟨g',e,hg,hl,hr⟩
 ·cases h4
 injection e with e
 injection e with e
 subst e;have hk:∀q,q<W.heap.size→(I q∧q≠g)→(setL W g (i*11) (cellsB b A n c l0 l1 l2 x0 x1 x2)).heap[q]? =W.heap[q]? :=fun q _ hq=>qjE g q hq.2 _ _ _;have hs:=wS g (cellsB b A n c l0 l1 l2 x0 x1 x2) W (i*11);refine qhJ hg (by rw[hs];exact hl) (by simpa using h2) fun i' b' hb'=> ?_;by_cases e:i'=i
 ·subst e;rw[List.getElem?_set_self hi]at hb';cases hb';refine⟨A,n,c,l0,l1,l2,x0,x1,x2,fun j v hj=>qtP g _ W _ (fun k hk=> ?_) j v hj,hb.keep (Nat.le_of_eq hs.symm) (fun _ _ h=>h) hk⟩;obtain⟨b0,hb0⟩:∃b0,l[i']? =some b0:=⟨_,Gg hi⟩;obtain⟨A',n',c',m0,m1,m2,y0,y1,y2,hc,_⟩:=hr i' b0 hb0;have hk':k<(cellsB b0 A' n' c' m0 m1 m2 y0 y1 y2).length:=by simpa[cellsB]using hk
  exact⟨_,hc k _ (Gg hk')⟩
 ·rw[List.getElem?_set_ne (fun q=>e q.symm)]at hb';exact(hr i' b' hb').keep (Nat.le_of_eq hs.symm) (fun _ _ h=>h) hk fun j hj=>qgS g _ _ _ _ (by
   have:(cellsB b A n c l0 l1 l2 x0 x1 x2).length=11:=by simp[cellsB]
   rw[this]
   have:i'<i∨i<i':=by omega
   rcases this with q|q
   ·left;omega
   ·right;omega)
structure Fb where
 kind:Int
 label:Int
 left:Int
 x:Int
 n:Int
def fb(f:Fb):Bk:=⟨f.kind,f.label,false,[],numT f.left,numT f.x,f.n⟩
def fok(f:Fb):Prop:=I64 f.kind∧I64 f.label∧I64 f.left∧I64 f.x∧I64 f.n
theorem xT(W:World)(I:Nat→Prop)(f:Fb)(h:fok f):Bz W I (fb f) none 0 (.int .i64 0) (.int .i64 f.left) (.slice none 0 0) (.int .i64 0) (.int .i64 f.x) (.slice none 0 0):=
 ⟨h.1,h.2.1,h.2.2.2.2,mW W I,bN W I f.left h.2.2.1,bN W I f.x h.2.2.2.1⟩
