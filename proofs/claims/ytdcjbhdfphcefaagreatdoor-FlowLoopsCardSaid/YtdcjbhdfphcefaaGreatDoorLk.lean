/- The contracts of word and Words of cncstage: a block of words with constants. What the laws' walks share: New with any flag, the steps' cells, frames. Blocks in memory that a law lays by hand: a literal, a copy, a store of one of them. Conditions: those that each lemma names. -/
import Derived.Test.YtdcjbhdfphcefaaGreatDoorCt
import Derived.Test.YtdcjbhdfphcefaaGreatDoorBx
import Derived.Test.YtdcjbhdfphcefaaGreatDoorSk
import Derived.Test.YtdcjbhdfphcefaaGreatDoorLn
import Derived.Test.YtdcjbhdfphcefaaGreatDoorAx
set_option linter.unusedVariables false
set_option linter.unusedSimpArgs false
namespace Go.Proofs.YtdcjbhdfphcefaaGreatDoor
open Go.RowKit
def wordT(n:Int):Tr:=if n<0 then .mk 2 0 1 (fun _=>numT (-n))else numT n
theorem wordT_pos{n:Int}(h:0≤n):wordT n=numT n:=by unfold wordT;rw[if_neg (by omega)]
def WdPost(c n:Int)(w:World)(e:Ending)(w':World):Prop:=
 ∃x y z:Value,e=.returned (.agg #[.int .i64 c,x,y,z])∧Rz w' (fun g=>w.heap.size≤g) (wordT n) (.agg #[x,y,z])∧Below w.heap.size w w'
set_option maxHeartbeats 4000000 in
theorem word_any(w:World)(c n:Int)(h0: -1000000000000000≤n)(h1:n≤1000000000000000):Calls Tryz.prog 41 #[.int .i64 c,.int .i64 n] w (WdPost c n w):=by
 have w1:IntKind.i64.wrap (-n)= -n:=IntWalk.i64_in _ (by omega);by_cases hn:n<0
 ·have g0:decide (n<0)=true:=decide_eq_true hn;have m1:max n (-n)= -n:=by omega
  have e:wordT n=.mk 2 0 1 (fun _=>numT (-n)):=by unfold wordT;rw[if_pos hn]
  go_enter Tryz.func41,Tryz.ntmps41;go_wp2_with fail;have hb1:(((w.alloc (.cells #[.int .i64 c,.int .i64 2,.int .i64 0,.slice (some ⟨w.heap.size+1+1,0,none⟩) 1 1] 57)).alloc (.cells #[.int .i64 2,.int .i64 0,.slice (some ⟨w.heap.size+1+1,0,none⟩) 1 1] 52)).alloc (.cells #[.int .i64 0,.int .i64 (-n),.slice none 0 0] 52)).heap[w.heap.size]? =some (.cells #[.int .i64 c,.int .i64 2,.int .i64 0,.slice (some ⟨w.heap.size+1+1,0,none⟩) 1 1] 57 (0,0)):=
   (Below.heap_alloc _ _ _ (by simp;omega)).trans ((Below.heap_alloc _ _ _ (by simp)).trans (heap_alloc_new w _))
  have hb2:(((w.alloc (.cells #[.int .i64 c,.int .i64 2,.int .i64 0,.slice (some ⟨w.heap.size+1+1,0,none⟩) 1 1] 57)).alloc (.cells #[.int .i64 2,.int .i64 0,.slice (some ⟨w.heap.size+1+1,0,none⟩) 1 1] 52)).alloc (.cells #[.int .i64 0,.int .i64 (-n),.slice none 0 0] 52)).heap[w.heap.size+1+1]? =some (.cells #[.int .i64 0,.int .i64 (-n),.slice none 0 0] 52 (0,0)):=by
   have q:=heap_alloc_new ((w.alloc (.cells #[.int .i64 c,.int .i64 2,.int .i64 0,.slice (some ⟨w.heap.size+1+1,0,none⟩) 1 1] 57)).alloc (.cells #[.int .i64 2,.int .i64 0,.slice (some ⟨w.heap.size+1+1,0,none⟩) 1 1] 52)) (.cells #[.int .i64 0,.int .i64 (-n),.slice none 0 0] 52);simpa using q
  refine bodyPost_ret (results_c1 Tryz.results41 _ _ w.heap.size _ _ _ _ rfl hb1 Tryz.underlying57 (by kernel_rfl)) rfl ⟨_,_,_,rfl,?_,((Below.refl _ _).alloc (Nat.le_refl _) _).alloc (by simp) _|>.alloc (by simp;omega) _⟩;rw[e];exact⟨_,_,rfl,by unfold I64;omega,by unfold I64;omega,by unfold maxLen;omega,.inr ⟨_,rfl,by dsimp only;omega,hlS hb2,fun i hi=>by
   obtain rfl:i=0:=by omega
   exact⟨_,_,_,cell_of_row _ _ 0 _ _ _ hb2,cell_of_row _ _ 1 _ _ _ hb2,cell_of_row _ _ 2 _ _ _ hb2,rz_num _ _ _ (by unfold I64;omega)⟩⟩⟩
 ·have g0:decide (n<0)=false:=decide_eq_false hn;have m1:max n (-n)=n:=by omega
  go_enter Tryz.func41,Tryz.ntmps41;go_wp2_with fail;have hb1:((w.alloc (.cells #[.int .i64 c,.int .i64 0,.int .i64 n,.slice none 0 0] 57)).alloc (.cells #[.int .i64 0,.int .i64 n,.slice none 0 0] 52)).heap[w.heap.size]? =some (.cells #[.int .i64 c,.int .i64 0,.int .i64 n,.slice none 0 0] 57 (0,0)):=
   (Below.heap_alloc _ _ _ (by simp)).trans (heap_alloc_new w _)
  refine bodyPost_ret (results_c1 Tryz.results41 _ _ w.heap.size _ _ _ _ rfl hb1 Tryz.underlying57 (by kernel_rfl)) rfl ⟨_,_,_,rfl,?_,((Below.refl _ _).alloc (Nat.le_refl _) _).alloc (by simp) _⟩;rw[wordT_pos hn];exact rz_num _ _ _ (by unfold I64;omega)
def wordsB(ps:List (Int×Int)):Bk:=⟨0,0,false,ps.map fun p=>(p.1,wordT p.2),numT 0,numT 0,0⟩
def WsPost(ps:List (Int×Int))(w:World)(e:Ending)(w':World):Prop:=
 ∃(C:Option Addr) (cw:Nat) (l0 l1 l2 x0 x1 x2:Value),e=.returned (.agg #[.int .i64 0,.int .i64 0,.bool false,.slice C ps.length cw,l0,l1,l2,x0,x1,x2,.int .i64 0])∧Bz w' (fun g=>w.heap.size≤g) (wordsB ps) C ps.length l0 l1 l2 x0 x1 x2∧Below w.heap.size w w'
theorem cdi_start(w:World)(ps:List (Int×Int)):CdI w (wordsB ps) 0 none 0 [] (w.alloc (.cells #[.int .i64 0,.int .i64 0,.bool false,.slice none 0 0,.int .i64 0,.int .i64 0,.slice none 0 0,.int .i64 0,.int .i64 0,.slice none 0 0,.int .i64 0] 54)):=
 ⟨(Below.refl _ _).alloc (Nat.le_refl _) _,⟨_,_,_,_,_,_,heap_alloc_new w _,rz_num _ _ _ (by unfold I64;omega),rz_num _ _ _ (by unfold I64;omega)⟩,World.ownsRow_nil _ _ _ _,fun i c t hi=>absurd hi (by omega)⟩
theorem CdI.wz{wr W:World}{b:Bk}{C:Option Addr}{cw n:Nat}{ys:List Value}(h:CdI wr b n C cw ys W)(hn:n=b.words.length)(hl:n≤maxLen)(hc:∀x∈b.words,I64 x.1):Wz W (fun g=>wr.heap.size<g) C n b.words:=by
 subst hn;refine⟨rfl,hl,hc,?_⟩;rcases h.own.2 with⟨e1,e2⟩|⟨gw,cap',cur,e1,q1,q2,q3,q4,q5,q6⟩
 ·simp only[Value.slice.injEq]at e1;exact .inl ⟨e1.1,e2⟩
 ·simp only[Value.slice.injEq,true_and]at e1;obtain⟨rfl,rfl⟩:=e1;refine .inr ⟨gw,rfl,by omega,hlS q2,fun i' c t hx=> ?_⟩;have hil:=(List.getElem?_eq_some_iff.1 hx).1;obtain⟨c0,x',y',z',c1,c2,c3,hr'⟩:=h.words i' c t hil hx;have hca:∀j,j<b.words.length*4→W.cell? ⟨gw,j,none⟩=ys[j]? :=fun j hj=>h.own.cellAt j hj;exact⟨(hca _ (by omega)).trans c0,x',y',z',(hca _ (by omega)).trans c1,(hca _ (by omega)).trans c2,(hca _ (by omega)).trans c3,hr'.keep (Nat.le_refl _) (fun _ _ q=>q.1) fun _ _ _=>rfl⟩
set_option maxRecDepth 100000 in
set_option maxHeartbeats 16000000 in
theorem words_any_st(w:World)(ab off c0:Nat)(ps:List (Int×Int))(n:Nat)(hn:n=2*ps.length)(hps:∀(i:Nat) (c m:Int),ps[i]? =some (c,m)→w.cell? ⟨ab,off+2*i,none⟩=some (.int .i64 c)∧w.cell? ⟨ab,off+(2*i+1),none⟩=some (.int .i64 m)∧I64 c∧-1000000000000000≤m∧m≤1000000000000000)(hab:ab<w.heap.size)(hpl:ps.length≤1000):
 Calls Tryz.prog 24 #[.slice (some ⟨ab,off,none⟩) n c0] w (WsPost ps w):=by
 have HP:=Lib.hid hps;clear hps;obtain⟨W1,hW1⟩:∃W1,W1=w.alloc (.cells #[.int .i64 0,.int .i64 0,.bool false,.slice none 0 0,.int .i64 0,.int .i64 0,.slice none 0 0,.int .i64 0,.int .i64 0,.slice none 0 0,.int .i64 0] 54):=⟨_,rfl⟩;have HB1:Hid (Below w.heap.size w W1):=by unfold Hid;rw[hW1];exact(Below.refl _ _).alloc (Nat.le_refl _) _
 have HR1:Hid (W1.heap[w.heap.size]? =some (.cells ⟨cellsB (wordsB []) none 0 0 (.int .i64 0) (.int .i64 0) (.slice none 0 0) (.int .i64 0) (.int .i64 0) (.slice none 0 0)⟩ 54 (0,0))):=by unfold Hid;rw[hW1];exact heap_alloc_new w _
 have HS1:Hid (W1.heap.size=w.heap.size+1):=by unfold Hid;rw[hW1];simp
 have hs1:w.heap.size<W1.heap.size:=by have:=HS1.out;omega
 obtain⟨W2,hW2⟩:∃W2,W2=W1.alloc (.cells #[.int .i64 0,.int .i64 0,.bool false,.slice none 0 0,.int .i64 0,.int .i64 0,.slice none 0 0,.int .i64 0,.int .i64 0,.slice none 0 0,.int .i64 0] 54):=⟨_,rfl⟩;have HI2:Hid (CdI W1 (wordsB ps) 0 none 0 [] W2):=by unfold Hid;rw[hW2];exact cdi_start W1 ps
 have hw2:W2=(w.alloc (.cells #[.int .i64 0,.int .i64 0,.bool false,.slice none 0 0,.int .i64 0,.int .i64 0,.slice none 0 0,.int .i64 0,.int .i64 0,.slice none 0 0,.int .i64 0] 54)).alloc (.cells #[.int .i64 0,.int .i64 0,.bool false,.slice none 0 0,.int .i64 0,.int .i64 0,.slice none 0 0,.int .i64 0,.int .i64 0,.slice none 0 0,.int .i64 0] 54):=by rw[hW2,hW1]
 obtain⟨iW,zW,hiW,hW0,hWa,hWb,hWs⟩:=infoWo_parts;have HIW:=Lib.hid hiW;have HZW:=Lib.hid hW0;clear hW2 hW1 hiW hW0;go_enter Tryz.func24,Tryz.ntmps24;go_wp2_with fail;rw[←hw2];rw[show w.heap.size+1=W1.heap.size from HS1.out.symm];have HN:=Lib.hid hn;clear hw2 hn;have HR0:Hid (∃(k:Nat) (C:Option Addr) (cw:Nat) (ys:List Value),k≤ps.length∧Value.int .i64 0=.int .i64 ((2*k:Nat):Int)∧CdI W1 (wordsB ps) k C cw ys W2):=⟨0,none,0,[],by omega,rfl,HI2.out⟩;go_loopw[4] (fun i W=>∃(k:Nat) (C:Option Addr) (cw:Nat) (ys:List Value),k≤ps.length∧i=.int .i64 ((2*k:Nat):Int)∧CdI W1 (wordsB ps) k C cw ys W) (fun i _=>2*ps.length-(intOf i).toNat)
 case atStart=>exact HR0.out
 case round=>
  obtain⟨k,C,cw,ys,hk,rfl,hI⟩:=hrel;have HI:=Lib.hid hI;have hbw:=hI.bel.size;obtain⟨l0,l1,l2,x0,x1,x2,hblk,hL,hX⟩:=hI.ex;obtain⟨lo,ln,lA,lk,lc,rfl,rfl,rfl⟩:=hL.form;obtain⟨xo,xn,xA,xk,xc,rfl,rfl,rfl⟩:=hX.form;have HBK:=Lib.hid hblk;have HLL:=Lib.hid hL;have HXX:=Lib.hid hX;clear hI HR0 HI2 hblk hL hX;obtain⟨q,hq⟩:∃q,q=2*k:=⟨_,rfl⟩;rw[←hq];have HQ:=Lib.hid hq;by_cases hlt:k<ps.length
  ·obtain⟨⟨cc,nn⟩,hx⟩:∃p,ps[k]? =some p:=⟨_,List.getElem?_eq_getElem hlt⟩;obtain⟨p0,p1,hcc,hn1,hn2⟩:=HP.out k cc nn hx;rw[←hq]at p0 p1;have hbel:=HB1.out.trans (HI.out.bel.mono HB1.out.size);have z0:wr.cell? ⟨ab,off+q,none⟩=some (.int .i64 cc):=(hbel.cell (p:=⟨ab,off+q,none⟩) hab).trans p0;have z1:wr.cell? ⟨ab,off+(q+1),none⟩=some (.int .i64 nn):=(hbel.cell (p:=⟨ab,off+(q+1),none⟩) hab).trans p1;have HXW:Hid ((wordsB ps).words[k]? =some (cc,wordT nn)):=by unfold Hid wordsB;simp[hx]
   have HCC:=Lib.hid hcc;have hn:=HN.out;have i0:(0:Int)≤(q:Int):=by omega
   have i1:(q:Int)<(n:Int):=by omega
   have i2:(0:Int)≤(q:Int)+1:=by omega
   have i3:(q:Int)+1<(n:Int):=by omega
   have w1:IntKind.i64.wrap ((q:Int)+1)=(q:Int)+1:=IntWalk.i64_in _ (by omega);have t1:((q:Int)+1).toNat=q+1:=by omega
   have w2':IntKind.i64.wrap ((q:Int)+2)=(q:Int)+2:=IntWalk.i64_in _ (by omega);have g0:decide ((q:Int)+1<(n:Int))=true:=decide_eq_true i3;have habr:ab<wr.heap.size:=by have:=hbel.size;omega
   have habn:ab≠W1.heap.size:=by omega
   have y2:wr.cell? ⟨W1.heap.size,3,none⟩=some (.slice C k cw):=cell_of_row wr _ 3 _ _ _ HBK.out;have e0:W1.heap.size<wr.heap.size:=hlS HBK.out;have HWC:=Lib.hid (word_any wr.drew cc nn hn1 hn2);clear p0 p1 hx hbel hcc hq hn;go_upto_region 5 with(fail)
   refine wp_region_noPanic ?_;refine wp_region_held_drew (S:=(fun w'=>w'.cell? ⟨ab,off+q,none⟩=some (.int .i64 cc)∧w'.cell? ⟨ab,off+(q+1),none⟩=some (.int .i64 nn))) (by kernel_rfl) ⟨z0,z1⟩ (fun hHeld=> ?_);refine wpAnyH_take (i:=0) (v:= ?_) rfl (by kernel_rfl) (by kernel_rfl) (by kernel_rfl) (fun _ _ _ h=>h) (Or.inl ⟨by rfl,?_⟩) (by assumption) ?_;rotate_left
   ·intro w1 hSw;clear hSw;go_simp<;>with_reducible rfl
   try simp only[Act.put,List.setIfInBounds_toArray,List.set_cons_zero,List.set_cons_succ]
   refine wpAnyH_take (i:=2) (v:= ?_) rfl (by kernel_rfl) (by kernel_rfl) (by kernel_rfl) (fun _ _ _ h=>h) (Or.inl ⟨by rfl,?_⟩) (by assumption) ?_;rotate_left
   ·intro w1 hSw;clear hSw;go_simp<;>with_reducible rfl
   try simp only[Act.put,List.setIfInBounds_toArray,List.set_cons_zero,List.set_cons_succ]
   refine wpAnyH_take (i:=3) (v:= ?_) rfl (by kernel_rfl) (by kernel_rfl) (by kernel_rfl) (fun _ _ _ h=>h) (Or.inl ⟨by rfl,?_⟩) (by assumption) ?_;rotate_left
   ·intro w1 hSw;clear hSw;go_simp<;>with_reducible rfl
   try simp only[Act.put,List.setIfInBounds_toArray,List.set_cons_zero,List.set_cons_succ]
   refine wpAnyH_take (i:=4) (v:= ?_) rfl (by kernel_rfl) (by kernel_rfl) (by kernel_rfl) (fun _ _ _ h=>h) (Or.inl ⟨by rfl,?_⟩) (by assumption) ?_;rotate_left
   ·intro w1 hSw;clear hSw;go_simp<;>with_reducible rfl
   try simp only[Act.put,List.setIfInBounds_toArray,List.set_cons_zero,List.set_cons_succ]
   refine wpAnyH_take (i:=5) (v:= ?_) rfl (by kernel_rfl) (by kernel_rfl) (by kernel_rfl) (fun _ _ _ h=>h) (Or.inl ⟨by rfl,?_⟩) (by assumption) ?_;rotate_left
   ·intro w1 hSw;obtain⟨hS0,hS1⟩:=hSw;go_simp<;>with_reducible rfl
   try simp only[Act.put,List.setIfInBounds_toArray,List.set_cons_zero,List.set_cons_succ]
   refine wpAnyH_take (i:=6) (v:= ?_) rfl (by kernel_rfl) (by kernel_rfl) (by kernel_rfl) (fun _ _ _ h=>h) (Or.inl ⟨by rfl,?_⟩) (by assumption) ?_;rotate_left
   ·intro w1 hSw;clear hSw;go_simp<;>with_reducible rfl
   try simp only[Act.put,List.setIfInBounds_toArray,List.set_cons_zero,List.set_cons_succ]
   refine wpAnyH_take (i:=7) (v:= ?_) rfl (by kernel_rfl) (by kernel_rfl) (by kernel_rfl) (fun _ _ _ h=>h) (Or.inl ⟨by rfl,?_⟩) (by assumption) ?_;rotate_left
   ·intro w1 hSw;clear hSw;go_simp<;>with_reducible rfl
   try simp only[Act.put,List.setIfInBounds_toArray,List.set_cons_zero,List.set_cons_succ]
   refine wpAnyH_take (i:=8) (v:= ?_) rfl (by kernel_rfl) (by kernel_rfl) (by kernel_rfl) (fun _ _ _ h=>h) (Or.inl ⟨by rfl,?_⟩) (by assumption) ?_;rotate_left
   ·intro w1 hSw;clear hSw;go_simp<;>with_reducible rfl
   try simp only[Act.put,List.setIfInBounds_toArray,List.set_cons_zero,List.set_cons_succ]
   refine wpAnyH_take (i:=9) (v:= ?_) rfl (by kernel_rfl) (by kernel_rfl) (by kernel_rfl) (fun _ _ _ h=>h) (Or.inl ⟨by rfl,?_⟩) (by assumption) ?_;rotate_left
   ·intro w1 hSw;clear hSw;go_simp<;>with_reducible rfl
   try simp only[Act.put,List.setIfInBounds_toArray,List.set_cons_zero,List.set_cons_succ]
   refine wpAnyH_take (i:=10) (v:= ?_) rfl (by kernel_rfl) (by kernel_rfl) (by kernel_rfl) (fun _ _ _ h=>h) (Or.inl ⟨by rfl,?_⟩) (by assumption) ?_;rotate_left
   ·intro w1 hSw;obtain⟨hS0,hS1⟩:=hSw;go_simp<;>with_reducible rfl
   try simp only[Act.put,List.setIfInBounds_toArray,List.set_cons_zero,List.set_cons_succ]
   refine wpAnyH_ready (rs:=[1,11]) (by kernel_rfl) (by simp) ?_;refine AllReadyH.cons rfl (fun K hK=> ?_) (AllReadyH.cons rfl (fun K hK=> ?_) AllReadyH.nil);go_simp;refine hK.out _ _ ?_ (fun hHeld=> ?_)
   ·exact⟨z0,z1⟩
   clear hK K;try simp only[Act.put,List.setIfInBounds_toArray,List.set_cons_zero,List.set_cons_succ]
   refine wpAnyH_ready (rs:=[11]) (by kernel_rfl) (by simp) ?_;refine AllReadyH.cons rfl (fun K hK=> ?_) AllReadyH.nil;go_simp;go_at_call 41;refine HWC.out.mono ?_;rintro e w2 ⟨x',y',z',rfl,hr3,hb3⟩;obtain⟨o2,n2,A3,k3,d3,rfl,rfl,rfl⟩:=hr3.form;have HB3:Hid (Below wr.heap.size wr w2):=⟨hb3.os,hb3.tape,hb3.output,hb3.size,hb3.block⟩;have HRZ:Hid (Rz w2 (fun q=>wr.heap.size≤q) (wordT nn) (.agg #[.int .i64 o2,.int .i64 n2,.slice A3 k3 d3])):=hr3;have S2:Hid (w2.cell? ⟨ab,off+q,none⟩=some (.int .i64 cc)∧w2.cell? ⟨ab,off+(q+1),none⟩=some (.int .i64 nn)):=⟨(HB3.out.cell (p:=⟨ab,off+q,none⟩) habr).trans z0,(HB3.out.cell (p:=⟨ab,off+(q+1),none⟩) habr).trans z1⟩;have y22:=(HB3.out.cell (p:=⟨W1.heap.size,3,none⟩) e0).trans y2;obtain⟨W3,hW3⟩:∃W3,W3=w2.alloc (.cells #[.int .i64 cc,.int .i64 o2,.int .i64 n2,.slice A3 k3 d3] 57):=⟨_,rfl⟩;have HW3:=Lib.hid hW3;have HB4:Hid (Below w2.heap.size w2 W3):=by{unfold Hid;rw[hW3];exact(Below.refl _ _).alloc (Nat.le_refl _) _}
   have hw2s:=HB3.out.size;have y23:W3.cell? ⟨W1.heap.size,3,none⟩=some (.slice C k cw):=(HB4.out.cell (p:=⟨W1.heap.size,3,none⟩) (by dsimp only;omega)).trans y22;have S3:Hid (W3.cell? ⟨ab,off+q,none⟩=some (.int .i64 cc)∧W3.cell? ⟨ab,off+(q+1),none⟩=some (.int .i64 nn)):=⟨(HB4.out.cell (p:=⟨ab,off+q,none⟩) (by dsimp only;omega)).trans S2.out.1,(HB4.out.cell (p:=⟨ab,off+(q+1),none⟩) (by dsimp only;omega)).trans S2.out.2⟩;have HNW:Hid (W3.heap[w2.heap.size]? =some (.cells #[.int .i64 cc,.int .i64 o2,.int .i64 n2,.slice A3 k3 d3] 57 (0,0))):=by{unfold Hid;rw[hW3];exact heap_alloc_new _ _}
   have hW3s:W3.heap.size=w2.heap.size+1:=by rw[hW3];simp
   have HOW:Hid (W3.ownsRow (W1.heap.size+1) 57 4 (.slice C k cw) k ys):=owns_keep HI.out.own fun g hg _=>(HB4.out.block g (by omega)).trans (HB3.out.block g hg);clear hb3 hr3 hW3;refine hK.out _ _ ?_ (fun hHeld=> ?_)
   ·exact S2.out
   clear hK K;try simp only[Act.put,List.setIfInBounds_toArray,List.set_cons_zero,List.set_cons_succ]
   refine wpAnyH_ready (rs:=[12]) (by kernel_rfl) (by simp) ?_;refine AllReadyH.cons rfl (fun K hK=> ?_) AllReadyH.nil;go_simp;rw[←HW3.out];refine hK.out _ _ ?_ (fun hHeld=> ?_)
   ·exact S3.out
   clear hK K;try simp only[Act.put,List.setIfInBounds_toArray,List.set_cons_zero,List.set_cons_succ]
   rotate_left;go_simp;go_at_call 41;refine HWC.out.mono ?_;rintro e w2 ⟨x',y',z',rfl,hr3,hb3⟩;obtain⟨o2,n2,A3,k3,d3,rfl,rfl,rfl⟩:=hr3.form;have HB3:Hid (Below wr.heap.size wr w2):=⟨hb3.os,hb3.tape,hb3.output,hb3.size,hb3.block⟩;have HRZ:Hid (Rz w2 (fun q=>wr.heap.size≤q) (wordT nn) (.agg #[.int .i64 o2,.int .i64 n2,.slice A3 k3 d3])):=hr3;have S2:Hid (w2.cell? ⟨ab,off+q,none⟩=some (.int .i64 cc)∧w2.cell? ⟨ab,off+(q+1),none⟩=some (.int .i64 nn)):=⟨(HB3.out.cell (p:=⟨ab,off+q,none⟩) habr).trans z0,(HB3.out.cell (p:=⟨ab,off+(q+1),none⟩) habr).trans z1⟩;have y22:=(HB3.out.cell (p:=⟨W1.heap.size,3,none⟩) e0).trans y2;obtain⟨W3,hW3⟩:∃W3,W3=w2.alloc (.cells #[.int .i64 cc,.int .i64 o2,.int .i64 n2,.slice A3 k3 d3] 57):=⟨_,rfl⟩;have HW3:=Lib.hid hW3;have HB4:Hid (Below w2.heap.size w2 W3):=by{unfold Hid;rw[hW3];exact(Below.refl _ _).alloc (Nat.le_refl _) _}
   have hw2s:=HB3.out.size;have y23:W3.cell? ⟨W1.heap.size,3,none⟩=some (.slice C k cw):=(HB4.out.cell (p:=⟨W1.heap.size,3,none⟩) (by dsimp only;omega)).trans y22;have S3:Hid (W3.cell? ⟨ab,off+q,none⟩=some (.int .i64 cc)∧W3.cell? ⟨ab,off+(q+1),none⟩=some (.int .i64 nn)):=⟨(HB4.out.cell (p:=⟨ab,off+q,none⟩) (by dsimp only;omega)).trans S2.out.1,(HB4.out.cell (p:=⟨ab,off+(q+1),none⟩) (by dsimp only;omega)).trans S2.out.2⟩;have HNW:Hid (W3.heap[w2.heap.size]? =some (.cells #[.int .i64 cc,.int .i64 o2,.int .i64 n2,.slice A3 k3 d3] 57 (0,0))):=by{unfold Hid;rw[hW3];exact heap_alloc_new _ _}
   have hW3s:W3.heap.size=w2.heap.size+1:=by rw[hW3];simp
   have HOW:Hid (W3.ownsRow (W1.heap.size+1) 57 4 (.slice C k cw) k ys):=owns_keep HI.out.own fun g hg _=>(HB4.out.block g (by omega)).trans (HB3.out.block g hg);clear hb3 hr3 hW3;refine hK.out _ _ ?_ (fun hHeld=> ?_)
   ·exact S2.out
   clear hK K;try simp only[Act.put,List.setIfInBounds_toArray,List.set_cons_zero,List.set_cons_succ]
   refine wpAnyH_ready (rs:=[1,12]) (by kernel_rfl) (by simp) ?_;refine AllReadyH.cons rfl (fun K hK=> ?_) (AllReadyH.cons rfl (fun K hK=> ?_) AllReadyH.nil);go_simp;refine hK.out _ _ ?_ (fun hHeld=> ?_)
   ·exact S2.out
   clear hK K;try simp only[Act.put,List.setIfInBounds_toArray,List.set_cons_zero,List.set_cons_succ]
   refine wpAnyH_ready (rs:=[12]) (by kernel_rfl) (by simp) ?_;refine AllReadyH.cons rfl (fun K hK=> ?_) AllReadyH.nil;go_simp;rw[←HW3.out];refine hK.out _ _ ?_ (fun hHeld=> ?_)
   ·exact S3.out
   clear hK K;try simp only[Act.put,List.setIfInBounds_toArray,List.set_cons_zero,List.set_cons_succ]
   rotate_left;go_simp;rw[←HW3.out];refine hK.out _ _ ?_ (fun hHeld=> ?_)
   ·exact S3.out
   clear hK K;try simp only[Act.put,List.setIfInBounds_toArray,List.set_cons_zero,List.set_cons_succ]
   refine wpAnyH_ready (rs:=[1]) (by kernel_rfl) (by simp) ?_;refine AllReadyH.cons rfl (fun K hK=> ?_) AllReadyH.nil;go_simp;refine hK.out _ _ ?_ (fun hHeld=> ?_)
   ·exact S3.out
   clear hK K;try simp only[Act.put,List.setIfInBounds_toArray,List.set_cons_zero,List.set_cons_succ]
   all_goals
    refine wpAnyH_ready (rs:=[13]) (by kernel_rfl) (by simp) ?_;refine AllReadyH.cons rfl (fun K hK=> ?_) AllReadyH.nil;refine step_append_lies _ rfl (.tmp 13) (.tmp 24) 49 rfl (W1.heap.size+1) 57 iW zW 4 48 Tryz.underlying49 HIW.out HZW.out hWa hWb hWs (by omega) (.slice C k cw) k ys (by simp[Act.eval,Act.put]) HOW.out ⟨w2.heap.size,0,none⟩ 1 1 [.int .i64 cc,.int .i64 o2,.int .i64 n2,.slice A3 k3 d3] (by simp[Act.eval,Act.put]) rfl (World.news_of_block HNW.out) (by intro u hu;simp at hu;rcases hu with rfl|rfl|rfl|rfl<;>rfl) (by omega) (by unfold maxLen;omega) (by omega) (by omega) _ rfl ?_;intro g9 c9 w9 ho9 hg9 hl9 hlt9;have HNX:=Lib.hid (HI.out.next HXW.out HB3.out HRZ.out (fun q hq=>HB4.out.block q hq) ⟨HB4.out.os,HB4.out.tape,HB4.out.output⟩ hW3s ho9 hg9 hl9);have hnob:∀q,q<W1.heap.size+1→some q≠(Value.slice C k cw).ownBlock:=fun q hq e=>by have:=own_blk HI.out.own e.symm;omega
    have k9:∀q,q<W1.heap.size+1→w9.heap[q]? =W3.heap[q]? :=fun q hq=>hg9.block q (by omega) (hnob q hq);have y24:w9.cell? ⟨W1.heap.size,3,none⟩=some (.slice C k cw):=(cell_hp (k9 _ (by omega))).trans y23;have y2f:w9.frozen? ⟨W1.heap.size,3,none⟩=false:=(World.frozen?_of_block (a:=⟨W1.heap.size,3,none⟩) ((k9 W1.heap.size (by omega)).trans ((HB4.out.block W1.heap.size (by omega)).trans (HB3.out.block W1.heap.size (by omega))))).trans (by simp[World.frozen?,HBK.out]);have habx:ab<W1.heap.size+1:=by omega
    have S4:Hid (w9.cell? ⟨ab,off+q,none⟩=some (.int .i64 cc)∧w9.cell? ⟨ab,off+(q+1),none⟩=some (.int .i64 nn)):=⟨(cell_hp (k9 _ habx)).trans S3.out.1,(cell_hp (k9 _ habx)).trans S3.out.2⟩;have kS:∀(v:Value) (q o:Nat),q≠W1.heap.size→(w9.setCell ⟨W1.heap.size,3,none⟩ v).cell? ⟨q,o,none⟩=w9.cell? ⟨q,o,none⟩:=fun v q o hq=>cell_hp (Below.heap_setCell _ _ _ q hq);have S5:Hid (∀v:Value,(w9.setCell ⟨W1.heap.size,3,none⟩ v).cell? ⟨ab,off+q,none⟩=some (.int .i64 cc)∧(w9.setCell ⟨W1.heap.size,3,none⟩ v).cell? ⟨ab,off+(q+1),none⟩=some (.int .i64 nn)):=fun v=>⟨(kS v _ _ habn).trans S4.out.1,(kS v _ _ habn).trans S4.out.2⟩;clear ho9 hg9 hl9 hlt9 k9 kS;refine hK.out _ _ ?_ (fun hHeld=> ?_)
    ·exact S4.out
    clear hK K;try simp only[Act.put,List.setIfInBounds_toArray,List.set_cons_zero,List.set_cons_succ]
    refine wpAnyH_take (i:=14) (v:= ?_) rfl (by kernel_rfl) (by kernel_rfl) (by kernel_rfl) (fun _ _ _ h=>h) (Or.inl ⟨by rfl,?_⟩) (by assumption) ?_;rotate_left
    ·intro w1 hSw;clear hSw;go_simp<;>with_reducible rfl
    try simp only[Act.put,List.setIfInBounds_toArray,List.set_cons_zero,List.set_cons_succ]
    refine wpAnyH_ready (rs:=[15]) (by kernel_rfl) (by simp) ?_;refine AllReadyH.cons rfl (fun K hK=> ?_) AllReadyH.nil;go_simp;refine hK.out _ _ ?_ (fun hHeld=> ?_)
    ·exact S5.out _
    clear hK K;try simp only[Act.put,List.setIfInBounds_toArray,List.set_cons_zero,List.set_cons_succ]
    refine wpAnyH_done (by kernel_rfl) ?_ _;refine NoPanic.normal ?_;go_wp2_with fail;exact⟨⟨k+1,_,_,_,by omega,by rw[HQ.out];go_num,HNX.out⟩,by rw[HQ.out];simp only[intOf];omega⟩
  ·have hke:k=ps.length:=by omega
   subst hke;have hn:=HN.out;have g0:decide ((q:Int)+1<(n:Int))=false:=decide_eq_false (by omega);have w1:IntKind.i64.wrap ((q:Int)+1)=(q:Int)+1:=IntWalk.i64_in _ (by omega);have b0:wr.cell? ⟨W1.heap.size,0,none⟩=some (.int .i64 0):=cell_of_row wr _ 0 _ _ _ HBK.out;have b1:wr.cell? ⟨W1.heap.size,1,none⟩=some (.int .i64 0):=cell_of_row wr _ 1 _ _ _ HBK.out;have b2:wr.cell? ⟨W1.heap.size,2,none⟩=some (.bool false):=cell_of_row wr _ 2 _ _ _ HBK.out;have b3:wr.cell? ⟨W1.heap.size,3,none⟩=some (.slice C ps.length cw):=cell_of_row wr _ 3 _ _ _ HBK.out;have b4:wr.cell? ⟨W1.heap.size,4,none⟩=some (.int .i64 lo):=cell_of_row wr _ 4 _ _ _ HBK.out;have b5:wr.cell? ⟨W1.heap.size,5,none⟩=some (.int .i64 ln):=cell_of_row wr _ 5 _ _ _ HBK.out;have b6:wr.cell? ⟨W1.heap.size,6,none⟩=some (.slice lA lk lc):=cell_of_row wr _ 6 _ _ _ HBK.out;have b7:wr.cell? ⟨W1.heap.size,7,none⟩=some (.int .i64 xo):=cell_of_row wr _ 7 _ _ _ HBK.out;have b8:wr.cell? ⟨W1.heap.size,8,none⟩=some (.int .i64 xn):=cell_of_row wr _ 8 _ _ _ HBK.out;have b9:wr.cell? ⟨W1.heap.size,9,none⟩=some (.slice xA xk xc):=cell_of_row wr _ 9 _ _ _ HBK.out;have b10:wr.cell? ⟨W1.heap.size,10,none⟩=some (.int .i64 0):=cell_of_row wr _ 10 _ _ _ HBK.out;have HRR:Hid (wr.heap[w.heap.size]? =some (.cells ⟨cellsB (wordsB []) none 0 0 (.int .i64 0) (.int .i64 0) (.slice none 0 0) (.int .i64 0) (.int .i64 0) (.slice none 0 0)⟩ 54 (0,0))):=(HI.out.bel.block _ (by omega)).trans HR1.out;have bf:∀i,wr.frozen? ⟨w.heap.size,i,none⟩=false:=fun i=>by simp[World.frozen?,HRR.out]
   have r0:wr.cell? ⟨w.heap.size,0,none⟩=some (.int .i64 0):=cell_of_row wr _ 0 _ _ _ HRR.out;have r1:wr.cell? ⟨w.heap.size,1,none⟩=some (.int .i64 0):=cell_of_row wr _ 1 _ _ _ HRR.out;have r2:wr.cell? ⟨w.heap.size,2,none⟩=some (.bool false):=cell_of_row wr _ 2 _ _ _ HRR.out;have r3:wr.cell? ⟨w.heap.size,3,none⟩=some (.slice none 0 0):=cell_of_row wr _ 3 _ _ _ HRR.out;have r4:wr.cell? ⟨w.heap.size,4,none⟩=some (.int .i64 0):=cell_of_row wr _ 4 _ _ _ HRR.out;have r5:wr.cell? ⟨w.heap.size,5,none⟩=some (.int .i64 0):=cell_of_row wr _ 5 _ _ _ HRR.out;have r6:wr.cell? ⟨w.heap.size,6,none⟩=some (.slice none 0 0):=cell_of_row wr _ 6 _ _ _ HRR.out;have r7:wr.cell? ⟨w.heap.size,7,none⟩=some (.int .i64 0):=cell_of_row wr _ 7 _ _ _ HRR.out;have r8:wr.cell? ⟨w.heap.size,8,none⟩=some (.int .i64 0):=cell_of_row wr _ 8 _ _ _ HRR.out;have r9:wr.cell? ⟨w.heap.size,9,none⟩=some (.slice none 0 0):=cell_of_row wr _ 9 _ _ _ HRR.out;have r10:wr.cell? ⟨w.heap.size,10,none⟩=some (.int .i64 0):=cell_of_row wr _ 10 _ _ _ HRR.out;have bw:w.heap.size<wr.heap.size:=by omega
   clear hq hn;go_wp2_with fail;refine bodyPost_ret (results_c1 Tryz.results24 _ _ w.heap.size _ _ _ _ rfl (set11_blk HRR.out) Tryz.underlying54 (by kernel_rfl)) rfl ⟨C,cw,.int .i64 lo,.int .i64 ln,.slice lA lk lc,.int .i64 xo,.int .i64 xn,.slice xA xk xc,rfl,?_,?_⟩
   ·have hz:Bz wr (fun g=>W1.heap.size<g) (wordsB ps) C ps.length (.int .i64 lo) (.int .i64 ln) (.slice lA lk lc) (.int .i64 xo) (.int .i64 xn) (.slice xA xk xc):=
     ⟨by show I64 0;unfold I64;omega,by show I64 0;unfold I64;omega,by show I64 0;unfold I64;omega,HI.out.wz (by simp[wordsB]) (by unfold maxLen;omega) (fun x hx=>by
      unfold wordsB at hx
      obtain⟨p,hp,rfl⟩:=List.mem_map.1 hx
      obtain⟨i,hi⟩:=List.getElem?_of_mem hp
      exact(HP.out i p.1 p.2 hi).2.2.1),HLL.out.keep (Nat.le_refl _) (fun _ _ q=>q.1) (fun _ _ _=>rfl),HXX.out.keep (Nat.le_refl _) (fun _ _ q=>q.1) (fun _ _ _=>rfl)⟩
    exact hz.keep (Nat.le_of_eq (set11_size wr w.heap.size _ _ _ _ _ _ _ _ _ _ _).symm) (fun g _ hg=>by have q:W1.heap.size<g:=hg;show w.heap.size≤g;omega) (fun g _ hg=>set11_ne wr w.heap.size g _ _ _ _ _ _ _ _ _ _ _ (by have q:W1.heap.size<g:=hg;omega))
   ·exact below_set11 (HB1.out.trans (HI.out.bel.mono HB1.out.size)) (Nat.le_refl _) _ _ _ _ _ _ _ _ _ _ _
end Go.Proofs.YtdcjbhdfphcefaaGreatDoor
namespace Go.Proofs.YtdcjbhdfphcefaaGreatDoor
open Go.RowKit
def TxS(L:Lb)(sk:Bool)(m:MS)(n0:Nat)(w':World)(B:Nat)(F:Fp):Prop:=
 MX w' B F L sk m∧n0≤B∧F.av=[]∧∀w2:World,w'.heap.size≤w2.heap.size→(∀g,n0≤g→g<w'.heap.size→w2.heap[g]? =w'.heap[g]?)→Tab w2→Tn w2→MX w2 B F L sk m
theorem new_ofS{L:Lb}{m:MS}(hm:newS L=some m)(sk:Bool)(w:World)(I:Nat→Prop)(A1 A2 A3:Option Addr)(c1 c2 c3:Nat)(h:LzB w I L A1 A2 A3)(ht:Tab w)(htn:Tn w):
 Calls Tryz.prog 14 #[.agg #[.slice A1 L.bl.length c1,.slice A2 L.pr.length c2,.slice A3 L.mt.length c3],.bool sk] w fun e w'=>Below w.heap.size w w'∧∃(B:Nat) (F:Fp),e=.returned (.tuple #[.pointer (some ⟨F.mb,0,none⟩),.int .i64 0])∧TxS L sk m w.heap.size w' B F:=by
 have q:=fnew_any w I L sk A1 A2 A3 c1 c2 c3 h ht htn;unfold NwPost at q;rw[hm]at q;refine q.mono ?_;rintro e w' ⟨hb,B,F,he,hx,h1,h2,h3⟩;exact⟨hb,B,F,he,hx,h1,h2,h3⟩
theorem MP.bel{B:Nat}{F:Fp}{L:Lb}{sk:Bool}{m m':MS}{w w':World}(hx:MX w B F L sk m)(h:MP B F L sk m' w w'){b:Nat}(hb:b≤B):Below b w w':=by
 obtain⟨F',_,_,hc⟩:=h;exact⟨hc.os,hc.tape,hc.output,hc.size,fun g hg=>hc.block g (by have:=hx.Ble;omega) (fun ho=>by have:=(hx.own_ge g ho).1;omega)⟩
theorem BkS.mono{W:World}{base:Nat}{I I':Nat→Prop}{C:Option Addr}{cp:Nat}{bs:List Bk}{xs:List Value}(h:BkS W base I C cp bs xs)(hI:∀g,g<W.heap.size→I g→I' g):BkS W base I' C cp bs xs:=
 ⟨h.own,fun q hq=>hI q (own_blk h.own hq).2 (h.ownI q hq),fun i b hb=>by
  obtain⟨A,n,c,l0,l1,l2,x0,x1,x2,h1,h2⟩:=h.parts i b hb
  exact⟨A,n,c,l0,l1,l2,x0,x1,x2,h1,h2.keep (Nat.le_refl _) (fun g hg hi=>⟨hI g hg hi.1,hi.2⟩) fun _ _ _=>rfl⟩⟩
theorem BkS.pushJ{W W3 w1:World}{base:Nat}{I J:Nat→Prop}{C:Option Addr}{cp:Nat}{bs:List Bk}{xs:List Value}{b:Bk}{A:Option Addr}{n c g cap:Nat}{l0 l1 l2 x0 x1 x2:Value}(h:BkS W base I C cp bs xs)
 (hb:Bz W J b A n l0 l1 l2 x0 x1 x2) (hJ:∀q,q<W.heap.size→J q→I q∧some q≠(Value.slice C bs.length cp).ownBlock) (hI:I W3.heap.size) (hs3:W.heap.size≤W3.heap.size) (k3:∀q,q<W.heap.size→W3.heap[q]? =W.heap[q]?)
 (ho:w1.ownsRow base 54 11 (.slice (some ⟨g,0,none⟩) (bs.length+1) cap) (bs.length+1) (xs++cellsB b A n c l0 l1 l2 x0 x1 x2)) (hg:W3.grownBy w1 (Value.slice C bs.length cp).ownBlock) (hl:(Value.slice C bs.length cp).ownBlock=some g∨g=W3.heap.size):
 BkS w1 base I (some ⟨g,0,none⟩) cap (bs++[b]) (xs++cellsB b A n c l0 l1 l2 x0 x1 x2):=by
 have hgs:=hg.size;have hlen:(bs++[b]).length=bs.length+1:=by simp
 have hob:∀q,(Value.slice C bs.length cp).ownBlock=some q→base≤q∧q<W.heap.size:=fun q hq=>own_blk h.own hq;have kp:∀q,q<W.heap.size→(Value.slice C bs.length cp).ownBlock≠some q→w1.heap[q]? =W.heap[q]? :=fun q hq hn=>(hg.block q (by omega) (fun e=>hn e.symm)).trans (k3 q hq);have hgI:I g:=by
  rcases hl with e|e
  ·exact h.ownI g e
  ·rw[e];exact hI
 have hgne:∀q,q<W.heap.size→some q≠(Value.slice C bs.length cp).ownBlock→some q≠(Value.slice (some ⟨g,0,none⟩) (bs++[b]).length cap).ownBlock:=fun q hq hn e=>by
  simp only[Value.ownBlock,Option.some.injEq]at e;subst e;rcases hl with e|e
  ·exact hn e.symm
  ·omega
 refine⟨by rw[hlen];exact ho,fun q hq=> ?_,fun i b' hb'=> ?_⟩
 ·simp only[Value.ownBlock,Option.some.injEq]at hq;rw[←hq];exact hgI
 have hxl:=h.own.1;have hil:=(List.getElem?_eq_some_iff.1 hb').1;rw[hlen]at hil;by_cases e:i=bs.length
 ·subst e;have e2:b'=b:=by
   rw[List.getElem?_append_right (Nat.le_refl _),Nat.sub_self]at hb';simpa using hb'.symm
  subst e2;refine⟨A,n,c,l0,l1,l2,x0,x1,x2,fun j v hv=>by rw[app_new hxl];exact hv,hb.keep (by omega) (fun q hq hi=>⟨(hJ q hq hi).1,hgne q hq (hJ q hq hi).2⟩) fun q hq hi=>kp q hq fun e=>(hJ q hq hi).2 e.symm⟩
 ·rw[List.getElem?_append_left (by omega)]at hb';obtain⟨A,n,c,m0,m1,m2,y0,y1,y2,hp1,hp2⟩:=h.parts i b' hb';refine⟨A,n,c,m0,m1,m2,y0,y1,y2,fun j v hv=> ?_,hp2.keep (by omega) (fun q hq hi=>⟨hi.1,hgne q hq hi.2⟩) fun q hq hi=>kp q hq fun e=>hi.2 e.symm⟩;have hj:j<11:=by have:=(List.getElem?_eq_some_iff.1 hv).1;simpa[cellsB]using this
  exact(app_atd hxl (by omega)).trans (hp1 j v hv)
theorem grown_bel{b:Nat}{w W W3 w1:World}{v:Option Nat}(h:Below b w W)(hb:Below W.heap.size W W3)(hg:W3.grownBy w1 v)(hv:∀q,v=some q→b≤q)(hbw:b≤w.heap.size):Below b w w1:=by
 have k:=grown_keep hb hg;have hs:=hb.size;have hgs:=hg.size;have hc:=h.size;exact⟨hg.os.trans (hb.os.trans h.os),hg.tape.trans (hb.tape.trans h.tape),hg.output.trans (hb.output.trans h.output),by omega,fun q hq=>(k q (by omega) (fun e=>by have:=hv q e;omega)).trans (h.block q hq)⟩
end Go.Proofs.YtdcjbhdfphcefaaGreatDoor
namespace Go.Proofs.YtdcjbhdfphcefaaGreatDoor
open Go.RowKit
def setL(W:World)(g:Nat):Nat→List Value→World
 |_,[]=>W
 |o,v::r=>setL (W.setCell ⟨g,o,none⟩ v) g (o+1) r
theorem setL_size(g:Nat):∀(l:List Value) (W:World) (o:Nat),(setL W g o l).heap.size=W.heap.size:=by
 intro l;induction l with
 |nil=>intro W o;rfl
 |cons v r ih=>intro W o;rw[setL,ih];simp[World.setCell]
theorem setL_heap(g q:Nat)(h:q≠g):∀(l:List Value) (W:World) (o:Nat),(setL W g o l).heap[q]? =W.heap[q]? :=by
 intro l;induction l with
 |nil=>intro W o;rfl
 |cons v r ih=>intro W o;rw[setL,ih];exact Below.heap_setCell _ _ _ q h
theorem setL_ne(g j:Nat):∀(l:List Value) (W:World) (o:Nat),(j<o∨o+l.length≤j)→(setL W g o l).cell? ⟨g,j,none⟩=W.cell? ⟨g,j,none⟩:=by
 intro l;induction l with
 |nil=>intro W o _;rfl
 |cons v r ih=>
  intro W o h;rw[setL,ih _ _ (by simp only[List.length_cons]at h;omega)];exact cset_ne (by simp only[List.length_cons]at h;omega)
theorem setL_at(g:Nat):∀(l:List Value) (W:World) (o:Nat),(∀j,j<l.length→∃u,W.cell? ⟨g,o+j,none⟩=some u)→∀(j:Nat) (v:Value),l[j]? =some v→(setL W g o l).cell? ⟨g,o+j,none⟩=some v:=by
 intro l;induction l with
 |nil=>intro W o _ j v h;simp at h
 |cons x r ih=>
  intro W o h j v hj;rw[setL];rcases j with _|j
  ·simp only[List.getElem?_cons_zero,Option.some.injEq]at hj;subst hj;rw[setL_ne g (o+0) r _ (o+1) (by omega)];obtain⟨u,hu⟩:=h 0 (by simp);exact World.cell?_setCell_same _ _ _ hu
  ·rw[List.getElem?_cons_succ]at hj;have q:=ih (W.setCell ⟨g,o,none⟩ x) (o+1) (fun k hk=>by
    obtain⟨u,hu⟩:=h (k+1) (by simp;omega)
    refine⟨u,(cset_ne (by omega)).trans ?_⟩
    rw[show o+1+k=o+(k+1)by omega]
    exact hu) j v hj
   rw[show o+(j+1)=o+1+j by omega];exact q
theorem setL_below{B:Nat}{w W:World}(h:Below B w W){g:Nat}(hg:B≤g):∀(l:List Value) (o:Nat),Below B w (setL W g o l):=by
 intro l;induction l generalizing W with
 |nil=>intro o;exact h
 |cons v r ih=>intro o;rw[setL];exact ih (h.setCell (p:=⟨g,o,none⟩) hg v) (o+1)
theorem lz_at{W:World}{I:Nat→Prop}{g:Nat}{l:List Bk}(hg:I g)(hgl:g<W.heap.size)(hn:l.length≤maxLen)(h:∀(i:Nat) (b:Bk),l[i]? =some b→Kz W (fun j=>I j∧j≠g) g (i*11) b):Lz W I (some ⟨g,0,none⟩) l.length l:=
 ⟨rfl,hn,.inr ⟨g,rfl,hg,hgl,h⟩⟩
theorem Lz.set{W:World}{I:Nat→Prop}{g i:Nat}{l:List Bk}{b:Bk}{A:Option Addr}{n c:Nat}{l0 l1 l2 x0 x1 x2:Value}(h:Lz W I (some ⟨g,0,none⟩) l.length l)(hi:i<l.length)(hb:Bz W (fun j=>I j∧j≠g) b A n l0 l1 l2 x0 x1 x2):
 Lz (setL W g (i*11) (cellsB b A n c l0 l1 l2 x0 x1 x2)) I (some ⟨g,0,none⟩) (l.set i b).length (l.set i b):=by
 obtain⟨h1,h2,h4⟩:=h;rcases h4 with⟨h4,_⟩|⟨g',e,hg,hl,hr⟩
 ·cases h4
 injection e with e
 injection e with e
 subst e;have hk:∀q,q<W.heap.size→(I q∧q≠g)→(setL W g (i*11) (cellsB b A n c l0 l1 l2 x0 x1 x2)).heap[q]? =W.heap[q]? :=fun q _ hq=>setL_heap g q hq.2 _ _ _;have hs:=setL_size g (cellsB b A n c l0 l1 l2 x0 x1 x2) W (i*11);refine lz_at hg (by rw[hs];exact hl) (by simpa using h2) fun i' b' hb'=> ?_;by_cases e:i'=i
 ·subst e;rw[List.getElem?_set_self hi]at hb';cases hb';refine⟨A,n,c,l0,l1,l2,x0,x1,x2,fun j v hj=>setL_at g _ W _ (fun k hk=> ?_) j v hj,hb.keep (Nat.le_of_eq hs.symm) (fun _ _ h=>h) hk⟩;obtain⟨b0,hb0⟩:∃b0,l[i']? =some b0:=⟨_,List.getElem?_eq_getElem hi⟩;obtain⟨A',n',c',m0,m1,m2,y0,y1,y2,hc,_⟩:=hr i' b0 hb0;have hk':k<(cellsB b0 A' n' c' m0 m1 m2 y0 y1 y2).length:=by simpa[cellsB]using hk
  exact⟨_,hc k _ (List.getElem?_eq_getElem hk')⟩
 ·rw[List.getElem?_set_ne (fun q=>e q.symm)]at hb';exact(hr i' b' hb').keep (Nat.le_of_eq hs.symm) (fun _ _ h=>h) hk fun j hj=>setL_ne g _ _ _ _ (by
   have:(cellsB b A n c l0 l1 l2 x0 x1 x2).length=11:=by simp[cellsB]
   rw[this]
   have:i'<i∨i<i':=by omega
   rcases this with q|q
   ·left;omega
   ·right;omega)
structure Fb where
 kind:Int
 label:Int
 left:Int
 x:Int
 n:Int
def fb(f:Fb):Bk:=⟨f.kind,f.label,false,[],numT f.left,numT f.x,f.n⟩
def fc(f:Fb):List Value:=[.int .i64 f.kind,.int .i64 f.label,.bool false,.slice none 0 0,.int .i64 0,.int .i64 f.left,.slice none 0 0,.int .i64 0,.int .i64 f.x,.slice none 0 0,.int .i64 f.n]
def fok(f:Fb):Prop:=I64 f.kind∧I64 f.label∧I64 f.left∧I64 f.x∧I64 f.n
theorem fc_bz(W:World)(I:Nat→Prop)(f:Fb)(h:fok f):Bz W I (fb f) none 0 (.int .i64 0) (.int .i64 f.left) (.slice none 0 0) (.int .i64 0) (.int .i64 f.x) (.slice none 0 0):=
 ⟨h.1,h.2.1,h.2.2.2.2,wz_nil W I,rz_num W I f.left h.2.2.1,rz_num W I f.x h.2.2.2.1⟩
theorem fc_flat:∀(fs:List Fb) (i j:Nat) (f:Fb),fs[i]? =some f→j<11→(fs.flatMap fc)[i*11+j]? =(fc f)[j]? :=by
 intro fs;induction fs with
 |nil=>intro i j f h;simp at h
 |cons a r ih=>
  intro i j f h hj;rw[List.flatMap_cons];rcases i with _|i
  ·simp only[List.getElem?_cons_zero,Option.some.injEq]at h;subst h;rw[show 0*11+j=j by omega,List.getElem?_append_left (by simpa[fc]using hj)]
  ·rw[List.getElem?_cons_succ]at h;have e:(fc a).length=11:=rfl;rw[List.getElem?_append_right (by rw[e];omega),e,show(i+1)*11+j-11=i*11+j by omega];exact ih i j f h hj
theorem lz_flat{W:World}{base g n cap:Nat}{I:Nat→Prop}{fs:List Fb}(h:W.ownsRow base 54 11 (.slice (some ⟨g,0,none⟩) n cap) n (fs.flatMap fc))(hn:n=fs.length)(hm:n≤maxLen)(hg:I g)(hf:∀f∈fs,fok f):Lz W I (some ⟨g,0,none⟩) n (fs.map fb):=by
 have e:n=(fs.map fb).length:=by simp[hn]
 have hlt:=(own_blk h rfl).2;rw[e];refine lz_at hg hlt (by rw[←e];exact hm) fun i b hb=> ?_;rw[List.getElem?_map]at hb;obtain⟨f,hf1,rfl⟩:=Option.map_eq_some_iff.1 hb;have hil:=(List.getElem?_eq_some_iff.1 hf1).1;refine⟨none,0,0,_,_,_,_,_,_,fun j v hj=> ?_,fc_bz W _ f (hf f (List.mem_of_getElem? hf1))⟩;have hjl:j<11:=by have:=(List.getElem?_eq_some_iff.1 hj).1;simpa[cellsB]using this
 rw[h.cellAt (i*11+j) (by omega),fc_flat fs i j f hf1 hjl];exact hj
theorem Lz.kind_at{W:World}{I:Nat→Prop}{g k:Nat}{l:List Bk}{b:Bk}{n:Nat}(h:Lz W I (some ⟨g,0,none⟩) n l)(hk:l[k]? =some b):W.cell? ⟨g,k*11,none⟩=some (.int .i64 b.kind):=by
 obtain⟨h1,h2,h4⟩:=h;rcases h4 with⟨h4,_⟩|⟨g',e,hg,hl,hr⟩
 ·cases h4
 injection e with e
 injection e with e
 subst e;obtain⟨A',n',c',m0,m1,m2,y0,y1,y2,hc,_⟩:=hr k b hk;exact hc 0 _ rfl
end Go.Proofs.YtdcjbhdfphcefaaGreatDoor
