/- The contract of Copy of package library: a copy of blocks that shares no memory with them. Conditions: the blocks read as plain data, with few parts at each place. -/
import Derived.Test.YtdcjbhdfphcefaaGreatDoorCp
import Derived.Test.YtdcjbhdfphcefaaGreatDoorFa
import Derived.Deep.CutRange
set_option linter.unusedVariables false
set_option linter.unusedSimpArgs false
namespace Go.Proofs.YtdcjbhdfphcefaaGreatDoor
open Go.RowKit
def Ko(w W:World)(I:Nat→Prop)(g o:Nat)(b:Bk):Prop:=
 ∃(A:Option Addr) (k c:Nat) (l0 l1 l2 x0 x1 x2:Value),(∀(j:Nat) (v:Value),(cellsB b A k c l0 l1 l2 x0 x1 x2)[j]? =some v→W.cell? ⟨g,o+j,none⟩=some v)∧Bz w I b A k l0 l1 l2 x0 x1 x2
theorem Ko.keep{w W W':World}{I:Nat→Prop}{g o:Nat}{b:Bk}(h:Ko w W I g o b)(hk:∀j,j<11→W'.cell? ⟨g,o+j,none⟩=W.cell? ⟨g,o+j,none⟩):Ko w W' I g o b:=by
 obtain⟨A,k,c,l0,l1,l2,x0,x1,x2,h1,h2⟩:=h;refine⟨A,k,c,l0,l1,l2,x0,x1,x2,fun j v hj=>(hk j ?_).trans (h1 j v hj),h2⟩;have:=(List.getElem?_eq_some_iff.1 hj).1;simpa[cellsB]using this
structure ClR(w:World)(I:Nat→Prop)(l:List Bk)(C:Option Addr)(k:Nat)(W:World):Prop where
 bel:Below w.heap.size w W
 ex:(C=none∧l.length=0)∨∃g:Nat,C=some ⟨g,0,none⟩∧w.heap.size≤g∧(∃cs:Array Value,W.heap[g]? =some (.cells cs 54 (0,0)))∧
  (∀i b,i<k→l[i]? =some b→Kz W (fun j=>w.heap.size≤j∧j≠g) g (i*11) b)∧(∀i b,k≤i→l[i]? =some b→Ko w W I g (i*11) b)
def WoR(w W:World)(I J:Nat→Prop)(ws:List (Int×Tr))(j gw:Nat):Prop:=
 (∀i c t,i<j→ws[i]? =some (c,t)→W.cell? ⟨gw,i*4,none⟩=some (.int .i64 c)∧∃x y z:Value,W.cell? ⟨gw,i*4+1,none⟩=some x∧W.cell? ⟨gw,i*4+2,none⟩=some y∧W.cell? ⟨gw,i*4+3,none⟩=some z∧Rz W J t (.agg #[x,y,z]))∧
 (∀i c t,j≤i→ws[i]? =some (c,t)→W.cell? ⟨gw,i*4,none⟩=some (.int .i64 c)∧∃x y z:Value,W.cell? ⟨gw,i*4+1,none⟩=some x∧W.cell? ⟨gw,i*4+2,none⟩=some y∧W.cell? ⟨gw,i*4+3,none⟩=some z∧Rz w I t (.agg #[x,y,z]))
structure ClI(w:World)(I:Nat→Prop)(l:List Bk)(g k:Nat)(b:Bk)(CW:Option Addr)(cw:Nat)(j:Nat)(W:World):Prop where
 bel:Below w.heap.size w W
 hg:w.heap.size≤g
 blk:∃cs:Array Value,W.heap[g]? =some (.cells cs 54 (0,0))
 new:∀i b,i<k→l[i]? =some b→Kz W (fun q=>(w.heap.size≤q∧q≠g)∧some q≠CW.map (·.block)) g (i*11) b
 old:∀i b,k<i→l[i]? =some b→Ko w W I g (i*11) b
 here:∃l0 l1 l2 x0 x1 x2:Value,(∀(j:Nat) (v:Value),(cellsB b CW b.words.length cw l0 l1 l2 x0 x1 x2)[j]? =some v→W.cell? ⟨g,k*11+j,none⟩=some v)∧
  Rz W (fun q=>(w.heap.size≤q∧q≠g)∧some q≠CW.map (·.block)) b.left (.agg #[l0,l1,l2])∧Rz W (fun q=>(w.heap.size≤q∧q≠g)∧some q≠CW.map (·.block)) b.x (.agg #[x0,x1,x2])
 words:(CW=none∧b.words.length=0)∨∃gw:Nat,CW=some ⟨gw,0,none⟩∧(w.heap.size≤gw∧gw≠g)∧(∃cs:Array Value,W.heap[gw]? =some (.cells cs 57 (0,0)))∧WoR w W I (fun q=>(w.heap.size≤q∧q≠g)∧q≠gw) b.words j gw
theorem ClI.next{w:World}{I:Nat→Prop}{l:List Bk}{g k:Nat}{b:Bk}{gw cw j:Nat}{W W2:World}{x y z:Value}{c:Int}{t:Tr}(h:ClI w I l g k b (some ⟨gw,0,none⟩) cw j W)(hj:b.words[j]? =some (c,t))(hb:Below W.heap.size W W2)(hr:Rz W2 (fun q=>W.heap.size≤q) t (.agg #[x,y,z])):
 ClI w I l g k b (some ⟨gw,0,none⟩) cw (j+1) (set3 W2 gw (j*4+1) x y z):=by
 obtain⟨cs,hcs⟩:=h.blk;have h1:=hlS hcs;rcases h.words with⟨e,_⟩|⟨gw',e,⟨hw1,hw2⟩,⟨csw,hgw⟩,hn,ho⟩
 ·cases e
 cases e;have h2:=hlS hgw;have hss:W.heap.size≤(set3 W2 gw (j*4+1) x y z).heap.size:=by rw[set3_size];exact hb.size
 have kp:∀q,q<W.heap.size→q≠gw→(set3 W2 gw (j*4+1) x y z).heap[q]? =W.heap[q]? :=fun q hq hne=>(set3_heap _ _ _ _ _ _ _ hne).trans (hb.block q hq);have kc:∀o,o<j*4+1∨j*4+1+3≤o→(set3 W2 gw (j*4+1) x y z).cell? ⟨gw,o,none⟩=W.cell? ⟨gw,o,none⟩:=fun o ho=>(set3_ne _ _ _ _ _ _ _ ho).trans (hb.cell (p:=⟨gw,o,none⟩) h2);have kg:∀o,(set3 W2 gw (j*4+1) x y z).cell? ⟨g,o,none⟩=W.cell? ⟨g,o,none⟩:=fun o=>cell_hp (kp g h1 (fun e=>hw2 e.symm));have kr:∀{t:Tr} {v:Value},Rz W (fun q=>(w.heap.size≤q∧q≠g)∧some q≠(some (⟨gw,0,none⟩:Addr)).map (·.block)) t v→Rz (set3 W2 gw (j*4+1) x y z) (fun q=>(w.heap.size≤q∧q≠g)∧some q≠(some (⟨gw,0,none⟩:Addr)).map (·.block)) t v:=fun hr=>hr.keep hss (fun _ _ h=>h) fun q hq hi=>kp q hq fun e=>hi.2 (by rw[e];rfl);obtain⟨l0,l1,l2,x0,x1,x2,hh1,hh2,hh3⟩:=h.here;refine⟨below_set3 (h.bel.trans (hb.mono (by omega))) hw1 _ _ _ _,h.hg,⟨cs,(kp g h1 (fun e=>hw2 e.symm)).trans hcs⟩,fun i b hi hb'=>(h.new i b hi hb').keep hss (fun _ _ h=>h) (fun q hq hi=>kp q hq fun e=>hi.2 (by rw[e];rfl)) fun o _=>kg _,fun i b hi hb'=>(h.old i b hi hb').keep fun o _=>kg _,
  ⟨l0,l1,l2,x0,x1,x2,fun o v hv=>(kg _).trans (hh1 o v hv),kr hh2,kr hh3⟩,.inr ⟨gw,rfl,⟨hw1,hw2⟩,?_,?_,?_⟩⟩
 ·obtain⟨cs',q1,_⟩:=set3_blk (o:=j*4+1) (x:=x) (y:=y) (z:=z) ((hb.block gw h2).trans hgw);exact⟨cs',q1⟩
 ·intro i ci ti hi hx;by_cases e:i=j
  ·subst e;rw[hj]at hx;cases hx;obtain⟨c0,x',y',z',c1,c2,c3,_⟩:=ho i c t (Nat.le_refl _) hj;have e3:=set3_eq (x:=x) (y:=y) (z:=z) ((hb.cell (p:=⟨gw,i*4+1,none⟩) h2).trans c1) ((hb.cell (p:=⟨gw,i*4+1+1,none⟩) h2).trans c2) ((hb.cell (p:=⟨gw,i*4+1+2,none⟩) h2).trans c3);exact⟨(kc _ (by omega)).trans c0,x,y,z,e3.1,e3.2.1,e3.2.2,hr.keep (by rw[set3_size];exact Nat.le_refl _) (fun q _ (hq:W.heap.size≤q)=>⟨⟨by have:=h.bel.size;omega,by omega⟩,by omega⟩) fun q _ (hq:W.heap.size≤q)=>set3_heap _ _ _ _ _ _ _ (by omega)⟩
  ·obtain⟨c0,x',y',z',c1,c2,c3,hr'⟩:=hn i ci ti (by omega) hx;exact⟨(kc _ (by omega)).trans c0,x',y',z',(kc _ (by omega)).trans c1,(kc _ (by omega)).trans c2,(kc _ (by omega)).trans c3,hr'.keep hss (fun _ _ h=>h) fun q hq hi=>kp q hq hi.2⟩
 ·intro i ci ti hi hx;obtain⟨c0,x',y',z',c1,c2,c3,hr'⟩:=ho i ci ti (by omega) hx;exact⟨(kc _ (by omega)).trans c0,x',y',z',(kc _ (by omega)).trans c1,(kc _ (by omega)).trans c2,(kc _ (by omega)).trans c3,hr'⟩
theorem ClI.done{w:World}{I:Nat→Prop}{l:List Bk}{g k:Nat}{b:Bk}{CW:Option Addr}{cw:Nat}{W:World}(h:ClI w I l g k b CW cw b.words.length W)(hb:l[k]? =some b)(h1:I64 b.kind)(h2:I64 b.label)(h3:I64 b.n)(h4:b.words.length≤maxLen)(h5:∀x∈b.words,I64 x.1):ClR w I l (some ⟨g,0,none⟩) (k+1) W:=by
 refine⟨h.bel,.inr ⟨g,rfl,h.hg,h.blk,fun i b' hi hb'=> ?_,fun i b' hi hb'=>h.old i b' (by omega) hb'⟩⟩;have kI:∀q:Nat,(w.heap.size≤q∧q≠g)∧some q≠CW.map (·.block)→w.heap.size≤q∧q≠g:=fun q h=>h.1;by_cases e:i=k
 ·subst e;rw[hb]at hb';cases hb';obtain⟨l0,l1,l2,x0,x1,x2,hh1,hh2,hh3⟩:=h.here;refine⟨CW,b.words.length,cw,l0,l1,l2,x0,x1,x2,hh1,h1,h2,h3,⟨rfl,h4,h5,?_⟩,hh2.keep (Nat.le_refl _) (fun q _=>kI q) fun _ _ _=>rfl,hh3.keep (Nat.le_refl _) (fun q _=>kI q) fun _ _ _=>rfl⟩;rcases h.words with hw|⟨gw,e1,e2,⟨csw,hgw⟩,hn,_⟩
  ·exact .inl hw
  ·refine .inr ⟨gw,e1,e2,hlS hgw,fun i c t hx=> ?_⟩;obtain⟨c0,x',y',z',c1,c2,c3,hr'⟩:=hn i c t (by have:=(List.getElem?_eq_some_iff.1 hx).1;omega) hx;exact⟨c0,x',y',z',c1,c2,c3,hr'.keep (Nat.le_refl _) (fun q _ h=>h.1) fun _ _ _=>rfl⟩
 ·exact(h.new i b' (by omega) hb').keep (Nat.le_refl _) (fun q _=>kI q) (fun _ _ _=>rfl) fun _ _=>rfl
theorem ClI.start{w:World}{I:Nat→Prop}{l:List Bk}{g k:Nat}{b:Bk}{A CW:Option Addr}{cw:Nat}{W W1 W2 W3:World}{l0 l1 l2 x0 x1 x2:Value}{xs:List Value}(h:ClR w I l (some ⟨g,0,none⟩) k W)(hb:l[k]? =some b)
 (b1:Below W.heap.size W W1) (r1:Rz W1 (fun q=>W.heap.size≤q) b.left (.agg #[l0,l1,l2])) (b2:Below W1.heap.size W1 W2) (r2:Rz W2 (fun q=>W1.heap.size≤q) b.x (.agg #[x0,x1,x2])) (b3:Below W2.heap.size W2 W3)
 (ho:W3.ownsRow W2.heap.size 57 4 (.slice CW b.words.length cw) b.words.length xs) (hA:Wz w I A b.words.length b.words) (hx:∀(i:Nat) (u:Value),i<b.words.length*4→∀ga,A=some ⟨ga,0,none⟩→w.cell? ⟨ga,i,none⟩=some u→xs[i]? =some u):
 ClI w I l g k b CW cw 0 ((set3 (set3 W3 g (k*11+4) l0 l1 l2) g (k*11+7) x0 x1 x2).setCell ⟨g,k*11+3,none⟩ (.slice CW b.words.length cw)):=by
 rcases h.ex with⟨e,_⟩|⟨g',e,hge,⟨cs,hcs⟩,hn,ho'⟩
 ·cases e
 cases e;have hgl:=hlS hcs;have s1:=b1.size;have s2:=b2.size;have s3:=b3.size;have bb:Below W.heap.size W W3:=(b1.trans (b2.mono s1)).trans (b3.mono (by omega));obtain⟨WF,hWF⟩:∃WF,WF=(set3 (set3 W3 g (k*11+4) l0 l1 l2) g (k*11+7) x0 x1 x2).setCell ⟨g,k*11+3,none⟩ (.slice CW b.words.length cw):=⟨_,rfl⟩;rw[←hWF];have kF:∀q,q≠g→WF.heap[q]? =W3.heap[q]? :=fun q hq=>by rw[hWF];exact(Below.heap_setCell _ _ _ q hq).trans ((set3_heap _ _ _ _ _ _ _ hq).trans (set3_heap _ _ _ _ _ _ _ hq))
 have kz:WF.heap.size=W3.heap.size:=by rw[hWF];simp[World.setCell,set3]
 have kc:∀o,o<k*11+3∨k*11+10≤o→WF.cell? ⟨g,o,none⟩=W.cell? ⟨g,o,none⟩:=fun o ho=>by
  rw[hWF];exact(cset_ne (by omega)).trans ((set3_ne _ _ _ _ _ _ _ (by omega)).trans ((set3_ne _ _ _ _ _ _ _ (by omega)).trans (bb.cell (p:=⟨g,o,none⟩) hgl)))
 have hob:∀q,some q=CW.map (·.block)→W2.heap.size≤q∧q<W3.heap.size:=fun q hq=>by
  rcases ho.2 with⟨e1,_⟩|⟨g',cap,cur,e1,h1,h2,_⟩
  ·simp only[Value.slice.injEq]at e1;rw[e1.1]at hq;simp at hq
  ·simp only[Value.slice.injEq,true_and]at e1;rw[e1.1]at hq;simp at hq;subst hq;exact⟨h1,hlS h2⟩
 have lift:∀{q0:Nat} {V:World} {t:Tr} {v:Value},Below V.heap.size V W3→w.heap.size≤q0→V.heap.size≤W2.heap.size→(∀q,q0≤q→q<V.heap.size→q≠g)→Rz V (fun q=>q0≤q) t v→Rz WF (fun q=>(w.heap.size≤q∧q≠g)∧some q≠CW.map (·.block)) t v:=fun hV hq0 hsV hne hr=>
  hr.keep (by rw[kz];exact hV.size) (fun q hq hi=>⟨⟨Nat.le_trans hq0 hi,hne q hi hq⟩,fun e=>by have:=(hob q e).1;omega⟩) fun q hq hi=>(kF q (hne q hi hq)).trans (hV.block q hq)
 obtain⟨A0,k0,c0,y0,y1,y2,z0,z1,z2,hcell,hbz⟩:=ho' k b (Nat.le_refl _) hb;have hin:∀j v,(cellsB b A0 k0 c0 y0 y1 y2 z0 z1 z2)[j]? =some v→W3.cell? ⟨g,k*11+j,none⟩=some v:=fun j v hv=>(bb.cell (p:=⟨g,k*11+j,none⟩) hgl).trans (hcell j v hv);have hbs:=h.bel.size;refine⟨?_,hge,?_,fun i b' hi hb'=> ?_,fun i b' hi hb'=> ?_,?_,?_⟩
 ·rw[hWF];exact(below_set3 (below_set3 (h.bel.trans (bb.mono hbs)) hge _ _ _ _) hge _ _ _ _).setCell (p:=⟨g,k*11+3,none⟩) hge _
 ·obtain⟨c1,q1,_⟩:=set3_blk (o:=k*11+4) (x:=l0) (y:=l1) (z:=l2) ((bb.block g hgl).trans hcs);obtain⟨c2,q2,_⟩:=set3_blk (o:=k*11+7) (x:=x0) (y:=x1) (z:=x2) q1;obtain⟨c3,q3,_⟩:=setc_blk (o:=k*11+3) (v:=.slice CW b.words.length cw) q2;exact⟨c3,by rw[hWF];exact q3⟩
 ·exact(hn i b' hi hb').keep (by rw[kz];omega) (fun q hq hi=>⟨hi,fun e=>by have:=(hob q e).1;omega⟩) (fun q hq hi=>(kF q hi.2).trans (bb.block q hq)) fun o ho=>kc _ (by omega)
 ·exact(ho' i b' (by omega) hb').keep fun o ho=>kc _ (by omega)
 ·have e4:=set3_eq (x:=l0) (y:=l1) (z:=l2) (hin 4 _ rfl) (hin 5 _ rfl) (hin 6 _ rfl);have h7:∀j v,7≤j→(cellsB b A0 k0 c0 y0 y1 y2 z0 z1 z2)[j]? =some v→(set3 W3 g (k*11+4) l0 l1 l2).cell? ⟨g,k*11+j,none⟩=some v:=fun j v h hv=>(set3_ne _ _ _ _ _ _ _ (by omega)).trans (hin j v hv);have e7:=set3_eq (x:=x0) (y:=x1) (z:=x2) (h7 7 _ (by omega) rfl) (h7 8 _ (by omega) rfl) (h7 9 _ (by omega) rfl);have h3:(set3 (set3 W3 g (k*11+4) l0 l1 l2) g (k*11+7) x0 x1 x2).cell? ⟨g,k*11+3,none⟩=some (.slice A0 k0 c0):=(set3_ne _ _ _ _ _ _ _ (by omega)).trans ((set3_ne _ _ _ _ _ _ _ (by omega)).trans (hin 3 _ rfl));refine⟨l0,l1,l2,x0,x1,x2,fun j v hv=> ?_,lift ((b2.mono (Nat.le_refl _)).trans (b3.mono s2)) hbs s2 (fun q hq _=>by omega) r1,lift b3 (by omega) (Nat.le_refl _) (fun q hq _=>by omega) r2⟩;have hj:j<11:=by have:=(List.getElem?_eq_some_iff.1 hv).1;simpa[cellsB]using this
  rw[hWF];have hcs:j=0∨j=1∨j=2∨j=3∨j=4∨j=5∨j=6∨j=7∨j=8∨j=9∨j=10:=by omega
  rcases hcs with rfl|rfl|rfl|rfl|rfl|rfl|rfl|rfl|rfl|rfl|rfl
  ·cases hv;exact(cset_ne (by omega)).trans ((set3_ne _ _ _ _ _ _ _ (by omega)).trans ((set3_ne _ _ _ _ _ _ _ (by omega)).trans (hin 0 _ rfl)))
  ·cases hv;exact(cset_ne (by omega)).trans ((set3_ne _ _ _ _ _ _ _ (by omega)).trans ((set3_ne _ _ _ _ _ _ _ (by omega)).trans (hin 1 _ rfl)))
  ·cases hv;exact(cset_ne (by omega)).trans ((set3_ne _ _ _ _ _ _ _ (by omega)).trans ((set3_ne _ _ _ _ _ _ _ (by omega)).trans (hin 2 _ rfl)))
  ·cases hv;exact World.cell?_setCell_same _ _ _ h3
  ·cases hv;exact(cset_ne (by omega)).trans ((set3_ne _ _ _ _ _ _ _ (by omega)).trans e4.1)
  ·cases hv;exact(cset_ne (by omega)).trans ((set3_ne _ _ _ _ _ _ _ (by omega)).trans e4.2.1)
  ·cases hv;exact(cset_ne (by omega)).trans ((set3_ne _ _ _ _ _ _ _ (by omega)).trans e4.2.2)
  ·cases hv;exact(cset_ne (by omega)).trans e7.1
  ·cases hv;exact(cset_ne (by omega)).trans e7.2.1
  ·cases hv;exact(cset_ne (by omega)).trans e7.2.2
  ·cases hv;exact(cset_ne (by omega)).trans ((set3_ne _ _ _ _ _ _ _ (by omega)).trans ((set3_ne _ _ _ _ _ _ _ (by omega)).trans (hin 10 _ rfl)))
 ·rcases ho.2 with⟨e1,e2⟩|⟨gw,cap,cur,e1,h1,h2,h3,h4,h5,h6⟩
  ·simp only[Value.slice.injEq]at e1;exact .inl ⟨e1.1,e2⟩
  ·simp only[Value.slice.injEq,true_and]at e1;obtain⟨rfl,rfl⟩:=e1;refine .inr ⟨gw,rfl,⟨by omega,by omega⟩,⟨cur,(kF gw (by omega)).trans h2⟩,fun i c t hi=>absurd hi (by omega),fun i c t _ hi=> ?_⟩;have hil:=(List.getElem?_eq_some_iff.1 hi).1;have hca:∀j,j<b.words.length*4→WF.cell? ⟨gw,j,none⟩=xs[j]? :=fun j hj=>(cell_hp (kF gw (by omega))).trans (ho.cellAt j hj);obtain⟨_,_,_,hA4⟩:=hA;rcases hA4 with⟨_,e⟩|⟨ga,e,_,hla,hra⟩
   ·omega
   obtain⟨c0,x,y,z,c1,c2,c3,hr⟩:=hra i c t hi;exact⟨(hca _ (by omega)).trans (hx _ _ (by omega) ga e c0),x,y,z,(hca _ (by omega)).trans (hx _ _ (by omega) ga e c1),(hca _ (by omega)).trans (hx _ _ (by omega) ga e c2),(hca _ (by omega)).trans (hx _ _ (by omega) ga e c3),hr⟩
theorem cellsB_one{w:World}{I:Nat→Prop}{b:Bk}{A:Option Addr}{k c:Nat}{l0 l1 l2 x0 x1 x2:Value}(h:Bz w I b A k l0 l1 l2 x0 x1 x2):∀v∈cellsB b A k c l0 l1 l2 x0 x1 x2,v.oneCell'=true:=by
 obtain⟨a,b',c',e1,p1,p2,p3⟩:=h.left.agg3;obtain⟨d,e',f,e2,p4,p5,p6⟩:=h.x.agg3;simp only[Value.agg.injEq,Array.mk.injEq,List.cons.injEq,and_true]at e1 e2;obtain⟨rfl,rfl,rfl⟩:=e1;obtain⟨rfl,rfl,rfl⟩:=e2;intro v hv;simp only[cellsB,List.mem_cons,List.not_mem_nil,or_false]at hv;rcases hv with rfl|rfl|rfl|rfl|rfl|rfl|rfl|rfl|rfl|rfl|rfl
 all_goals first|rfl|assumption
theorem Lz.news{w:World}{I:Nat→Prop}{g:Nat}{l:List Bk}(h:∀i b,l[i]? =some b→Kz w I g (i*11) b):
 ∃news:List Value,news.length=l.length*11∧(∀j u,news[j]? =some u→w.cell? ⟨g,0+j,none⟩=some u)∧∀u∈news,u.oneCell'=true:=by
 refine news_of w g (l.length*11) 0 fun j hj=> ?_;obtain⟨b,hb⟩:∃b,l[j/11]? =some b:=⟨_,List.getElem?_eq_getElem (by omega)⟩;obtain⟨A,k,c,l0,l1,l2,x0,x1,x2,h1,h2⟩:=h _ b hb;have hlen:(cellsB b A k c l0 l1 l2 x0 x1 x2).length=11:=rfl;obtain⟨v,hv⟩:∃v,(cellsB b A k c l0 l1 l2 x0 x1 x2)[j%11]? =some v:=⟨_,List.getElem?_eq_getElem (by rw[hlen];omega)⟩;refine⟨v,?_,cellsB_one h2 v (List.mem_of_getElem? hv)⟩;rw[Nat.zero_add,show j=j/11*11+j%11 by omega];exact h1 _ v hv
theorem Wz.news{w:World}{I:Nat→Prop}{A:Option Addr}{n:Nat}{ws:List (Int×Tr)}(h:Wz w I A n ws):
 ∃news:List Value,news.length=n*4∧(∀ga,A=some ⟨ga,0,none⟩→∀j u,news[j]? =some u→w.cell? ⟨ga,0+j,none⟩=some u)∧(∀u∈news,u.oneCell'=true)∧(A=none∧n=0∨∃ga,A=some ⟨ga,0,none⟩∧ga<w.heap.size):=by
 obtain⟨h1,h2,h3,h4⟩:=h;rcases h4 with⟨e1,e2⟩|⟨g,e,_,hl,hr⟩
 ·exact⟨[],by simp[e2],fun _ _ j u h=>by simp at h,fun u h=>by simp at h,.inl ⟨e1,e2⟩⟩
 ·obtain⟨news,q1,q2,q3⟩:=news_of w g (n*4) 0 fun j hj=>by
   obtain⟨⟨c,t⟩,hx⟩:∃x,ws[j/4]? =some x:=⟨_,List.getElem?_eq_getElem (by omega)⟩;obtain⟨c0,x,y,z,c1,c2,c3,hz⟩:=hr _ c t hx;obtain⟨x',y',z',e',o0,o1,o2⟩:=hz.agg3;simp only[Value.agg.injEq,Array.mk.injEq,List.cons.injEq,and_true]at e';obtain⟨rfl,rfl,rfl⟩:=e';have:j=j/4*4∨j=j/4*4+1∨j=j/4*4+2∨j=j/4*4+3:=by omega
   rw[Nat.zero_add];rcases this with q|q|q|q
   ·exact⟨_,by rw[q];exact c0,rfl⟩
   ·exact⟨x,by rw[q];exact c1,o0⟩
   ·exact⟨y,by rw[q];exact c2,o1⟩
   ·exact⟨z,by rw[q];exact c3,o2⟩
  exact⟨news,q1,fun ga e' j u hj=>by rw[e]at e';cases e';exact q2 j u hj,q3,.inr ⟨g,e,hl⟩⟩
set_option maxRecDepth 100000 in
set_option maxHeartbeats 40000000 in
theorem lcopy_any(w:World)(I:Nat→Prop)(A:Option Addr)(c:Nat)(l:List Bk)(h:Lz w I A l.length l)(hs:∀b∈l,slimB b)(hn:l.length≤100000):
 Calls Tryz.prog 31 #[.slice A l.length c] w fun e w'=>∃(C:Option Addr) (cp:Nat),e=.returned (.slice C l.length cp)∧Lz w' (fun g=>w.heap.size≤g) C l.length l∧Below w.heap.size w w':=by
 have HSL:=Lib.hid hs;have HLZ:=Lib.hid h;have hA:A=none∨∃b off:Nat,A=some ⟨b,off,none⟩:=by
  rcases h.2.2 with⟨e,_⟩|⟨g,e,_⟩
  ·exact .inl e
  ·exact .inr ⟨g,0,e⟩
 obtain⟨news,hnl,hnc,hn1⟩:∃news:List Value,news.length=l.length*11∧(0<l.length→∃b off:Nat,A=some ⟨b,off,none⟩∧∀j u,news[j]? =some u→w.cell? ⟨b,off+j,none⟩=some u)∧∀u∈news,u.oneCell'=true:=by
  rcases h.2.2 with⟨e,e2⟩|⟨g,e,_,hl,hr⟩
  ·exact⟨[],by simp[e2],fun h=>by omega,fun u h=>by simp at h⟩
  ·obtain⟨news,q1,q2,q3⟩:=Lz.news hr;exact⟨news,q1,fun _=>⟨g,0,e,q2⟩,q3⟩
 have HC:=Lib.hid (cloneBl w A l.length c news hnl (by omega) hnc hn1 hA);have HNC:=Lib.hid hnc;clear h hs hnc hA;go_enter Tryz.func31,Tryz.ntmps31;go_wp2_with(go_at_call 51;refine HC.out.mono ?_;rintro e w1 ⟨C,cp,rfl,ho,hb⟩;have HO:=Lib.hid ho;have HB1:=Lib.hid hb;clear ho hb);have HR0:Hid (ClR w I l C 0 w1):=by
  refine⟨HB1.out,?_⟩;rcases HO.out.2 with⟨e1,e2⟩|⟨g,cap,cur,e1,h1,h2,h3,h4,h5,h6⟩
  ·simp only[Value.slice.injEq]at e1;exact .inl ⟨e1.1,e2⟩
  ·simp only[Value.slice.injEq,true_and]at e1;obtain⟨rfl,rfl⟩:=e1;refine .inr ⟨g,rfl,h1,⟨cur,h2⟩,fun i b hi=>absurd hi (by omega),fun i b _ hi=> ?_⟩;have hil:=(List.getElem?_eq_some_iff.1 hi).1;have hca:∀j,j<l.length*11→w1.cell? ⟨g,j,none⟩=news[j]? :=fun j hj=>HO.out.cellAt j hj;rcases HLZ.out.2.2 with⟨_,e⟩|⟨g0,e,_,hl0,hr0⟩
   ·omega
   obtain⟨A',k',c',l0,l1,l2,x0,x1,x2,hh1,hh2⟩:=hr0 i b hi;obtain⟨b',off,e',hq⟩:=HNC.out (by omega);rw[e]at e';cases e';have hn':∀j u,j<l.length*11→w.cell? ⟨g0,j,none⟩=some u→news[j]? =some u:=fun j u hj hu=>by
    obtain⟨v,hv⟩:∃v,news[j]? =some v:=⟨_,List.getElem?_eq_getElem (by omega)⟩;have:=hq j v hv;rw[Nat.zero_add,hu]at this;rw[hv,this]
   refine⟨A',k',c',l0,l1,l2,x0,x1,x2,fun j v hv=> ?_,hh2.keep (Nat.le_refl _) (fun _ _ h=>h.1) fun _ _ _=>rfl⟩;have hj:j<11:=by have:=(List.getElem?_eq_some_iff.1 hv).1;simpa[cellsB]using this
   exact(hca _ (by omega)).trans (hn' _ _ (by omega) (hh1 j v hv))
 have HN:Hid (l.length≤100000):=hn;clear hnl hn1 HO HB1 HNC HC;go_loopw[12] (fun i W=>∃k:Nat,k≤l.length∧i=.int .i64 (k:Int)∧ClR w I l C k W) (fun i _=>l.length-(intOf i).toNat)
 case atStart=>exact⟨0,by omega,rfl,HR0.out⟩
 case round=>
  obtain⟨k,hk,rfl,hR⟩:=hrel;have HR:=Lib.hid hR;clear hR;by_cases hlt:k<l.length
  ·obtain⟨g,rfl,hge,⟨cs,hgb⟩,hnw,hod⟩:∃g:Nat,C=some ⟨g,0,none⟩∧w.heap.size≤g∧(∃cs:Array Value,wr.heap[g]? =some (.cells cs 54 (0,0)))∧_∧_:=by
    rcases HR.out.ex with⟨_,e⟩|h
    ·omega
    ·exact h
   obtain⟨b,hb⟩:∃b,l[k]? =some b:=⟨_,List.getElem?_eq_getElem hlt⟩;obtain⟨A1,k1,c1,l0,l1,l2,x0,x1,x2,hcell,hbz⟩:=hod k b (Nat.le_refl _) hb;obtain⟨lo,ln,lA,lk,lc,rfl,rfl,rfl⟩:=hbz.left.form;obtain⟨xo,xn,xA,xk,xc,rfl,rfl,rfl⟩:=hbz.x.form;have hk1:k1=b.words.length:=hbz.words.1;subst hk1;have HSB:Hid (slimB b):=HSL.out b (List.mem_of_getElem? hb);have hgl:=hlS hgb;have HBZ:=Lib.hid hbz;have HBK:=Lib.hid hb;have HGB:=Lib.hid hgb;have D3:∀W,Below wr.heap.size wr W→W.cell? ⟨g,k*11+3,none⟩=some (.slice A1 b.words.length c1):=fun W hW=>(hW.cell (p:=⟨g,k*11+3,none⟩) hgl).trans (hcell 3 _ rfl);have DL:∀W,Below wr.heap.size wr W→W.cell? ⟨g,k*11+4,none⟩=some (.int .i64 lo)∧W.cell? ⟨g,k*11+4+1,none⟩=some (.int .i64 ln)∧W.cell? ⟨g,k*11+4+2,none⟩=some (.slice lA lk lc):=fun W hW=>⟨(hW.cell (p:=⟨g,k*11+4,none⟩) hgl).trans (hcell 4 _ rfl),(hW.cell (p:=⟨g,k*11+5,none⟩) hgl).trans (hcell 5 _ rfl),(hW.cell (p:=⟨g,k*11+6,none⟩) hgl).trans (hcell 6 _ rfl)⟩;have DX:∀W,Below wr.heap.size wr W→W.cell? ⟨g,k*11+5,none⟩=some (.int .i64 ln)∧W.cell? ⟨g,k*11+7,none⟩=some (.int .i64 xo)∧W.cell? ⟨g,k*11+7+1,none⟩=some (.int .i64 xn)∧W.cell? ⟨g,k*11+7+2,none⟩=some (.slice xA xk xc):=fun W hW=>⟨(hW.cell (p:=⟨g,k*11+5,none⟩) hgl).trans (hcell 5 _ rfl),(hW.cell (p:=⟨g,k*11+7,none⟩) hgl).trans (hcell 7 _ rfl),(hW.cell (p:=⟨g,k*11+8,none⟩) hgl).trans (hcell 8 _ rfl),(hW.cell (p:=⟨g,k*11+9,none⟩) hgl).trans (hcell 9 _ rfl)⟩;have DF:∀W,Below wr.heap.size wr W→∀i,W.frozen? ⟨g,i,none⟩=false:=fun W hW i=>by simp[World.frozen?,(hW.block g hgl).trans hgb]
   have HD3:=Lib.hid D3;have HDL:=Lib.hid DL;have HDX:=Lib.hid DX;have HDF:=Lib.hid DF;obtain⟨nws,hn1,hn2,hn3,hn4⟩:=hbz.words.news;have HNWS:=Lib.hid hn2;have HNW1:=Lib.hid hn3;have HNW4:=Lib.hid hn4;have hwl:b.words.length≤1000:=HSB.out.1;have HWN:Hid (nws.length=b.words.length*4):=hn1;have i1:(0:Int)≤(k:Int):=by omega
   have i2:(k:Int)<(l.length:Int):=by omega
   clear hnw hod hb hcell hbz D3 DL DX DF hn1 hn2 hn3 hn4 hgb;go_upto_region 6 with(fail)
   go_cut[]from 18 to 41 (fun w'=>∃(CW:Option Addr) (cw:Nat),ClI w I l g k b CW cw 0 w')
   case first=>
    have HB:Hid (Below wr.heap.size wr wr.drew):=below_dn (Below.refl _ _) 1;obtain⟨q4,q5,q6⟩:=HDL.out _ (Below.refl _ _);obtain⟨-,q7,q8,q9⟩:=HDX.out _ (Below.refl _ _);have q3:=HD3.out _ (Below.refl _ _);have qf:=HDF.out _ (Below.refl _ _);have tok1:True:=trivial;have tok2:True:=trivial;have hwl6:b.words.length≤1000000:=by omega
    have HNC2:Hid (∀W,Below w.heap.size w W→0<b.words.length→∃b' off:Nat,A1=some ⟨b',off,none⟩∧∀j u,nws[j]? =some u→W.cell? ⟨b',off+j,none⟩=some u):=by
     intro W hW hp;rcases HNW4.out with q|⟨ga,q,ql⟩
     ·omega
     ·exact⟨ga,0,q,fun j u hj=>(hW.cell (p:=⟨ga,0+j,none⟩) ql).trans (HNWS.out ga q j u hj)⟩
    have HNA:Hid (A1=none∨∃b' off:Nat,A1=some ⟨b',off,none⟩):=by
     rcases HNW4.out with q|⟨ga,q,_⟩
     ·exact .inl q.1
     ·exact .inr ⟨ga,0,q⟩
    have HHX:Hid (∀(i:Nat) (u:Value),i<b.words.length*4→∀ga,A1=some ⟨ga,0,none⟩→w.cell? ⟨ga,i,none⟩=some u→nws[i]? =some u):=by
     intro i u hi ga hga hu;have hl:=HWN.out;obtain⟨v,hv⟩:∃v,nws[i]? =some v:=⟨_,List.getElem?_eq_getElem (by omega)⟩;have:=HNWS.out ga hga i v hv;rw[Nat.zero_add,hu]at this;rw[hv,this]
    go_region_with(first|(go_at_call 52;clear tok1;refine(lcopied_any I b.left _ _ HSB.out.2.1 (HBZ.out.left.below (HR.out.bel.trans (HB.out.mono HR.out.bel.size)))).mono ?_;rintro e w1p ⟨a0,a1,a2,rfl,hr1,hb1⟩;obtain⟨po,pn,pA,pk,pc,rfl,rfl,rfl⟩:=hr1.form;have HR1:=Lib.hid hr1;have HB1:=Lib.hid hb1;have HBn:=Lib.hid (HB.out.trans (hb1.mono HB.out.size));clear HB hr1 hb1;have HB:=Lib.hid HBn.out;clear HBn;clear q3 q4 q5 q6 q7 q8 q9 qf;obtain⟨q4,q5,q6⟩:=HDL.out _ HB.out;obtain⟨-,q7,q8,q9⟩:=HDX.out _ HB.out;have q3:=HD3.out _ HB.out;have qf:=HDF.out _ HB.out)|(go_at_call 52;clear tok2;refine(lcopied_any I b.x _ _ HSB.out.2.2.1 (HBZ.out.x.below (HR.out.bel.trans (HB.out.mono HR.out.bel.size)))).mono ?_;rintro e w2p ⟨a0,a1,a2,rfl,hr2,hb2⟩;obtain⟨ro,rn,rA,rk,rc,rfl,rfl,rfl⟩:=hr2.form;have HR2:=Lib.hid hr2;have HB2:=Lib.hid hb2;have HBn:=Lib.hid (HB.out.trans (hb2.mono HB.out.size));clear HB hr2 hb2;have HB:=Lib.hid HBn.out;clear HBn;clear q3 q4 q5 q6 q7 q8 q9 qf;obtain⟨q4,q5,q6⟩:=HDL.out _ HB.out;obtain⟨-,q7,q8,q9⟩:=HDX.out _ HB.out;have q3:=HD3.out _ HB.out;have qf:=HDF.out _ HB.out)|(go_at_call 53;refine(cloneWo _ A1 b.words.length c1 nws HWN.out hwl6 (HNC2.out _ (HR.out.bel.trans (HB.out.mono HR.out.bel.size))) HNW1.out HNA.out).mono ?_;rintro e w3p ⟨CW,cw,rfl,ho3,hb3⟩;have HO3:=Lib.hid ho3;have HB3:=Lib.hid hb3;have HBn:=Lib.hid (HB.out.trans (hb3.mono HB.out.size));clear HB ho3 hb3;have HB:=Lib.hid HBn.out;clear HBn;clear q3 q4 q5 q6 q7 q8 q9 qf;obtain⟨q4,q5,q6⟩:=HDL.out _ HB.out;obtain⟨-,q7,q8,q9⟩:=HDX.out _ HB.out;have q3:=HD3.out _ HB.out;have qf:=HDF.out _ HB.out));all_goals have HST:=Lib.hid (ClI.start HR.out HBK.out (W1:=w1p) (W2:=w2p) (W3:=w3p) ⟨HB1.out.os,HB1.out.tape,HB1.out.output,HB1.out.size,HB1.out.block⟩ HR1.out HB2.out HR2.out HB3.out HO3.out HBZ.out.words HHX.out)
    all_goals go_wp2_with fail
    all_goals go_meet
    all_goals exact⟨CW,cw,HST.out⟩
   case rest=>
    obtain⟨CW,cw,hI⟩:=hcut;have HI0:=Lib.hid hI;have e3:wc.cell? ⟨g,k*11+3,none⟩=some (.slice CW b.words.length cw):=by
     obtain⟨_,_,_,_,_,_,hh,_⟩:=hI.here;exact hh 3 _ rfl
    clear hI HR HGB HD3 HDL HDX HDF HNWS HNW1 HNW4 HWN HR0 hgl;go_wp2_with fail;clear e3;go_loopw[47] (fun i W=>∃j:Nat,j≤b.words.length∧i=.int .i64 (j:Int)∧ClI w I l g k b CW cw j W) (fun i _=>b.words.length-(intOf i).toNat)
    case atStart=>exact⟨0,by omega,rfl,HI0.out⟩
    case round=>
     obtain⟨j,hj,rfl,hI⟩:=hrel;have HI:=Lib.hid hI;clear hI HI0;by_cases hjl:j<b.words.length
     ·obtain⟨gw,rfl,⟨hw1,hw2⟩,⟨csw,hgw⟩,-,hwo⟩:∃gw:Nat,CW=some ⟨gw,0,none⟩∧(w.heap.size≤gw∧gw≠g)∧(∃cs:Array Value,wr.heap[gw]? =some (.cells cs 57 (0,0)))∧WoR w wr I (fun q=>(w.heap.size≤q∧q≠g)∧q≠gw) b.words j gw:=by
       rcases HI.out.words with⟨_,e⟩|h
       ·omega
       ·exact h
      obtain⟨⟨cc,t⟩,hx⟩:∃x,b.words[j]? =some x:=⟨_,List.getElem?_eq_getElem hjl⟩;obtain⟨v0,x,y,z,v1,v2,v3,hr⟩:=hwo j cc t (Nat.le_refl _) hx;obtain⟨o1,n1,A2,k2,d2,rfl,rfl,rfl⟩:=hr.form;have e3:wr.cell? ⟨g,k*11+3,none⟩=some (.slice (some ⟨gw,0,none⟩) b.words.length cw):=by
       obtain⟨_,_,_,_,_,_,hh,_⟩:=HI.out.here;exact hh 3 _ rfl
      have hg0:g<wr.heap.size:=cell_ltz e3;have hgw0:=hlS hgw;have HRT:=Lib.hid hr;have HXJ:=Lib.hid hx;have HST:Hid (slimT t):=HSB.out.2.2.2 _ (List.mem_of_getElem? hx);have j1:(0:Int)≤(j:Int):=by omega
      have j2:(j:Int)<(b.words.length:Int):=by omega
      clear hwo hr hx;go_upto_region 10 with(fail)
      obtain⟨W2,hW2⟩:∃W2,W2=wr.alloc (.cells #[.int .i64 cc,.int .i64 o1,.int .i64 n1,.slice A2 k2 d2] 57):=⟨_,rfl⟩;rw[←hW2];have X2:Hid (W2.heap[wr.heap.size]? =some (.cells #[.int .i64 cc,.int .i64 o1,.int .i64 n1,.slice A2 k2 d2] 57 (0,0))):=by unfold Hid;rw[hW2];exact heap_alloc_new _ _
      have HB2:Hid (Below wr.heap.size wr W2):=by unfold Hid;rw[hW2];exact(Below.refl _ _).alloc (Nat.le_refl _) _
      have s0:W2.drew.cell? ⟨g,k*11+3,none⟩=some (.slice (some ⟨gw,0,none⟩) b.words.length cw)∧W2.drew.cell? ⟨wr.heap.size,1,none⟩=some (.int .i64 o1)∧W2.drew.cell? ⟨wr.heap.size,2,none⟩=some (.int .i64 n1)∧W2.drew.cell? ⟨wr.heap.size,3,none⟩=some (.slice A2 k2 d2):=
       ⟨(HB2.out.cell (p:=⟨g,k*11+3,none⟩) hg0).trans e3,cell_of_row W2 _ 1 _ _ _ X2.out,cell_of_row W2 _ 2 _ _ _ X2.out,cell_of_row W2 _ 3 _ _ _ X2.out⟩
      have S0:=Lib.hid s0;have s2:=hlS X2.out;have HIH:=Lib.hid (lcopied_any I t W2.drew _ HST.out (HRT.out.below (below_dn (HI.out.bel.trans (HB2.out.mono HI.out.bel.size)) 1)));have C1:=Lib.hid ((HB2.out.cell (p:=⟨gw,j*4+1,none⟩) hgw0).trans v1);have C2:=Lib.hid ((HB2.out.cell (p:=⟨gw,j*4+1+1,none⟩) hgw0).trans v2);have C3:=Lib.hid ((HB2.out.cell (p:=⟨gw,j*4+1+2,none⟩) hgw0).trans v3);have HG2:=Lib.hid ((HB2.out.block gw hgw0).trans hgw);have hg2:=hlS HG2.out;have hx2:g<W2.heap.size:=Nat.lt_of_lt_of_le hg0 HB2.out.size;have hne1:g≠gw:=fun e=>hw2 e.symm;have hne2:wr.heap.size≠gw:=by omega
      clear s0 v0 v1 v2 v3 hgw hW2 e3;go_region_held3(fun w'=>w'.cell? ⟨g,k*11+3,none⟩=some (.slice (some ⟨gw,0,none⟩) b.words.length cw)∧w'.cell? ⟨wr.heap.size,1,none⟩=some (.int .i64 o1)∧w'.cell? ⟨wr.heap.size,2,none⟩=some (.int .i64 n1)∧w'.cell? ⟨wr.heap.size,3,none⟩=some (.slice A2 k2 d2)) (first|with_reducible exact S2.out|with_reducible exact S0.out|exact S3.out) (first|(go_at_call 52;refine HIH.out.mono ?_;rintro e w3 ⟨x',y',z',rfl,hr3,hb3⟩;obtain⟨o2,n2,A3,k3,d3,rfl,rfl,rfl⟩:=hr3.form;have HB3:Hid (Below W2.heap.size W2 w3):=⟨hb3.os,hb3.tape,hb3.output,hb3.size,hb3.block⟩;have HRZ:Hid (Rz w3 (fun q=>W2.heap.size≤q) t (.agg #[.int .i64 o2,.int .i64 n2,.slice A3 k3 d3])):=hr3;have S2:Hid (w3.cell? ⟨g,k*11+3,none⟩=some (.slice (some ⟨gw,0,none⟩) b.words.length cw)∧w3.cell? ⟨wr.heap.size,1,none⟩=some (.int .i64 o1)∧w3.cell? ⟨wr.heap.size,2,none⟩=some (.int .i64 n1)∧w3.cell? ⟨wr.heap.size,3,none⟩=some (.slice A2 k2 d2)):=⟨(HB3.out.cell (p:=⟨g,k*11+3,none⟩) hx2).trans S0.out.1,(HB3.out.cell (p:=⟨wr.heap.size,1,none⟩) s2).trans S0.out.2.1,(HB3.out.cell (p:=⟨wr.heap.size,2,none⟩) s2).trans S0.out.2.2.1,(HB3.out.cell (p:=⟨wr.heap.size,3,none⟩) s2).trans S0.out.2.2.2⟩;have S3:Hid ((set3 w3 gw (j*4+1) (.int .i64 o2) (.int .i64 n2) (.slice A3 k3 d3)).cell? ⟨g,k*11+3,none⟩=some (.slice (some ⟨gw,0,none⟩) b.words.length cw)∧(set3 w3 gw (j*4+1) (.int .i64 o2) (.int .i64 n2) (.slice A3 k3 d3)).cell? ⟨wr.heap.size,1,none⟩=some (.int .i64 o1)∧(set3 w3 gw (j*4+1) (.int .i64 o2) (.int .i64 n2) (.slice A3 k3 d3)).cell? ⟨wr.heap.size,2,none⟩=some (.int .i64 n1)∧(set3 w3 gw (j*4+1) (.int .i64 o2) (.int .i64 n2) (.slice A3 k3 d3)).cell? ⟨wr.heap.size,3,none⟩=some (.slice A2 k2 d2)):=⟨(cell_hp (set3_heap _ _ _ _ _ _ _ hne1)).trans S2.out.1,(cell_hp (set3_heap _ _ _ _ _ _ _ hne2)).trans S2.out.2.1,(cell_hp (set3_heap _ _ _ _ _ _ _ hne2)).trans S2.out.2.2.1,(cell_hp (set3_heap _ _ _ _ _ _ _ hne2)).trans S2.out.2.2.2⟩;have e1:=(HB3.out.cell (p:=⟨gw,j*4+1,none⟩) hg2).trans C1.out;have e2:=(HB3.out.cell (p:=⟨gw,j*4+1+1,none⟩) hg2).trans C2.out;have e3:=(HB3.out.cell (p:=⟨gw,j*4+1+2,none⟩) hg2).trans C3.out;have ef:∀i,w3.frozen? ⟨gw,i,none⟩=false:=(fun i=>by{simp[World.frozen?,(HB3.out.block gw hg2).trans HG2.out]});clear hb3 hr3));have HN2:=Lib.hid (HI.out.next HXJ.out (HB2.out.trans (HB3.out.mono HB2.out.size)) (HRZ.out.keep (Nat.le_refl _) (fun q _ (hq:W2.heap.size≤q)=>(Nat.le_trans HB2.out.size hq:wr.heap.size≤q)) fun _ _ _=>rfl));go_wp2_with fail;exact⟨⟨j+1,by omega,by go_num,HN2.out⟩,by simp only[intOf];omega⟩
     ·have hje:j=b.words.length:=by omega
      subst hje;have HN2:=Lib.hid (HI.out.done HBK.out HBZ.out.kind HBZ.out.label HBZ.out.n HBZ.out.words.2.1 HBZ.out.words.2.2.1);go_wp2_with fail;exact⟨⟨k+1,by omega,by go_num,HN2.out⟩,by simp only[intOf];omega⟩
  ·have hke:k=l.length:=by omega
   subst hke;have hml:=HLZ.out.2.1;go_wp2_with fail;go_ret;refine⟨C,cp,rfl,⟨rfl,hml,?_⟩,HR.out.bel⟩;rcases HR.out.ex with h|⟨g,e,hge,⟨cs,hgb⟩,hnw,_⟩
   ·exact .inl h
   ·exact .inr ⟨g,e,hge,hlS hgb,fun i b hb=>hnw i b (by have:=(List.getElem?_eq_some_iff.1 hb).1;omega) hb⟩
end Go.Proofs.YtdcjbhdfphcefaaGreatDoor
