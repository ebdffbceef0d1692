/- The contract. -/
import Derived.Test.YtdcjbhdfphcefaaGreatDoorCq
namespace Go.Proofs.YtdcjbhdfphcefaaGreatDoor
set_option linter.all false
set_option maxRecDepth 100000
set_option maxHeartbeats 40000000
open Go.Proofs.Tryz
open Go.RowKit
theorem fJ{xs ys:LV}{k j n:Nat}(h:xs.length=k*n)(hj:j<k*n):(xs++ys)[j]? =xs[j]? :=Gc (by omega)
structure CdI(wr:World)(b:Bk)(j:Nat)(CW:OA)(cw:Nat)(ys:LV)(W:World):Prop where
 bel:Bw wr W
 ex:∃l0 l1 l2 x0 x1 x2:Value,W.heap[wr.heap.size]? =some (.cells ⟨cellsB b CW j cw l0 l1 l2 x0 x1 x2⟩ 54 (0,0))∧Rz W (fun g=>wr.heap.size<g∧some g≠(Value.slice CW j cw).ownBlock) b.left (.agg #[l0,l1,l2])∧Rz W (fun g=>wr.heap.size<g∧some g≠(Value.slice CW j cw).ownBlock) b.x (.agg #[x0,x1,x2])
 own:W.ownsRow (wr.heap.size+1) 57 4 (.slice CW j cw) j ys
 words:∀i c t,i<j→b.words[i]? =some (c,t)→ys[i*4]? =some (.int .i64 c)∧∃x y z:Value,ys[i*4+1]? =some x∧ys[i*4+2]? =some y∧ys[i*4+3]? =some z∧Rz W (fun g=>wr.heap.size<g∧some g≠(Value.slice CW j cw).ownBlock) t (.agg #[x,y,z])
theorem CdI.next{wr:World}{b:Bk}{j:Nat}{CW:OA}{cw:Nat}{ys:LV}{W W2 W3 w1:World}{c:Int}{t:Tr}{x y z:Value}{g cap:Nat}
 (h:CdI wr b j CW cw ys W) (hx:b.words[j]? =some (c,t)) (hb:Bw W W2) (hr:Rz W2 (fun q=>W.heap.size≤q) t (.agg #[x,y,z])) (h3:∀q,q<W2.heap.size→W3.heap[q]? =W2.heap[q]?) (hos:W3.os=W2.os∧W3.tape=W2.tape∧W3.output=W2.output) (hs3:W3.heap.size=W2.heap.size+1)
 (ho:w1.ownsRow (wr.heap.size+1) 57 4 (.slice (some ⟨g,0,none⟩) (j+1) cap) (j+1) (ys++[.int .i64 c,x,y,z])) (hg:W3.grownBy w1 (Value.slice CW j cw).ownBlock) (hl:(Value.slice CW j cw).ownBlock=some g∨g=W3.heap.size):
 CdI wr b (j+1) (some ⟨g,0,none⟩) cap (ys++[.int .i64 c,x,y,z]) (w1.setCell ⟨wr.heap.size,3,none⟩ (.slice (some ⟨g,0,none⟩) (j+1) cap)):=by
 obtain⟨l0,l1,l2,x0,x1,x2,hblk,hL,hX⟩:=h.ex;have e0:=hlS hblk;have hbs:=hb.size;have hgs:=hg.size;have hws:=h.bel.size;have hob:∀q,(Value.slice CW j cw).ownBlock=some q→wr.heap.size+1≤q∧q<W.heap.size:=fun q hq=>aI h.own hq;have kp:∀q,q<W.heap.size→(Value.slice CW j cw).ownBlock≠some q→w1.heap[q]? =W.heap[q]? :=fun q hq hn=>(hg.block q (by omega) (fun e=>hn e.symm)).trans ((h3 q (by omega)).trans (hb.block q hq));have kp2:∀q,q<W2.heap.size→(Value.slice CW j cw).ownBlock≠some q→w1.heap[q]? =W2.heap[q]? :=fun q hq hn=>(hg.block q (by omega) (fun e=>hn e.symm)).trans (h3 q (by omega));have nb:∀q,q<wr.heap.size+1→(Value.slice CW j cw).ownBlock≠some q:=fun q hq e=>by have:=hob q e;omega
 have ks:∀q,q≠wr.heap.size→(w1.setCell ⟨wr.heap.size,3,none⟩ (.slice (some ⟨g,0,none⟩) (j+1) cap)).heap[q]? =w1.heap[q]? :=fun q hq=>Bj _ _ _ q hq;have hgge:wr.heap.size+1≤g:=by
  rcases hl with e|e
  ·exact(hob g e).1
  ·omega
 have hsz1:w1.heap.size≤(w1.setCell ⟨wr.heap.size,3,none⟩ (.slice (some ⟨g,0,none⟩) (j+1) cap)).heap.size:=by simp[World.setCell]
 have kr:∀{t:Tr} {v:Value},Rz W (fun q=>wr.heap.size<q∧some q≠(Value.slice CW j cw).ownBlock) t v→Rz (w1.setCell ⟨wr.heap.size,3,none⟩ (.slice (some ⟨g,0,none⟩) (j+1) cap)) (fun q=>wr.heap.size<q∧some q≠(Value.slice (some ⟨g,0,none⟩) (j+1) cap).ownBlock) t v:=fun hr=>
  hr.keep (by omega) (fun q hq hi=>⟨hi.1,fun e=>by
   simp only[Value.ownBlock,Oi]at e
   subst e
   rcases hl with e|e
   ·exact hi.2 e.symm
   ·omega⟩) fun q hq hi=>(ks q (by have:=hi.1;omega)).trans (kp q hq fun e=>hi.2 e.symm)
 refine⟨⟨?_,?_,?_,by omega,fun q hq=>(ks q (by omega)).trans ((kp q (by omega) (nb q (by omega))).trans (h.bel.block q hq))⟩,⟨l0,l1,l2,x0,x1,x2,?_,kr hL,kr hX⟩,aC ho fun q _ hq=>ks q (by simp[Value.ownBlock]at hq;omega),fun i ci ti hi hxi=> ?_⟩
 ·exact hg.os.trans (hos.1.trans (hb.os.trans h.bel.os))
 ·exact hg.tape.trans (hos.2.1.trans (hb.tape.trans h.bel.tape))
 ·exact hg.output.trans (hos.2.2.trans (hb.output.trans h.bel.output))
 ·exact aD (i:=3) (u:=.slice (some ⟨g,0,none⟩) (j+1) cap) ((kp _ e0 (nb _ (by omega))).trans hblk)
 ·have hyl:=h.own.1;by_cases e:i=j
  ·subst e;rw[hx]at hxi;cases hxi;refine⟨(dV (j:=0) hyl).trans rfl,x,y,z,(dV (j:=1) hyl).trans rfl,(dV (j:=2) hyl).trans rfl,(dV (j:=3) hyl).trans rfl,hr.keep (by omega) (fun q hq hi=>⟨by have q2:W.heap.size≤q:=hi;omega,fun e=> ?_⟩) fun q hq hi=>(ks q (by have q2:W.heap.size≤q:=hi;omega)).trans (kp2 q hq fun e=>by have:=hob q e;have q2:W.heap.size≤q:=hi;omega)⟩;simp only[Value.ownBlock,Oi]at e;subst e;rcases hl with q2|q2
   ·have:=hob q q2;have q3:W.heap.size≤q:=hi;omega
   ·omega
  ·obtain⟨c0,x',y',z',c1,c2,c3,hr'⟩:=h.words i ci ti (by omega) hxi;exact⟨(fJ hyl (by omega)).trans c0,x',y',z',(fJ hyl (by omega)).trans c1,(fJ hyl (by omega)).trans c2,(fJ hyl (by omega)).trans c3,kr hr'⟩
structure CdR(w:World)(bs:List Bk)(k:Nat)(C:OA)(cp:Nat)(xs:LV)(W:World):Prop where
 bel:Bw w W
 own:W.ownsRow w.heap.size 54 11 (.slice C k cp) k xs
 parts:∀i b,i<k→bs[i]? =some b→∃(A:OA) (n c:Nat) (l0 l1 l2 x0 x1 x2:Value),(∀(j:Nat) (v:Value),(cellsB b A n c l0 l1 l2 x0 x1 x2)[j]? =some v→xs[i*11+j]? =some v)∧Bz W (fun g=>w.heap.size≤g∧some g≠(Value.slice C k cp).ownBlock) b A n l0 l1 l2 x0 x1 x2
theorem CdR.next{w:World}{bs:List Bk}{k:Nat}{C:OA}{cp:Nat}{xs:LV}{wr W W3 w1:World}{b:Bk}{CW:OA}{cw:Nat}{ys:LV}{l0 l1 l2 x0 x1 x2:Value}{g cap:Nat}
 (h:CdR w bs k C cp xs wr) (hb:bs[k]? =some b) (hI:CdI wr b b.words.length CW cw ys W) (hblk:W.heap[wr.heap.size]? =some (.cells ⟨cellsB b CW b.words.length cw l0 l1 l2 x0 x1 x2⟩ 54 (0,0))) (h1:I64 b.kind) (h2:I64 b.label) (h3:I64 b.n) (h4:b.words.length≤maxLen) (h5:∀x∈b.words,I64 x.1)
 (k3:∀q,q<W.heap.size→W3.heap[q]? =W.heap[q]?) (hos:W3.os=W.os∧W3.tape=W.tape∧W3.output=W.output) (hs3:W3.heap.size=W.heap.size+1)
 (ho:w1.ownsRow w.heap.size 54 11 (.slice (some ⟨g,0,none⟩) (k+1) cap) (k+1) (xs++cellsB b CW b.words.length cw l0 l1 l2 x0 x1 x2)) (hg:W3.grownBy w1 (Value.slice C k cp).ownBlock) (hl:(Value.slice C k cp).ownBlock=some g∨g=W3.heap.size):
 CdR w bs (k+1) (some ⟨g,0,none⟩) cap (xs++cellsB b CW b.words.length cw l0 l1 l2 x0 x1 x2) w1:=by
 have hws:=h.bel.size;have hgs:=hg.size;have hbs:=hI.bel.size;have e0:=hlS hblk;have hob:∀q,(Value.slice C k cp).ownBlock=some q→w.heap.size≤q∧q<wr.heap.size:=fun q hq=>aI h.own hq;have kp:∀q,q<W.heap.size→(Value.slice C k cp).ownBlock≠some q→w1.heap[q]? =W.heap[q]? :=fun q hq hn=>(hg.block q (by omega) (fun e=>hn e.symm)).trans (k3 q hq);have kw:∀q,q<wr.heap.size→(Value.slice C k cp).ownBlock≠some q→w1.heap[q]? =wr.heap[q]? :=fun q hq hn=>(kp q (by omega) hn).trans (hI.bel.block q hq);have hgne:∀q,q<W.heap.size→some q≠(Value.slice C k cp).ownBlock→some q≠(Value.slice (some ⟨g,0,none⟩) (k+1) cap).ownBlock:=fun q hq hn e=>by
  simp only[Value.ownBlock,Oi]at e;subst e;rcases hl with e|e
  ·exact hn e.symm
  ·omega
 have hobW:∀q,wr.heap.size≤q→some q≠(Value.slice C k cp).ownBlock:=fun q hq e=>by have:=hob q e.symm;omega
 refine⟨⟨hg.os.trans (hos.1.trans (hI.bel.os.trans h.bel.os)),hg.tape.trans (hos.2.1.trans (hI.bel.tape.trans h.bel.tape)),hg.output.trans (hos.2.2.trans (hI.bel.output.trans h.bel.output)),by omega,fun q hq=> ?_⟩,ho,fun i b' hi hb'=> ?_⟩
 ·have hne:(Value.slice C k cp).ownBlock≠some q:=fun e=>by have:=(hob q e).1;omega
  exact(kw q (by omega) hne).trans (h.bel.block q hq)
 have hxl:=h.own.1;by_cases e:i=k
 ·subst e;rw[hb]at hb';cases hb';obtain⟨m0,m1,m2,y0,y1,y2,hblk',hL,hX⟩:=hI.ex;rw[hblk]at hblk';have hce:=hblk';simp only[Oi,Obj.cells.injEq,Array.mk.injEq,cellsB,List.cons.injEq,and_true,true_and]at hce;obtain⟨rfl,rfl,rfl,rfl,rfl,rfl⟩:=hce;have kr:∀{t:Tr} {v:Value},Rz W (fun q=>wr.heap.size<q∧some q≠(Value.slice CW b.words.length cw).ownBlock) t v→Rz w1 (fun q=>w.heap.size≤q∧some q≠(Value.slice (some ⟨g,0,none⟩) (i+1) cap).ownBlock) t v:=fun hr=>
   hr.keep (by omega) (fun q hq hi=>⟨by have:=hi.1;omega,hgne q hq (hobW q (by have:=hi.1;omega))⟩) fun q hq hi=>kp q hq fun e=>hobW q (by have:=hi.1;omega) e.symm
  refine⟨CW,b.words.length,cw,_,_,_,_,_,_,fun j v hv=> ?_,h1,h2,h3,⟨rfl,h4,h5,?_⟩,kr hL,kr hX⟩
  ·rw[dV hxl];exact hv
  ·rcases hI.own.2 with⟨e1,e2⟩|⟨gw,cap',cur,e1,q1,q2,q3,q4,q5,q6⟩
   ·simp only[Vs]at e1;exact .inl ⟨e1.1,e2⟩
   ·simp only[Vs,true_and]at e1;obtain⟨rfl,rfl⟩:=e1;have hgw:=hlS q2;have hwk:=kp gw hgw fun e=>hobW gw (by omega) e.symm;refine .inr ⟨gw,rfl,⟨by omega,hgne gw hgw (hobW gw (by omega))⟩,by omega,fun i' c t hx=> ?_⟩;have hil:=(Gu.1 hx).1;obtain⟨c0,x',y',z',c1,c2,c3,hr'⟩:=hI.words i' c t hil hx;have hca:∀j,j<b.words.length*4→w1.cell? ⟨gw,j,none⟩=ys[j]? :=fun j hj=>(aB hwk).trans (hI.own.cellAt j hj);exact⟨(hca _ (by omega)).trans c0,x',y',z',(hca _ (by omega)).trans c1,(hca _ (by omega)).trans c2,(hca _ (by omega)).trans c3,kr hr'⟩
 ·obtain⟨A,n,c,m0,m1,m2,y0,y1,y2,hp1,hp2⟩:=h.parts i b' (by omega) hb';refine⟨A,n,c,m0,m1,m2,y0,y1,y2,fun j v hv=> ?_,hp2.keep (by omega) (fun q hq hi=>⟨hi.1,hgne q (by omega) hi.2⟩) fun q hq hi=>kw q hq fun e=>hi.2 e.symm⟩;have hj:j<11:=by have:=(Gu.1 hv).1;simpa[cellsB]using this
  exact(fJ hxl (by omega)).trans (hp1 j v hv)
theorem CdR.done{w:World}{bs:List Bk}{C:OA}{cp:Nat}{xs:LV}{W:World}(h:CdR w bs bs.length C cp xs W)(hn:bs.length≤maxLen):Lz W (fun g=>w.heap.size≤g) C bs.length bs:=by
 refine⟨rfl,hn,?_⟩;rcases h.own.2 with⟨e1,e2⟩|⟨g,cap,cur,e1,q1,q2,_⟩
 ·simp only[Vs]at e1;exact .inl ⟨e1.1,e2⟩
 ·simp only[Vs,true_and]at e1;obtain⟨rfl,rfl⟩:=e1;refine .inr ⟨g,rfl,q1,hlS q2,fun i b hb=> ?_⟩;have hil:=(Gu.1 hb).1;obtain⟨A,n,c,m0,m1,m2,y0,y1,y2,hp1,hp2⟩:=h.parts i b hil hb;refine⟨A,n,c,m0,m1,m2,y0,y1,y2,fun j v hv=> ?_,hp2.keep (Le _) (fun q _ hi=>⟨hi.1,fun e=>hi.2 (by rw[e];rfl)⟩) fun _ _ _=>rfl⟩;have hj:j<11:=by have:=(Gu.1 hv).1;simpa[cellsB]using this
  exact(h.own.cellAt _ (by omega)).trans (hp1 j v hv)
theorem CdI.start{wr w1 w2:World}{b:Bk}{v0 v1 v2 v3 v4 v5 v6 v7 v8 v9 v10 l0 l1 l2 x0 x1 x2:Value}(b1:Below (wr.alloc (.cells #[v0,v1,v2,v3,v4,v5,v6,v7,v8,v9,v10] 54)).heap.size (wr.alloc (.cells #[v0,v1,v2,v3,v4,v5,v6,v7,v8,v9,v10] 54)) w1)(r1:Rz w1 (fun q=>wr.heap.size+1≤q) b.left (.agg #[l0,l1,l2]))
 (b2:Bw w1 w2) (r2:Rz w2 (fun q=>w1.heap.size≤q) b.x (.agg #[x0,x1,x2])) (e0:v0=.int .i64 b.kind) (e1:v1=.int .i64 b.label) (e2:v2=.bool b.skip) (e10:v10=.int .i64 b.n):
 CdI wr b 0 none 0 [] ((set3 (set3 w2 wr.heap.size 4 l0 l1 l2) wr.heap.size 7 x0 x1 x2).setCell ⟨wr.heap.size,3,none⟩ (.slice none 0 0)):=by
 subst e0 e1 e2 e10;have hsz:(wr.alloc (.cells #[.int .i64 b.kind,.int .i64 b.label,.bool b.skip,v3,v4,v5,v6,v7,v8,v9,.int .i64 b.n] 54)).heap.size=wr.heap.size+1:=by simp
 have s1:=b1.size;have s2:=b2.size;have hb:Bw wr w2:=(((Bf wr.heap.size wr).alloc (Le _) _).trans (b1.mono (by omega))).trans (b2.mono (by omega));have hblk:w2.heap[wr.heap.size]? =some (.cells #[.int .i64 b.kind,.int .i64 b.label,.bool b.skip,v3,v4,v5,v6,v7,v8,v9,.int .i64 b.n] 54 (0,0)):=(b2.block _ (by omega)).trans ((b1.block _ (by omega)).trans (Hn _ _));obtain⟨WF,hWF⟩:∃WF,WF=(set3 (set3 w2 wr.heap.size 4 l0 l1 l2) wr.heap.size 7 x0 x1 x2).setCell ⟨wr.heap.size,3,none⟩ (.slice none 0 0):=⟨_,rfl⟩;rw[←hWF];have kF:∀q,q≠wr.heap.size→WF.heap[q]? =w2.heap[q]? :=fun q hq=>by rw[hWF];exact(Bj _ _ _ q hq).trans ((aL _ _ _ _ _ _ _ hq).trans (aL _ _ _ _ _ _ _ hq))
 have kz:WF.heap.size=w2.heap.size:=by rw[hWF];simp[World.setCell,set3]
 refine⟨?_,⟨l0,l1,l2,x0,x1,x2,?_,?_,?_⟩,World.ownsRow_nil _ _ _ _,fun i c t hi=>absurd hi (by omega)⟩
 ·rw[hWF];exact(aQ (aQ hb (Le _) _ _ _ _) (Le _) _ _ _ _).setCell (p:=⟨wr.heap.size,3,none⟩) (Le _) _
 ·rw[hWF];have h1:=aD (i:=4) (u:=l0) hblk;have h2:=aD (i:=4+1) (u:=l1) h1;have h3:=aD (i:=4+2) (u:=l2) h2;have h4:=aD (i:=7) (u:=x0) h3;have h5:=aD (i:=7+1) (u:=x1) h4;have h6:=aD (i:=7+2) (u:=x2) h5;have h7:=aD (i:=3) (u:=.slice none 0 0) h6;simp only[L0,L4,L5,Nat.reduceAdd]at h7;exact h7
 ·exact r1.keep (by omega) (fun q hq (hi:wr.heap.size+1≤q)=>⟨by omega,by simp[Value.ownBlock]⟩) fun q hq (hi:wr.heap.size+1≤q)=>(kF q (by omega)).trans (b2.block q hq)
 ·exact r2.keep (by omega) (fun q hq (hi:w1.heap.size≤q)=>⟨by omega,by simp[Value.ownBlock]⟩) fun q hq (hi:w1.heap.size≤q)=>kF q (by omega)
theorem tV(w:World)(B:Nat)(A:OA)(c:Nat)(bs:List Bk)(h:RdL w B A bs.length bs)(hB:B≤w.heap.size)(hs:∀b∈bs,slimB b)(hn:bs.length≤100000):
 Calls prog 55 #[.slice A bs.length c] w fun e w'=>∃(C:OA) (cp:Nat),e=.returned (.slice C bs.length cp)∧Lz w' (fun g=>w.heap.size≤g) C bs.length bs∧Bw w w':=by
 have HIN:=Hd h.2.2;have hml:=h.2.1;have HSL:=Hd hs;have HR0:Hid (CdR w bs 0 none 0 [] w):=⟨Bf _ _,World.ownsRow_nil _ _ _ _,fun i b hi=>absurd hi (by omega)⟩;obtain⟨iB,zB,hiB,hB0,hB1,hB2,hBs⟩:=eG;obtain⟨iW,zW,hiW,hW0,hW1,hW2,hWs⟩:=cY;have HIB:=Hd hiB;have HZB:=Hd hB0;have HIW:=Hd hiW;have HZW:=Hd hW0;clear h hs hiB hB0 hiW hW0;go_enter func55,ntmps55;go_wp2_with fail;go_loopw[3,4] (fun o i W=>∃(k:Nat) (C:OA) (cp:Nat) (xs:LV),k≤bs.length∧o=.slice C k cp∧i=.int .i64 (k:Int)∧CdR w bs k C cp xs W) (fun _ i _=>bs.length-(intOf i).toNat)
 case atStart=>exact⟨0,none,0,[],by omega,rfl,rfl,HR0.o⟩
 case round=>
  obtain⟨WO,hWO⟩:∃WO,WO=wr:=⟨_,rfl⟩;subst hWO;obtain⟨k,C,cp,xs,hk,rfl,rfl,hR⟩:=hrel;have HR:=Hd hR;clear hR HR0;by_cases hlt:k<bs.length
  ·obtain⟨ab,off,rfl,hab,hkd⟩:=HIN.o (by omega);obtain⟨b,hb⟩:∃b,bs[k]? =some b:=⟨_,Gg hlt⟩;obtain⟨A1,n1,c1,l0,l1,l2,x0,x1,x2,hbr,d0,d1,d2,d3,d4,d5,d6,d7,d8,d9,d10⟩:=(hkd k b hb).cells;obtain⟨lo,ln,lA,lk,lc,rfl,rfl,rfl⟩:=hbr.left.form;obtain⟨xo,xn,xA,xk,xc,rfl,rfl,rfl⟩:=hbr.x.form;have hn1:n1=b.words.length:=hbr.words.1;subst hn1;have HSB:Hid (slimB b):=HSL.o b (Mg hb);have hab1:ab<w.heap.size:=by omega
   have habr:ab<WO.heap.size:=Lt hab1 HR.o.bel.size;have HBR:=Hd hbr;have HBK:=Hd hb;have hq:∀i,WO.cell? ⟨ab,i,none⟩=w.cell? ⟨ab,i,none⟩:=fun i=>HR.o.bel.cel ab i hab1;have y0:=(hq _).trans d0;have y1:=(hq _).trans d1;have y2:=(hq _).trans d2;have y3:=(hq _).trans d3;have y4:=(hq _).trans d4;have y5:=(hq _).trans d5;have y6:=(hq _).trans d6;have y7:=(hq _).trans d7;have y8:=(hq _).trans d8;have y9:=(hq _).trans d9;have y10:=(hq _).trans d10;have HIC:Hid (∀W,Bw WO W→W.cell? ⟨ab,off+k*11+3,none⟩=some (.slice A1 b.words.length c1)∧W.cell? ⟨ab,off+k*11+4,none⟩=some (.int .i64 lo)∧W.cell? ⟨ab,off+k*11+4+1,none⟩=some (.int .i64 ln)∧W.cell? ⟨ab,off+k*11+4+2,none⟩=some (.slice lA lk lc)∧W.cell? ⟨ab,off+k*11+7,none⟩=some (.int .i64 xo)∧W.cell? ⟨ab,off+k*11+7+1,none⟩=some (.int .i64 xn)∧W.cell? ⟨ab,off+k*11+7+2,none⟩=some (.slice xA xk xc)):=fun W hW=>
    have q:∀i,W.cell? ⟨ab,i,none⟩=WO.cell? ⟨ab,i,none⟩:=fun i=>hW.cel ab i habr
    ⟨(q _).trans y3,(q _).trans y4,(q _).trans y5,(q _).trans y6,(q _).trans y7,(q _).trans y8,(q _).trans y9⟩
   have HCC:Hid (∀(W:World) (t:Tr) (v:Value),Bw WO W→slimT t→Rd w B t v→Calls prog 85 #[v] W (CpPost W t)):=fun W t v hW ht hr=>
    qbU t W B v ht (hr.below ((HR.o.bel.tm hW).mono hB) (Le _)) (Ly hB (Ly HR.o.bel.size hW.size))
   have i1:(0:Int)≤(k:Int):=by omega
   have i2:(k:Int)<(bs.length:Int):=by omega
   clear hkd hb hbr d0 d1 d2 d3 d4 d5 d6 d7 d8 d9 d10 hq;go_upto_region 6 with(fail)
   clear y0 y1 y2 y3 y4 y5 y6 y7 y8 y9 y10;obtain⟨W2,hW2⟩:∃W2,W2=WO.alloc (.cells #[.int .i64 b.kind,.int .i64 b.label,.bool b.skip,.slice A1 b.words.length c1,.int .i64 lo,.int .i64 ln,.slice lA lk lc,.int .i64 xo,.int .i64 xn,.slice xA xk xc,.int .i64 b.n] 54):=⟨_,rfl⟩;rw[←hW2];have HW2:=Hd hW2;have X2:Hid (W2.heap[WO.heap.size]? =some (.cells #[.int .i64 b.kind,.int .i64 b.label,.bool b.skip,.slice A1 b.words.length c1,.int .i64 lo,.int .i64 ln,.slice lA lk lc,.int .i64 xo,.int .i64 xn,.slice xA xk xc,.int .i64 b.n] 54 (0,0))):=by unfold Hid;rw[hW2];exact Hn _ _
   have HB2:Hid (Bw WO W2):=by unfold Hid;rw[hW2];exact nB _ _
   have HKP:Hid (∀W,Bw WO W→W.cell? ⟨ab,off+k*11+4,none⟩=some (.int .i64 lo)∧W.cell? ⟨ab,off+k*11+4+1,none⟩=some (.int .i64 ln)∧W.cell? ⟨ab,off+k*11+4+2,none⟩=some (.slice lA lk lc)∧W.cell? ⟨ab,off+k*11+7,none⟩=some (.int .i64 xo)∧W.cell? ⟨ab,off+k*11+7+1,none⟩=some (.int .i64 xn)∧W.cell? ⟨ab,off+k*11+7+2,none⟩=some (.slice xA xk xc)):=fun W hW=>(HIC.o W hW).2;have S0:Hid (W2.drew.cell? ⟨ab,off+k*11+4,none⟩=some (.int .i64 lo)∧W2.drew.cell? ⟨ab,off+k*11+4+1,none⟩=some (.int .i64 ln)∧W2.drew.cell? ⟨ab,off+k*11+4+2,none⟩=some (.slice lA lk lc)∧W2.drew.cell? ⟨ab,off+k*11+7,none⟩=some (.int .i64 xo)∧W2.drew.cell? ⟨ab,off+k*11+7+1,none⟩=some (.int .i64 xn)∧W2.drew.cell? ⟨ab,off+k*11+7+2,none⟩=some (.slice xA xk xc)):=HKP.o _ (aA HB2.o 1);have s2:=hlS X2.o;have tok1:=trivial;have tok2:=trivial;clear hW2;go_region_held3(fun w'=>w'.cell? ⟨ab,off+k*11+4,none⟩=some (.int .i64 lo)∧w'.cell? ⟨ab,off+k*11+4+1,none⟩=some (.int .i64 ln)∧w'.cell? ⟨ab,off+k*11+4+2,none⟩=some (.slice lA lk lc)∧w'.cell? ⟨ab,off+k*11+7,none⟩=some (.int .i64 xo)∧w'.cell? ⟨ab,off+k*11+7+1,none⟩=some (.int .i64 xn)∧w'.cell? ⟨ab,off+k*11+7+2,none⟩=some (.slice xA xk xc)) (first|with_reducible exact S0.o|with_reducible exact S3.o|with_reducible exact S4.o|with_reducible exact S5.o|with_reducible exact S6.o|fail) (first|(go_at_call 85;clear tok1;refine(HCC.o _ _ _ (aA HB2.o 1) HSB.o.2.1 HBR.o.left).mono ?_;rintro e w3 ⟨a0,a1,a2,rfl,hr1,hb1⟩;obtain⟨po,pn,pA,pk,pc,rfl,rfl,rfl⟩:=hr1.form;have HR1:=Hd hr1;have HB3:Hid (Bw W2 w3):=(unB hb1);have HBn:=Hd (HB2.o.tm HB3.o);have S3:=Hd (HKP.o w3 HBn.o);clear hr1 hb1)|(go_at_call 85;clear tok2;refine(HCC.o _ _ _ HBn.o HSB.o.2.2.1 HBR.o.x).mono ?_;rintro e w4 ⟨a0,a1,a2,rfl,hr2,hb2⟩;obtain⟨ro,rn,rA,rk,rc,rfl,rfl,rfl⟩:=hr2.form;have HR2:=Hd hr2;have HB4:=Hd hb2;have HBm:=Hd (HBn.o.tm hb2);clear HBn;have HBn:=Hd HBm.o;have q4:=(hb2.block WO.heap.size (Lt s2 HB3.o.size)).trans ((HB3.o.block WO.heap.size s2).trans X2.o);have z3:=Ro w4 _ 3 _ _ _ q4;have z4:=Ro w4 _ 4 _ _ _ q4;have z5:=Ro w4 _ 5 _ _ _ q4;have z6:=Ro w4 _ 6 _ _ _ q4;have z7:=Ro w4 _ 7 _ _ _ q4;have z8:=Ro w4 _ 8 _ _ _ q4;have z9:=Ro w4 _ 9 _ _ _ q4;have zf:∀i,w4.frozen? ⟨WO.heap.size,i,none⟩=false:=(fun i=>by{simp[World.frozen?,q4]});have S4:=Hd (HKP.o w4 HBn.o);have S5:Hid ((((w4.setCell ⟨WO.heap.size,4,none⟩ (.int .i64 po)).setCell ⟨WO.heap.size,5,none⟩ (.int .i64 pn)).setCell ⟨WO.heap.size,6,none⟩ (.slice pA pk pc)).cell? ⟨ab,off+k*11+4,none⟩=some (.int .i64 lo)∧(((w4.setCell ⟨WO.heap.size,4,none⟩ (.int .i64 po)).setCell ⟨WO.heap.size,5,none⟩ (.int .i64 pn)).setCell ⟨WO.heap.size,6,none⟩ (.slice pA pk pc)).cell? ⟨ab,off+k*11+4+1,none⟩=some (.int .i64 ln)∧(((w4.setCell ⟨WO.heap.size,4,none⟩ (.int .i64 po)).setCell ⟨WO.heap.size,5,none⟩ (.int .i64 pn)).setCell ⟨WO.heap.size,6,none⟩ (.slice pA pk pc)).cell? ⟨ab,off+k*11+4+2,none⟩=some (.slice lA lk lc)∧(((w4.setCell ⟨WO.heap.size,4,none⟩ (.int .i64 po)).setCell ⟨WO.heap.size,5,none⟩ (.int .i64 pn)).setCell ⟨WO.heap.size,6,none⟩ (.slice pA pk pc)).cell? ⟨ab,off+k*11+7,none⟩=some (.int .i64 xo)∧(((w4.setCell ⟨WO.heap.size,4,none⟩ (.int .i64 po)).setCell ⟨WO.heap.size,5,none⟩ (.int .i64 pn)).setCell ⟨WO.heap.size,6,none⟩ (.slice pA pk pc)).cell? ⟨ab,off+k*11+7+1,none⟩=some (.int .i64 xn)∧(((w4.setCell ⟨WO.heap.size,4,none⟩ (.int .i64 po)).setCell ⟨WO.heap.size,5,none⟩ (.int .i64 pn)).setCell ⟨WO.heap.size,6,none⟩ (.slice pA pk pc)).cell? ⟨ab,off+k*11+7+2,none⟩=some (.slice xA xk xc)):=HKP.o (set3 w4 WO.heap.size 4 (.int .i64 po) (.int .i64 pn) (.slice pA pk pc)) (aQ HBn.o (Le _) 4 _ _ _);have S6:Hid (((((((w4.setCell ⟨WO.heap.size,4,none⟩ (.int .i64 po)).setCell ⟨WO.heap.size,5,none⟩ (.int .i64 pn)).setCell ⟨WO.heap.size,6,none⟩ (.slice pA pk pc)).setCell ⟨WO.heap.size,7,none⟩ (.int .i64 ro)).setCell ⟨WO.heap.size,8,none⟩ (.int .i64 rn)).setCell ⟨WO.heap.size,9,none⟩ (.slice rA rk rc)).cell? ⟨ab,off+k*11+4,none⟩=some (.int .i64 lo)∧((((((w4.setCell ⟨WO.heap.size,4,none⟩ (.int .i64 po)).setCell ⟨WO.heap.size,5,none⟩ (.int .i64 pn)).setCell ⟨WO.heap.size,6,none⟩ (.slice pA pk pc)).setCell ⟨WO.heap.size,7,none⟩ (.int .i64 ro)).setCell ⟨WO.heap.size,8,none⟩ (.int .i64 rn)).setCell ⟨WO.heap.size,9,none⟩ (.slice rA rk rc)).cell? ⟨ab,off+k*11+4+1,none⟩=some (.int .i64 ln)∧((((((w4.setCell ⟨WO.heap.size,4,none⟩ (.int .i64 po)).setCell ⟨WO.heap.size,5,none⟩ (.int .i64 pn)).setCell ⟨WO.heap.size,6,none⟩ (.slice pA pk pc)).setCell ⟨WO.heap.size,7,none⟩ (.int .i64 ro)).setCell ⟨WO.heap.size,8,none⟩ (.int .i64 rn)).setCell ⟨WO.heap.size,9,none⟩ (.slice rA rk rc)).cell? ⟨ab,off+k*11+4+2,none⟩=some (.slice lA lk lc)∧((((((w4.setCell ⟨WO.heap.size,4,none⟩ (.int .i64 po)).setCell ⟨WO.heap.size,5,none⟩ (.int .i64 pn)).setCell ⟨WO.heap.size,6,none⟩ (.slice pA pk pc)).setCell ⟨WO.heap.size,7,none⟩ (.int .i64 ro)).setCell ⟨WO.heap.size,8,none⟩ (.int .i64 rn)).setCell ⟨WO.heap.size,9,none⟩ (.slice rA rk rc)).cell? ⟨ab,off+k*11+7,none⟩=some (.int .i64 xo)∧((((((w4.setCell ⟨WO.heap.size,4,none⟩ (.int .i64 po)).setCell ⟨WO.heap.size,5,none⟩ (.int .i64 pn)).setCell ⟨WO.heap.size,6,none⟩ (.slice pA pk pc)).setCell ⟨WO.heap.size,7,none⟩ (.int .i64 ro)).setCell ⟨WO.heap.size,8,none⟩ (.int .i64 rn)).setCell ⟨WO.heap.size,9,none⟩ (.slice rA rk rc)).cell? ⟨ab,off+k*11+7+1,none⟩=some (.int .i64 xn)∧((((((w4.setCell ⟨WO.heap.size,4,none⟩ (.int .i64 po)).setCell ⟨WO.heap.size,5,none⟩ (.int .i64 pn)).setCell ⟨WO.heap.size,6,none⟩ (.slice pA pk pc)).setCell ⟨WO.heap.size,7,none⟩ (.int .i64 ro)).setCell ⟨WO.heap.size,8,none⟩ (.int .i64 rn)).setCell ⟨WO.heap.size,9,none⟩ (.slice rA rk rc)).cell? ⟨ab,off+k*11+7+2,none⟩=some (.slice xA xk xc)):=HKP.o (set3 (set3 w4 WO.heap.size 4 (.int .i64 po) (.int .i64 pn) (.slice pA pk pc)) WO.heap.size 7 (.int .i64 ro) (.int .i64 rn) (.slice rA rk rc)) (aQ (aQ HBn.o (Le _) 4 _ _ _) (Le _) 7 _ _ _);clear q4 hr2 hb2 HBm));have HST:Hid (CdI WO b 0 none 0 [] ((set3 (set3 w4 WO.heap.size 4 (.int .i64 po) (.int .i64 pn) (.slice pA pk pc)) WO.heap.size 7 (.int .i64 ro) (.int .i64 rn) (.slice rA rk rc)).setCell ⟨WO.heap.size,3,none⟩ (.slice none 0 0))):=by
    have e:=HW2.o;subst e;exact CdI.start HB3.o (HR1.o.keep (Le _) (fun q _ hi=>by simpa using hi) fun _ _ _=>rfl) HB4.o HR2.o rfl rfl rfl rfl
   go_wp2_with fail;obtain⟨W7,hW7⟩:∃W7,W7=((((((w4.setCell ⟨WO.heap.size,4,none⟩ (.int .i64 po)).setCell ⟨WO.heap.size,5,none⟩ (.int .i64 pn)).setCell ⟨WO.heap.size,6,none⟩ (.slice pA pk pc)).setCell ⟨WO.heap.size,7,none⟩ (.int .i64 ro)).setCell ⟨WO.heap.size,8,none⟩ (.int .i64 rn)).setCell ⟨WO.heap.size,9,none⟩ (.slice rA rk rc)).setCell ⟨WO.heap.size,3,none⟩ (.slice none 0 0):=⟨_,rfl⟩;rw[←hW7];have HI0:Hid (CdI WO b 0 none 0 [] W7):=by unfold Hid;rw[hW7];exact HST.o
   have hwl:b.words.length≤1000:=HSB.o.1;clear hW7 HST HW2 X2 HB2 HKP HR1 HB3 HR2 HB4 HBn S0 S3 S4 S5 S6 z3 z4 z5 z6 z7 z8 z9 zf s2;go_loopw[6] (fun i W=>∃(j:Nat) (CW:OA) (cw:Nat) (ys:LV),j≤b.words.length∧i=.int .i64 (j:Int)∧CdI WO b j CW cw ys W) (fun i _=>b.words.length-(intOf i).toNat)
   case atStart=>exact⟨0,none,0,[],by omega,rfl,HI0.o⟩
   case round=>
    obtain⟨j,CW,cw,ys,hj,rfl,hI⟩:=hrel;have HI:=Hd hI;obtain⟨m0,m1,m2,p0,p1,p2,hbk,hmL,hmX⟩:=hI.ex;obtain⟨mo,mn,mA,mk,mc,rfl,rfl,rfl⟩:=hmL.form;obtain⟨qo,qn,qA,qk,qc,rfl,rfl,rfl⟩:=hmX.form;clear hmL hmX;have HBKX:=Hd hbk;have e0:=hlS hbk;have y3:=(HIC.o _ HI.o.bel).1;clear hI HI0 hbk;by_cases hjl:j<b.words.length
    ·obtain⟨aw,ow,rfl,haw,hwc⟩:=HBR.o.words.2.2.2 (by omega);obtain⟨⟨cc,t⟩,hx⟩:∃x,b.words[j]? =some x:=⟨_,Gg hjl⟩;obtain⟨v0,x,y,z,v1,v2,v3,hr⟩:=hwc j _ hx;obtain⟨o1,n1,A2,k2,d2,rfl,rfl,rfl⟩:=hr.form;have haw1:aw<w.heap.size:=by omega
     have hbw:Bw w wr:=HR.o.bel.tm HI.o.bel;have z0:=hbw.ct haw1 v0;have z1:=hbw.ct haw1 v1;have z2:=hbw.ct haw1 v2;have z3:=hbw.ct haw1 v3;dsimp only at z0;have hawr:aw<wr.heap.size:=Lt haw1 hbw.size;have habw:ab<wr.heap.size:=Lt hab1 hbw.size;have HIH:=Hd (HCC.o wr.drew t _ (aA HI.o.bel 1) (HSB.o.2.2.2 _ (Mg hx)) hr);have y2:wr.cell? ⟨WO.heap.size,3,none⟩=some (.slice CW j cw):=Ro wr _ 3 _ _ _ HBKX.o;have HXJ:=Hd hx;have i1':(0:Int)≤(j:Int):=by omega
     have i2':(j:Int)<(b.words.length:Int):=by omega
     clear hwc v0 v1 v2 v3 hr hbw hx;go_upto_region 11 with(fail)
     refine wp_region_noPanic ?_;refine wp_region_held_drew (S:=(fun w'=>w'.cell? ⟨ab,off+k*11+3,none⟩=some (.slice (some ⟨aw,ow,none⟩) b.words.length c1)∧w'.cell? ⟨aw,ow+j*4,none⟩=some (.int .i64 cc)∧w'.cell? ⟨aw,ow+j*4+1,none⟩=some (.int .i64 o1)∧w'.cell? ⟨aw,ow+j*4+1+1,none⟩=some (.int .i64 n1)∧w'.cell? ⟨aw,ow+j*4+1+2,none⟩=some (.slice A2 k2 d2))) (by kernel_rfl) ⟨y3,z0,z1,z2,z3⟩ (fun hH=> ?_);refine tkL 0 (v:= ?_) rfl ?_ (by assumption) ?_;rotate_left
     ·rintro w1-
      go_simp<;>with_reducible rfl
     try simp only[Act.put,L0,L4,L5]
     refine tkL 2 (v:= ?_) rfl ?_ (by assumption) ?_;rotate_left
     ·rintro w1-
      go_simp<;>with_reducible rfl
     try simp only[Act.put,L0,L4,L5]
     refine tkL 3 (v:= ?_) rfl ?_ (by assumption) ?_;rotate_left
     ·rintro w1-
      go_simp<;>with_reducible rfl
     try simp only[Act.put,L0,L4,L5]
     refine tkL 4 (v:= ?_) rfl ?_ (by assumption) ?_;rotate_left
     ·rintro w1-
      go_simp<;>with_reducible rfl
     try simp only[Act.put,L0,L4,L5]
     refine tkL 5 (v:= ?_) rfl ?_ (by assumption) ?_;rotate_left
     ·rintro w1-
      go_simp<;>with_reducible rfl
     try simp only[Act.put,L0,L4,L5]
     refine tkL 6 (v:= ?_) rfl ?_ (by assumption) ?_;rotate_left
     ·intro w1 hSw;obtain⟨hS0,hS1,hS2,hS3,hS4⟩:=hSw;go_simp<;>with_reducible rfl
     try simp only[Act.put,L0,L4,L5]
     refine tkL 7 (v:= ?_) rfl ?_ (by assumption) ?_;rotate_left
     ·rintro w1-
      go_simp<;>with_reducible rfl
     try simp only[Act.put,L0,L4,L5]
     refine tkL 8 (v:= ?_) rfl ?_ (by assumption) ?_;rotate_left
     ·rintro w1-
      go_simp<;>with_reducible rfl
     try simp only[Act.put,L0,L4,L5]
     refine tkL 9 (v:= ?_) rfl ?_ (by assumption) ?_;rotate_left
     ·rintro w1-
      go_simp<;>with_reducible rfl
     try simp only[Act.put,L0,L4,L5]
     refine tkL 10 (v:= ?_) rfl ?_ (by assumption) ?_;rotate_left
     ·intro w1 hSw;obtain⟨hS0,hS1,hS2,hS3,hS4⟩:=hSw;go_simp<;>with_reducible rfl
     try simp only[Act.put,L0,L4,L5]
     refine tkL 11 (v:= ?_) rfl ?_ (by assumption) ?_;rotate_left
     ·rintro w1-
      go_simp<;>with_reducible rfl
     try simp only[Act.put,L0,L4,L5]
     refine tkL 12 (v:= ?_) rfl ?_ (by assumption) ?_;rotate_left
     ·rintro w1-
      go_simp<;>with_reducible rfl
     try simp only[Act.put,L0,L4,L5]
     refine tkL 13 (v:= ?_) rfl ?_ (by assumption) ?_;rotate_left
     ·rintro w1-
      go_simp<;>with_reducible rfl
     try simp only[Act.put,L0,L4,L5]
     refine tkL 14 (v:= ?_) rfl ?_ (by assumption) ?_;rotate_left
     ·rintro w1-
      go_simp<;>with_reducible rfl
     try simp only[Act.put,L0,L4,L5]
     refine tkL 15 (v:= ?_) rfl ?_ (by assumption) ?_;rotate_left
     ·intro w1 hSw;obtain⟨hS0,hS1,hS2,hS3,hS4⟩:=hSw;go_simp<;>with_reducible rfl
     try simp only[Act.put,L0,L4,L5]
     refine tkL 16 (v:= ?_) rfl ?_ (by assumption) ?_;rotate_left
     ·rintro w1-
      go_simp<;>with_reducible rfl
     try simp only[Act.put,L0,L4,L5]
     refine tkL 17 (v:= ?_) rfl ?_ (by assumption) ?_;rotate_left
     ·rintro w1-
      go_simp<;>with_reducible rfl
     try simp only[Act.put,L0,L4,L5]
     refine tkL 18 (v:= ?_) rfl ?_ (by assumption) ?_;rotate_left
     ·rintro w1-
      go_simp<;>with_reducible rfl
     try simp only[Act.put,L0,L4,L5]
     refine tkL 19 (v:= ?_) rfl ?_ (by assumption) ?_;rotate_left
     ·intro w1 hSw;obtain⟨hS0,hS1,hS2,hS3,hS4⟩:=hSw;go_simp<;>with_reducible rfl
     try simp only[Act.put,L0,L4,L5]
     refine rd2 1 20 rfl rfl (fun K hK=> ?_) fun K hK=> ?_
     ·go_simp;refine hK.o _ _ ?_ (fun hH=> ?_)
      ·exact⟨y3,z0,z1,z2,z3⟩
      clear hK K;try simp only[Act.put,L0,L4,L5]
      refine rd1 20 rfl fun K hK=> ?_;go_simp;go_at_call 85;refine HIH.o.mono ?_;rintro e w2 ⟨x',y',z',rfl,hr3,hb3⟩;obtain⟨o2,n2,A3,k3,d3,rfl,rfl,rfl⟩:=hr3.form;have HB3:Hid (Bw wr w2):=(unB hb3);have HRZ:Hid (Rz w2 (fun q=>wr.heap.size≤q) t (.agg #[.int .i64 o2,.int .i64 n2,.slice A3 k3 d3])):=hr3;have S2:Hid (w2.cell? ⟨ab,off+k*11+3,none⟩=some (.slice (some ⟨aw,ow,none⟩) b.words.length c1)∧w2.cell? ⟨aw,ow+j*4,none⟩=some (.int .i64 cc)∧w2.cell? ⟨aw,ow+j*4+1,none⟩=some (.int .i64 o1)∧w2.cell? ⟨aw,ow+j*4+1+1,none⟩=some (.int .i64 n1)∧w2.cell? ⟨aw,ow+j*4+1+2,none⟩=some (.slice A2 k2 d2)):=⟨HB3.o.ct habw y3,HB3.o.ct hawr z0,HB3.o.ct hawr z1,HB3.o.ct hawr z2,HB3.o.ct hawr z3⟩;have y22:=HB3.o.ct e0 y2;obtain⟨W3,hW3⟩:∃W3,W3=w2.alloc (.cells #[.int .i64 cc,.int .i64 o2,.int .i64 n2,.slice A3 k3 d3] 57):=⟨_,rfl⟩;have HW3:=Hd hW3;have HB4:Hid (Bw w2 W3):=by{unfold Hid;rw[hW3];exact nB _ _}
      have hw2s:=HB3.o.size;have y23:W3.cell? ⟨WO.heap.size,3,none⟩=some (.slice CW j cw):=HB4.o.ct (by omega) y22;have S3:Hid (W3.cell? ⟨ab,off+k*11+3,none⟩=some (.slice (some ⟨aw,ow,none⟩) b.words.length c1)∧W3.cell? ⟨aw,ow+j*4,none⟩=some (.int .i64 cc)∧W3.cell? ⟨aw,ow+j*4+1,none⟩=some (.int .i64 o1)∧W3.cell? ⟨aw,ow+j*4+1+1,none⟩=some (.int .i64 n1)∧W3.cell? ⟨aw,ow+j*4+1+2,none⟩=some (.slice A2 k2 d2)):=⟨HB4.o.ct (by omega) S2.o.1,HB4.o.ct (by omega) S2.o.2.1,HB4.o.ct (by omega) S2.o.2.2.1,HB4.o.ct (by omega) S2.o.2.2.2.1,HB4.o.ct (by omega) S2.o.2.2.2.2⟩;have HNW:Hid (W3.heap[w2.heap.size]? =some (.cells #[.int .i64 cc,.int .i64 o2,.int .i64 n2,.slice A3 k3 d3] 57 (0,0))):=by{unfold Hid;rw[hW3];exact Hn _ _}
      have hW3s:W3.heap.size=w2.heap.size+1:=by rw[hW3];simp
      have HOW:Hid (W3.ownsRow (WO.heap.size+1) 57 4 (.slice CW j cw) j ys):=aC HI.o.own fun g hg _=>(HB4.o.block g (by omega)).trans (HB3.o.block g hg);clear hb3 hr3 hW3;refine hK.o _ _ ?_ (fun hH=> ?_)
      ·exact S2.o
      clear hK K;try simp only[Act.put,L0,L4,L5]
      refine tkL 21 (v:= ?_) rfl ?_ (by assumption) ?_;rotate_left
      ·rintro w1-
       go_simp<;>with_reducible rfl
      try simp only[Act.put,L0,L4,L5]
      refine rd1 22 rfl fun K hK=> ?_;go_simp;rw[←HW3.o];refine hK.o _ _ ?_ (fun hH=> ?_)
      ·exact S3.o
      clear hK K;try simp only[Act.put,L0,L4,L5]
      refine rd1 23 rfl fun K hK=> ?_;refine step_append_lies _ rfl (.tmp 43) (.tmp 64) 49 rfl (WO.heap.size+1) 57 iW zW 4 48 underlying49 HIW.o HZW.o hW1 hW2 hWs (by omega) (.slice CW j cw) j ys (by simp[Act.eval,Act.put]) HOW.o ⟨w2.heap.size,0,none⟩ 1 1 [.int .i64 cc,.int .i64 o2,.int .i64 n2,.slice A3 k3 d3] (by simp[Act.eval,Act.put]) rfl (Nk HNW.o) (by intro u hu;simp at hu;rcases hu with rfl|rfl|rfl|rfl<;>rfl) (by omega) (by unfold maxLen;omega) (by omega) (by omega) _ rfl ?_;intro g9 c9 w9 ho9 hg9 hl9 hlt9;have HNX:=Hd (HI.o.next HXJ.o HB3.o HRZ.o (fun q hq=>HB4.o.block q hq) ⟨HB4.o.os,HB4.o.tape,HB4.o.output⟩ hW3s ho9 hg9 hl9);have hnob:∀q,q<WO.heap.size+1→some q≠(Value.slice CW j cw).ownBlock:=fun q hq e=>by have:=aI HI.o.own e.symm;omega
      have k9:∀q,q<WO.heap.size+1→w9.heap[q]? =W3.heap[q]? :=fun q hq=>hg9.block q (by have:=HI.o.bel.size;omega) (hnob q hq);have y24:w9.cell? ⟨WO.heap.size,3,none⟩=some (.slice CW j cw):=(aB (k9 _ (by omega))).trans y23;have y2f:w9.frozen? ⟨WO.heap.size,3,none⟩=false:=(cekF WO.heap.size 3 ((k9 WO.heap.size (by omega)).trans ((HB4.o.block WO.heap.size (by omega)).trans (HB3.o.block WO.heap.size (by omega))))).trans (by simp[World.frozen?,HBKX.o]);have hawx:aw<WO.heap.size+1:=by have:=HR.o.bel.size;omega
      have habx:ab<WO.heap.size+1:=by omega
      have S4:Hid (w9.cell? ⟨ab,off+k*11+3,none⟩=some (.slice (some ⟨aw,ow,none⟩) b.words.length c1)∧w9.cell? ⟨aw,ow+j*4,none⟩=some (.int .i64 cc)∧w9.cell? ⟨aw,ow+j*4+1,none⟩=some (.int .i64 o1)∧w9.cell? ⟨aw,ow+j*4+1+1,none⟩=some (.int .i64 n1)∧w9.cell? ⟨aw,ow+j*4+1+2,none⟩=some (.slice A2 k2 d2)):=⟨(aB (k9 _ habx)).trans S3.o.1,(aB (k9 _ hawx)).trans S3.o.2.1,(aB (k9 _ hawx)).trans S3.o.2.2.1,(aB (k9 _ hawx)).trans S3.o.2.2.2.1,(aB (k9 _ hawx)).trans S3.o.2.2.2.2⟩;have kS:∀(v:Value) (q o:Nat),q≠WO.heap.size→(w9.setCell ⟨WO.heap.size,3,none⟩ v).cell? ⟨q,o,none⟩=w9.cell? ⟨q,o,none⟩:=fun v q o hq=>aB (Bj _ _ _ q hq);have hawy:aw≠WO.heap.size:=by have:=HR.o.bel.size;omega
      have haby:ab≠WO.heap.size:=by omega
      have S5:Hid (∀v:Value,(w9.setCell ⟨WO.heap.size,3,none⟩ v).cell? ⟨ab,off+k*11+3,none⟩=some (.slice (some ⟨aw,ow,none⟩) b.words.length c1)∧(w9.setCell ⟨WO.heap.size,3,none⟩ v).cell? ⟨aw,ow+j*4,none⟩=some (.int .i64 cc)∧(w9.setCell ⟨WO.heap.size,3,none⟩ v).cell? ⟨aw,ow+j*4+1,none⟩=some (.int .i64 o1)∧(w9.setCell ⟨WO.heap.size,3,none⟩ v).cell? ⟨aw,ow+j*4+1+1,none⟩=some (.int .i64 n1)∧(w9.setCell ⟨WO.heap.size,3,none⟩ v).cell? ⟨aw,ow+j*4+1+2,none⟩=some (.slice A2 k2 d2)):=fun v=>⟨(kS v _ _ haby).trans S4.o.1,(kS v _ _ hawy).trans S4.o.2.1,(kS v _ _ hawy).trans S4.o.2.2.1,(kS v _ _ hawy).trans S4.o.2.2.2.1,(kS v _ _ hawy).trans S4.o.2.2.2.2⟩;clear ho9 hg9 hl9 hlt9 k9 kS;refine hK.o _ _ ?_ (fun hH=> ?_)
      ·exact S4.o
      clear hK K;try simp only[Act.put,L0,L4,L5]
      refine tkL 24 (v:= ?_) rfl ?_ (by assumption) ?_;rotate_left
      ·rintro w1-
       go_simp<;>with_reducible rfl
      try simp only[Act.put,L0,L4,L5]
      refine rd1 25 rfl fun K hK=> ?_;go_simp;refine hK.o _ _ ?_ (fun hH=> ?_)
      ·exact S5.o _
      clear hK K;try simp only[Act.put,L0,L4,L5]
      refine wpAnyH_done (by kernel_rfl) ?_ _;refine NoPanic.normal ?_;go_wp2_with fail;exact⟨⟨j+1,_,_,_,by omega,by go_num,HNX.o⟩,by simp only[intOf];omega⟩
     ·go_simp;go_at_call 85;refine HIH.o.mono ?_;rintro e w2 ⟨x',y',z',rfl,hr3,hb3⟩;obtain⟨o2,n2,A3,k3,d3,rfl,rfl,rfl⟩:=hr3.form;have HB3:Hid (Bw wr w2):=(unB hb3);have HRZ:Hid (Rz w2 (fun q=>wr.heap.size≤q) t (.agg #[.int .i64 o2,.int .i64 n2,.slice A3 k3 d3])):=hr3;have S2:Hid (w2.cell? ⟨ab,off+k*11+3,none⟩=some (.slice (some ⟨aw,ow,none⟩) b.words.length c1)∧w2.cell? ⟨aw,ow+j*4,none⟩=some (.int .i64 cc)∧w2.cell? ⟨aw,ow+j*4+1,none⟩=some (.int .i64 o1)∧w2.cell? ⟨aw,ow+j*4+1+1,none⟩=some (.int .i64 n1)∧w2.cell? ⟨aw,ow+j*4+1+2,none⟩=some (.slice A2 k2 d2)):=⟨HB3.o.ct habw y3,HB3.o.ct hawr z0,HB3.o.ct hawr z1,HB3.o.ct hawr z2,HB3.o.ct hawr z3⟩;have y22:=HB3.o.ct e0 y2;obtain⟨W3,hW3⟩:∃W3,W3=w2.alloc (.cells #[.int .i64 cc,.int .i64 o2,.int .i64 n2,.slice A3 k3 d3] 57):=⟨_,rfl⟩;have HW3:=Hd hW3;have HB4:Hid (Bw w2 W3):=by{unfold Hid;rw[hW3];exact nB _ _}
      have hw2s:=HB3.o.size;have y23:W3.cell? ⟨WO.heap.size,3,none⟩=some (.slice CW j cw):=HB4.o.ct (by omega) y22;have S3:Hid (W3.cell? ⟨ab,off+k*11+3,none⟩=some (.slice (some ⟨aw,ow,none⟩) b.words.length c1)∧W3.cell? ⟨aw,ow+j*4,none⟩=some (.int .i64 cc)∧W3.cell? ⟨aw,ow+j*4+1,none⟩=some (.int .i64 o1)∧W3.cell? ⟨aw,ow+j*4+1+1,none⟩=some (.int .i64 n1)∧W3.cell? ⟨aw,ow+j*4+1+2,none⟩=some (.slice A2 k2 d2)):=⟨HB4.o.ct (by omega) S2.o.1,HB4.o.ct (by omega) S2.o.2.1,HB4.o.ct (by omega) S2.o.2.2.1,HB4.o.ct (by omega) S2.o.2.2.2.1,HB4.o.ct (by omega) S2.o.2.2.2.2⟩;have HNW:Hid (W3.heap[w2.heap.size]? =some (.cells #[.int .i64 cc,.int .i64 o2,.int .i64 n2,.slice A3 k3 d3] 57 (0,0))):=by{unfold Hid;rw[hW3];exact Hn _ _}
      have hW3s:W3.heap.size=w2.heap.size+1:=by rw[hW3];simp
      have HOW:Hid (W3.ownsRow (WO.heap.size+1) 57 4 (.slice CW j cw) j ys):=aC HI.o.own fun g hg _=>(HB4.o.block g (by omega)).trans (HB3.o.block g hg);clear hb3 hr3 hW3;refine hK.o _ _ ?_ (fun hH=> ?_)
      ·exact S2.o
      clear hK K;try simp only[Act.put,L0,L4,L5]
      refine tkL 21 (v:= ?_) rfl ?_ (by assumption) ?_;rotate_left
      ·rintro w1-
       go_simp<;>with_reducible rfl
      try simp only[Act.put,L0,L4,L5]
      refine rd2 1 22 rfl rfl (fun K hK=> ?_) fun K hK=> ?_
      ·go_simp;refine hK.o _ _ ?_ (fun hH=> ?_)
       ·exact S2.o
       clear hK K;try simp only[Act.put,L0,L4,L5]
       refine rd1 22 rfl fun K hK=> ?_;go_simp;rw[←HW3.o];refine hK.o _ _ ?_ (fun hH=> ?_)
       ·exact S3.o
       clear hK K;try simp only[Act.put,L0,L4,L5]
       refine rd1 23 rfl fun K hK=> ?_;refine step_append_lies _ rfl (.tmp 43) (.tmp 64) 49 rfl (WO.heap.size+1) 57 iW zW 4 48 underlying49 HIW.o HZW.o hW1 hW2 hWs (by omega) (.slice CW j cw) j ys (by simp[Act.eval,Act.put]) HOW.o ⟨w2.heap.size,0,none⟩ 1 1 [.int .i64 cc,.int .i64 o2,.int .i64 n2,.slice A3 k3 d3] (by simp[Act.eval,Act.put]) rfl (Nk HNW.o) (by intro u hu;simp at hu;rcases hu with rfl|rfl|rfl|rfl<;>rfl) (by omega) (by unfold maxLen;omega) (by omega) (by omega) _ rfl ?_;intro g9 c9 w9 ho9 hg9 hl9 hlt9;have HNX:=Hd (HI.o.next HXJ.o HB3.o HRZ.o (fun q hq=>HB4.o.block q hq) ⟨HB4.o.os,HB4.o.tape,HB4.o.output⟩ hW3s ho9 hg9 hl9);have hnob:∀q,q<WO.heap.size+1→some q≠(Value.slice CW j cw).ownBlock:=fun q hq e=>by have:=aI HI.o.own e.symm;omega
       have k9:∀q,q<WO.heap.size+1→w9.heap[q]? =W3.heap[q]? :=fun q hq=>hg9.block q (by have:=HI.o.bel.size;omega) (hnob q hq);have y24:w9.cell? ⟨WO.heap.size,3,none⟩=some (.slice CW j cw):=(aB (k9 _ (by omega))).trans y23;have y2f:w9.frozen? ⟨WO.heap.size,3,none⟩=false:=(cekF WO.heap.size 3 ((k9 WO.heap.size (by omega)).trans ((HB4.o.block WO.heap.size (by omega)).trans (HB3.o.block WO.heap.size (by omega))))).trans (by simp[World.frozen?,HBKX.o]);have hawx:aw<WO.heap.size+1:=by have:=HR.o.bel.size;omega
       have habx:ab<WO.heap.size+1:=by omega
       have S4:Hid (w9.cell? ⟨ab,off+k*11+3,none⟩=some (.slice (some ⟨aw,ow,none⟩) b.words.length c1)∧w9.cell? ⟨aw,ow+j*4,none⟩=some (.int .i64 cc)∧w9.cell? ⟨aw,ow+j*4+1,none⟩=some (.int .i64 o1)∧w9.cell? ⟨aw,ow+j*4+1+1,none⟩=some (.int .i64 n1)∧w9.cell? ⟨aw,ow+j*4+1+2,none⟩=some (.slice A2 k2 d2)):=⟨(aB (k9 _ habx)).trans S3.o.1,(aB (k9 _ hawx)).trans S3.o.2.1,(aB (k9 _ hawx)).trans S3.o.2.2.1,(aB (k9 _ hawx)).trans S3.o.2.2.2.1,(aB (k9 _ hawx)).trans S3.o.2.2.2.2⟩;have kS:∀(v:Value) (q o:Nat),q≠WO.heap.size→(w9.setCell ⟨WO.heap.size,3,none⟩ v).cell? ⟨q,o,none⟩=w9.cell? ⟨q,o,none⟩:=fun v q o hq=>aB (Bj _ _ _ q hq);have hawy:aw≠WO.heap.size:=by have:=HR.o.bel.size;omega
       have haby:ab≠WO.heap.size:=by omega
       have S5:Hid (∀v:Value,(w9.setCell ⟨WO.heap.size,3,none⟩ v).cell? ⟨ab,off+k*11+3,none⟩=some (.slice (some ⟨aw,ow,none⟩) b.words.length c1)∧(w9.setCell ⟨WO.heap.size,3,none⟩ v).cell? ⟨aw,ow+j*4,none⟩=some (.int .i64 cc)∧(w9.setCell ⟨WO.heap.size,3,none⟩ v).cell? ⟨aw,ow+j*4+1,none⟩=some (.int .i64 o1)∧(w9.setCell ⟨WO.heap.size,3,none⟩ v).cell? ⟨aw,ow+j*4+1+1,none⟩=some (.int .i64 n1)∧(w9.setCell ⟨WO.heap.size,3,none⟩ v).cell? ⟨aw,ow+j*4+1+2,none⟩=some (.slice A2 k2 d2)):=fun v=>⟨(kS v _ _ haby).trans S4.o.1,(kS v _ _ hawy).trans S4.o.2.1,(kS v _ _ hawy).trans S4.o.2.2.1,(kS v _ _ hawy).trans S4.o.2.2.2.1,(kS v _ _ hawy).trans S4.o.2.2.2.2⟩;clear ho9 hg9 hl9 hlt9 k9 kS;refine hK.o _ _ ?_ (fun hH=> ?_)
       ·exact S4.o
       clear hK K;try simp only[Act.put,L0,L4,L5]
       refine tkL 24 (v:= ?_) rfl ?_ (by assumption) ?_;rotate_left
       ·rintro w1-
        go_simp<;>with_reducible rfl
       try simp only[Act.put,L0,L4,L5]
       refine rd1 25 rfl fun K hK=> ?_;go_simp;refine hK.o _ _ ?_ (fun hH=> ?_)
       ·exact S5.o _
       clear hK K;try simp only[Act.put,L0,L4,L5]
       refine wpAnyH_done (by kernel_rfl) ?_ _;refine NoPanic.normal ?_;go_wp2_with fail;exact⟨⟨j+1,_,_,_,by omega,by go_num,HNX.o⟩,by simp only[intOf];omega⟩
      ·go_simp;rw[←HW3.o];refine hK.o _ _ ?_ (fun hH=> ?_)
       ·exact S3.o
       clear hK K;try simp only[Act.put,L0,L4,L5]
       refine rd1 1 rfl fun K hK=> ?_;go_simp;refine hK.o _ _ ?_ (fun hH=> ?_)
       ·exact S3.o
       clear hK K;try simp only[Act.put,L0,L4,L5]
       refine rd1 23 rfl fun K hK=> ?_;refine step_append_lies _ rfl (.tmp 43) (.tmp 64) 49 rfl (WO.heap.size+1) 57 iW zW 4 48 underlying49 HIW.o HZW.o hW1 hW2 hWs (by omega) (.slice CW j cw) j ys (by simp[Act.eval,Act.put]) HOW.o ⟨w2.heap.size,0,none⟩ 1 1 [.int .i64 cc,.int .i64 o2,.int .i64 n2,.slice A3 k3 d3] (by simp[Act.eval,Act.put]) rfl (Nk HNW.o) (by intro u hu;simp at hu;rcases hu with rfl|rfl|rfl|rfl<;>rfl) (by omega) (by unfold maxLen;omega) (by omega) (by omega) _ rfl ?_;intro g9 c9 w9 ho9 hg9 hl9 hlt9;have HNX:=Hd (HI.o.next HXJ.o HB3.o HRZ.o (fun q hq=>HB4.o.block q hq) ⟨HB4.o.os,HB4.o.tape,HB4.o.output⟩ hW3s ho9 hg9 hl9);have hnob:∀q,q<WO.heap.size+1→some q≠(Value.slice CW j cw).ownBlock:=fun q hq e=>by have:=aI HI.o.own e.symm;omega
       have k9:∀q,q<WO.heap.size+1→w9.heap[q]? =W3.heap[q]? :=fun q hq=>hg9.block q (by have:=HI.o.bel.size;omega) (hnob q hq);have y24:w9.cell? ⟨WO.heap.size,3,none⟩=some (.slice CW j cw):=(aB (k9 _ (by omega))).trans y23;have y2f:w9.frozen? ⟨WO.heap.size,3,none⟩=false:=(cekF WO.heap.size 3 ((k9 WO.heap.size (by omega)).trans ((HB4.o.block WO.heap.size (by omega)).trans (HB3.o.block WO.heap.size (by omega))))).trans (by simp[World.frozen?,HBKX.o]);have hawx:aw<WO.heap.size+1:=by have:=HR.o.bel.size;omega
       have habx:ab<WO.heap.size+1:=by omega
       have S4:Hid (w9.cell? ⟨ab,off+k*11+3,none⟩=some (.slice (some ⟨aw,ow,none⟩) b.words.length c1)∧w9.cell? ⟨aw,ow+j*4,none⟩=some (.int .i64 cc)∧w9.cell? ⟨aw,ow+j*4+1,none⟩=some (.int .i64 o1)∧w9.cell? ⟨aw,ow+j*4+1+1,none⟩=some (.int .i64 n1)∧w9.cell? ⟨aw,ow+j*4+1+2,none⟩=some (.slice A2 k2 d2)):=⟨(aB (k9 _ habx)).trans S3.o.1,(aB (k9 _ hawx)).trans S3.o.2.1,(aB (k9 _ hawx)).trans S3.o.2.2.1,(aB (k9 _ hawx)).trans S3.o.2.2.2.1,(aB (k9 _ hawx)).trans S3.o.2.2.2.2⟩;have kS:∀(v:Value) (q o:Nat),q≠WO.heap.size→(w9.setCell ⟨WO.heap.size,3,none⟩ v).cell? ⟨q,o,none⟩=w9.cell? ⟨q,o,none⟩:=fun v q o hq=>aB (Bj _ _ _ q hq);have hawy:aw≠WO.heap.size:=by have:=HR.o.bel.size;omega
       have haby:ab≠WO.heap.size:=by omega
       have S5:Hid (∀v:Value,(w9.setCell ⟨WO.heap.size,3,none⟩ v).cell? ⟨ab,off+k*11+3,none⟩=some (.slice (some ⟨aw,ow,none⟩) b.words.length c1)∧(w9.setCell ⟨WO.heap.size,3,none⟩ v).cell? ⟨aw,ow+j*4,none⟩=some (.int .i64 cc)∧(w9.setCell ⟨WO.heap.size,3,none⟩ v).cell? ⟨aw,ow+j*4+1,none⟩=some (.int .i64 o1)∧(w9.setCell ⟨WO.heap.size,3,none⟩ v).cell? ⟨aw,ow+j*4+1+1,none⟩=some (.int .i64 n1)∧(w9.setCell ⟨WO.heap.size,3,none⟩ v).cell? ⟨aw,ow+j*4+1+2,none⟩=some (.slice A2 k2 d2)):=fun v=>⟨(kS v _ _ haby).trans S4.o.1,(kS v _ _ hawy).trans S4.o.2.1,(kS v _ _ hawy).trans S4.o.2.2.1,(kS v _ _ hawy).trans S4.o.2.2.2.1,(kS v _ _ hawy).trans S4.o.2.2.2.2⟩;clear ho9 hg9 hl9 hlt9 k9 kS;refine hK.o _ _ ?_ (fun hH=> ?_)
       ·exact S4.o
       clear hK K;try simp only[Act.put,L0,L4,L5]
       refine tkL 24 (v:= ?_) rfl ?_ (by assumption) ?_;rotate_left
       ·rintro w1-
        go_simp<;>with_reducible rfl
       try simp only[Act.put,L0,L4,L5]
       refine rd1 25 rfl fun K hK=> ?_;go_simp;refine hK.o _ _ ?_ (fun hH=> ?_)
       ·exact S5.o _
       clear hK K;try simp only[Act.put,L0,L4,L5]
       refine wpAnyH_done (by kernel_rfl) ?_ _;refine NoPanic.normal ?_;go_wp2_with fail;exact⟨⟨j+1,_,_,_,by omega,by go_num,HNX.o⟩,by simp only[intOf];omega⟩
    ·have hje:j=b.words.length:=by omega
     subst hje;have z0:wr.cell? ⟨WO.heap.size,0,none⟩=some (.int .i64 b.kind):=Ro wr _ 0 _ _ _ HBKX.o;have z1:wr.cell? ⟨WO.heap.size,1,none⟩=some (.int .i64 b.label):=Ro wr _ 1 _ _ _ HBKX.o;have z2:wr.cell? ⟨WO.heap.size,2,none⟩=some (.bool b.skip):=Ro wr _ 2 _ _ _ HBKX.o;have z3:wr.cell? ⟨WO.heap.size,3,none⟩=some (.slice CW b.words.length cw):=Ro wr _ 3 _ _ _ HBKX.o;have z4:wr.cell? ⟨WO.heap.size,4,none⟩=some (.int .i64 mo):=Ro wr _ 4 _ _ _ HBKX.o;have z5:wr.cell? ⟨WO.heap.size,5,none⟩=some (.int .i64 mn):=Ro wr _ 5 _ _ _ HBKX.o;have z6:wr.cell? ⟨WO.heap.size,6,none⟩=some (.slice mA mk mc):=Ro wr _ 6 _ _ _ HBKX.o;have z7:wr.cell? ⟨WO.heap.size,7,none⟩=some (.int .i64 qo):=Ro wr _ 7 _ _ _ HBKX.o;have z8:wr.cell? ⟨WO.heap.size,8,none⟩=some (.int .i64 qn):=Ro wr _ 8 _ _ _ HBKX.o;have z9:wr.cell? ⟨WO.heap.size,9,none⟩=some (.slice qA qk qc):=Ro wr _ 9 _ _ _ HBKX.o;have z10:wr.cell? ⟨WO.heap.size,10,none⟩=some (.int .i64 b.n):=Ro wr _ 10 _ _ _ HBKX.o;have HOW:Hid (wr.ownsRow w.heap.size 54 11 (.slice C k cp) k xs):=aC HR.o.own fun g hg _=>HI.o.bel.block g hg;have hwsz:=HR.o.bel.size;have hwsy:=HI.o.bel.size;go_wp2_with(first|(at_builtin;refine wpList_append_lies _ rfl (.tmp 67) (.tmp 69) 29 rfl w.heap.size 54 iB zB 11 136 underlying29 HIB.o HZB.o hB1 hB2 hBs (by omega) (.slice C k cp) k xs rfl (HOW.o.alloc _) ⟨wr.heap.size,0,none⟩ 1 1 [.int .i64 b.kind,.int .i64 b.label,.bool b.skip,.slice CW b.words.length cw,.int .i64 mo,.int .i64 mn,.slice mA mk mc,.int .i64 qo,.int .i64 qn,.slice qA qk qc,.int .i64 b.n] rfl rfl (Nk (Hn wr _)) (by intro u hu;simp only[List.mem_cons,List.not_mem_nil,or_false]at hu;rcases hu with rfl|rfl|rfl|rfl|rfl|rfl|rfl|rfl|rfl|rfl|rfl<;>rfl) (by omega) (by unfold maxLen;omega) (by omega) (by simp;omega) _ rfl ?_;intro g9 c9 w9 ho9 hg9 hl9 hlt9;have HNX:=Hd (HR.o.next HBK.o HI.o HBKX.o HBR.o.kind HBR.o.label HBR.o.n HBR.o.words.2.1 HBR.o.words.2.2.1 (fun q hq=>Bm wr _ q hq) ⟨rfl,rfl,rfl⟩ (by simp) ho9 hg9 hl9);clear ho9 hg9 hl9 hlt9));exact⟨⟨k+1,_,_,_,by omega,rfl,by go_num,HNX.o⟩,by simp only[intOf];omega⟩
  ·have hke:k=bs.length:=by omega
   subst hke;go_wp2_with fail;go_ret;exact⟨C,cp,rfl,HR.o.done hml,HR.o.bel⟩
