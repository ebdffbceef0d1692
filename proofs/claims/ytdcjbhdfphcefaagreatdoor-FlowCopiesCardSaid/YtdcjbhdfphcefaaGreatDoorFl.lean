/- What Flowing of cncstage has in memory between its steps: the blocks so far, the open loops, the block in hand. The contract of Flowing of cncstage: some blocks that read: which is not said. Conditions: those that each lemma names. -/
import Derived.Test.YtdcjbhdfphcefaaGreatDoorCz
import Derived.Test.YtdcjbhdfphcefaaGreatDoorLk
set_option linter.unusedVariables false
set_option linter.unusedSimpArgs false
namespace Go.Proofs.YtdcjbhdfphcefaaGreatDoor
open Go.RowKit
structure FI(B tb:Nat)(A:Option Addr)(n c:Nat)(w:World)(lst:List Int)(bl:List Bk)(C:Option Addr)(cp:Nat)(xs:List Value)(D:Option Addr)(dp:Nat)(W:World):Prop where
 tp:TapeOK W B tb A n c
 only:Only tb w W
 bk:BkS W w.heap.size (fun g=>w.heap.size≤g∧some g≠(Value.slice D lst.length dp).ownBlock) C cp bl xs
 wt:W.ownsRow w.heap.size 3 1 (.slice D lst.length dp) lst.length (ints lst)
structure FM(B tb:Nat)(A:Option Addr)(n c:Nat)(w wr:World)(lst:List Int)(bl:List Bk)(C:Option Addr)(cp:Nat)(xs:List Value)(D0:Option Nat)(D:Option Addr)(dp bb:Nat)(bk:Bk)(Aw:Option Addr)(kw cw:Nat)(lo ln:Int)(lA:Option Addr)(lk lc:Nat)(xo xn:Int)(xA:Option Addr)(xk xc:Nat)(W:World):Prop where
 tp:TapeOK W B tb A n c
 only:Only tb w W
 bk0:BkS wr w.heap.size (fun g=>w.heap.size≤g∧some g≠D0) C cp bl xs
 wle:w.heap.size≤wr.heap.size
 hs:wr.heap.size≤bb
 kb:∀q,q<wr.heap.size→w.heap.size≤q→some q≠D0→W.heap[q]? =wr.heap[q]?
 d:(Value.slice D lst.length dp).ownBlock=D0∨∃g,(Value.slice D lst.length dp).ownBlock=some g∧wr.heap.size≤g
 dbb:(Value.slice D lst.length dp).ownBlock≠some bb
 wt:W.ownsRow w.heap.size 3 1 (.slice D lst.length dp) lst.length (ints lst)
 blk:W.heap[bb]? =some (.cells #[.int .i64 bk.kind,.int .i64 bk.label,.bool bk.skip,.slice Aw kw cw,.int .i64 lo,.int .i64 ln,.slice lA lk lc,.int .i64 xo,.int .i64 xn,.slice xA xk xc,.int .i64 bk.n] 54 (0,0))
 bz:Bz W (fun q=>wr.heap.size≤q∧q≠bb∧some q≠(Value.slice D lst.length dp).ownBlock) bk Aw kw (.int .i64 lo) (.int .i64 ln) (.slice lA lk lc) (.int .i64 xo) (.int .i64 xn) (.slice xA xk xc)
section
variable {B tb:Nat} {A:Option Addr} {n c:Nat} {w wr:World} {lst:List Int} {bl:List Bk} {C:Option Addr} {cp:Nat} {xs:List Value} {D0:Option Nat} {D:Option Addr} {dp bb:Nat} {bk:Bk} {Aw:Option Addr} {kw cw:Nat} {lo ln:Int} {lA:Option Addr} {lk lc:Nat} {xo xn:Int} {xA:Option Addr} {xk xc:Nat} {W:World}
theorem FM.start{y:World}(h:FI B tb A n c w lst bl C cp xs D dp wr)(htb:tb<w.heap.size)(htp:TapeOK y B tb A n c)(ho:Only tb wr y)(hz:Bz y (fun q=>wr.heap.size<q) bk Aw kw (.int .i64 lo) (.int .i64 ln) (.slice lA lk lc) (.int .i64 xo) (.int .i64 xn) (.slice xA xk xc)):
 FM B tb A n c w wr lst bl C cp xs (Value.slice D lst.length dp).ownBlock D dp y.heap.size bk Aw kw cw lo ln lA lk lc xo xn xA xk xc (y.alloc (.cells #[.int .i64 bk.kind,.int .i64 bk.label,.bool bk.skip,.slice Aw kw cw,.int .i64 lo,.int .i64 ln,.slice lA lk lc,.int .i64 xo,.int .i64 xn,.slice xA xk xc,.int .i64 bk.n] 54)):=by
 have hb:Below y.heap.size y (y.alloc (.cells #[.int .i64 bk.kind,.int .i64 bk.label,.bool bk.skip,.slice Aw kw cw,.int .i64 lo,.int .i64 ln,.slice lA lk lc,.int .i64 xo,.int .i64 xn,.slice xA xk xc,.int .i64 bk.n] 54)):=(Below.refl _ _).alloc (Nat.le_refl _) _;have hws:=h.only.size;have hys:=ho.size;have hD:∀q,(Value.slice D lst.length dp).ownBlock=some q→w.heap.size≤q∧q<wr.heap.size:=fun q hq=>own_blk h.wt hq;have kk:∀q,q<wr.heap.size→w.heap.size≤q→(y.alloc (.cells #[.int .i64 bk.kind,.int .i64 bk.label,.bool bk.skip,.slice Aw kw cw,.int .i64 lo,.int .i64 ln,.slice lA lk lc,.int .i64 xo,.int .i64 xn,.slice xA xk xc,.int .i64 bk.n] 54)).heap[q]? =wr.heap[q]? :=fun q h1 h2=>(hb.block q (by omega)).trans (ho.2.2.2.2 q h1 (by omega));exact⟨htp.below hb,(h.only.trans ho).trans (Only.of_below hb),h.bk,hws,hys,fun q h1 h2 _=>kk q h1 h2,.inl rfl,fun e=>by have:=hD _ e;omega,owns_keep h.wt fun q hq hv=>kk q hq (hD q hv).1,heap_alloc_new _ _,hz.keep hb.size (fun q hq hi=>⟨by omega,by omega,fun e=>by have:=hD q e.symm;omega⟩) fun q hq _=>hb.block q hq⟩
theorem FM.call{w1:World}(h:FM B tb A n c w wr lst bl C cp xs D0 D dp bb bk Aw kw cw lo ln lA lk lc xo xn xA xk xc W)(htb:tb<w.heap.size)(ho:Only tb W w1)(htp:TapeOK w1 B tb A n c):FM B tb A n c w wr lst bl C cp xs D0 D dp bb bk Aw kw cw lo ln lA lk lc xo xn xA xk xc w1:=by
 have hwl:=h.wle;have hhs:=h.hs;have hbl:=hlS h.blk;have kk:∀q,q<W.heap.size→w.heap.size≤q→w1.heap[q]? =W.heap[q]? :=fun q h1 h2=>ho.2.2.2.2 q h1 (by omega);exact⟨htp,h.only.trans ho,h.bk0,h.wle,h.hs,fun q h1 h2 h3=>(kk q (by omega) h2).trans (h.kb q h1 h2 h3),h.d,h.dbb,owns_keep h.wt fun q hq hv=>kk q hq (own_blk h.wt hv).1,(kk _ hbl (by omega)).trans h.blk,h.bz.keep ho.size (fun _ _ h=>h) fun q hq hi=>kk q hq (by omega)⟩
theorem FM.put{bk':Bk}{Aw':Option Addr}{kw' cw':Nat}{lo' ln':Int}{lA':Option Addr}{lk' lc':Nat}{xo' xn':Int}{xA':Option Addr}{xk' xc':Nat}(h:FM B tb A n c w wr lst bl C cp xs D0 D dp bb bk Aw kw cw lo ln lA lk lc xo xn xA xk xc W)(htb:tb<w.heap.size)(l:List (Nat×Value))
 (hz:Bz W (fun q=>wr.heap.size≤q∧q≠bb∧some q≠(Value.slice D lst.length dp).ownBlock) bk' Aw' kw' (.int .i64 lo') (.int .i64 ln') (.slice lA' lk' lc') (.int .i64 xo') (.int .i64 xn') (.slice xA' xk' xc')) (e:setA #[.int .i64 bk.kind,.int .i64 bk.label,.bool bk.skip,.slice Aw kw cw,.int .i64 lo,.int .i64 ln,.slice lA lk lc,.int .i64 xo,.int .i64 xn,.slice xA xk xc,.int .i64 bk.n] l= #[.int .i64 bk'.kind,.int .i64 bk'.label,.bool bk'.skip,.slice Aw' kw' cw',.int .i64 lo',.int .i64 ln',.slice lA' lk' lc',.int .i64 xo',.int .i64 xn',.slice xA' xk' xc',.int .i64 bk'.n]):
 FM B tb A n c w wr lst bl C cp xs D0 D dp bb bk' Aw' kw' cw' lo' ln' lA' lk' lc' xo' xn' xA' xk' xc' (setQ W bb l):=by
 have hwl:=h.wle;have hhs:=h.hs;have hbl:=hlS h.blk;have hk:∀q,q≠bb→(setQ W bb l).heap[q]? =W.heap[q]? :=fun q hq=>setQ_heap _ q hq _ _;have hsz:=setQ_size bb l W;refine⟨h.tp.keep (hk _ (by omega)),setQ_only (by omega) _ _ h.only,h.bk0,h.wle,h.hs,fun q h1 h2 h3=>(hk q (by omega)).trans (h.kb q h1 h2 h3),h.d,h.dbb,owns_keep h.wt fun q hq hv=>hk q (fun e=>h.dbb (by rw[←e];exact hv)),?_,hz.keep (Nat.le_of_eq hsz.symm) (fun _ _ h=>h) fun q hq hi=>hk q hi.2.1⟩;rw[←e];exact setQ_blk _ _ _ h.blk
theorem FM.push{W3 w1:World}{x:Int}{g cap:Nat}(h:FM B tb A n c w wr lst bl C cp xs D0 D dp bb bk Aw kw cw lo ln lA lk lc xo xn xA xk xc W)(htb:tb<w.heap.size)(hb:Below W.heap.size W W3)(ho:w1.ownsRow w.heap.size 3 1 (.slice (some ⟨g,0,none⟩) (lst.length+1) cap) (lst.length+1) (ints lst++[.int .i64 x]))(hg:W3.grownBy w1 (Value.slice D lst.length dp).ownBlock)(hl:(Value.slice D lst.length dp).ownBlock=some g∨g=W3.heap.size):
 FM B tb A n c w wr (lst++[x]) bl C cp xs D0 (some ⟨g,0,none⟩) cap bb bk Aw kw cw lo ln lA lk lc xo xn xA xk xc w1:=by
 have k:=grown_keep hb hg;have hbs:=hb.size;have hgs:=hg.size;have hwl:=h.wle;have hhs:=h.hs;have hbl:=hlS h.blk;have hge:∀q,(Value.slice D lst.length dp).ownBlock=some q→w.heap.size≤q:=fun q hq=>(own_blk h.wt hq).1;have hd:∀q,q<wr.heap.size→some q≠D0→(Value.slice D lst.length dp).ownBlock≠some q:=fun q hq hn e=>by
  rcases h.d with e2|⟨g,e2,e3⟩
  ·exact hn (by rw[←e2,e])
  ·rw[e2]at e;cases e;omega
 refine⟨h.tp.keep (k _ (by have:=h.only.size;omega) fun e=>by have:=hge _ e;omega),?_,h.bk0,hwl,hhs,fun q h1 h2 h3=>(k q (by omega) (hd q h1 h3)).trans (h.kb q h1 h2 h3),?_,?_,?_,(k _ hbl h.dbb).trans h.blk,?_⟩
 ·exact⟨hg.os.trans (hb.os.trans h.only.1),hg.tape.trans (hb.tape.trans h.only.2.1),hg.output.trans (hb.output.trans h.only.2.2.1),by have:=h.only.size;omega,fun q hq h2=>(k q (by have:=h.only.size;omega) (fun e=>by have:=hge _ e;omega)).trans (h.only.2.2.2.2 q hq h2)⟩
 ·rcases hl with e|e
  ·rcases h.d with e2|⟨g',e2,e3⟩
   ·left;rw[←e2,e];rfl
   ·right;rw[e2]at e;cases e;exact⟨g,rfl,e3⟩
  ·right;exact⟨g,rfl,by omega⟩
 ·intro e;simp only[Value.ownBlock,Option.some.injEq]at e;rcases hl with e2|e2
  ·exact h.dbb (by rw[e2,e])
  ·omega
 ·have e:ints (lst++[x])=ints lst++[.int .i64 x]:=by simp[ints]
  rw[e];simpa using ho
 ·refine h.bz.keep (by omega) (fun q hq hi=>⟨hi.1,hi.2.1,fun e=> ?_⟩) fun q hq hi=>k q hq fun e=>hi.2.2 e.symm;simp only[Value.ownBlock,Option.some.injEq]at e;subst e;rcases hl with e|e
  ·exact hi.2.2 e.symm
  ·omega
theorem FM.pop{x:Int}(h:FM B tb A n c w wr (lst++[x]) bl C cp xs D0 D dp bb bk Aw kw cw lo ln lA lk lc xo xn xA xk xc W):FM B tb A n c w wr lst bl C cp xs D0 D dp bb bk Aw kw cw lo ln lA lk lc xo xn xA xk xc W:=by
 have e:∀m:Nat,(Value.slice D m dp).ownBlock=D.map (·.block):=fun m=>own_mapblk;have hw:=h.wt;have hl:(lst++[x]).length=lst.length+1:=by simp
 rw[hl]at hw;have q:=own_pop hw;have e2:(ints (lst++[x])).take (lst.length*1)=ints lst:=by unfold ints;simp
 rw[e2]at q;exact⟨h.tp,h.only,h.bk0,h.wle,h.hs,h.kb,by have:=h.d;rw[e]at this⊢;exact this,by have:=h.dbb;rw[e]at this⊢;exact this,q,h.blk,by have:=h.bz;rw[e]at this⊢;exact this⟩
theorem FM.fin{W3 w1:World}{g cap:Nat}(h:FM B tb A n c w wr lst bl C cp xs D0 D dp bb bk Aw kw cw lo ln lA lk lc xo xn xA xk xc W)(htb:tb<w.heap.size)(hb:Below W.heap.size W W3)(ho:w1.ownsRow w.heap.size 54 11 (.slice (some ⟨g,0,none⟩) (bl.length+1) cap) (bl.length+1) (xs++cellsB bk Aw kw cw (.int .i64 lo) (.int .i64 ln) (.slice lA lk lc) (.int .i64 xo) (.int .i64 xn) (.slice xA xk xc)))(hg:W3.grownBy w1 (Value.slice C bl.length cp).ownBlock)(hl:(Value.slice C bl.length cp).ownBlock=some g∨g=W3.heap.size):
 FI B tb A n c w lst (bl++[bk]) (some ⟨g,0,none⟩) cap (xs++cellsB bk Aw kw cw (.int .i64 lo) (.int .i64 ln) (.slice lA lk lc) (.int .i64 xo) (.int .i64 xn) (.slice xA xk xc)) D dp w1:=by
 have k:=grown_keep hb hg;have hbs:=hb.size;have hgs:=hg.size;have hwl:=h.wle;have hhs:=h.hs;have hbl:=hlS h.blk;have hge:∀q,(Value.slice C bl.length cp).ownBlock=some q→w.heap.size≤q∧q<wr.heap.size:=fun q hq=>own_blk h.bk0.own hq;have hCI:∀q,(Value.slice C bl.length cp).ownBlock=some q→some q≠D0:=fun q hq=>(h.bk0.ownI q hq).2;have hne:∀q,(Value.slice D lst.length dp).ownBlock=some q→(Value.slice C bl.length cp).ownBlock≠some q:=fun q hq e=>by
  rcases h.d with e2|⟨g,e2,e3⟩
  ·exact hCI q e (by rw[←e2,hq])
  ·rw[e2]at hq;cases hq;have:=hge _ e;omega
 have hb1:BkS W w.heap.size (fun g=>w.heap.size≤g∧some g≠(Value.slice D lst.length dp).ownBlock) C cp bl xs:=by
  have q1:=h.bk0.mono (I':=fun g=>w.heap.size≤g∧g<wr.heap.size∧some g≠D0) fun g hg hi=>⟨hi.1,hg,hi.2⟩;have q2:=q1.keep (by omega) fun g hg hi=>h.kb g hg hi.1 hi.2.2;refine q2.mono fun g hg hi=>⟨hi.1,fun e=> ?_⟩;rcases h.d with e2|⟨g',e2,e3⟩
  ·exact hi.2.2 (by rw[e,e2])
  ·rw[e2]at e;cases e;have:=hi.2.1;omega
 refine⟨h.tp.keep (k _ (by have:=h.only.size;omega) fun e=>by have:=hge _ e;omega),?_,?_,owns_keep h.wt fun q hq hv=>k q hq (hne q hv)⟩
 ·exact⟨hg.os.trans (hb.os.trans h.only.1),hg.tape.trans (hb.tape.trans h.only.2.1),hg.output.trans (hb.output.trans h.only.2.2.1),by have:=h.only.size;omega,fun q hq h2=>(k q (by have:=h.only.size;omega) (fun e=>by have:=hge _ e;omega)).trans (h.only.2.2.2.2 q hq h2)⟩
 ·refine hb1.pushJ h.bz (fun q hq hi=>⟨⟨by have:=hi.1;omega,hi.2.2⟩,fun e=>by have:=hge q e.symm;have:=hi.1;omega⟩) ⟨by have:=h.only.size;omega,fun e=> ?_⟩ hbs (fun q hq=>hb.block q hq) ho hg hl;have:=(own_blk h.wt e.symm).2;omega
end
end Go.Proofs.YtdcjbhdfphcefaaGreatDoor
namespace Go.Proofs.YtdcjbhdfphcefaaGreatDoor
open Go.RowKit
section
variable {B tb:Nat} {A:Option Addr} {n c:Nat} {w:World} {lst:List Int} {bl:List Bk} {C:Option Addr} {cp:Nat} {xs:List Value} {D:Option Addr} {dp:Nat} {W:World}
theorem FI.call{w1:World}(h:FI B tb A n c w lst bl C cp xs D dp W)(htb:tb<w.heap.size)(ho:Only tb W w1)(htp:TapeOK w1 B tb A n c):FI B tb A n c w lst bl C cp xs D dp w1:=
 ⟨htp,h.only.trans ho,h.bk.keep ho.size fun q hq hi=>ho.2.2.2.2 q hq (by have:=hi.1;omega),owns_keep h.wt fun q hq hv=>ho.2.2.2.2 q hq (by have:=(own_blk h.wt hv).1;omega)⟩
theorem FI.add{W3 w1:World}{g cap:Nat}{f:Fb}(h:FI B tb A n c w lst bl C cp xs D dp W)(htb:tb<w.heap.size)(hf:fok f)(hb:Below W.heap.size W W3)(ho:w1.ownsRow w.heap.size 54 11 (.slice (some ⟨g,0,none⟩) (bl.length+1) cap) (bl.length+1) (xs++fc f))(hg:W3.grownBy w1 (Value.slice C bl.length cp).ownBlock)(hl:(Value.slice C bl.length cp).ownBlock=some g∨g=W3.heap.size):
 FI B tb A n c w lst (bl++[fb f]) (some ⟨g,0,none⟩) cap (xs++fc f) D dp w1:=by
 have k:=grown_keep hb hg;have hbs:=hb.size;have hgs:=hg.size;have hws:=h.only.size;have hge:∀q,(Value.slice C bl.length cp).ownBlock=some q→w.heap.size≤q:=fun q hq=>(own_blk h.bk.own hq).1;have hne:∀q,(Value.slice D lst.length dp).ownBlock=some q→(Value.slice C bl.length cp).ownBlock≠some q:=fun q hq e=>(h.bk.ownI q e).2 hq.symm;refine⟨h.tp.keep (k _ (by omega) fun e=>by have:=hge _ e;omega),?_,?_,owns_keep h.wt fun q hq hv=>k q hq (hne q hv)⟩
 ·exact⟨hg.os.trans (hb.os.trans h.only.1),hg.tape.trans (hb.tape.trans h.only.2.1),hg.output.trans (hb.output.trans h.only.2.2.1),by omega,fun q hq h2=>(k q (by omega) (fun e=>by have:=hge _ e;omega)).trans (h.only.2.2.2.2 q hq h2)⟩
 ·exact h.bk.pushJ (J:=fun _=>False) (c:=0) (fc_bz W _ f hf) (fun q _ hi=>hi.elim) ⟨by omega,fun e=>by have:=(own_blk h.wt e.symm).2;omega⟩ hbs (fun q hq=>hb.block q hq) ho hg hl
theorem FI.pop{x:Int}(h:FI B tb A n c w (lst++[x]) bl C cp xs D dp W):FI B tb A n c w lst bl C cp xs D dp W:=by
 have e:∀m:Nat,(Value.slice D m dp).ownBlock=D.map (·.block):=fun m=>own_mapblk;have hw:=h.wt;have hl:(lst++[x]).length=lst.length+1:=by simp
 rw[hl]at hw;have q:=own_pop hw;have e2:(ints (lst++[x])).take (lst.length*1)=ints lst:=by unfold ints;simp
 rw[e2]at q;exact⟨h.tp,h.only,by have:=h.bk;rw[e]at this⊢;exact this,q⟩
theorem FI.start0{bk:Bk}{Aw:Option Addr}{kw cw:Nat}{lo ln:Int}{lA:Option Addr}{lk lc:Nat}{xo xn:Int}{xA:Option Addr}{xk xc:Nat}{y:World}(h:FI B tb A n c w lst bl C cp xs D dp W)(htb:tb<w.heap.size)(htp:TapeOK y B tb A n c)(ho:Only tb W y)(hz:Bz y (fun q=>W.heap.size<q) bk Aw kw (.int .i64 lo) (.int .i64 ln) (.slice lA lk lc) (.int .i64 xo) (.int .i64 xn) (.slice xA xk xc)):
 FM B tb A n c w W lst bl C cp xs (Value.slice D lst.length dp).ownBlock D dp y.heap.size bk Aw kw cw lo ln lA lk lc xo xn xA xk xc (y.alloc (.cells #[.int .i64 bk.kind,.int .i64 bk.label,.bool bk.skip,.slice Aw kw cw,.int .i64 lo,.int .i64 ln,.slice lA lk lc,.int .i64 xo,.int .i64 xn,.slice xA xk xc,.int .i64 bk.n] 54)):=FM.start h htb htp ho hz
theorem setA11(u0 u1 u2 u3 u4 u5 u6 u7 u8 u9 u10 v0 v1 v2 v3 v4 v5 v6 v7 v8 v9 v10:Value):setA #[u0,u1,u2,u3,u4,u5,u6,u7,u8,u9,u10] [(0,v0),(1,v1),(2,v2),(3,v3),(4,v4),(5,v5),(6,v6),(7,v7),(8,v8),(9,v9),(10,v10)]= #[v0,v1,v2,v3,v4,v5,v6,v7,v8,v9,v10]:=by simp[setA]
theorem FM.drop{wr:World}{D0:Option Nat}{bb:Nat}{bk:Bk}{Aw:Option Addr}{kw cw:Nat}{lo ln:Int}{lA:Option Addr}{lk lc:Nat}{xo xn:Int}{xA:Option Addr}{xk xc:Nat}(h:FM B tb A n c w wr lst bl C cp xs D0 D dp bb bk Aw kw cw lo ln lA lk lc xo xn xA xk xc W)(htb:tb<w.heap.size):FI B tb A n c w lst bl C cp xs D dp W:=by
 have hbl:=hlS h.blk;have hhs:=h.hs;refine⟨h.tp,h.only,?_,h.wt⟩;have q1:=h.bk0.mono (I':=fun g=>w.heap.size≤g∧g<wr.heap.size∧some g≠D0) fun g hg hi=>⟨hi.1,hg,hi.2⟩;have q2:=q1.keep (by omega) fun g hg hi=>h.kb g hg hi.1 hi.2.2;refine q2.mono fun g hg hi=>⟨hi.1,fun e=> ?_⟩;rcases h.d with e2|⟨g',e2,e3⟩
 ·exact hi.2.2 (by rw[e,e2])
 ·rw[e2]at e;cases e;have:=hi.2.1;omega
theorem FM.ownC{wr:World}{D0:Option Nat}{bb:Nat}{bk:Bk}{Aw:Option Addr}{kw cw:Nat}{lo ln:Int}{lA:Option Addr}{lk lc:Nat}{xo xn:Int}{xA:Option Addr}{xk xc:Nat}(h:FM B tb A n c w wr lst bl C cp xs D0 D dp bb bk Aw kw cw lo ln lA lk lc xo xn xA xk xc W):W.ownsRow w.heap.size 54 11 (.slice C bl.length cp) bl.length xs:=
 owns_keep h.bk0.own fun q hq hv=>h.kb q hq (own_blk h.bk0.own hv).1 (h.bk0.ownI q hv).2
theorem rz_n{w:World}{I:Nat→Prop}{t:Tr}{o n n':Int}{A:Option Addr}{k c:Nat}(h:Rz w I t (.agg #[.int .i64 o,.int .i64 n,.slice A k c]))(hn:I64 n'):∃t',Rz w I t' (.agg #[.int .i64 o,.int .i64 n',.slice A k c]):=by
 cases t with
 |none_=>exact h.elim
 |mk op m k' kid=>
  obtain⟨A',c',e,h1,_,h3,h4⟩:=h;simp only[Value.agg.injEq,Array.mk.injEq,List.cons.injEq,and_true,Value.int.injEq,Value.slice.injEq,true_and]at e;obtain⟨rfl,rfl,rfl,rfl,rfl⟩:=e;exact⟨.mk o n' k kid,A,c,rfl,h1,hn,h3,h4⟩
theorem FI.fresh(h:FI B tb A n c w lst bl C cp xs D dp W):FI B tb A n c w [] bl C cp xs none 0 W:=
 ⟨h.tp,h.only,h.bk.mono fun g _ hi=>⟨hi.1,by simp[Value.ownBlock]⟩,World.ownsRow_nil _ _ _ _⟩
end
theorem snoc_or(l:List Int):l=[]∨∃(m:List Int) (x:Int),l=m++[x]:=by
 rcases l.eq_nil_or_concat with h|⟨m,x,h⟩
 ·exact .inl h
 ·exact .inr ⟨m,x,by simpa using h⟩
def lenOf(v:Value):Nat:=match v with
 | .slice _ n _=>n
 |_=>0
def FlRel1(B tb:Nat)(A:Option Addr)(n c:Nat)(w:World)(o lb p:Value)(W:World):Prop:=
 ∃(k:Nat) (lab:Int) (bl:List Bk) (C:Option Addr) (cp:Nat) (xs:List Value),k≤3∧0≤lab∧lab≤7*k∧bl.length≤11*k∧o=.slice C bl.length cp∧lb=.int .i64 lab∧p=.int .i64 (k:Int)∧FI B tb A n c w [] bl C cp xs none 0 W
def FlRel2(B tb:Nat)(A:Option Addr)(n c:Nat)(w:World)(k:Nat)(o lb op nn:Value)(W:World):Prop:=
 ∃(j lab:Int) (lst:List Int) (bl:List Bk) (C:Option Addr) (cp:Nat) (xs:List Value) (D:Option Addr) (dp:Nat),0≤j∧j≤7∧0≤lab∧lab+j≤7*k+7∧bl.length+j≤11*k+8∧lst.length≤3∧(∀x∈lst,1≤x∧x≤3)∧o=.slice C bl.length cp∧lb=.int .i64 lab∧op=.slice D lst.length dp∧nn=.int .i64 j∧FI B tb A n c w lst bl C cp xs D dp W
def FlRel3(B tb:Nat)(A:Option Addr)(n c:Nat)(w:World)(k:Nat)(o op:Value)(W:World):Prop:=
 ∃(lst:List Int) (bl:List Bk) (C:Option Addr) (cp:Nat) (xs:List Value) (D:Option Addr) (dp:Nat),bl.length+lst.length≤11*k+11∧lst.length≤3∧(∀x∈lst,1≤x∧x≤3)∧o=.slice C bl.length cp∧op=.slice D lst.length dp∧FI B tb A n c w lst bl C cp xs D dp W
def FlPost(B tb:Nat)(A:Option Addr)(n c:Nat)(w:World)(e:Ending)(w':World):Prop:=
 ∃(bl:List Bk) (C:Option Addr) (cp:Nat) (xs:List Value),e=.returned (.slice C bl.length cp)∧bl.length≤33∧BkS w' w.heap.size (fun g=>w.heap.size≤g) C cp bl xs∧TapeOK w' B tb A n c∧Only tb w w'
set_option maxRecDepth 100000 in
set_option maxHeartbeats 16000000 in
theorem flowing_any(B tb:Nat)(A:Option Addr)(n c:Nat)(w:World)(hl:LOK w B A n)(ht:TapeOK w B tb A n c)(hw:B≤w.heap.size):Calls Tryz.prog 16 #[.pointer (some ⟨tb,0,none⟩)] w (FlPost B tb A n c w):=by
 have HL:=Lib.hid hl;have htb:=ht.lt;have hBt:=ht.1;obtain⟨iB,zB,hiB,hB0,hB1,hB2,hBs⟩:=infoBl_parts;have HIB:=Lib.hid hiB;have HZB:=Lib.hid hB0;have HR0:Hid (FlRel1 B tb A n c w (.slice none 0 0) (.int .i64 0) (.int .i64 0) w):=⟨0,0,[],none,0,[],by omega,by omega,by omega,by simp,rfl,rfl,rfl,ht,Only.refl _ _,BkS.nil _ _ _,World.ownsRow_nil _ _ _ _⟩;clear hl ht hiB hB0;go_enter Tryz.func16,Tryz.ntmps16;go_wp2_with fail;go_loopw[3,4,5] (FlRel1 B tb A n c w) (fun _ _ p _=>3-(intOf p).toNat)
 case atStart=>exact HR0.out
 case round=>
  obtain⟨k,lab,bl,C,cp,xs,hk,hlab0,hlab1,hbl,rfl,rfl,rfl,hF⟩:=hrel;have HF:=Lib.hid hF;clear hF HR0;by_cases hlt:k<3
  ·have g0:decide ((k:Int)<3)=true:=decide_eq_true (by omega);go_upto_if 14 with(fail)
   go_cut[3] (fun s3 W=>∃(bl:List Bk) (C:Option Addr) (cp:Nat) (xs:List Value),s3=.slice C bl.length cp∧bl.length≤11*k+1∧FI B tb A n c w [] bl C cp xs none 0 W)
   case first=>
    by_cases hp:k=0
    ·have g1:decide ((k:Int)>0)=false:=decide_eq_false (by omega);have g2:decide (0<k)=false:=decide_eq_false (by omega);have g3:¬0<k:=by omega
     clear hp;go_wp2_with fail;go_meet;exact⟨bl,C,cp,xs,rfl,by omega,HF.out⟩
    ·have g1:decide ((k:Int)>0)=true:=decide_eq_true (by omega);have g2:decide (0<k)=true:=decide_eq_true (by omega);have g3:0<k:=by omega
     clear hp;have HOC:=Lib.hid HF.out.bk.own;go_wp2_with(at_builtin;refine wpList_append_lies _ rfl (.tmp 15) (.tmp 18) 29 rfl w.heap.size 54 iB zB 11 136 Tryz.underlying29 HIB.out HZB.out hB1 hB2 hBs (by omega) (.slice C bl.length cp) bl.length xs rfl (HOC.out.alloc _) ⟨wr.heap.size,0,none⟩ 1 1 [.int .i64 6,.int .i64 0,.bool false,.slice none 0 0,.int .i64 0,.int .i64 0,.slice none 0 0,.int .i64 0,.int .i64 0,.slice none 0 0,.int .i64 (k:Int)] rfl rfl (World.news_of_block (heap_alloc_new wr _)) (by intro u hu;simp only[List.mem_cons,List.not_mem_nil,or_false]at hu;rcases hu with rfl|rfl|rfl|rfl|rfl|rfl|rfl|rfl|rfl|rfl|rfl<;>rfl) (by omega) (by unfold maxLen;omega) (by omega) (by have:=HF.out.only.size;simp;omega) _ rfl ?_;intro g9 c9 w9 ho9 hg9 hl9 hlt9;have HF9:=Lib.hid (HF.out.add (f:=⟨6,0,0,0,(k:Int)⟩) htb (by unfold fok I64;dsimp only;omega) ((Below.refl _ _).alloc (Nat.le_refl _) _) ho9 hg9 hl9);clear ho9 hg9 hl9 hlt9);go_meet;exact⟨_,_,_,_,by simp,by simp;omega,HF9.out⟩
   case rest=>
   obtain⟨bl1,C1,cp1,xs1,rfl,hbl1,hF⟩:=hcut;have HF:=Lib.hid hF;clear hF;have HRG:=Lib.hid (range_any B tb A n c 1 7 wc (HL.out.only HF.out.only hBt hw) HF.out.tp (by omega) (by omega) (by omega));go_wp2_with(go_at_call 28;refine HRG.out.mono ?_;rintro e y1 ⟨m,rfl,m0,m1,htp,ho⟩;have HFN:=Lib.hid (HF.out.call htb ho htp);clear htp ho HF;have HF:=Lib.hid HFN.out;clear HFN);have HR2:Hid (FlRel2 B tb A n c w k (.slice C1 bl1.length cp1) (.int .i64 lab) (.slice none 0 0) (.int .i64 m) y1):=⟨m,lab,[],bl1,C1,cp1,xs1,none,0,by omega,by omega,by omega,by omega,by omega,by simp,fun x hx=>by simp at hx,rfl,rfl,rfl,rfl,HF.out⟩;clear HRG HF m0 m1;go_loopw[3,4,6,7] (FlRel2 B tb A n c w k) (fun _ _ _ nn _=>(intOf nn).toNat)
   case atStart=>exact HR2.out
   case round=>
    obtain⟨j,lab2,lst,bl2,C2,cp2,xs2,D,dp,hj0,hj7,hl0,hl7,hb7,hls,hlx,rfl,rfl,rfl,rfl,hF⟩:=hrel;have HF:=Lib.hid hF;clear hF HR2;by_cases hj:j>0
    ·have gj:decide (j>0)=true:=decide_eq_true hj;have gj2:decide (0<j)=true:=decide_eq_true hj;have wj:IntKind.i64.wrap (j-1)=j-1:=IntWalk.i64_in _ (by omega);have wl:IntKind.i64.wrap (lab2+1)=lab2+1:=IntWalk.i64_in _ (by omega);have hwr:=HF.out.only.size;have HBC:=Lib.hid (block_any B tb A n c wr (HL.out.only HF.out.only hBt hw) HF.out.tp (Nat.le_trans hw hwr));go_upto_region 13 with(go_at_call 36;refine HBC.out.mono ?_;rintro e y ⟨bk,Aw,kw,cw,lo,ln,lA,lk,lc,xo,xn,xA,xk,xc,rfl,hz,htp,ho⟩;have HZ:=Lib.hid hz;have HT:=Lib.hid htp;have HO:=Lib.hid ho;clear hz htp ho)
     refine wp_at fun X1 hX1=> ?_;obtain⟨bb,hbb⟩:∃bb,bb=y.heap.size:=⟨_,rfl⟩;have HM:Hid (FM B tb A n c w wr lst bl2 C2 cp2 xs2 (Value.slice D lst.length dp).ownBlock D dp bb bk Aw kw cw lo ln lA lk lc xo xn xA xk xc X1):=by unfold Hid;rw[hX1,hbb];exact HF.out.start0 htb HT.out HO.out HZ.out
     have HFF:=Lib.hid HF.out;rw[←hbb];clear hX1 hbb HZ HT HO HBC HF;have d1:X1.cell? ⟨bb,1,none⟩=some (.int .i64 bk.label):=cell_of_row X1 _ 1 _ _ _ HM.out.blk;have df:∀i,X1.frozen? ⟨bb,i,none⟩=false:=fun i=>by simp[World.frozen?,HM.out.blk]
     go_upto_region 14 with(fail)
     refine wp_at fun X2 hX2=> ?_;have HM2:Hid (FM B tb A n c w wr lst bl2 C2 cp2 xs2 (Value.slice D lst.length dp).ownBlock D dp bb {bk with label:=0} Aw kw cw lo ln lA lk lc xo xn xA xk xc X2):=by
      have hz:=HM.out.bz;unfold Hid;rw[hX2];exact HM.out.put htb [(1,.int .i64 0)] (bk':={bk with label:=0}) ⟨hz.kind,by show I64 0;unfold I64;omega,hz.n,hz.words,hz.left,hz.x⟩ rfl
     clear hX2 d1 df HM;have HNX:=Lib.hid (nexto_any B tb A n c 2 X2 (HL.out.only HM2.out.only hBt hw) HM2.out.tp (by omega) (by omega));go_upto_if 33 with(go_at_call 25;refine HNX.out.mono ?_;rintro e y2 ⟨r33,rfl,r330,r331,htp,ho⟩;have HM:=Lib.hid (HM2.out.call htb ho htp);clear htp ho)
     clear HM2 HNX r330 r331;go_cut[] (fun W=>∃(bk:Bk) (Aw:Option Addr) (kw cw:Nat) (lo ln:Int) (lA:Option Addr) (lk lc:Nat) (xo xn:Int) (xA:Option Addr) (xk xc:Nat),FM B tb A n c w wr lst bl2 C2 cp2 xs2 (Value.slice D lst.length dp).ownBlock D dp bb bk Aw kw cw lo ln lA lk lc xo xn xA xk xc W)
     case first=>
      by_cases h33:r33=0
      ·have g33:(r33==0)=true:=by simp[h33]
       have e1:y2.cell? ⟨bb,1,none⟩=some (.int .i64 0):=cell_of_row y2 _ 1 _ _ _ HM.out.blk;have df:∀i,y2.frozen? ⟨bb,i,none⟩=false:=fun i=>by simp[World.frozen?,HM.out.blk]
       clear h33;go_wp2_with fail;go_meet;have hz:=HM.out.bz;exact⟨_,_,_,_,_,_,_,_,_,_,_,_,_,_,HM.out.put htb [(1,.int .i64 (lab2+1))] (bk':={bk with label:=lab2+1}) ⟨hz.kind,by show I64 (lab2+1);unfold I64;omega,hz.n,hz.words,hz.left,hz.x⟩ rfl⟩
      ·have g33:(r33==0)=false:=by simp[h33]
       go_wp2_with fail;go_meet;exact⟨_,_,_,_,_,_,_,_,_,_,_,_,_,_,HM.out⟩
     case rest=>
     obtain⟨bk,Aw,kw,cw,lo,ln,lA,lk,lc,xo,xn,xA,xk,xc,hM⟩:=hcut;have HM:=Lib.hid hM;clear hM;have d0:wc.cell? ⟨bb,0,none⟩=some (.int .i64 bk.kind):=cell_of_row wc _ 0 _ _ _ HM.out.blk;have df:∀i,wc.frozen? ⟨bb,i,none⟩=false:=fun i=>by simp[World.frozen?,HM.out.blk]
     go_upto_block 4 with(fail)
     clear d0 df;go_cut[6] (fun s6 W=>∃(lst':List Int) (D':Option Addr) (dp':Nat),s6=.slice D' lst'.length dp'∧lst'.length≤3∧(∀x∈lst',1≤x∧x≤3)∧∃(bk:Bk) (Aw:Option Addr) (kw cw:Nat) (lo ln:Int) (lA:Option Addr) (lk lc:Nat) (xo xn:Int) (xA:Option Addr) (xk xc:Nat),FM B tb A n c w wr lst' bl2 C2 cp2 xs2 (Value.slice D lst.length dp).ownBlock D' dp' bb bk Aw kw cw lo ln lA lk lc xo xn xA xk xc W)
     case first=>
      by_cases h6:bk.kind=6
      ·have e6:(bk.kind==6)=true:=by simpa using h6
       clear h6;have d0:wc.cell? ⟨bb,0,none⟩=some (.int .i64 bk.kind):=cell_of_row wc _ 0 _ _ _ HM.out.blk;have d1:wc.cell? ⟨bb,1,none⟩=some (.int .i64 bk.label):=cell_of_row wc _ 1 _ _ _ HM.out.blk;have d2:wc.cell? ⟨bb,2,none⟩=some (.bool bk.skip):=cell_of_row wc _ 2 _ _ _ HM.out.blk;have d3:wc.cell? ⟨bb,3,none⟩=some (.slice Aw kw cw):=cell_of_row wc _ 3 _ _ _ HM.out.blk;have d4:wc.cell? ⟨bb,4,none⟩=some (.int .i64 lo):=cell_of_row wc _ 4 _ _ _ HM.out.blk;have d5:wc.cell? ⟨bb,5,none⟩=some (.int .i64 ln):=cell_of_row wc _ 5 _ _ _ HM.out.blk;have d6:wc.cell? ⟨bb,6,none⟩=some (.slice lA lk lc):=cell_of_row wc _ 6 _ _ _ HM.out.blk;have d7:wc.cell? ⟨bb,7,none⟩=some (.int .i64 xo):=cell_of_row wc _ 7 _ _ _ HM.out.blk;have d8:wc.cell? ⟨bb,8,none⟩=some (.int .i64 xn):=cell_of_row wc _ 8 _ _ _ HM.out.blk;have d9:wc.cell? ⟨bb,9,none⟩=some (.slice xA xk xc):=cell_of_row wc _ 9 _ _ _ HM.out.blk;have d10:wc.cell? ⟨bb,10,none⟩=some (.int .i64 bk.n):=cell_of_row wc _ 10 _ _ _ HM.out.blk;have df:∀i,wc.frozen? ⟨bb,i,none⟩=false:=fun i=>by simp[World.frozen?,HM.out.blk]
       go_wp2_with fail;go_meet;exact⟨lst,D,dp,rfl,hls,hlx,_,_,_,_,_,_,_,_,_,_,_,_,_,_,HM.out.put htb [(0,.int .i64 0),(1,.int .i64 0),(2,.bool false),(3,.slice none 0 0),(4,.int .i64 0),(5,.int .i64 0),(6,.slice none 0 0),(7,.int .i64 0),(8,.int .i64 0),(9,.slice none 0 0),(10,.int .i64 0)] (bk':=⟨0,0,false,[],numT 0,numT 0,0⟩) ⟨by show I64 0;unfold I64;omega,by show I64 0;unfold I64;omega,by show I64 0;unfold I64;omega,wz_nil _ _,rz_num _ _ _ (by unfold I64;omega),rz_num _ _ _ (by unfold I64;omega)⟩ (setA11 ..)⟩
      have e6':(bk.kind==6)=false:=by simpa using h6
      clear h6;by_cases h4:bk.kind=4
      ·have e4:(bk.kind==4)=true:=by simpa using h4
       clear h4;by_cases hl3:lst.length=3
       ·have g3:((lst.length:Int)==3)=true:=by simp[hl3]
        have hl3':(lst.length:Int)=3:=by omega
        clear hl3;go_wp2_with fail;exact⟨⟨j-1,lab2+1,lst,bl2,C2,cp2,xs2,D,dp,by omega,by omega,by omega,by omega,by omega,hls,hlx,rfl,rfl,rfl,by go_num,HM.out.drop htb⟩,by simp only[intOf];omega⟩
       ·have g3:((lst.length:Int)==3)=false:=by
         have:(lst.length:Int)≠3:=by omega
         simpa using this
        have wn:IntKind.i64.wrap ((lst.length:Int)+1)=(lst.length:Int)+1:=IntWalk.i64_in _ (by omega);have d10:wc.cell? ⟨bb,10,none⟩=some (.int .i64 bk.n):=cell_of_row wc _ 10 _ _ _ HM.out.blk;have df:∀i,wc.frozen? ⟨bb,i,none⟩=false:=fun i=>by simp[World.frozen?,HM.out.blk]
        go_upto_region 23 with(fail)
        refine wp_at fun X3 hX3=> ?_;have HM3:Hid (FM B tb A n c w wr lst bl2 C2 cp2 xs2 (Value.slice D lst.length dp).ownBlock D dp bb {bk with n:=(lst.length:Int)+1} Aw kw cw lo ln lA lk lc xo xn xA xk xc X3):=by
         have hz:=HM.out.bz;unfold Hid;rw[hX3];exact HM.out.put htb [(10,.int .i64 ((lst.length:Int)+1))] (bk':={bk with n:=(lst.length:Int)+1}) ⟨hz.kind,hz.label,by show I64 ((lst.length:Int)+1);unfold I64;omega,hz.words,hz.left,hz.x⟩ rfl
        have m10:X3.cell? ⟨bb,10,none⟩=some (.int .i64 ((lst.length:Int)+1)):=cell_of_row X3 _ 10 _ _ _ HM3.out.blk;obtain⟨iI,zI,hiI,hI0,hI1,hI2,hIs⟩:=infoIn_parts;have HII:=Lib.hid hiI;have HZI:=Lib.hid hI0;have HWT:=Lib.hid HM3.out.wt;have hsx:=HM3.out.only.size;obtain⟨N,hN⟩:∃N,N=lst.length:=⟨_,rfl⟩;clear hX3 d10 df hiI hI0;go_wp2_with(at_builtin;refine wpList_append_lies _ rfl (.tmp 50) (.tmp 53) 22 rfl w.heap.size 3 iI zI 1 8 Tryz.underlying22 HII.out HZI.out hI1 hI2 hIs (by omega) (.slice D lst.length dp) lst.length (ints lst) rfl (HWT.out.alloc _) ⟨X3.heap.size,0,none⟩ 1 1 [.int .i64 ((lst.length:Int)+1)] rfl rfl (World.news_of_block (heap_alloc_new X3 _)) (by intro u hu;simp only[List.mem_singleton]at hu;rw[hu];rfl) (by omega) (by unfold maxLen;omega) (by omega) (by simp;omega) _ rfl ?_;intro g9 c9 w9 ho9 hg9 hl9 hlt9;have HM9:=Lib.hid (HM3.out.push (x:=(lst.length:Int)+1) htb ((Below.refl _ _).alloc (Nat.le_refl _) _) ho9 hg9 hl9);clear ho9 hg9 hl9 hlt9);go_meet;exact⟨lst++[(lst.length:Int)+1],some ⟨g9,0,none⟩,c9,by simp,by simp;omega,fun x hx=>by rcases List.mem_append.1 hx with h|h;exact hlx x h;(simp at h;omega),_,_,_,_,_,_,_,_,_,_,_,_,_,_,HM9.out⟩
      have e4':(bk.kind==4)=false:=by simpa using h4
      clear h4;by_cases h5:bk.kind=5
      ·have e5:(bk.kind==5)=true:=by simpa using h5
       clear h5;rcases snoc_or lst with rfl|⟨l',x,rfl⟩
       ·go_wp2_with fail;exact⟨⟨j-1,lab2+1,[],bl2,C2,cp2,xs2,D,dp,by omega,by omega,by omega,by omega,by omega,hls,hlx,rfl,rfl,rfl,by go_num,HM.out.drop htb⟩,by simp only[intOf];omega⟩
       ·have hx:=hlx x (by simp);have hlx4:∀y∈l',1≤y∧y≤3:=fun y hy=>hlx y (by simp[hy]);have hlen:(l'++[x]).length=l'.length+1:=by simp
        have hw:=HM.out.wt;obtain⟨N,hN⟩:∃N,N=l'.length:=⟨_,rfl⟩;rw[hlen,←hN]at hw;obtain⟨gD,hgD,q1,q2,q3,q4,_⟩:=own_some hw (by omega);subst hgD;have cx:wc.cell? ⟨gD,N,none⟩=some (.int .i64 x):=by
         rw[hw.cellAt N (by omega)];unfold ints;rw[List.getElem?_map,List.getElem?_append_right (by omega),show N-l'.length=0 by omega];rfl
        have hgb:gD≠bb:=fun e=>HM.out.dbb (by rw[e];rfl);rw[hlen,←hN]at hls;have HNN:=Lib.hid hN;have HX4:=Lib.hid hlx4;have n1:IntKind.i64.wrap (((N+1:Nat):Int)-1)=(N:Int):=by rw[show((N+1:Nat):Int)-1=(N:Int)by omega];exact IntWalk.i64_in _ (by omega)
        have n2:((N+1:Nat):Int)=(N:Int)+1:=by omega
        have n3:IntKind.i64.wrap ((N:Int)+1-1)=(N:Int):=by rw[show(N:Int)+1-1=(N:Int)by omega];exact IntWalk.i64_in _ (by omega)
        have n4:(0:Int)≤(N:Int):=by omega
        have n5:(N:Int)<(N:Int)+1:=by omega
        have n6:(N:Int)≤(dp:Int):=by omega
        have n7:N≤dp:=by omega
        have g1:(((N:Int)+1)==0)=false:=by
         have:(N:Int)+1≠0:=by omega
         simpa using this
        rw[hlen,←hN];have d10:wc.cell? ⟨bb,10,none⟩=some (.int .i64 bk.n):=cell_of_row wc _ 10 _ _ _ HM.out.blk;have df:∀i,wc.frozen? ⟨bb,i,none⟩=false:=fun i=>by simp[World.frozen?,HM.out.blk]
        clear hN hw hlx hlx4;have HLE:=Lib.hid hlen;clear hlen;go_wp2_with fail;go_meet;have hz:=HM.out.bz;exact⟨l',some ⟨gD,0,none⟩,dp,by rw[HNN.out],by have:=HNN.out;omega,HX4.out,_,_,_,_,_,_,_,_,_,_,_,_,_,_,(HM.out.put htb [(10,.int .i64 x)] (bk':={bk with n:=x}) ⟨hz.kind,hz.label,by show I64 x;unfold I64;omega,hz.words,hz.left,hz.x⟩ rfl).pop⟩
      have e5':(bk.kind==5)=false:=by simpa using h5
      clear h5;by_cases h2:bk.kind=2
      ·have e2:(bk.kind==2)=true:=by simpa using h2
       clear h2;have w2:IntKind.i64.wrap (lab2+1+1)=lab2+1+1:=IntWalk.i64_in _ (by omega);have HRG:=Lib.hid (range_any B tb A n c 1 (lab2+1+1) wc (HL.out.only HM.out.only hBt hw) HM.out.tp (by omega) (by omega) (by omega));go_wp2_with(go_at_call 28;refine HRG.out.mono ?_;rintro e y3 ⟨ra,rfl,ra0,ra1,htp,ho⟩;have HM3:=Lib.hid (HM.out.call htb ho htp);have wa:IntKind.i64.wrap (ra*1000000)=ra*1000000:=IntWalk.i64_in _ (by omega);have d8:y3.cell? ⟨bb,8,none⟩=some (.int .i64 xn):=cell_of_row y3 _ 8 _ _ _ HM3.out.blk;have df:∀i,y3.frozen? ⟨bb,i,none⟩=false:=(fun i=>by simp[World.frozen?,HM3.out.blk]);clear htp ho);go_meet;have hz:=HM3.out.bz;obtain⟨t',ht'⟩:=rz_n (n':=ra*1000000) hz.x (by unfold I64;omega);exact⟨lst,D,dp,rfl,hls,hlx,_,_,_,_,_,_,_,_,_,_,_,_,_,_,HM3.out.put htb [(8,.int .i64 (ra*1000000))] (bk':={bk with x:=t'}) ⟨hz.kind,hz.label,hz.n,hz.words,hz.left,ht'⟩ rfl⟩
      have e2':(bk.kind==2)=false:=by simpa using h2
      clear h2;by_cases h3:bk.kind=3
      ·have e3:(bk.kind==3)=true:=by simpa using h3
       clear h3;have w2:IntKind.i64.wrap (lab2+1+1)=lab2+1+1:=IntWalk.i64_in _ (by omega);have HRG:=Lib.hid (range_any B tb A n c 1 (lab2+1+1) wc (HL.out.only HM.out.only hBt hw) HM.out.tp (by omega) (by omega) (by omega));go_wp2_with(go_at_call 28;refine HRG.out.mono ?_;rintro e y3 ⟨ra,rfl,ra0,ra1,htp,ho⟩;have HM3:=Lib.hid (HM.out.call htb ho htp);have wa:IntKind.i64.wrap (ra*1000000)=ra*1000000:=IntWalk.i64_in _ (by omega);have d5:y3.cell? ⟨bb,5,none⟩=some (.int .i64 ln):=cell_of_row y3 _ 5 _ _ _ HM3.out.blk;have df:∀i,y3.frozen? ⟨bb,i,none⟩=false:=(fun i=>by simp[World.frozen?,HM3.out.blk]);clear htp ho);go_meet;have hz:=HM3.out.bz;obtain⟨t',ht'⟩:=rz_n (n':=ra*1000000) hz.left (by unfold I64;omega);exact⟨lst,D,dp,rfl,hls,hlx,_,_,_,_,_,_,_,_,_,_,_,_,_,_,HM3.out.put htb [(5,.int .i64 (ra*1000000))] (bk':={bk with left:=t'}) ⟨hz.kind,hz.label,hz.n,hz.words,ht',hz.x⟩ rfl⟩
      have e3':(bk.kind==3)=false:=by simpa using h3
      clear h3;by_cases h0:bk.kind=0
      ·have e0:(bk.kind==0)=true:=by simpa using h0
       clear h0;have d0:wc.cell? ⟨bb,0,none⟩=some (.int .i64 bk.kind):=cell_of_row wc _ 0 _ _ _ HM.out.blk;have d1:wc.cell? ⟨bb,1,none⟩=some (.int .i64 bk.label):=cell_of_row wc _ 1 _ _ _ HM.out.blk;have d2:wc.cell? ⟨bb,2,none⟩=some (.bool bk.skip):=cell_of_row wc _ 2 _ _ _ HM.out.blk;have d3:wc.cell? ⟨bb,3,none⟩=some (.slice Aw kw cw):=cell_of_row wc _ 3 _ _ _ HM.out.blk;have d4:wc.cell? ⟨bb,4,none⟩=some (.int .i64 lo):=cell_of_row wc _ 4 _ _ _ HM.out.blk;have d5:wc.cell? ⟨bb,5,none⟩=some (.int .i64 ln):=cell_of_row wc _ 5 _ _ _ HM.out.blk;have d6:wc.cell? ⟨bb,6,none⟩=some (.slice lA lk lc):=cell_of_row wc _ 6 _ _ _ HM.out.blk;have d7:wc.cell? ⟨bb,7,none⟩=some (.int .i64 xo):=cell_of_row wc _ 7 _ _ _ HM.out.blk;have d8:wc.cell? ⟨bb,8,none⟩=some (.int .i64 xn):=cell_of_row wc _ 8 _ _ _ HM.out.blk;have d9:wc.cell? ⟨bb,9,none⟩=some (.slice xA xk xc):=cell_of_row wc _ 9 _ _ _ HM.out.blk;have d10:wc.cell? ⟨bb,10,none⟩=some (.int .i64 bk.n):=cell_of_row wc _ 10 _ _ _ HM.out.blk;have df:∀i,wc.frozen? ⟨bb,i,none⟩=false:=fun i=>by simp[World.frozen?,HM.out.blk]
       have hbw:=hlS HM.out.blk;have hhs:=HM.out.hs;have HZC:Hid (Bz wc (fun q=>q<wc.heap.size∧wr.heap.size≤q∧q≠bb∧some q≠(Value.slice D lst.length dp).ownBlock) bk Aw kw (.int .i64 lo) (.int .i64 ln) (.slice lA lk lc) (.int .i64 xo) (.int .i64 xn) (.slice xA xk xc)):=HM.out.bz.keep (Nat.le_refl _) (fun q hq hi=>⟨hq,hi⟩) (fun _ _ _=>rfl);have HCC:=Lib.hid (called_any B tb A n c wc _ bk Aw kw cw lo ln lA lk lc xo xn xA xk xc HZC.out (fun q hi=>⟨hi.1,by have:=hi.2.1;omega⟩) (HL.out.only HM.out.only hBt hw) HM.out.tp (Nat.le_trans hw HM.out.only.size));go_wp2_with(go_at_call 37;refine HCC.out.mono ?_;rintro e y3 ⟨bk2,Aw2,kw2,cw2,lo2,ln2,lA2,lk2,lc2,xo2,xn2,xA2,xk2,xc2,rfl,hz2,htp,ho⟩;have HZ2:=Lib.hid hz2;have HM3:=Lib.hid (HM.out.call htb ho htp);have e0:y3.cell? ⟨bb,0,none⟩=some (.int .i64 bk.kind):=cell_of_row y3 _ 0 _ _ _ HM3.out.blk;have e1:y3.cell? ⟨bb,1,none⟩=some (.int .i64 bk.label):=cell_of_row y3 _ 1 _ _ _ HM3.out.blk;have e2:y3.cell? ⟨bb,2,none⟩=some (.bool bk.skip):=cell_of_row y3 _ 2 _ _ _ HM3.out.blk;have e3:y3.cell? ⟨bb,3,none⟩=some (.slice Aw kw cw):=cell_of_row y3 _ 3 _ _ _ HM3.out.blk;have e4:y3.cell? ⟨bb,4,none⟩=some (.int .i64 lo):=cell_of_row y3 _ 4 _ _ _ HM3.out.blk;have e5:y3.cell? ⟨bb,5,none⟩=some (.int .i64 ln):=cell_of_row y3 _ 5 _ _ _ HM3.out.blk;have e6:y3.cell? ⟨bb,6,none⟩=some (.slice lA lk lc):=cell_of_row y3 _ 6 _ _ _ HM3.out.blk;have e7:y3.cell? ⟨bb,7,none⟩=some (.int .i64 xo):=cell_of_row y3 _ 7 _ _ _ HM3.out.blk;have e8:y3.cell? ⟨bb,8,none⟩=some (.int .i64 xn):=cell_of_row y3 _ 8 _ _ _ HM3.out.blk;have e9:y3.cell? ⟨bb,9,none⟩=some (.slice xA xk xc):=cell_of_row y3 _ 9 _ _ _ HM3.out.blk;have e10:y3.cell? ⟨bb,10,none⟩=some (.int .i64 bk.n):=cell_of_row y3 _ 10 _ _ _ HM3.out.blk;have ef:∀i,y3.frozen? ⟨bb,i,none⟩=false:=(fun i=>by simp[World.frozen?,HM3.out.blk]);clear hz2 htp ho);go_meet;have hwD:∀q,(Value.slice D lst.length dp).ownBlock=some q→q<wc.heap.size:=fun q hq=>(own_blk HM.out.wt hq).2;have hz:=HZ2.out.keep (I':=fun q=>wr.heap.size≤q∧q≠bb∧some q≠(Value.slice D lst.length dp).ownBlock) (Nat.le_refl _) (fun q hq hi=>by
        rcases hi with hi|hi
        ·exact hi.2
        ·exact⟨by omega,by omega,fun e=>by have:=hwD q e.symm;omega⟩) (fun _ _ _=>rfl)
       exact⟨lst,D,dp,rfl,hls,hlx,_,_,_,_,_,_,_,_,_,_,_,_,_,_,HM3.out.put htb [(0,.int .i64 bk2.kind),(1,.int .i64 bk2.label),(2,.bool bk2.skip),(3,.slice Aw2 kw2 cw2),(4,.int .i64 lo2),(5,.int .i64 ln2),(6,.slice lA2 lk2 lc2),(7,.int .i64 xo2),(8,.int .i64 xn2),(9,.slice xA2 xk2 xc2),(10,.int .i64 bk2.n)] (bk':=bk2) hz (setA11 ..)⟩
      have e0':(bk.kind==0)=false:=by simpa using h0
      clear h0;go_wp2_with fail;go_meet;exact⟨lst,D,dp,rfl,hls,hlx,_,_,_,_,_,_,_,_,_,_,_,_,_,_,HM.out⟩
     case rest=>
     clear HM;obtain⟨lst',D',dp',rfl,hls',hlx',bk,Aw,kw,cw,lo,ln,lA,lk,lc,xo,xn,xA,xk,xc,hM⟩:=hcut;have HM:=Lib.hid hM;have HX':=Lib.hid hlx';have hsw:=hM.only.size;have HOC:Hid (wc.ownsRow w.heap.size 54 11 (.slice C2 bl2.length cp2) bl2.length xs2):=hM.ownC;clear hM hlx' hlx HFF;have d0:wc.cell? ⟨bb,0,none⟩=some (.int .i64 bk.kind):=cell_of_row wc _ 0 _ _ _ HM.out.blk;have d1:wc.cell? ⟨bb,1,none⟩=some (.int .i64 bk.label):=cell_of_row wc _ 1 _ _ _ HM.out.blk;have d2:wc.cell? ⟨bb,2,none⟩=some (.bool bk.skip):=cell_of_row wc _ 2 _ _ _ HM.out.blk;have d3:wc.cell? ⟨bb,3,none⟩=some (.slice Aw kw cw):=cell_of_row wc _ 3 _ _ _ HM.out.blk;have d4:wc.cell? ⟨bb,4,none⟩=some (.int .i64 lo):=cell_of_row wc _ 4 _ _ _ HM.out.blk;have d5:wc.cell? ⟨bb,5,none⟩=some (.int .i64 ln):=cell_of_row wc _ 5 _ _ _ HM.out.blk;have d6:wc.cell? ⟨bb,6,none⟩=some (.slice lA lk lc):=cell_of_row wc _ 6 _ _ _ HM.out.blk;have d7:wc.cell? ⟨bb,7,none⟩=some (.int .i64 xo):=cell_of_row wc _ 7 _ _ _ HM.out.blk;have d8:wc.cell? ⟨bb,8,none⟩=some (.int .i64 xn):=cell_of_row wc _ 8 _ _ _ HM.out.blk;have d9:wc.cell? ⟨bb,9,none⟩=some (.slice xA xk xc):=cell_of_row wc _ 9 _ _ _ HM.out.blk;have d10:wc.cell? ⟨bb,10,none⟩=some (.int .i64 bk.n):=cell_of_row wc _ 10 _ _ _ HM.out.blk;have df:∀i,wc.frozen? ⟨bb,i,none⟩=false:=fun i=>by simp[World.frozen?,HM.out.blk]
     go_wp2_with(at_builtin;refine wpList_append_lies _ rfl (.tmp 95) (.tmp 97) 29 rfl w.heap.size 54 iB zB 11 136 Tryz.underlying29 HIB.out HZB.out hB1 hB2 hBs (by omega) (.slice C2 bl2.length cp2) bl2.length xs2 rfl (HOC.out.alloc _) ⟨wc.heap.size,0,none⟩ 1 1 [.int .i64 bk.kind,.int .i64 bk.label,.bool bk.skip,.slice Aw kw cw,.int .i64 lo,.int .i64 ln,.slice lA lk lc,.int .i64 xo,.int .i64 xn,.slice xA xk xc,.int .i64 bk.n] rfl rfl (World.news_of_block (heap_alloc_new wc _)) (by intro u hu;simp only[List.mem_cons,List.not_mem_nil,or_false]at hu;rcases hu with rfl|rfl|rfl|rfl|rfl|rfl|rfl|rfl|rfl|rfl|rfl<;>rfl) (by omega) (by unfold maxLen;omega) (by omega) (by simp;omega) _ rfl ?_;intro g9 c9 w9 ho9 hg9 hl9 hlt9;have HF9:=Lib.hid (HM.out.fin htb ((Below.refl _ _).alloc (Nat.le_refl _) _) ho9 hg9 hl9);clear ho9 hg9 hl9 hlt9);exact⟨⟨j-1,lab2+1,lst',_,_,_,_,D',dp',by omega,by omega,by omega,by omega,by simp only[List.length_append,List.length_cons,List.length_nil];omega,hls',HX'.out,by simp,rfl,rfl,by go_num,HF9.out⟩,by simp only[intOf];omega⟩
    ·have gj:decide (j>0)=false:=decide_eq_false hj;have gj2:decide (0<j)=false:=decide_eq_false hj;go_wp2_with fail;have HR3:Hid (FlRel3 B tb A n c w k (.slice C2 bl2.length cp2) (.slice D lst.length dp) wr):=⟨lst,bl2,C2,cp2,xs2,D,dp,by omega,hls,hlx,rfl,rfl,HF.out⟩;clear HF hlx hls hb7;go_loopw[3,6] (FlRel3 B tb A n c w k) (fun _ op _=>lenOf op)
     case atStart=>exact HR3.out
     case round=>
      obtain⟨lst3,bl3,C3,cp3,xs3,D3,dp3,hb3,hls3,hlx3,rfl,rfl,hF⟩:=hrel;have HF:=Lib.hid hF;clear hF HR3;rcases snoc_or lst3 with rfl|⟨l',x,rfl⟩
      ·go_wp2_with fail;exact⟨⟨k+1,lab2,bl3,C3,cp3,xs3,by omega,hl0,by omega,by simp at hb3;omega,rfl,rfl,by go_num,HF.out.fresh⟩,by simp only[intOf];omega⟩
      ·have hx:=hlx3 x (by simp);have hlx4:∀y∈l',1≤y∧y≤3:=fun y hy=>hlx3 y (by simp[hy]);have hlen:(l'++[x]).length=l'.length+1:=by simp
       rw[hlen]at hb3 hls3⊢
       obtain⟨N,hN⟩:∃N,N=l'.length:=⟨_,rfl⟩;have hw:=HF.out.wt;rw[hlen,←hN]at hw;obtain⟨gD,hgD,q1,q2,q3,q4,_⟩:=own_some hw (by omega);subst hgD;have cx:wr.cell? ⟨gD,N,none⟩=some (.int .i64 x):=by
        rw[hw.cellAt N (by omega)];unfold ints;rw[List.getElem?_map,List.getElem?_append_right (by omega),show N-l'.length=0 by omega];rfl
       rw[←hN]at hb3 hls3⊢
       have HNN:=Lib.hid hN;have HX4:=Lib.hid hlx4;have HOC:=Lib.hid HF.out.bk.own;have n1:IntKind.i64.wrap (((N+1:Nat):Int)-1)=(N:Int):=by rw[show((N+1:Nat):Int)-1=(N:Int)by omega];exact IntWalk.i64_in _ (by omega)
       have n2:((N+1:Nat):Int)=(N:Int)+1:=by omega
       have n3:IntKind.i64.wrap ((N:Int)+1-1)=(N:Int):=by rw[show(N:Int)+1-1=(N:Int)by omega];exact IntWalk.i64_in _ (by omega)
       have n4:(0:Int)≤(N:Int):=by omega
       have n5:(N:Int)<(N:Int)+1:=by omega
       have n6:(N:Int)≤(dp3:Int):=by omega
       have n7:N≤dp3:=by omega
       have n8:(N:Int).toNat=N:=by omega
       have g1:decide ((N:Int)+1>0)=true:=decide_eq_true (by omega);have g2:decide (0<N+1)=true:=decide_eq_true (by omega);clear hN hw hlen hlx3 hlx4;go_wp2_with(at_builtin;refine wpList_append_lies _ rfl (.tmp 102) (.tmp 110) 29 rfl w.heap.size 54 iB zB 11 136 Tryz.underlying29 HIB.out HZB.out hB1 hB2 hBs (by omega) (.slice C3 bl3.length cp3) bl3.length xs3 rfl (HOC.out.alloc _) ⟨wr.heap.size,0,none⟩ 1 1 [.int .i64 5,.int .i64 0,.bool false,.slice none 0 0,.int .i64 0,.int .i64 0,.slice none 0 0,.int .i64 0,.int .i64 0,.slice none 0 0,.int .i64 x] rfl rfl (World.news_of_block (heap_alloc_new wr _)) (by intro u hu;simp only[List.mem_cons,List.not_mem_nil,or_false]at hu;rcases hu with rfl|rfl|rfl|rfl|rfl|rfl|rfl|rfl|rfl|rfl|rfl<;>rfl) (by omega) (by unfold maxLen;omega) (by omega) (by have:=HF.out.only.size;simp;omega) _ rfl ?_;intro g9 c9 w9 ho9 hg9 hl9 hlt9;have HF9:=Lib.hid (HF.out.add (f:=⟨5,0,0,0,x⟩) htb (by unfold fok I64;dsimp only;omega) ((Below.refl _ _).alloc (Nat.le_refl _) _) ho9 hg9 hl9);clear ho9 hg9 hl9 hlt9);exact⟨⟨l',_,_,_,_,_,dp3,by simp only[List.length_append,List.length_cons,List.length_nil];have:=HNN.out;omega,by have:=HNN.out;omega,HX4.out,by simp,by rw[HNN.out],HF9.out.pop⟩,by simp[lenOf]⟩
  ·go_wp2_with fail;go_ret;exact⟨bl,C,cp,xs,rfl,by omega,HF.out.bk.mono fun g _ hi=>hi.1,HF.out.tp,HF.out.only⟩
end Go.Proofs.YtdcjbhdfphcefaaGreatDoor
