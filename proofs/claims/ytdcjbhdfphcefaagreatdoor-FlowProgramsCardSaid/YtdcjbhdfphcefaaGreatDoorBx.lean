/- What Build o. -/
import Derived.Test.YtdcjbhdfphcefaaGreatDoorCd
namespace Go.Proofs.YtdcjbhdfphcefaaGreatDoor
set_option linter.all false
set_option maxRecDepth 100000
set_option maxHeartbeats 4000000
open Go.Proofs.Tryz
open Go.RowKit
def fP(l:List Pg):LV:=l.flatMap λp=>[.int .i64 p.num,.int .i64 p.first,.int .i64 p.stop]
theorem qrA(l:List Pg):(fP l).length=l.length*3:=by
 unfold fP;induction l with
 |nil=>rfl
 |cons p r ih=>simp only[List.flatMap_cons,La,ih,Lc,List.length_nil];omega
theorem qfO(l r:List Pg):fP (l++r)=fP l++fP r:=by unfold fP;exact List.flatMap_append
theorem qhW{l:List Pg}:∀{i:Nat} {p:Pg},l[i]? =some p->(fP l)[i*3]? =some (.int .i64 p.num)/\(fP l)[i*3+1]? =some (.int .i64 p.first)/\(fP l)[i*3+2]? =some (.int .i64 p.stop):=by
 induction l with
 |nil=>intro i p h;simp at h
 |cons q r ih=>
  intro i p h;have e:fP (q::r)=[.int .i64 q.num,.int .i64 q.first,.int .i64 q.stop]++fP r:=rfl;rcases i with _|i
  ·simp at h;subst h;exact⟨rfl,rfl,rfl⟩
  ·rw[List.getElem?_cons_succ]at h;obtain⟨h0,h1,h2⟩:=ih h;rw[e];refine⟨?_,?_,?_⟩
   ·rw[Ga (by simp;omega),<-h0];congr 1;simp;omega
   ·rw[Ga (by simp;omega),<-h1];congr 1;simp;omega
   ·rw[Ga (by simp;omega),<-h2];congr 1;simp;omega
theorem uC{α:Type}(f:α->α)(p:α):∀l:List α,(l++[p]).modify l.length f=l++[f p]
 |[]=>rfl
 |a::r=>by
  rw[List.cons_append,Lc,List.modify_succ_cons,uC f p r];rfl
theorem qiV(l:List Pg)(p:Pg)(e:Int):zcS (l++[p]) e=l++[{p with stop:=e}]:=by
 unfold zcS;have h:(l++[p]).length-1=l.length:=by simp
 rw[h,uC]
theorem qvH{l:List Pg}(h:l≠[])(e:Int):fP (zcS l e)=(fP l).set ((l.length-1)*3+2) (.int .i64 e):=by
 obtain⟨r,p,rfl⟩:∃r p,l=r++[p]:=⟨l.dropLast,l.getLast h,(List.dropLast_concat_getLast h).symm⟩;rw[qiV,qfO,qfO,List.set_append_right _ _ (by rw[qrA];simp)];congr 1;rw[qrA,show(r++[p]).length-1=r.length by simp,show r.length*3+2-r.length*3=2 by omega];rfl
def iL(l:List Int):LV:=l.map λx=>.int .i64 x
theorem qzL(l r:List Int):iL (l++r)=iL l++iL r:=List.map_append
theorem xQ{l:List Int}{i:Nat}{x:Int}(h:l[i]? =some x):(iL l)[i]? =some (.int .i64 x):=by unfold iL;rw[Gm,h];rfl
theorem qqK(l:List Int)(i:Nat)(x:Int):iL (l.set i x)=(iL l).set i (.int .i64 x):=List.map_set
def opI(s:Bu):List Int:=s.op.map λ(x:Nat)=>(x:Int)
theorem yR{w:World}{b:Nat}{e:TypeId}{sz g n cap:Nat}{xs:LV}(h:w.ownsRow b e sz (.slice (some ⟨g,0,none⟩) n cap) n xs)(j:Nat)(v:Value):(w.setCell ⟨g,j,none⟩ v).ownsRow b e sz (.slice (some ⟨g,0,none⟩) n cap) n (xs.set j v):=by
 rcases h.2 with⟨e1,_⟩|⟨g',cap',cur,e1,e2,e3,e4,e5,e6,e7⟩
 ·simp at e1
 ·simp only[Vs,Oi,Addr.mk.injEq,and_true,true_and]at e1;obtain⟨rfl,rfl⟩:=e1;refine⟨by rw[List.length_set];exact h.1,.inr ⟨g,cap,cur.setIfInBounds j v,rfl,e2,aD e3,e4,e5,by simpa using e6,?_⟩⟩;rw[<-e7];simp[List.take_set]
theorem cN{w:World}{b:Nat}{e:TypeId}{sz n cap:Nat}{C:OA}{xs:LV}(h:w.ownsRow b e sz (.slice C n cap) n xs){g j:Nat}{v:Value}(hg:C.map (·.block)≠some g):(w.setCell ⟨g,j,none⟩ v).ownsRow b e sz (.slice C n cap) n xs:=
 aC h λq _ hq=>Bj _ _ _ q (by
  rintro rfl
  rcases C with _|a
  ·simp[Value.ownBlock]at hq
  ·simp[Value.ownBlock]at hq
   exact hg (by simp[hq]))
theorem dQ{w:World}{b:Nat}{e:TypeId}{sz n cap:Nat}{C:OA}{xs:LV}(h:w.ownsRow b e sz (.slice C n cap) n xs)(hn:0<n):∃g,C=some ⟨g,0,none⟩/\b<=g/\g<w.heap.size/\n<=cap/\cap<=maxLen/\∃cur:Array Value,w.heap[g]? =some (.cells cur e (0,0)):=by
 rcases h.2 with⟨_,e2⟩|⟨g,cap',cur,e1,e2,e3,e4,e5,_⟩
 ·omega
 ·simp only[Vs,true_and]at e1;obtain⟨rfl,rfl⟩:=e1;exact⟨g,rfl,e2,hlS e3,e4,e5,cur,e3⟩
theorem aU{C:OA}{n cap:Nat}:(Value.slice C n cap).ownBlock=C.map (·.block):=by cases C<;>rfl
theorem fD{w:World}{b:Nat}{e:TypeId}{sz n cap:Nat}{C:OA}{xs:LV}(h:w.ownsRow b e sz (.slice C n cap) n xs){g:Nat}(hg:C.map (·.block)=some g):b<=g/\g<w.heap.size:=aI h (by rw[aU];exact hg)
theorem yS{w:World}{b:Nat}{e:TypeId}{sz n cap:Nat}{C:OA}{xs:LV}(h:w.ownsRow b e sz (.slice C (n+1) cap) (n+1) xs):w.ownsRow b e sz (.slice C n cap) n (xs.take (n*sz)):=by
 rcases h.2 with⟨_,e2⟩|⟨g,cap',cur,e1,e2,e3,e4,e5,e6,e7⟩
 ·omega
 ·simp only[Vs,true_and]at e1;obtain⟨rfl,rfl⟩:=e1;have hl:=h.1;refine⟨by rw[Lr,hl];exact Nat.min_eq_left (Nat.mul_le_mul_right _ (by omega)),.inr ⟨g,cap,cur,rfl,e2,e3,by omega,e5,e6,?_⟩⟩;rw[<-e7,List.take_take,Nat.min_eq_left (Nat.mul_le_mul_right _ (by omega))]
structure BuX(Wc:World)(C:OA)(n cp:Nat)(s:Bu)(gP cP:Nat)(M:OA)(cM:Nat)(O:OA)(cO:Nat)(W:World):Prop where
 bel:Bw Wc W
 lib:W.heap[Wc.heap.size+1]? =some (.cells #[.slice C n cp,.slice (some ⟨gP,0,none⟩) s.pr.length cP,.slice M s.mt.length cM] 32 (0,0))
 pr:W.ownsRow Wc.heap.size 73 3 (.slice (some ⟨gP,0,none⟩) s.pr.length cP) s.pr.length (fP s.pr)
 mt:W.ownsRow Wc.heap.size 3 1 (.slice M s.mt.length cM) s.mt.length (iL s.mt)
 op:W.ownsRow Wc.heap.size 3 1 (.slice O s.op.length cO) s.op.length (iL (opI s))
 d1:gP≠Wc.heap.size+1
 d2:∀g,M.map (·.block)=some g->g≠Wc.heap.size+1/\g≠gP
 d3:∀g,O.map (·.block)=some g->g≠Wc.heap.size+1/\g≠gP/\M.map (·.block)≠some g
section
variable {Wc:World} {C:OA} {n cp:Nat} {s:Bu} {gP cP:Nat} {M:OA} {cM:Nat} {O:OA} {cO:Nat} {W:World}
theorem BuX.below{W':World}(h:BuX Wc C n cp s gP cP M cM O cO W)(hb:Bw W W'):BuX Wc C n cp s gP cP M cM O cO W':=
 ⟨h.bel.tm hb,(hb.block _ (hlS h.lib)).trans h.lib,aC h.pr λg hg _=>hb.block g hg,aC h.mt λg hg _=>hb.block g hg,aC h.op λg hg _=>hb.block g hg,h.d1,h.d2,h.d3⟩
theorem BuX.stop(h:BuX Wc C n cp s gP cP M cM O cO W)(hne:s.pr≠[])(e:Int):BuX Wc C n cp {s with pr:=zcS s.pr e} gP cP M cM O cO (W.setCell ⟨gP,(s.pr.length-1)*3+2,none⟩ (.int .i64 e)):=by
 have hP:=fD h.pr (g:=gP) rfl;have k:∀q,q≠gP->(W.setCell ⟨gP,(s.pr.length-1)*3+2,none⟩ (.int .i64 e)).heap[q]? =W.heap[q]? :=λq hq=>Bj _ _ _ q hq;refine⟨h.bel.setCell (p:=⟨gP,(s.pr.length-1)*3+2,none⟩) hP.1 _,?_,?_,cN h.mt (λe=>(h.d2 _ e).2 rfl),cN h.op (λe=>(h.d3 _ e).2.1 rfl),h.d1,h.d2,h.d3⟩
 ·rw[k _ (λe=>h.d1 e.symm),oK];exact h.lib
 ·rw[oK,qvH hne];exact yR h.pr _ _
theorem BuX.pair{gP':Nat}(h:BuX Wc C n cp s gP cP (some ⟨gP',0,none⟩) cM O cO W)(a b:Nat):BuX Wc C n cp {s with mt:=(s.mt.set a (b:Int)).set b (a:Int)} gP cP (some ⟨gP',0,none⟩) cM O cO ((W.setCell ⟨gP',a,none⟩ (.int .i64 (b:Int))).setCell ⟨gP',b,none⟩ (.int .i64 (a:Int))):=by
 have hM:=fD h.mt (g:=gP') rfl;have hd:=h.d2 gP' rfl;have k:∀q,q≠gP'->((W.setCell ⟨gP',a,none⟩ (.int .i64 (b:Int))).setCell ⟨gP',b,none⟩ (.int .i64 (a:Int))).heap[q]? =W.heap[q]? :=λq hq=>(Bj _ _ _ q hq).trans (Bj _ _ _ q hq);have hl:((s.mt.set a (b:Int)).set b (a:Int)).length=s.mt.length:=by simp
 refine⟨(h.bel.setCell (p:=⟨gP',a,none⟩) hM.1 _).setCell (p:=⟨gP',b,none⟩) hM.1 _,?_,cN (cN h.pr (by simp;exact λe=>hd.2 e.symm)) (by simp;exact λe=>hd.2 e.symm),?_,cN (cN h.op (λe=>(h.d3 _ e).2.2 rfl)) (λe=>(h.d3 _ e).2.2 rfl),h.d1,h.d2,h.d3⟩
 ·rw[k _ (λe=>hd.1 e.symm)];dsimp only;rw[hl];exact h.lib
 ·dsimp only;rw[hl,qqK,qqK];exact yR (yR h.mt _ _) _ _
theorem BuX.popO(h:BuX Wc C n cp s gP cP M cM O cO W)(hne:s.op≠[]):BuX Wc C n cp {s with op:=s.op.dropLast} gP cP M cM O cO W:=by
 have hl:0<s.op.length:=List.length_pos_iff.2 hne;refine⟨h.bel,h.lib,h.pr,h.mt,?_,h.d1,h.d2,h.d3⟩;have q:=h.op;obtain⟨m,hm⟩:∃m,s.op.length=m+1:=⟨s.op.length-1,by omega⟩;rw[hm]at q;have q2:=yS q;dsimp only;rw[Ld,hm,Nat.add_sub_cancel];have e:iL (opI {s with op:=s.op.dropLast})=(iL (opI s)).take (m*1):=by
  unfold iL opI;rw[<-List.map_take,<-List.map_take,List.dropLast_eq_take,hm,Nat.add_sub_cancel,Nat.mul_one]
 rw[e];exact q2
end
theorem bF{W W3 w1:World}{v:Option Nat}(hb:Bw W W3)(hg:W3.grownBy w1 v):∀q,q<W.heap.size->v≠some q->w1.heap[q]? =W.heap[q]? :=λq hq hn=>(hg.block q (Lt hq hb.size) (λe=>hn e.symm)).trans (hb.block q hq)
section
variable {Wc:World} {C:OA} {n cp:Nat} {s:Bu} {gP cP:Nat} {M:OA} {cM:Nat} {O:OA} {cO:Nat} {W W3 w1:World}
theorem BuX.pushO(h:BuX Wc C n cp s gP cP M cM O cO W){x g cap:Nat}(hb:Bw W W3)(ho:w1.ownsRow Wc.heap.size 3 1 (.slice (some ⟨g,0,none⟩) (s.op.length+1) cap) (s.op.length+1) (iL (opI s)++[.int .i64 (x:Int)]))(hg:W3.grownBy w1 (Value.slice O s.op.length cO).ownBlock)(hl:(Value.slice O s.op.length cO).ownBlock=some g\/g=W3.heap.size):
 BuX Wc C n cp {s with op:=s.op++[x]} gP cP M cM (some ⟨g,0,none⟩) cap w1:=by
 rw[aU]at hg hl;have k:=bF hb hg;have hs:=hb.size;have hgs:=hg.size;have hc:=h.bel.size;have hlb:=hlS h.lib;have hPl:=fD h.pr (g:=gP) rfl;have hOge:∀q,O.map (·.block)=some q->Wc.heap.size<=q:=λq hq=>(fD h.op hq).1;have hgM:∀q,M.map (·.block)=some q->O.map (·.block)≠some q:=λq hq e=>(h.d3 q e).2.2 hq;refine⟨⟨hg.os.trans (hb.os.trans h.bel.os),hg.tape.trans (hb.tape.trans h.bel.tape),hg.output.trans (hb.output.trans h.bel.output),by omega,λq hq=>(k q (by omega) (λe=>by have:=hOge q e;omega)).trans (h.bel.block q hq)⟩,(k _ hlb (λe=>(h.d3 _ e).1 rfl)).trans h.lib,aC h.pr λq hq hv=>k q hq (λe=>by rw[aU]at hv;exact(h.d3 q e).2.1 (by simpa using hv.symm)),aC h.mt λq hq hv=>k q hq (λe=>by rw[aU]at hv;exact(h.d3 q e).2.2 hv),?_,h.d1,h.d2,λq hq=> ?_⟩
 ·have e:iL (opI {s with op:=s.op++[x]})=iL (opI s)++[.int .i64 (x:Int)]:=by simp[iL,opI]
  rw[e];simpa using ho
 ·simp at hq;subst hq;rcases hl with e|e
  ·exact h.d3 g e
  ·exact⟨by omega,by omega,λe2=>by have:=(fD h.mt e2).2;omega⟩
theorem BuX.addP(h:BuX Wc C n cp s gP cP M cM O cO W){p:Pg}{g cap:Nat}(hb:Bw W W3)(ho:w1.ownsRow Wc.heap.size 73 3 (.slice (some ⟨g,0,none⟩) (s.pr.length+1) cap) (s.pr.length+1) (fP s.pr++[.int .i64 p.num,.int .i64 p.first,.int .i64 p.stop]))(hg:W3.grownBy w1 (some gP))(hl:some gP=some g\/g=W3.heap.size):
 BuX Wc C n cp {s with pr:=s.pr++[p]} g cap M cM O cO (w1.setCell ⟨Wc.heap.size+1,1,none⟩ (.slice (some ⟨g,0,none⟩) (s.pr.length+1) cap)):=by
 have k:=bF hb hg;have hs:=hb.size;have hgs:=hg.size;have hc:=h.bel.size;have hlb:=hlS h.lib;have hPl:=fD h.pr (g:=gP) rfl;have ks:∀q,q≠Wc.heap.size+1->(w1.setCell ⟨Wc.heap.size+1,1,none⟩ (.slice (some ⟨g,0,none⟩) (s.pr.length+1) cap)).heap[q]? =w1.heap[q]? :=λq hq=>Bj _ _ _ q hq;have hgl:g≠Wc.heap.size+1:=by
  rcases hl with e|e
  ·cases e;exact h.d1
  ·omega
 have hsz:(w1.setCell ⟨Wc.heap.size+1,1,none⟩ (.slice (some ⟨g,0,none⟩) (s.pr.length+1) cap)).heap.size=w1.heap.size:=by simp[World.setCell]
 refine⟨⟨hg.os.trans (hb.os.trans h.bel.os),hg.tape.trans (hb.tape.trans h.bel.tape),hg.output.trans (hb.output.trans h.bel.output),by omega,λq hq=>(ks q (by omega)).trans ((k q (by omega) (λe=>by cases e;omega)).trans (h.bel.block q hq))⟩,?_,?_,?_,?_,hgl,λq hq=>⟨(h.d2 q hq).1,?_⟩,λq hq=>⟨(h.d3 q hq).1,?_,(h.d3 q hq).2.2⟩⟩
 ·have:=aD (i:=1) (u:=.slice (some ⟨g,0,none⟩) (s.pr.length+1) cap) ((k _ hlb (λe=>by cases e;exact h.d1 rfl)).trans h.lib);simpa using this
 ·have e:fP (s.pr++[p])=fP s.pr++[.int .i64 p.num,.int .i64 p.first,.int .i64 p.stop]:=by rw[qfO];rfl
  dsimp only;rw[e];have:=cN (g:=Wc.heap.size+1) (j:=1) (v:=.slice (some ⟨g,0,none⟩) (s.pr.length+1) cap) ho (by simp;exact hgl);simpa using this
 ·exact cN (aC h.mt λq hq hv=>k q hq (λe=>by cases e;rw[aU]at hv;exact(h.d2 _ hv).2 rfl)) (λe=>(h.d2 _ e).1 rfl)
 ·exact cN (aC h.op λq hq hv=>k q hq (λe=>by cases e;rw[aU]at hv;exact(h.d3 _ hv).2.1 rfl)) (λe=>(h.d3 _ e).1 rfl)
 ·rcases hl with e|e
  ·cases e;exact(h.d2 q hq).2
  ·have:=(fD h.mt hq).2;omega
 ·rcases hl with e|e
  ·cases e;exact(h.d3 q hq).2.1
  ·have:=(fD h.op hq).2;omega
theorem BuX.addM(h:BuX Wc C n cp s gP cP M cM none 0 W)(hop:s.op=[]){x:Int}{g cap:Nat}(hb:Bw W W3)(ho:w1.ownsRow Wc.heap.size 3 1 (.slice (some ⟨g,0,none⟩) (s.mt.length+1) cap) (s.mt.length+1) (iL s.mt++[.int .i64 x]))(hg:W3.grownBy w1 (Value.slice M s.mt.length cM).ownBlock)(hl:(Value.slice M s.mt.length cM).ownBlock=some g\/g=W3.heap.size):
 BuX Wc C n cp {s with mt:=s.mt++[x]} gP cP (some ⟨g,0,none⟩) cap none 0 (w1.setCell ⟨Wc.heap.size+1,2,none⟩ (.slice (some ⟨g,0,none⟩) (s.mt.length+1) cap)):=by
 rw[aU]at hg hl;have k:=bF hb hg;have hs:=hb.size;have hgs:=hg.size;have hc:=h.bel.size;have hlb:=hlS h.lib;have hPl:=fD h.pr (g:=gP) rfl;have ks:∀q,q≠Wc.heap.size+1->(w1.setCell ⟨Wc.heap.size+1,2,none⟩ (.slice (some ⟨g,0,none⟩) (s.mt.length+1) cap)).heap[q]? =w1.heap[q]? :=λq hq=>Bj _ _ _ q hq;have hgl:g≠Wc.heap.size+1/\g≠gP:=by
  rcases hl with e|e
  ·exact h.d2 g e
  ·exact⟨by omega,by omega⟩
 have hsz:(w1.setCell ⟨Wc.heap.size+1,2,none⟩ (.slice (some ⟨g,0,none⟩) (s.mt.length+1) cap)).heap.size=w1.heap.size:=by simp[World.setCell]
 have hMge:∀q,M.map (·.block)=some q->Wc.heap.size<=q:=λq hq=>(fD h.mt hq).1;refine⟨⟨hg.os.trans (hb.os.trans h.bel.os),hg.tape.trans (hb.tape.trans h.bel.tape),hg.output.trans (hb.output.trans h.bel.output),by omega,λq hq=>(ks q (by omega)).trans ((k q (by omega) (λe=>by have:=hMge q e;omega)).trans (h.bel.block q hq))⟩,?_,?_,?_,?_,h.d1,λq hq=> ?_,λq hq=>by simp at hq⟩
 ·have:=aD (i:=2) (u:=.slice (some ⟨g,0,none⟩) (s.mt.length+1) cap) ((k _ hlb (λe=>(h.d2 _ e).1 rfl)).trans h.lib);simpa using this
 ·exact cN (aC h.pr λq hq hv=>k q hq (λe=>by rw[aU]at hv;exact(h.d2 q e).2 (by simpa using hv.symm))) (by simp;exact h.d1)
 ·dsimp only;rw[qzL];have:=cN (g:=Wc.heap.size+1) (j:=2) (v:=.slice (some ⟨g,0,none⟩) (s.mt.length+1) cap) ho (by simp;exact hgl.1);simpa[iL]using this
 ·have e:opI {s with mt:=s.mt++[x]}=[]:=by simp[opI,hop]
  dsimp only;rw[e,hop];exact World.ownsRow_nil _ _ _ _
 ·simp at hq;subst hq;exact hgl
end
structure BkS(W:World)(base:Nat)(I:Nat->Prop)(C:OA)(cp:Nat)(bs:List Bk)(xs:LV):Prop where
 own:W.ownsRow base 54 11 (.slice C bs.length cp) bs.length xs
 ownI:∀q,(Value.slice C bs.length cp).ownBlock=some q->I q
 parts:∀i b,bs[i]? =some b->∃(A:OA) (n c:Nat) (l0 l1 l2 x0 x1 x2:Value),(∀(j:Nat) (v:Value),(zaW b A n c l0 l1 l2 x0 x1 x2)[j]? =some v->xs[i*11+j]? =some v)/\Bz W (λg=>I g/\some g≠(Value.slice C bs.length cp).ownBlock) b A n l0 l1 l2 x0 x1 x2
theorem BkS.nil(W:World)(base:Nat)(I:Nat->Prop):BkS W base I none 0 [] []:=⟨World.ownsRow_nil _ _ _ _,λq h=>by simp[Value.ownBlock]at h,λi b h=>by simp at h⟩
section
variable {W:World} {base:Nat} {I:Nat->Prop} {C:OA} {cp:Nat} {bs:List Bk} {xs:LV}
theorem BkS.keep{W':World}(h:BkS W base I C cp bs xs)(hs:W.heap.size<=W'.heap.size)(hk:∀g,g<W.heap.size->I g->W'.heap[g]? =W.heap[g]?):BkS W' base I C cp bs xs:=
 ⟨aC h.own λg hg hq=>hk g hg (h.ownI g hq),h.ownI,λi b hb=>by
  obtain⟨A,n,c,l0,l1,l2,x0,x1,x2,h1,h2⟩:=h.parts i b hb
  exact⟨A,n,c,l0,l1,l2,x0,x1,x2,h1,h2.keep hs (λ_ _ h=>h) λg hg hi=>hk g hg hi.1⟩⟩
theorem BkS.below{W':World}(h:BkS W base I C cp bs xs)(hb:Bw W W'):BkS W' base I C cp bs xs:=h.keep hb.size λg hg _=>hb.block g hg
theorem BkS.only{W':World}{t:Nat}(h:BkS W base I C cp bs xs)(hb:zaZ t W W')(ht:∀g,I g->g≠t):BkS W' base I C cp bs xs:=h.keep hb.size λg hg hi=>hb.2.2.2.2 g hg (ht g hi)
theorem BkS.push{W2 W3 w1:World}{b:Bk}{A:OA}{n c g cap:Nat}{l0 l1 l2 x0 x1 x2:Value}(h:BkS W base I C cp bs xs)(hs2:W.heap.size<=W2.heap.size)(k2:∀q,q<W.heap.size->I q->W2.heap[q]? =W.heap[q]?)
 (hb:Bz W2 (λg=>W.heap.size<=g) b A n l0 l1 l2 x0 x1 x2) (hI:∀g,W.heap.size<=g->I g) (hs3:W2.heap.size<=W3.heap.size) (k3:∀q,q<W2.heap.size->W3.heap[q]? =W2.heap[q]?)
 (ho:w1.ownsRow base 54 11 (.slice (some ⟨g,0,none⟩) (bs.length+1) cap) (bs.length+1) (xs++zaW b A n c l0 l1 l2 x0 x1 x2)) (hg:W3.grownBy w1 (Value.slice C bs.length cp).ownBlock) (hl:(Value.slice C bs.length cp).ownBlock=some g\/g=W3.heap.size):
 BkS w1 base I (some ⟨g,0,none⟩) cap (bs++[b]) (xs++zaW b A n c l0 l1 l2 x0 x1 x2):=by
 have hgs:=hg.size;have hlen:(bs++[b]).length=bs.length+1:=by simp
 have hob:∀q,(Value.slice C bs.length cp).ownBlock=some q->base<=q/\q<W.heap.size:=λq hq=>aI h.own hq;have kp:∀q,q<W2.heap.size->(Value.slice C bs.length cp).ownBlock≠some q->w1.heap[q]? =W2.heap[q]? :=λq hq hn=>(hg.block q (by omega) (λe=>hn e.symm)).trans (k3 q hq);have kw:∀q,q<W.heap.size->I q->(Value.slice C bs.length cp).ownBlock≠some q->w1.heap[q]? =W.heap[q]? :=λq hq hi hn=>(kp q (by omega) hn).trans (k2 q hq hi);have hgI:I g:=by
  rcases hl with e|e
  ·exact h.ownI g e
  ·exact hI g (by omega)
 have hgne:∀q,q<W2.heap.size->some q≠(Value.slice C bs.length cp).ownBlock->some q≠(Value.slice (some ⟨g,0,none⟩) (bs++[b]).length cap).ownBlock:=λq hq hn e=>by
  simp only[Value.ownBlock,Oi]at e;subst e;rcases hl with e|e
  ·exact hn e.symm
  ·omega
 have hobW:∀q,W.heap.size<=q->some q≠(Value.slice C bs.length cp).ownBlock:=λq hq e=>by have:=hob q e.symm;omega
 refine⟨by rw[hlen];exact ho,λq hq=> ?_,λi b' hb'=> ?_⟩
 ·simp only[Value.ownBlock,Oi]at hq;rw[<-hq];exact hgI
 have hxl:=h.own.1;have hil:=(Gu.1 hb').1;rw[hlen]at hil;by_cases e:i=bs.length
 ·subst e;have e2:b'=b:=by
   rw[Ga (Le _),Nat.sub_self]at hb';simpa using hb'.symm
  subst e2;refine⟨A,n,c,l0,l1,l2,x0,x1,x2,λj v hv=>by rw[dV hxl];exact hv,hb.keep (by omega) (λq hq hi=>⟨hI q hi,hgne q hq (hobW q hi)⟩) λq hq hi=>kp q hq λe=>hobW q hi e.symm⟩
 ·rw[Gc (by omega)]at hb';obtain⟨A,n,c,m0,m1,m2,y0,y1,y2,hp1,hp2⟩:=h.parts i b' hb';refine⟨A,n,c,m0,m1,m2,y0,y1,y2,λj v hv=> ?_,hp2.keep (by omega) (λq hq hi=>⟨hi.1,hgne q (by omega) hi.2⟩) λq hq hi=>kw q hq hi.1 λe=>hi.2 e.symm⟩;have hj:j<11:=by have:=(Gu.1 hv).1;simpa[zaW]using this
  exact(fJ hxl (by omega)).trans (hp1 j v hv)
theorem BkS.rd(h:BkS W base I C cp bs xs)(hn:bs.length<=maxLen):RdL W W.heap.size C bs.length bs:=by
 refine⟨rfl,hn,λhp=> ?_⟩;rcases h.own.2 with⟨e1,e2⟩|⟨g,cap,cur,e1,q1,q2,_⟩
 ·omega
 ·simp only[Vs,true_and]at e1;obtain⟨rfl,rfl⟩:=e1;refine⟨g,0,rfl,hlS q2,λi b hb=> ?_⟩;have hil:=(Gu.1 hb).1;obtain⟨A,n,c,m0,m1,m2,y0,y1,y2,hp1,hp2⟩:=h.parts i b hb;refine⟨A,n,c,m0,m1,m2,y0,y1,y2,λj v hv=> ?_,hp2.kind,hp2.label,hp2.n,hp2.words.rd,hp2.left.rd,hp2.x.rd⟩;have hj:j<11:=by have:=(Gu.1 hv).1;simpa[zaW]using this
  rw[Nat.zero_add];exact(h.own.cellAt _ (by omega)).trans (hp1 j v hv)
end
def zoL(W0:World)(l:List Pg)(n:Int)(i:Value)(W:World):Prop:=∃k:Nat,k<=l.length/\i=.int .i64 (k:Int)/\W=W0/\zbM n l 0=zbM n (l.drop k) k
theorem wY(w:World)(B:Nat)(l:List Pg)(v1 v3:Value)(A2:OA)(c2:Nat)(n:Int)(hP:RdP w B A2 l.length l)(hB:B<=w.heap.size)(o1:v1.oneCell'=true)(o3:v3.oneCell'=true):
 Calls prog 56 #[.agg #[v1,.slice A2 l.length c2,v3],.int .i64 n] w λe w'=>e=.returned (.tuple #[.int .i64 (zbM n l 0).1,.bool (zbM n l 0).2])/\Bw w w':=by
 obtain⟨-,hn2,hnb,hc⟩:=hP;have HC:=Hd hc;have hnl:=hn2;unfold maxLen at hnl;obtain⟨W0,hW0,HB0,hbx⟩:=newW w #[v1,.slice A2 l.length c2,v3] 32;have b1:=ce1 hbx;clear hc hnb hbx;go_enter func56,ntmps56;go_wp2_with fail;rw[<-hW0];clear hW0;go_loopw[6] (zoL W0 l n) (λi _=>l.length-(intOf i).toNat)
 case atStart=>exact⟨0,by omega,rfl,rfl,rfl⟩
 case round=>
  obtain⟨k,hk,rfl,rfl,her⟩:=hrel;have HER:=Hd her;clear her;by_cases hlt:k<l.length
  ·obtain⟨ab,off,rfl,hab,hc⟩:=HC.o (by omega);obtain⟨p,hx⟩:∃x,l[k]? =some x:=⟨_,Gg hlt⟩;obtain⟨d0,d1,d2⟩:=hc k _ hx;have hab':ab<w.heap.size:=by omega
   have e0:=HB0.o.ct hab' d0;have HX:=Hd hx;have hcase:zbM n l 0=if p.num=n then((k:Int),true)else zbM n (l.drop (k+1)) (k+1):=by
    rw[HER.o,cE HX.o];rfl
   have HCS:=Hd hcase;clear hc d0 d1 d2 hx hcase;by_cases hpn:p.num=n
   ·have hpn':(p.num==n)=true:=by simpa using hpn
    have E1:Hid (zbM n l 0=((k:Int),true)):=by unfold Hid;rw[HCS.o,Ip hpn]
    clear hpn;go_wp2_with fail;go_ret2;rw[E1.o];exact⟨rfl,HB0.o⟩
   ·have hpn':(p.num==n)=false:=by simpa using hpn
    have E1:Hid (zbM n l 0=zbM n (l.drop (k+1)) (k+1)):=by unfold Hid;rw[HCS.o,Iq hpn]
    clear hpn;go_wp2_with fail;exact⟨⟨k+1,by omega,by go_num,rfl,E1.o⟩,by simp only[intOf];omega⟩
  ·have hke:k=l.length:=by omega
   subst hke;have E1:Hid (zbM n l 0=(0,false)):=by
    unfold Hid;rw[HER.o,Dl];rfl
   go_wp2_with fail;go_ret2;rw[E1.o];exact⟨rfl,HB0.o⟩
