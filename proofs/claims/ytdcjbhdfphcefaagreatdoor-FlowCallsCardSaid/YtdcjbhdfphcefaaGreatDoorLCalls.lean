/- The walk of the law FlowCa. -/
import Derived.Test.YtdcjbhdfphcefaaGreatDoorRlk
import Derived.Test.YtdcjbhdfphcefaaGreatDoorLk
namespace Go.Proofs.YtdcjbhdfphcefaaGreatDoor
set_option linter.all false
set_option maxRecDepth 100000
set_option maxHeartbeats 40000000
open Go.RowKit
section
variable {W W':World} {b:Nat} {I I':Nat→Prop} {C:Option Addr} {cw:Nat} {ps:List (Int×Int)} {ys:List Value}
theorem WOwn.keep(h:WOwn W b I C cw ps ys)(hs:W.heap.size≤W'.heap.size)(hk:∀q,q<W.heap.size→I q→W'.heap[q]? =W.heap[q]?)(hI:∀q,q<W.heap.size→I q→I' q):WOwn W' b I' C cw ps ys:=
 ⟨aC h.own fun q hq hv=>hk q hq (h.ownI q hv),fun q hq=>hI q (aJ h.own hq).2 (h.ownI q hq),fun i c m hi=>by
  obtain⟨a1,x,y,z,a2,a3,a4,a5⟩:=h.words i c m hi
  exact⟨a1,x,y,z,a2,a3,a4,a5.keep hs (fun q hq hi=>⟨hI q hq hi.1,hi.2⟩) fun q hq hi=>hk q hq hi.1⟩⟩
theorem WOwn.wz(h:WOwn W b I C cw ps ys)(hl:ps.length≤maxLen)(hc:∀p∈ps,I64 p.1):Wz W I C ps.length (wordsB ps).words:=by
 refine⟨by simp[wordsB],hl,fun x hx=> ?_,?_⟩
 ·unfold wordsB at hx;obtain⟨p,hp,rfl⟩:=List.mem_map.1 hx;exact hc p hp
 rcases h.own.2 with⟨e1,e2⟩|⟨gw,cap',cur,e1,q1,q2,q3,q4,q5,q6⟩
 ·simp only[Vs]at e1;exact .inl ⟨e1.1,e2⟩
 ·simp only[Vs,true_and]at e1;obtain⟨rfl,rfl⟩:=e1;refine .inr ⟨gw,rfl,h.ownI gw rfl,hlS q2,fun i c t hx=> ?_⟩;unfold wordsB at hx;rw[Gm]at hx;obtain⟨p,hp,he⟩:=Option.map_eq_some_iff.1 hx;cases he;have hil:=(Gu.1 hp).1;obtain⟨c0,x,y,z,c1,c2,c3,hr⟩:=h.words i p.1 p.2 hp;have hca:∀j,j<ps.length*4→W.cell? ⟨gw,j,none⟩=ys[j]? :=fun j hj=>h.own.cellAt j hj;exact⟨(hca _ (by omega)).trans c0,x,y,z,(hca _ (by omega)).trans c1,(hca _ (by omega)).trans c2,(hca _ (by omega)).trans c3,hr.keep (Le _) (fun _ _ q=>q.1) fun _ _ _=>rfl⟩
end
theorem fld_words(W:World)(a0 a1 a2 a3 a4 a5 a6 a7 a8 a9 a10:Value):Sem.run Tryz.prog (Instr.field 54 (.agg #[a0,a1,a2,a3,a4,a5,a6,a7,a8,a9,a10]) 3) W=.ok a3 W:=by simp[Instr.field,part,asAgg]
theorem i64w(z:Int):I64 (IntKind.i64.wrap z):=by unfold I64;rw[IntKind.wrap_i64];omega
theorem WOwn.one{W:World}{b:Nat}{I:Nat→Prop}{C:Option Addr}{cw:Nat}{cc nn:Int}{ys:List Value}(h:WOwn W b I C cw [(cc,nn)] ys):∃g:Nat,C=some ⟨g,0,none⟩∧ys.length=1*4∧(∀j u,ys[j]? =some u→W.cell? ((⟨g,0,none⟩:Addr).add j)=some u)∧∀u∈ys,u.oneCell'=true:=by
 have hl:=h.own.1;rcases h.own.2 with⟨_,e2⟩|⟨gw,cap',cur,e1,q1,q2,q3,q4,q5,q6⟩
 ·cases e2
 ·simp only[Vs]at e1;obtain⟨rfl,_,rfl⟩:=e1;obtain⟨a1,x,y,z,a2,a3,a4,a5⟩:=h.words 0 cc nn rfl;obtain⟨o,n,A,k,c,rfl,rfl,rfl⟩:=a5.form;refine⟨gw,rfl,hl,fun j u hj=> ?_,fun u hu=> ?_⟩
  ·have hadd:(⟨gw,0,none⟩:Addr).add j=⟨gw,j,none⟩:=by unfold Addr.add;split<;>simp_all
   have hj4:=(Gu.1 hj).1;rw[hadd,h.own.cellAt j (by simp only[List.length_singleton]at hl⊢;omega)];exact hj
  ·obtain⟨j,hj⟩:=List.getElem?_of_mem hu;have hj4:=(Gu.1 hj).1;rw[hl]at hj4;simp only[List.length_singleton]at hj4;have h4:j=0∨j=1∨j=2∨j=3:=by omega
   rcases h4 with rfl|rfl|rfl|rfl
   ·cases hj.symm.trans a1;rfl
   ·cases hj.symm.trans a2;rfl
   ·cases hj.symm.trans a3;rfl
   ·cases hj.symm.trans a4;rfl
theorem WOwn.one2{W:World}{b:Nat}{I:Nat→Prop}{g cw:Nat}{cc nn:Int}{ys:List Value}(h:WOwn W b I (some ⟨g,0,none⟩) cw [(cc,nn)] ys):ys.length=1*4∧(∀j u,ys[j]? =some u→W.cell? ((⟨g,0,none⟩:Addr).add j)=some u)∧∀u∈ys,u.oneCell'=true:=by
 obtain⟨g',e,h1,h2⟩:=h.one;cases e;exact⟨h1,h2⟩
def WqPost(cc nn:Int)(W:World)(e:Ending)(w':World):Prop:=
 ∃(g9 cw:Nat) (lo ln:Int) (lA:Option Addr) (lk lc:Nat) (xo xn:Int) (xA:Option Addr) (xk xc:Nat) (ys:List Value),e=.returned (.agg #[.int .i64 0,.int .i64 0,.bool false,.slice (some ⟨g9,0,none⟩) 1 cw,.int .i64 lo,.int .i64 ln,.slice lA lk lc,.int .i64 xo,.int .i64 xn,.slice xA xk xc,.int .i64 0])∧Bw W w'∧
  Bz w' (fun q=>W.heap.size≤q) (wordsB [(cc,nn)]) (some ⟨g9,0,none⟩) 1 (.int .i64 lo) (.int .i64 ln) (.slice lA lk lc) (.int .i64 xo) (.int .i64 xn) (.slice xA xk xc)∧WOwn w' W.heap.size (fun q=>W.heap.size≤q) (some ⟨g9,0,none⟩) cw [(cc,nn)] ys
theorem words_q(W:World)(q c0:Nat)(cc nn:Int)(h:W.heap[q]? =some (.cells #[.int .i64 cc,.int .i64 nn] 3 (0,0)))(hc:I64 cc)(h1: -1000000000000000≤nn)(h2:nn≤1000000000000000):
 Calls Tryz.prog 24 #[.slice (some ⟨q,0,none⟩) 2 c0] W (WqPost cc nn W):=by
 refine(words_own_st W q 0 c0 [(cc,nn)] 2 rfl (fun i c m hi=> ?_) (hlS h) (by simp)).mono ?_
 ·rcases i with _|i
  ·simp at hi;obtain⟨rfl,rfl⟩:=hi;exact⟨Ro W q 0 _ _ _ h,Ro W q 1 _ _ _ h,hc,h1,h2⟩
  ·simp at hi
 ·rintro e w' ⟨C,cw,l0,l1,l2,x0,x1,x2,rfl,hz,hb,ys,ho⟩;obtain⟨lo,ln,lA,lk,lc,rfl,rfl,rfl⟩:=hz.left.form;obtain⟨xo,xn,xA,xk,xc,rfl,rfl,rfl⟩:=hz.x.form;obtain⟨g9,rfl,_⟩:=ho.one;exact⟨g9,cw,lo,ln,lA,lk,lc,xo,xn,xA,xk,xc,ys,rfl,hb,hz,ho⟩
theorem rzn_keep{W W':World}{I I':Nat→Prop}{m:Int}{v:Value}(h:Rz W I (numT m) v)(hs:W.heap.size≤W'.heap.size)(hI:∀q,q<W.heap.size→I q→I' q):Rz W' I' (numT m) v:=by
 obtain⟨A,c,e,a1,a2,a3,a4⟩:=h;exact⟨A,c,e,a1,a2,a3,a4.imp id fun⟨g,e1,e2,e3,_⟩=>⟨g,e1,hI g e3 e2,Lt e3 hs,fun i hi=>absurd hi (Nat.not_lt_zero i)⟩⟩
structure CcI(w:World)(A:Option Addr)(n c g:Nat)(ps:List (Int×Int))(C:Option Addr)(cw:Nat)(ys:List Value)(l0 l1 l2 x0 x1 x2:Value)(W:World):Prop where
 tp:TapeOK W w.heap.size w.heap.size A n c
 bel:Bw w W
 gl:w.heap.size<g
 blk:W.heap[g]? =some (.cells ⟨cellsB (wordsB ps) C ps.length cw l0 l1 l2 x0 x1 x2⟩ 54 (0,0))
 wo:WOwn W (w.heap.size+1) (fun q=>w.heap.size<q∧q≠g) C cw ps ys
 left:Rz W (fun q=>w.heap.size<q∧q≠g) (numT 0) (.agg #[l0,l1,l2])
 x:Rz W (fun q=>w.heap.size<q∧q≠g) (numT 0) (.agg #[x0,x1,x2])
 ok:∀p∈ps,I64 p.1
section
variable {w W W6 w7:World} {A C C9:Option Addr} {n c g cw cw9 b9 g' cap:Nat} {ps:List (Int×Int)} {ys ys9:List Value} {l0 l1 l2 x0 x1 x2:Value} {cc nn:Int}
theorem CcI.only(h:CcI w A n c g ps C cw ys l0 l1 l2 x0 x1 x2 W)(ho:Only w.heap.size W W6)(ht:TapeOK W6 w.heap.size w.heap.size A n c):CcI w A n c g ps C cw ys l0 l1 l2 x0 x1 x2 W6:=by
 have kq:∀q,q<W.heap.size→w.heap.size<q→W6.heap[q]? =W.heap[q]? :=fun q hq h1=>ho.2.2.2.2 q hq (by omega);exact⟨ht,h.bel.trans (ho.below (Le _) h.bel.size),h.gl,(kq g (hlS h.blk) h.gl).trans h.blk,h.wo.keep ho.size (fun q hq hi=>kq q hq hi.1) (fun _ _ h=>h),rzn_keep h.left ho.size (fun _ _ h=>h),rzn_keep h.x ho.size (fun _ _ h=>h),h.ok⟩
theorem CcI.later(h:CcI w A n c g ps C cw ys l0 l1 l2 x0 x1 x2 W){o:Obj}(hb:Below (W.alloc o).heap.size (W.alloc o) W6):Only w.heap.size W W6∧CcI w A n c g ps C cw ys l0 l1 l2 x0 x1 x2 W6:=by
 have hb1:Bw W (W.alloc o):=(Bf _ _).alloc (Le _) o;have ho:Only w.heap.size W W6:=(Only.of_below hb1).trans (Only.of_below hb);exact⟨ho,h.only ho ((h.tp.below hb1).below hb)⟩
theorem CcI.push(h:CcI w A n c g ps C cw ys l0 l1 l2 x0 x1 x2 W)(ho:Only w.heap.size W W6)(ht:TapeOK W6 w.heap.size w.heap.size A n c)(hb9:W.heap.size≤b9)(h9:WOwn W6 b9 (fun q=>b9≤q) C9 cw9 [(cc,nn)] ys9)(hc:I64 cc)
 (hown:w7.ownsRow (w.heap.size+1) 57 4 (.slice (some ⟨g',0,none⟩) (ps.length+1) cap) (ps.length+1) (ys++ys9)) (hg:W6.grownBy w7 (Value.slice C ps.length cw).ownBlock) (hl:(Value.slice C ps.length cw).ownBlock=some g'∨g'=W6.heap.size):
 CcI w A n c g (ps++[(cc,nn)]) (some ⟨g',0,none⟩) cap (ys++ys9) l0 l1 l2 x0 x1 x2 (w7.setCell ⟨g,3,none⟩ (.slice (some ⟨g',0,none⟩) (ps.length+1) cap)):=by
 have h6:=h.only ho ht;have hs6:=ho.size;have hgs:=hg.size;have e0:=hlS h.blk;have e6:=hlS h6.blk;have hgl:=h.gl;have hlen:(ps++[(cc,nn)]).length=ps.length+1:=by simp
 have hob:∀q,(Value.slice C ps.length cw).ownBlock=some q→w.heap.size+1≤q∧q<W.heap.size:=fun q hq=>aJ h.wo.own hq;have hgn:∀q,(Value.slice C ps.length cw).ownBlock=some q→q≠g:=fun q hq=>(h.wo.ownI q hq).2;have kp:∀q,q<W6.heap.size→(Value.slice C ps.length cw).ownBlock≠some q→w7.heap[q]? =W6.heap[q]? :=fun q hq hn=>hg.block q hq fun e=>hn e.symm;have ks:∀q,q≠g→(w7.setCell ⟨g,3,none⟩ (.slice (some ⟨g',0,none⟩) (ps.length+1) cap)).heap[q]? =w7.heap[q]? :=fun q hq=>Bj _ _ _ q hq;have hsz:(w7.setCell ⟨g,3,none⟩ (.slice (some ⟨g',0,none⟩) (ps.length+1) cap)).heap.size=w7.heap.size:=by simp[World.setCell]
 have gI:w.heap.size<g'∧g'≠g:=by
  rcases hl with e|e
  ·exact⟨by have:=hob g' e;omega,hgn g' e⟩
  ·omega
 have kf:∀q,q<W6.heap.size→q≠g→(Value.slice C ps.length cw).ownBlock≠some q→(w7.setCell ⟨g,3,none⟩ (.slice (some ⟨g',0,none⟩) (ps.length+1) cap)).heap[q]? =W6.heap[q]? :=fun q hq h1 h2=>(ks q h1).trans (kp q hq h2);have nob:∀q,q<W6.heap.size→(some q≠(Value.slice C ps.length cw).ownBlock)→some q≠(Value.slice (some ⟨g',0,none⟩) (ps.length+1) cap).ownBlock:=fun q hq hn e=>by
  simp only[Value.ownBlock,Oi]at e;subst e;rcases hl with e|e
  ·exact hn e.symm
  ·omega
 refine⟨h6.tp.keep (kf _ (by omega) (by omega) fun e=>by have:=hob _ e;omega),⟨hg.os.trans h6.bel.os,hg.tape.trans h6.bel.tape,hg.output.trans h6.bel.output,by have:=h6.bel.size;omega,fun q hq=>(kf q (by have:=h6.bel.size;omega) (by omega) fun e=>by have:=hob _ e;omega).trans (h6.bel.block q hq)⟩,hgl,?_,?_,?_,?_,?_⟩
 ·rw[hlen];exact aE (i:=3) (u:=.slice (some ⟨g',0,none⟩) (ps.length+1) cap) ((kp g e6 fun e=>hgn g e rfl).trans h6.blk)
 ·refine⟨by rw[hlen];exact aC hown fun q _ hv=>ks q (by simp only[Value.ownBlock,Oi]at hv;rw[←hv];exact gI.2),fun q hq=> ?_,fun i ci mi hi=> ?_⟩
  ·simp only[Value.ownBlock,Oi]at hq;subst hq;exact gI
  ·rw[hlen];have hyl:=h.wo.own.1;by_cases hip:i<ps.length
   ·rw[Gc hip]at hi;obtain⟨a1,x',y',z',a2,a3,a4,a5⟩:=h6.wo.words i ci mi hi;have ka:∀j v,j<4→ys[i*4+j]? =some v→(ys++ys9)[i*4+j]? =some v:=fun j v hj hv=>(Gc (by omega)).trans hv;refine⟨ka 0 _ (by omega) a1,x',y',z',ka 1 _ (by omega) a2,ka 2 _ (by omega) a3,ka 3 _ (by omega) a4,?_⟩;exact a5.keep (by omega) (fun q hq hi=>⟨hi.1,nob q hq hi.2⟩) fun q hq hi=>kf q hq hi.1.2 fun e=>hi.2 e.symm
   ·rw[Ga (by omega)]at hi;have hi0:i-ps.length=0:=by
     have:=(Gu.1 hi).1;simp at this;omega
    rw[hi0]at hi;obtain⟨a1,x',y',z',a2,a3,a4,a5⟩:=h9.words 0 ci mi hi;have ka:∀j v,ys9[0*4+j]? =some v→(ys++ys9)[i*4+j]? =some v:=fun j v hv=>by
     rw[Ga (by omega),show i*4+j-ys.length=0*4+j by omega];exact hv
    refine⟨ka 0 _ a1,x',y',z',ka 1 _ a2,ka 2 _ a3,ka 3 _ a4,?_⟩;have hnb:∀q,b9≤q→(Value.slice C ps.length cw).ownBlock≠some q:=fun q hq e=>by have:=hob q e;omega
    exact a5.keep (by omega) (fun q hq hi=>by
     have h1:b9≤q:=hi.1
     exact⟨⟨by omega,by omega⟩,nob q hq fun e=>hnb q h1 e.symm⟩) fun q hq hi=>by
     have h1:b9≤q:=hi.1;exact kf q hq (by omega) (hnb q h1)
 ·exact rzn_keep h6.left (by omega) fun _ _ h=>h
 ·exact rzn_keep h6.x (by omega) fun _ _ h=>h
 ·intro p hp;rcases Ma.1 hp with q|q
  ·exact h.ok p q
  ·rw[Mt.1 q];exact hc
theorem CcI.bz(h:CcI w A n c g ps C cw ys l0 l1 l2 x0 x1 x2 W)(hl:ps.length≤maxLen):Bz W (fun q=>w.heap.size<q∧q≠g) (wordsB ps) C ps.length l0 l1 l2 x0 x1 x2:=
 ⟨by show I64 0;unfold I64;omega,by show I64 0;unfold I64;omega,by show I64 0;unfold I64;omega,h.wo.wz hl h.ok,h.left,h.x⟩
end
theorem flat_at{k:Nat}:∀(L:List (List Value)),(∀l∈L,l.length=k)→∀(i j:Nat) (l:List Value),L[i]? =some l→j<k→L.flatten[i*k+j]? =l[j]? :=by
 intro L;induction L with
 |nil=>intro _ i j l h;simp at h
 |cons a r ih=>
  intro hl i j l h hj;have ha:a.length=k:=hl a (Mu ..);rw[List.flatten_cons];rcases i with _|i
  ·simp only[List.getElem?_cons_zero,Oi]at h;subst h;rw[show 0*k+j=j by omega,Gc (by omega)]
  ·rw[List.getElem?_cons_succ]at h;have e:(i+1)*k=i*k+k:=Nat.succ_mul i k;rw[Ga (by omega),ha,show(i+1)*k+j-k=i*k+j by omega];exact ih (fun l hl'=>hl l (Mm _ hl')) i j l h hj
theorem lz_seven{W:World}{I:Nat→Prop}{gX:Nat}(L:List (List Value))(bs:List Bk)(h:W.heap[gX]? =some (.cells ⟨L.flatten⟩ 54 (0,0)))(hI:I gX)(hn:bs.length≤maxLen)(hL:∀l∈L,l.length=11)
 (hk:∀(i:Nat) (b:Bk),bs[i]? =some b→∃(A:Option Addr) (k c:Nat) (l0 l1 l2 x0 x1 x2:Value),L[i]? =some (cellsB b A k c l0 l1 l2 x0 x1 x2)∧Bz W (fun j=>I j∧j≠gX) b A k l0 l1 l2 x0 x1 x2):Lz W I (some ⟨gX,0,none⟩) bs.length bs:=
 lz_at hI (hlS h) hn fun i b hb=>by
  obtain⟨A,k,c,l0,l1,l2,x0,x1,x2,e,hz⟩:=hk i b hb;refine⟨A,k,c,l0,l1,l2,x0,x1,x2,fun j v hj=> ?_,hz⟩;have hj11:j<11:=(Gu.1 hj).1;exact(Ro W gX (i*11+j) _ _ _ h).trans (by rw[List.getElem?_toArray,flat_at L hL i j _ e hj11];exact hj)
theorem hq_only{b q:Nat}{W W':World}{x:Obj}(h:b<q∧W.heap[q]? =some x)(ho:Only b W W'):b<q∧W'.heap[q]? =some x:=⟨h.1,(ho.2.2.2.2 q (hlS h.2) (by have:=h.1;omega)).trans h.2⟩
theorem bz_only{b:Nat}{W W':World}{k:Bk}{A:Option Addr}{n:Nat}{l0 l1 l2 x0 x1 x2:Value}(h:Bz W (fun q=>b<q) k A n l0 l1 l2 x0 x1 x2)(ho:Only b W W'):Bz W' (fun q=>b<q) k A n l0 l1 l2 x0 x1 x2:=
 h.keep ho.size (fun _ _ h=>h) fun q hq hi=>ho.2.2.2.2 q hq (by have h1:b<q:=hi;omega)
theorem CcI.lt{w W:World}{A C:Option Addr}{n c g cw:Nat}{ps:List (Int×Int)}{ys:List Value}{l0 l1 l2 x0 x1 x2:Value}(h:CcI w A n c g ps C cw ys l0 l1 l2 x0 x1 x2 W):w.heap.size<W.heap.size:=Nat.lt_trans h.gl (hlS h.blk)
theorem bz_at{b:Nat}{W W':World}{k:Bk}{A:Option Addr}{n:Nat}{l0 l1 l2 x0 x1 x2:Value}(h:Bz W' (fun q=>W.heap.size≤q) k A n l0 l1 l2 x0 x1 x2)(hb:b<W.heap.size):Bz W' (fun q=>b<q) k A n l0 l1 l2 x0 x1 x2:=
 h.keep (Le _) (fun q _ hi=>Lt hb hi) fun _ _ _=>rfl
theorem bz_end{b:Nat}{W W':World}{J:Nat→Prop}{k:Bk}{A:Option Addr}{n:Nat}{l0 l1 l2 x0 x1 x2:Value}(h:Bz W J k A n l0 l1 l2 x0 x1 x2)(hJ:∀q,J q→b<q)(hb:Bw W W'):Bz W' (fun q=>b<q∧q≠W.heap.size) k A n l0 l1 l2 x0 x1 x2:=
 h.keep hb.size (fun q hq hi=>⟨hJ q hi,Nat.ne_of_lt hq⟩) fun q hq _=>hb.block q hq
def CcR(w:World)(A:Option Addr)(n c g:Nat)(i v:Value)(W:World):Prop:=
 ∃(k:Nat) (ps:List (Int×Int)) (C:Option Addr) (cw:Nat) (ys:List Value) (lo ln:Int) (lA:Option Addr) (lk lc:Nat) (xo xn:Int) (xA:Option Addr) (xk xc:Nat),i=.int .i64 (k:Int)∧k≤4∧ps.length+k≤5∧CcI w A n c g ps C cw ys (.int .i64 lo) (.int .i64 ln) (.slice lA lk lc) (.int .i64 xo) (.int .i64 xn) (.slice xA xk xc) W
theorem callsLaw_any(A:Option Addr)(n c:Nat)(x:Int)(hx1: -9223372036854775808≤x)(hx2:x≤9223372036854775807)(w:World)(hl:LOK w w.heap.size A n)(ht:Tab w)(htn:Tn w):
 Calls Tryz.prog 10 #[.slice A n c,.int .i64 x] w fun e w'=>e=.returned (.bool true)∧Bw w w':=by
 have HL:=Hd hl;have HT:=Hd ht;have HTN:=Hd htn;have hts:=ht.lt;have htns:=htn.lt;clear hl ht htn;obtain⟨p,hp,hp2⟩:∃p:Nat,x%5=(p:Int)∧p≤4:=⟨(x%5).toNat,by omega,by omega⟩;have HMD:Hid (∀W:World,Calls Tryz.prog 22 #[.int .i64 x,.int .i64 5] W fun e w'=>e=.returned (.int .i64 (p:Int))∧W=w'):=fun W=>by
  have q:=bZ x 5 (by omega) (by omega) hx1 hx2 W;rw[hp]at q;exact q
 clear hp hx1 hx2;by_cases h1:n≤120
 case neg=>
  go_enter Tryz.func10,Tryz.ntmps10;go_wp2_with(first|(go_at_call 12;refine(cN _ _ _ h1 _).mono ?_;rintro e w' ⟨rfl,rfl⟩)|(go_at_call 13;refine(bX _ HT.o HTN.o).mono ?_;rintro e w2 ⟨rfl,hb⟩;have HB:=Hd hb;clear hb));go_ret;exact⟨rfl,HB.o⟩
 go_enter Tryz.func10,Tryz.ntmps10;go_upto_region 4 with(first|(go_at_call 12;refine(bE _ _ _ h1 _).mono ?_;rintro e w' ⟨rfl,rfl⟩)|(go_at_call 17;refine(dJ w w.heap.size (Le _) A n c).mono ?_;rintro e w1 ⟨rfl,hw1⟩;have HB1:Hid (Bw w w1):=(by{unfold Hid;rw[hw1];exact nB _ _});have HTP1:Hid (TapeOK w1 w.heap.size w.heap.size A n c):=(by{unfold Hid;rw[hw1];exact TapeOK.new w _ (Le _) A n c});clear hw1))
 obtain⟨W2,hW2,HB2,q2⟩:=newW w1 #[.int .i64 77,.int .i64 98,.int .i64 71,.int .i64 65,.int .i64 77,.int .i64 99,.int .i64 77,.int .i64 98,.int .i64 71,.int .i64 65] 64;have hk:∃cc cn:Int,(W2.cell? ⟨w1.heap.size,p*2,none⟩=some (.int .i64 cc)∧W2.cell? ⟨w1.heap.size,p*2+1,none⟩=some (.int .i64 cn))∧I64 cc∧0≤cn∧cn≤99:=by
  have h5:p=0∨p=1∨p=2∨p=3∨p=4:=by omega
  rcases h5 with rfl|rfl|rfl|rfl|rfl
  ·exact⟨77,98,⟨Ro W2 _ 0 _ _ _ q2,Ro W2 _ 1 _ _ _ q2⟩,by unfold I64;omega,by omega,by omega⟩
  ·exact⟨71,65,⟨Ro W2 _ 2 _ _ _ q2,Ro W2 _ 3 _ _ _ q2⟩,by unfold I64;omega,by omega,by omega⟩
  ·exact⟨77,99,⟨Ro W2 _ 4 _ _ _ q2,Ro W2 _ 5 _ _ _ q2⟩,by unfold I64;omega,by omega,by omega⟩
  ·exact⟨77,98,⟨Ro W2 _ 6 _ _ _ q2,Ro W2 _ 7 _ _ _ q2⟩,by unfold I64;omega,by omega,by omega⟩
  ·exact⟨71,65,⟨Ro W2 _ 8 _ _ _ q2,Ro W2 _ 9 _ _ _ q2⟩,by unfold I64;omega,by omega,by omega⟩
 obtain⟨cc,cn,⟨k0,k1⟩,hcc,hn1,hn2⟩:=hk;have HCC:=Hd hcc;have i0:(0:Int)≤(p:Int):=by omega
 have i1:(p:Int)<5:=by omega
 have HBW2:=Hd (HB1.o.tm HB2.o);have HTP2:=Hd (HTP1.o.below HB2.o);have hs2:=hlS q2;clear q2 hcc;go_upto_region 5 with(fail)
 rw[←hW2];clear hW2;go_upto_region 6 with(go_at_call 22;refine(HMD.o _).mono ?_;rintro e w' ⟨rfl,rfl⟩)
 obtain⟨W3,hW3,HB3,q3⟩:=newW W2 #[.int .i64 cc,.int .i64 cn] 64;have s0:=ce0 q3;have s1:=ce1 q3;rw[←hW3];clear hW3 q3 k0 k1 i0 i1;have wr1:IntKind.i64.wrap (cn*1000000)=cn*1000000:=IntWalk.i64_in _ (by omega);obtain⟨W4,hW4,HB4,q4⟩:=newW W3 #[.int .i64 cc,.int .i64 (cn*1000000)] 3;have HWC:=Hd (words_q W4 W3.heap.size 2 cc (cn*1000000) q4 HCC.o (by omega) (by omega));have HBW4:=Hd ((HBW2.o.tm HB3.o).trans (HB4.o.mono (Ly HBW2.o.size HB3.o.size)));have HTP4:=Hd ((HTP2.o.below HB3.o).below HB4.o);have hw4:w.heap.size+1≤W3.heap.size:=by have:=HTP2.o.lt;have:=HB3.o.size;omega
 clear q4;go_wp2_with fail;rw[←hW4];clear hW4 wr1;refine HWC.o.mono ?_;rintro e w5 ⟨gw,cw,lo,ln,lA,lk,lc,xo,xn,xA,xk,xc,ys,rfl,hb,hz,hown⟩;obtain⟨W6,hW6,HB6,q6⟩:=newW w5 #[.int .i64 0,.int .i64 0,.bool false,.slice (some ⟨gw,0,none⟩) 1 cw,.int .i64 lo,.int .i64 ln,.slice lA lk lc,.int .i64 xo,.int .i64 xn,.slice xA xk xc,.int .i64 0] 54;have hw5:w.heap.size<w5.heap.size:=by have:=HB4.o.size;have:=hb.size;omega
 have HI6:Hid (CcI w A n c w5.heap.size [(cc,cn*1000000)] (some ⟨gw,0,none⟩) cw ys (.int .i64 lo) (.int .i64 ln) (.slice lA lk lc) (.int .i64 xo) (.int .i64 xn) (.slice xA xk xc) W6):=by
  have h4s:=HB4.o.size;have kI:∀q,q<w5.heap.size→W4.heap.size≤q→w.heap.size<q∧q≠w5.heap.size:=fun q h1 h2=>by omega
  have hob:=fun q hq=>(aJ hown.own (g:=q) hq).1;have hnum:Rz w5 (fun q=>W4.heap.size≤q) (numT 0) (.agg #[.int .i64 lo,.int .i64 ln,.slice lA lk lc]):=hz.left;refine⟨(HTP4.o.below hb).below HB6.o,(HBW4.o.tm hb).trans (HB6.o.mono (Ll hw5)),hw5,q6,?_,?_,?_,fun p hp=>by rw[Mt.1 hp];exact HCC.o⟩
  ·have q:=hown.keep (W':=W6) (I':=fun q=>w.heap.size<q∧q≠w5.heap.size) HB6.o.size (fun q hq _=>HB6.o.block q hq) (fun q h1 h2=>kI q h1 h2);exact⟨own_lo9 q.own (by omega),q.ownI,q.words⟩
  ·exact rzn_keep hz.left HB6.o.size fun q h1 h2=>kI q h1 h2
  ·exact rzn_keep hz.x HB6.o.size fun q h1 h2=>kI q h1 h2
 have hs6:=hlS q6;have HNX:=Hd (aY w.heap.size w.heap.size A n c 5 W6 (HL.o.below HI6.o.bel) HI6.o.tp (by omega) (by omega));have hgb:w.heap.size<w5.heap.size:=hw5;generalize hg5:w5.heap.size=g at HI6 hs6 hgb⊢
 clear hz hb hown q6 hw5 hw4 s0 s1 HWC HTP4 HBW4 HB4 HB3 HTP2 HBW2 hn1 hn2 HMD;go_upto_region 7 with(fail)
 rw[←hW6];clear hW6;go_wp2_with fail;refine HNX.o.mono ?_;rintro e w7 ⟨r0,rfl,r1,r2,htp,ho⟩;have HI7:=Hd (HI6.o.only ho htp);obtain⟨k0,rfl⟩:∃k:Nat,r0=(k:Int):=⟨r0.toNat,by omega⟩;have HR0:Hid (CcR w A n c g (.int .i64 (k0:Int)) undef w7):=⟨k0,_,_,_,_,_,_,_,_,_,_,_,_,_,_,rfl,by omega,by simp;omega,HI7.o⟩;clear ho htp HI6 HNX r1 r2;go_wp2_with fail;obtain⟨iW,zW,hiW,hW0,hWa,hWb,hWs⟩:=dL;have HIW:=Hd hiW;have HZW:=Hd hW0;clear hiW hW0;go_loopw[10,11] (CcR w A n c g) (fun i _ _=>(intOf i).toNat)
 case atStart=>exact HR0.o
 case round=>
  obtain⟨k,ps,C,cw,ys,lo,ln,lA,lk,lc,xo,xn,xA,xk,xc,rfl,hk,hpk,hI⟩:=hrel;have HI:=Hd hI;clear hI HR0 HI7;rcases k with _|k
  case succ=>
   have q1:decide (((k+1:Nat):Int)>0)=true:=Dt (by omega);have q2:decide (0<k+1)=true:=Dt (by omega);have HRG:=Hd (cG w.heap.size w.heap.size A n c (-1) 3 wr (HL.o.below HI.o.bel) HI.o.tp (by omega) (by omega) (by omega));go_wp2_with fail;refine HRG.o.mono ?_;rintro e w1 ⟨r,rfl,r1,r2,htp,ho⟩;have HI1:=Hd (HI.o.only ho htp);have wr1:IntKind.i64.wrap (r*1000000)=r*1000000:=IntWalk.i64_in _ (by omega);have HN9:=Hd (aY w.heap.size w.heap.size A n c 9 w1 (HL.o.below HI1.o.bel) HI1.o.tp (by omega) (by omega));have HV:Hid (-1000000000000000≤r*1000000∧r*1000000≤1000000000000000):=by unfold Hid;omega
   clear htp ho HI HRG r1 r2;go_wp2_with fail;refine HN9.o.mono ?_;rintro e w2 ⟨r3,rfl,r4,r5,htp,ho⟩;have HI2:=Hd (HI1.o.only ho htp);clear htp ho HI1 HN9 r4 r5;by_cases c0:r3=0;subst c0;have HNB:=Hd (fS w.heap.size w.heap.size A n c w2 (HL.o.below HI2.o.bel) HI2.o.tp HI2.o.bel.size);go_wp2_with fail;refine HNB.o.mono ?_;rintro e w3 ⟨vv,rfl,v1,v2,htp,ho⟩;have HI3:=Hd (HI2.o.only ho htp);have HVV:Hid (-1000000000000000≤vv∧vv≤1000000000000000):=by unfold Hid;omega
   clear htp ho HI2 HNB v1 v2 HV wr1;go_upto_region 14 with(fail)
   rotate_left;have g0:(r3==0)=false:=beq_eq_false_iff_ne.2 c0;clear c0;go_upto_region 14 with(fail)
   obtain⟨w3,hw3⟩:∃w3,w3=w2:=⟨_,rfl⟩;subst hw3;generalize r*1000000=vv at HV⊢
   have HVV:=HV;have HI3:=HI2;clear HV HI2 wr1 g0;all_goals
    have HS0:Hid (w3.drew.cell? ⟨g,3,none⟩=some (.slice C ps.length cw)):=Ro w3 g 3 _ _ _ HI3.o.blk;have HN11:=Hd (aY w.heap.size w.heap.size A n c 11 w3.drew (HL.o.below (aA HI3.o.bel 1)) HI3.o.tp (by omega) (by omega));have hfld:=fld_words;refine gA (S:=fun W=>W.cell? ⟨g,3,none⟩=some (.slice C ps.length cw)) 14 16 rfl (by decide) (by decide+kernel) rfl ?_;simp only[List.extract_toArray,List.extract_eq_take_drop,Nat.sub_zero,List.drop_zero,List.take_succ_cons,List.take_zero];refine tkL 0 (v:= ?_) rfl ?_ HS0.o ?_;rotate_left
    ·rintro w1-
     go_simp<;>with_reducible rfl
    try simp only[Act.put,L0,L4,L5]
    refine tkL 1 (v:= ?_) rfl ?_ HS0.o ?_;rotate_left
    ·intro w1 hSw;have y9:w1.cell? ⟨g,3,none⟩=some (.slice C ps.length cw):=hSw;clear hSw;go_simp<;>with_reducible rfl
    try simp only[Act.put,L0,L4,L5]
    refine tkL 2 (v:= ?_) rfl ?_ HS0.o ?_;rotate_left
    ·rintro w1-
     go_simp<;>with_reducible rfl
    try simp only[Act.put,L0,L4,L5]
    refine tkL 3 (v:= ?_) rfl ?_ HS0.o ?_;rotate_left
    ·rintro w1-
     go_simp<;>with_reducible rfl
    try simp only[Act.put,L0,L4,L5]
    refine tkL 4 (v:= ?_) rfl ?_ HS0.o ?_;rotate_left
    ·rintro w1-
     go_simp<;>with_reducible rfl
    try simp only[Act.put,L0,L4,L5]
    refine tkL 5 (v:= ?_) rfl ?_ HS0.o ?_;rotate_left
    ·rintro w1-
     go_simp<;>with_reducible rfl
    try simp only[Act.put,L0,L4,L5]
    refine tkL 9 (v:= ?_) rfl ?_ HS0.o ?_;rotate_left
    ·rintro w1-
     go_simp<;>with_reducible rfl
    try simp only[Act.put,L0,L4,L5]
    refine rd1 6 rfl fun K hK=> ?_;go_simp;go_at_call 25;refine HN11.o.mono ?_;rintro e w4 ⟨r6,rfl,r7,r8,htp,ho⟩;have HI4:=Hd (HI3.o.only ⟨ho.1,ho.2.1,ho.2.2.1,ho.2.2.2.1,ho.2.2.2.2⟩ htp);have hg4:=hlS HI4.o.blk;have y4:w4.cell? ⟨g,3,none⟩=some (.slice C ps.length cw):=Ro w4 g 3 _ _ _ HI4.o.blk;have HS4:=Hd y4;have r9:r6<11:=by omega
    clear htp ho HS0 HN11;refine hK.o _ _ y4 (fun hHeld=> ?_);clear hK K hHeld;try simp only[Act.put,L0,L4,L5]
    refine tkL 7 (v:= ?_) rfl ?_ HS4.o ?_;rotate_left
    ·rintro w1-
     go_simp<;>with_reducible rfl
    try simp only[Act.put,L0,L4,L5]
    refine tkL 8 (v:= ?_) rfl ?_ HS4.o ?_;rotate_left
    ·rintro w1-
     go_simp<;>with_reducible rfl
    try simp only[Act.put,L0,L4,L5]
    refine rd1 10 rfl fun K hK=> ?_;go_simp;refine hK.o _ _ ((((Bf w4.heap.size w4).alloc (Le _) _).cel g 3 hg4).trans y4) (fun hHeld=> ?_);clear hK K hHeld;try simp only[Act.put,L0,L4,L5]
    refine rd1 11 rfl fun K hK=> ?_;go_simp;go_at_call 24;refine(words_q _ _ _ _ _ (Hn _ _) (i64w _) HVV.o.1 HVV.o.2).mono ?_;rintro e w6 ⟨g9,cw9,lo',ln',lA',lk',lc',xo',xn',xA',xk',xc',ys9,rfl,hb,_,hown⟩;obtain⟨ho6,hi6⟩:=HI4.o.later hb;have HO6:=Hd ho6;have HI6:=Hd hi6;have HOW:=Hd hown;have HS6:Hid (w6.cell? ⟨g,3,none⟩=some (.slice C ps.length cw)):=Ro w6 g 3 _ _ _ HI6.o.blk;clear hb ho6 hi6 hown;refine hK.o _ _ HS6.o (fun hHeld=> ?_);clear hK K hHeld;try simp only[Act.put,L0,L4,L5]
    refine tkL 12 (v:= ?_) rfl ?_ HS6.o ?_;rotate_left
    ·rintro w1-
     go_simp<;>with_reducible rfl
    try simp only[Act.put,L0,L4,L5]
    refine rd1 13 rfl fun K hK=> ?_;refine step_append_lies _ rfl (.tmp 54) (.tmp 65) 49 rfl (w.heap.size+1) 57 iW zW 4 48 Tryz.underlying49 HIW.o HZW.o hWa hWb hWs (by omega) (.slice C ps.length cw) ps.length ys (by simp[Act.eval,Act.put]) HI6.o.wo.own ⟨g9,0,none⟩ 1 cw9 ys9 (by simp[Act.eval,Act.put]) HOW.o.one2.1 HOW.o.one2.2.1 HOW.o.one2.2.2 (by omega) (by unfold maxLen;omega) (by omega) (by have:=HI6.o.bel.size;have:=hlS HI6.o.blk;have:=HI6.o.gl;omega) _ rfl ?_;intro g8 c8 w8 ho8 hg8 hl8 hlt8;have HP:=Hd (HI4.o.push HO6.o HI6.o.tp (nB _ _).size HOW.o (i64w _) ho8 hg8 hl8);have hk8:=(hg8.block g (hlS HI6.o.blk) (fun e=>(HI6.o.wo.ownI g e.symm).2 rfl)).trans HI6.o.blk;have y8:w8.cell? ⟨g,3,none⟩=some (.slice C ps.length cw):=Ro w8 g 3 _ _ _ hk8;have yf:w8.frozen? ⟨g,3,none⟩=false:=by simp[World.frozen?,hk8]
    clear ho8 hg8 hl8 hk8;refine hK.o _ _ y8 (fun hHeld=> ?_);clear hK K hHeld;try simp only[Act.put,L0,L4,L5]
    refine wpAnyH_done (by decide+kernel) ⟨rfl,?_⟩ _;refine wpAny_ready (rs:=[14]) (by decide+kernel) (by simp) ?_;refine AllReady.cons rfl (fun K hK=> ?_) AllReady.nil;go_simp;refine hK _ _ ?_;clear hK K;try simp only[Act.put,L0,L4,L5]
    refine wpAny_ready (rs:=[15]) (by decide+kernel) (by simp) ?_;refine AllReady.cons rfl (fun K hK=> ?_) AllReady.nil;go_simp;refine hK _ _ ?_;clear hK K;try simp only[Act.put,L0,L4,L5]
    refine wpAny_done (by decide+kernel) ?_ _;go_wp2_with fail;exact⟨⟨k,ps++[(_,vv)],some ⟨g8,0,none⟩,c8,ys++ys9,lo,ln,lA,lk,lc,xo,xn,xA,xk,xc,by go_num,by omega,by simp;omega,HP.o⟩,by simp only[intOf];omega⟩
  case zero=>
   obtain⟨wc,hwc⟩:∃wc,wc=wr.drew:=⟨_,rfl⟩;have HI0:Hid (CcI w A n c g ps C cw ys (.int .i64 lo) (.int .i64 ln) (.slice lA lk lc) (.int .i64 xo) (.int .i64 xn) (.slice xA xk xc) wc):=by unfold Hid;rw[hwc];exact HI.o.only ((Only.refl _ _).drewN 1) HI.o.tp
   clear HI;have HI:=HI0;have hps:ps.length≤5:=by omega
   clear HI0 hk hpk HIW HZW hWa hWb hWs;go_upto_region 15 with(fail)
   have HS:Hid (wr.drew.heap[g]? =some (.cells #[.int .i64 0,.int .i64 0,.bool false,.slice C ps.length cw,.int .i64 lo,.int .i64 ln,.slice lA lk lc,.int .i64 xo,.int .i64 xn,.slice xA xk xc,.int .i64 0] 54 (0,0))):=by unfold Hid;rw[←hwc];exact HI.o.blk
   refine wp_region_noPanic ?_;refine wp_region_held_drew (S:=fun W=>W.heap[g]? =some (.cells #[.int .i64 0,.int .i64 0,.bool false,.slice C ps.length cw,.int .i64 lo,.int .i64 ln,.slice lA lk lc,.int .i64 xo,.int .i64 xn,.slice xA xk xc,.int .i64 0] 54 (0,0))) (by kernel_rfl) HS.o (fun hHeld=> ?_);clear hHeld;rw[←hwc]at HS⊢
   refine tkL 0 (v:= ?_) rfl ?_ HS.o ?_;rotate_left
   ·intro w1 hSw;have hSw:w1.heap[g]? =some (.cells #[.int .i64 0,.int .i64 0,.bool false,.slice C ps.length cw,.int .i64 lo,.int .i64 ln,.slice lA lk lc,.int .i64 xo,.int .i64 xn,.slice xA xk xc,.int .i64 0] 54 (0,0)):=hSw;have z0:=ce0 hSw;have z1:=ce1 hSw;have z2:=ce2 hSw;have z3:=ce3 hSw;have z4:=ce4 hSw;have z5:=ce5 hSw;have z6:=ce6 hSw;have z7:w1.cell? ⟨g,7,none⟩=some (.int .i64 xo):=Ro w1 g 7 _ _ _ hSw;have z8:w1.cell? ⟨g,8,none⟩=some (.int .i64 xn):=Ro w1 g 8 _ _ _ hSw;have z9:w1.cell? ⟨g,9,none⟩=some (.slice xA xk xc):=Ro w1 g 9 _ _ _ hSw;have z10:w1.cell? ⟨g,10,none⟩=some (.int .i64 0):=Ro w1 g 10 _ _ _ hSw;clear hSw;go_simp<;>with_reducible rfl
   try simp only[Act.put,L0,L4,L5]
   refine tkL 3 (v:= ?_) rfl ?_ HS.o ?_;rotate_left
   ·rintro w1-
    go_simp<;>with_reducible rfl
   try simp only[Act.put,L0,L4,L5]
   refine tkL 4 (v:= ?_) rfl ?_ HS.o ?_;rotate_left
   ·rintro w1-
    go_simp<;>with_reducible rfl
   try simp only[Act.put,L0,L4,L5]
   refine tkL 8 (v:= ?_) rfl ?_ HS.o ?_;rotate_left
   ·rintro w1-
    go_simp<;>with_reducible rfl
   try simp only[Act.put,L0,L4,L5]
   refine tkL 9 (v:= ?_) rfl ?_ HS.o ?_;rotate_left
   ·intro w1 hSw;have hSw:w1.heap[g]? =some (.cells #[.int .i64 0,.int .i64 0,.bool false,.slice C ps.length cw,.int .i64 lo,.int .i64 ln,.slice lA lk lc,.int .i64 xo,.int .i64 xn,.slice xA xk xc,.int .i64 0] 54 (0,0)):=hSw;have z0:=ce0 hSw;have z1:=ce1 hSw;have z2:=ce2 hSw;have z3:=ce3 hSw;have z4:=ce4 hSw;have z5:=ce5 hSw;have z6:=ce6 hSw;have z7:w1.cell? ⟨g,7,none⟩=some (.int .i64 xo):=Ro w1 g 7 _ _ _ hSw;have z8:w1.cell? ⟨g,8,none⟩=some (.int .i64 xn):=Ro w1 g 8 _ _ _ hSw;have z9:w1.cell? ⟨g,9,none⟩=some (.slice xA xk xc):=Ro w1 g 9 _ _ _ hSw;have z10:w1.cell? ⟨g,10,none⟩=some (.int .i64 0):=Ro w1 g 10 _ _ _ hSw;clear hSw;go_simp<;>with_reducible rfl
   try simp only[Act.put,L0,L4,L5]
   clear HS hwc;refine rd2 1 10 rfl rfl (fun K hK=> ?_) fun K hK=> ?_;rotate_left;go_simp;obtain⟨wn,hwn,hbn,hqn⟩:=newW wc #[.int .i64 89,.int .i64 1000000] 3;rw[←hwn];have ho:Only w.heap.size wc wn:=Only.of_below hbn.o;have htp:=HI.o.tp.below hbn.o;have HQ3':Hid (w.heap.size<wc.heap.size∧wn.heap[wc.heap.size]? =some (.cells #[.int .i64 89,.int .i64 1000000] 3 (0,0))):=⟨HI.o.lt,hqn⟩;generalize wc.heap.size=q3 at HQ3'⊢
   replace HI:=Hd (HI.o.only ho htp);try replace HZ1:=Hd (bz_only HZ1.o ho)
   try replace HZ2:=Hd (bz_only HZ2.o ho)
   try replace HQ1:=Hd (hq_only HQ1.o ho)
   try replace HQ2:=Hd (hq_only HQ2.o ho)
   have HQ3:=HQ3';clear HQ3' hwn hbn hqn ho htp;obtain⟨wc,rfl⟩:∃z,z=wn:=⟨_,rfl⟩;refine hK.o _ _ HI.o.blk (fun hHeld=> ?_);clear hK K hHeld;try simp only[Act.put,L0,L4,L5]
   all_goals try(refine Wr (rs:=[1]) (by decide+kernel) (by simp) ?_;refine Rc1 rfl (fun K hK=> ?_) Rn1)
   rotate_right;all_goals
    go_simp;obtain⟨wn,hwn,hbn,hqn⟩:=newW wc #[.int .i64 71,.int .i64 1000000] 3;rw[←hwn];have ho:Only w.heap.size wc wn:=Only.of_below hbn.o;have htp:=HI.o.tp.below hbn.o;have HQ1':Hid (w.heap.size<wc.heap.size∧wn.heap[wc.heap.size]? =some (.cells #[.int .i64 71,.int .i64 1000000] 3 (0,0))):=⟨HI.o.lt,hqn⟩;generalize wc.heap.size=q1 at HQ1'⊢
    replace HI:=Hd (HI.o.only ho htp);try replace HQ3:=Hd (hq_only HQ3.o ho)
    have HQ1:=HQ1';clear HQ1' hwn hbn hqn ho htp;obtain⟨wc,rfl⟩:∃z,z=wn:=⟨_,rfl⟩;refine hK.o _ _ HI.o.blk (fun hHeld=> ?_);clear hK K hHeld;try simp only[Act.put,L0,L4,L5]
   refine rd2 2 10 rfl rfl (fun K hK=> ?_) fun K hK=> ?_;rotate_left;go_simp;obtain⟨wn,hwn,hbn,hqn⟩:=newW wc #[.int .i64 89,.int .i64 1000000] 3;rw[←hwn];have ho:Only w.heap.size wc wn:=Only.of_below hbn.o;have htp:=HI.o.tp.below hbn.o;have HQ3':Hid (w.heap.size<wc.heap.size∧wn.heap[wc.heap.size]? =some (.cells #[.int .i64 89,.int .i64 1000000] 3 (0,0))):=⟨HI.o.lt,hqn⟩;generalize wc.heap.size=q3 at HQ3'⊢
   replace HI:=Hd (HI.o.only ho htp);try replace HZ1:=Hd (bz_only HZ1.o ho)
   try replace HZ2:=Hd (bz_only HZ2.o ho)
   try replace HQ1:=Hd (hq_only HQ1.o ho)
   try replace HQ2:=Hd (hq_only HQ2.o ho)
   have HQ3:=HQ3';clear HQ3' hwn hbn hqn ho htp;obtain⟨wc,rfl⟩:∃z,z=wn:=⟨_,rfl⟩;refine hK.o _ _ HI.o.blk (fun hHeld=> ?_);clear hK K hHeld;try simp only[Act.put,L0,L4,L5]
   all_goals try(refine Wr (rs:=[2]) (by decide+kernel) (by simp) ?_;refine Rc1 rfl (fun K hK=> ?_) Rn1)
   rotate_right;all_goals
    go_simp;go_at_call 24;refine(words_q _ _ _ _ _ HQ1.o.2 (by unfold I64;omega) (by omega) (by omega)).mono ?_;rintro e wn ⟨e1,f1,a1,b1,A1,k1,d1,p1,r1,P1,s1,t1,y1,rfl,hbn,hz,-⟩;have ho:Only w.heap.size wc wn:=Only.of_below hbn;have htp:=HI.o.tp.below hbn;have HZ1':=Hd (bz_at hz HI.o.lt);replace HI:=Hd (HI.o.only ho htp);try replace HQ3:=Hd (hq_only HQ3.o ho)
    have HZ1:=HZ1';clear HZ1' hbn hz ho htp HQ1;obtain⟨wc,rfl⟩:∃z,z=wn:=⟨_,rfl⟩;refine hK.o _ _ HI.o.blk (fun hHeld=> ?_);clear hK K hHeld;try simp only[Act.put,L0,L4,L5]
   refine rd2 5 10 rfl rfl (fun K hK=> ?_) fun K hK=> ?_;rotate_left;go_simp;obtain⟨wn,hwn,hbn,hqn⟩:=newW wc #[.int .i64 89,.int .i64 1000000] 3;rw[←hwn];have ho:Only w.heap.size wc wn:=Only.of_below hbn.o;have htp:=HI.o.tp.below hbn.o;have HQ3':Hid (w.heap.size<wc.heap.size∧wn.heap[wc.heap.size]? =some (.cells #[.int .i64 89,.int .i64 1000000] 3 (0,0))):=⟨HI.o.lt,hqn⟩;generalize wc.heap.size=q3 at HQ3'⊢
   replace HI:=Hd (HI.o.only ho htp);try replace HZ1:=Hd (bz_only HZ1.o ho)
   try replace HZ2:=Hd (bz_only HZ2.o ho)
   try replace HQ1:=Hd (hq_only HQ1.o ho)
   try replace HQ2:=Hd (hq_only HQ2.o ho)
   have HQ3:=HQ3';clear HQ3' hwn hbn hqn ho htp;obtain⟨wc,rfl⟩:∃z,z=wn:=⟨_,rfl⟩;refine hK.o _ _ HI.o.blk (fun hHeld=> ?_);clear hK K hHeld;try simp only[Act.put,L0,L4,L5]
   all_goals try(refine Wr (rs:=[5]) (by decide+kernel) (by simp) ?_;refine Rc1 rfl (fun K hK=> ?_) Rn1)
   rotate_right;all_goals
    go_simp;go_at_call 25;refine(aY w.heap.size w.heap.size A n c 9 wc (HL.o.below HI.o.bel) HI.o.tp (by omega) (by omega)).mono ?_;rintro e wn ⟨rX,rfl,rX1,rX2,htp,ho⟩;replace HI:=Hd (HI.o.only ho htp);try replace HZ1:=Hd (bz_only HZ1.o ho)
    try replace HQ3:=Hd (hq_only HQ3.o ho)
    clear ho htp;obtain⟨wc,rfl⟩:∃z,z=wn:=⟨_,rfl⟩;refine hK.o _ _ HI.o.blk (fun hHeld=> ?_);clear hK K hHeld;try simp only[Act.put,L0,L4,L5]
   refine rd2 6 10 rfl rfl (fun K hK=> ?_) fun K hK=> ?_;rotate_left;go_simp;obtain⟨wn,hwn,hbn,hqn⟩:=newW wc #[.int .i64 89,.int .i64 1000000] 3;rw[←hwn];have ho:Only w.heap.size wc wn:=Only.of_below hbn.o;have htp:=HI.o.tp.below hbn.o;have HQ3':Hid (w.heap.size<wc.heap.size∧wn.heap[wc.heap.size]? =some (.cells #[.int .i64 89,.int .i64 1000000] 3 (0,0))):=⟨HI.o.lt,hqn⟩;generalize wc.heap.size=q3 at HQ3'⊢
   replace HI:=Hd (HI.o.only ho htp);try replace HZ1:=Hd (bz_only HZ1.o ho)
   try replace HZ2:=Hd (bz_only HZ2.o ho)
   try replace HQ1:=Hd (hq_only HQ1.o ho)
   try replace HQ2:=Hd (hq_only HQ2.o ho)
   have HQ3:=HQ3';clear HQ3' hwn hbn hqn ho htp;obtain⟨wc,rfl⟩:∃z,z=wn:=⟨_,rfl⟩;refine hK.o _ _ HI.o.blk (fun hHeld=> ?_);clear hK K hHeld;try simp only[Act.put,L0,L4,L5]
   all_goals try(refine Wr (rs:=[6]) (by decide+kernel) (by simp) ?_;refine Rc1 rfl (fun K hK=> ?_) Rn1)
   rotate_right;all_goals
    go_simp;obtain⟨wn,hwn,hbn,hqn⟩:=newW wc #[.int .i64 88,.int .i64 rX] 3;rw[←hwn];have ho:Only w.heap.size wc wn:=Only.of_below hbn.o;have htp:=HI.o.tp.below hbn.o;have HQ2':Hid (w.heap.size<wc.heap.size∧wn.heap[wc.heap.size]? =some (.cells #[.int .i64 88,.int .i64 rX] 3 (0,0))):=⟨HI.o.lt,hqn⟩;generalize wc.heap.size=q2 at HQ2'⊢
    replace HI:=Hd (HI.o.only ho htp);try replace HZ1:=Hd (bz_only HZ1.o ho)
    try replace HQ3:=Hd (hq_only HQ3.o ho)
    have HQ2:=HQ2';clear HQ2' hwn hbn hqn ho htp;obtain⟨wc,rfl⟩:∃z,z=wn:=⟨_,rfl⟩;refine hK.o _ _ HI.o.blk (fun hHeld=> ?_);clear hK K hHeld;try simp only[Act.put,L0,L4,L5]
   refine rd2 7 10 rfl rfl (fun K hK=> ?_) fun K hK=> ?_;rotate_left;go_simp;obtain⟨wn,hwn,hbn,hqn⟩:=newW wc #[.int .i64 89,.int .i64 1000000] 3;rw[←hwn];have ho:Only w.heap.size wc wn:=Only.of_below hbn.o;have htp:=HI.o.tp.below hbn.o;have HQ3':Hid (w.heap.size<wc.heap.size∧wn.heap[wc.heap.size]? =some (.cells #[.int .i64 89,.int .i64 1000000] 3 (0,0))):=⟨HI.o.lt,hqn⟩;generalize wc.heap.size=q3 at HQ3'⊢
   replace HI:=Hd (HI.o.only ho htp);try replace HZ1:=Hd (bz_only HZ1.o ho)
   try replace HZ2:=Hd (bz_only HZ2.o ho)
   try replace HQ1:=Hd (hq_only HQ1.o ho)
   try replace HQ2:=Hd (hq_only HQ2.o ho)
   have HQ3:=HQ3';clear HQ3' hwn hbn hqn ho htp;obtain⟨wc,rfl⟩:∃z,z=wn:=⟨_,rfl⟩;refine hK.o _ _ HI.o.blk (fun hHeld=> ?_);clear hK K hHeld;try simp only[Act.put,L0,L4,L5]
   all_goals try(refine Wr (rs:=[7]) (by decide+kernel) (by simp) ?_;refine Rc1 rfl (fun K hK=> ?_) Rn1)
   rotate_right;all_goals
    go_simp;go_at_call 24;refine(words_q _ _ _ _ _ HQ2.o.2 (by unfold I64;omega) (by omega) (by omega)).mono ?_;rintro e wn ⟨e2,f2,a2,b2,A2,k2,d2,p2,r2,P2,s2,t2,y2,rfl,hbn,hz,-⟩;have ho:Only w.heap.size wc wn:=Only.of_below hbn;have htp:=HI.o.tp.below hbn;have HZ2':=Hd (bz_at hz HI.o.lt);replace HI:=Hd (HI.o.only ho htp);try replace HZ1:=Hd (bz_only HZ1.o ho)
    try replace HQ3:=Hd (hq_only HQ3.o ho)
    have HZ2:=HZ2';clear HZ2' hbn hz ho htp HQ2;obtain⟨wc,rfl⟩:∃z,z=wn:=⟨_,rfl⟩;refine hK.o _ _ HI.o.blk (fun hHeld=> ?_);clear hK K hHeld;try simp only[Act.put,L0,L4,L5]
   refine rd1 10 rfl fun K hK=> ?_;go_simp;obtain⟨wn,hwn,hbn,hqn⟩:=newW wc #[.int .i64 89,.int .i64 1000000] 3;rw[←hwn];have ho:Only w.heap.size wc wn:=Only.of_below hbn.o;have htp:=HI.o.tp.below hbn.o;have HQ3':Hid (w.heap.size<wc.heap.size∧wn.heap[wc.heap.size]? =some (.cells #[.int .i64 89,.int .i64 1000000] 3 (0,0))):=⟨HI.o.lt,hqn⟩;generalize wc.heap.size=q3 at HQ3'⊢
   replace HI:=Hd (HI.o.only ho htp);try replace HZ1:=Hd (bz_only HZ1.o ho)
   try replace HZ2:=Hd (bz_only HZ2.o ho)
   try replace HQ1:=Hd (hq_only HQ1.o ho)
   try replace HQ2:=Hd (hq_only HQ2.o ho)
   have HQ3:=HQ3';clear HQ3' hwn hbn hqn ho htp;obtain⟨wc,rfl⟩:∃z,z=wn:=⟨_,rfl⟩;refine hK.o _ _ HI.o.blk (fun hHeld=> ?_);clear hK K hHeld;try simp only[Act.put,L0,L4,L5]
   all_goals
    refine rd1 11 rfl fun K hK=> ?_;go_simp;go_at_call 24;refine(words_q _ _ _ _ _ HQ3.o.2 (by unfold I64;omega) (by omega) (by omega)).mono ?_;rintro e wn ⟨e3,f3,a3,b3,A3,k3,d3,p3,r3,P3,s3,t3,y3,rfl,hbn,hz,-⟩;have ho:Only w.heap.size wc wn:=Only.of_below hbn;have htp:=HI.o.tp.below hbn;have HZ3':=Hd (bz_at hz HI.o.lt);replace HI:=Hd (HI.o.only ho htp);try replace HZ1:=Hd (bz_only HZ1.o ho)
    try replace HZ2:=Hd (bz_only HZ2.o ho)
    have HZ3:=HZ3';clear HZ3' hbn hz ho htp HQ3;obtain⟨wc,rfl⟩:∃z,z=wn:=⟨_,rfl⟩;refine hK.o _ _ HI.o.blk (fun hHeld=> ?_);clear hK K hHeld;try simp only[Act.put,L0,L4,L5]
    refine rd1 12 rfl fun K hK=> ?_;go_simp;obtain⟨W9,hW9,HB9,q9⟩:=newW wc #[.int .i64 0,.int .i64 0,.bool false,.slice C ps.length cw,.int .i64 lo,.int .i64 ln,.slice lA lk lc,.int .i64 xo,.int .i64 xn,.slice xA xk xc,.int .i64 0,.int .i64 0,.int .i64 0,.bool false,.slice (some ⟨e1,0,none⟩) 1 f1,.int .i64 a1,.int .i64 b1,.slice A1 k1 d1,.int .i64 p1,.int .i64 r1,.slice P1 s1 t1,.int .i64 0,.int .i64 6,.int .i64 0,.bool false,.slice none 0 0,.int .i64 0,.int .i64 0,.slice none 0 0,.int .i64 0,.int .i64 0,.slice none 0 0,.int .i64 1,.int .i64 0,.int .i64 0,.bool false,.slice (some ⟨e2,0,none⟩) 1 f2,.int .i64 a2,.int .i64 b2,.slice A2 k2 d2,.int .i64 p2,.int .i64 r2,.slice P2 s2 t2,.int .i64 0,.int .i64 6,.int .i64 0,.bool false,.slice none 0 0,.int .i64 0,.int .i64 0,.slice none 0 0,.int .i64 0,.int .i64 0,.slice none 0 0,.int .i64 2,.int .i64 0,.int .i64 0,.bool false,.slice C ps.length cw,.int .i64 lo,.int .i64 ln,.slice lA lk lc,.int .i64 xo,.int .i64 xn,.slice xA xk xc,.int .i64 0,.int .i64 0,.int .i64 0,.bool false,.slice (some ⟨e3,0,none⟩) 1 f3,.int .i64 a3,.int .i64 b3,.slice A3 k3 d3,.int .i64 p3,.int .i64 r3,.slice P3 s3 t3,.int .i64 0] 54;rw[←hW9];have hb9:=HB9.o;obtain⟨bs,hlz,hl7⟩:∃bs:List Bk,Lz W9 (fun q=>w.heap.size<q) (some ⟨wc.heap.size,0,none⟩) 7 bs∧bs.length=7:=by
     refine⟨[wordsB ps,wordsB [(71,1000000)],fb ⟨6,0,0,0,1⟩,wordsB [(88,rX)],fb ⟨6,0,0,0,2⟩,wordsB ps,wordsB [(89,1000000)]],lz_seven [[.int .i64 0,.int .i64 0,.bool false,.slice C ps.length cw,.int .i64 lo,.int .i64 ln,.slice lA lk lc,.int .i64 xo,.int .i64 xn,.slice xA xk xc,.int .i64 0],[.int .i64 0,.int .i64 0,.bool false,.slice (some ⟨e1,0,none⟩) 1 f1,.int .i64 a1,.int .i64 b1,.slice A1 k1 d1,.int .i64 p1,.int .i64 r1,.slice P1 s1 t1,.int .i64 0],[.int .i64 6,.int .i64 0,.bool false,.slice none 0 0,.int .i64 0,.int .i64 0,.slice none 0 0,.int .i64 0,.int .i64 0,.slice none 0 0,.int .i64 1],[.int .i64 0,.int .i64 0,.bool false,.slice (some ⟨e2,0,none⟩) 1 f2,.int .i64 a2,.int .i64 b2,.slice A2 k2 d2,.int .i64 p2,.int .i64 r2,.slice P2 s2 t2,.int .i64 0],[.int .i64 6,.int .i64 0,.bool false,.slice none 0 0,.int .i64 0,.int .i64 0,.slice none 0 0,.int .i64 0,.int .i64 0,.slice none 0 0,.int .i64 2],[.int .i64 0,.int .i64 0,.bool false,.slice C ps.length cw,.int .i64 lo,.int .i64 ln,.slice lA lk lc,.int .i64 xo,.int .i64 xn,.slice xA xk xc,.int .i64 0],[.int .i64 0,.int .i64 0,.bool false,.slice (some ⟨e3,0,none⟩) 1 f3,.int .i64 a3,.int .i64 b3,.slice A3 k3 d3,.int .i64 p3,.int .i64 r3,.slice P3 s3 t3,.int .i64 0]] [wordsB ps,wordsB [(71,1000000)],fb ⟨6,0,0,0,1⟩,wordsB [(88,rX)],fb ⟨6,0,0,0,2⟩,wordsB ps,wordsB [(89,1000000)]] q9 HI.o.lt (by show 7≤maxLen;unfold maxLen;omega) (fun l hl=> ?_) (fun i b hb=> ?_),rfl⟩
     ·simp only[List.mem_cons,List.not_mem_nil,or_false]at hl;rcases hl with rfl|rfl|rfl|rfl|rfl|rfl|rfl<;>rfl
     ·rcases i with _|_|_|_|_|_|_|i
      ·obtain rfl:=Oj hb;exact⟨_,_,cw,_,_,_,_,_,_,rfl,bz_end (HI.o.bz (by unfold maxLen;omega)) (fun _ h=>h.1) hb9⟩
      ·obtain rfl:=Oj hb;exact⟨_,_,f1,_,_,_,_,_,_,rfl,bz_end HZ1.o (fun _ h=>h) hb9⟩
      ·obtain rfl:=Oj hb;exact⟨_,_,0,_,_,_,_,_,_,rfl,fc_bz _ _ ⟨6,0,0,0,1⟩ (by unfold fok I64;dsimp only;omega)⟩
      ·obtain rfl:=Oj hb;exact⟨_,_,f2,_,_,_,_,_,_,rfl,bz_end HZ2.o (fun _ h=>h) hb9⟩
      ·obtain rfl:=Oj hb;exact⟨_,_,0,_,_,_,_,_,_,rfl,fc_bz _ _ ⟨6,0,0,0,2⟩ (by unfold fok I64;dsimp only;omega)⟩
      ·obtain rfl:=Oj hb;exact⟨_,_,cw,_,_,_,_,_,_,rfl,bz_end (HI.o.bz (by unfold maxLen;omega)) (fun _ h=>h.1) hb9⟩
      ·obtain rfl:=Oj hb;exact⟨_,_,f3,_,_,_,_,_,_,rfl,bz_end HZ3.o (fun _ h=>h) hb9⟩
      ·simp at hb
    have HB:=Hd (HI.o.bel.tm hb9);have HS9:=(hb9.block g (hlS HI.o.blk)).trans HI.o.blk;generalize wc.heap.size=gX at hlz⊢
    have HLZ:=Hd hlz;have hl:=Hd hl7;clear hW9 q9 hb9 HB9 hlz hl7 HZ1 HZ2 HZ3 HI;have HS:Hid (W9.heap[g]? =some (.cells #[.int .i64 0,.int .i64 0,.bool false,.slice C ps.length cw,.int .i64 lo,.int .i64 ln,.slice lA lk lc,.int .i64 xo,.int .i64 xn,.slice xA xk xc,.int .i64 0] 54 (0,0))):=HS9;refine hK.o _ _ HS.o (fun hHeld=> ?_);clear hK K hHeld HS9;try simp only[Act.put,L0,L4,L5]
    refine tkL 13 (v:= ?_) rfl ?_ HS.o ?_;rotate_left
    ·rintro w1-
     go_simp<;>with_reducible rfl
    try simp only[Act.put,L0,L4,L5]
    refine wpAnyH_done (by decide+kernel) ?_ _;refine NoPanic.normal ?_;have HAW:=Hd (bX W9 (HT.o.below HB.o hts) (HTN.o.below HB.o htns));go_wp2_with fail;refine HAW.o.mono ?_;rintro e W10 ⟨rfl,hb⟩;have hm:=build_mated bs;have hlb:=lib_any W10 W10.heap.size (some ⟨gX,0,none⟩) 7 bs (by rw[hl.o];exact(HLZ.o.keep hb.size (fun _ _ h=>h) fun q hq _=>hb.block q hq).rd) (Le _);rw[hl.o]at hlb;generalize(buildS bs).1=L at hlb hm;have HB10:=Hd (HB.o.tm hb);have HLB:=Hd hlb;have HM:=Hd hm;clear hlb hm hb HB HAW HS HLZ hl;go_wp2_with fail;refine HLB.o.mono ?_;rintro e W11 ⟨A1,A2,A3,c1,c2,c3,rfl,hz,hb⟩;have HB11:=Hd (HB10.o.tm hb);have HRU:=Hd (runs_any W11 _ L false A1 A2 A3 c1 c2 c3 hz HM.o (HT.o.below HB11.o hts) (HTN.o.below HB11.o htns));clear hz hb;go_wp2_with fail;refine HRU.o.mono ?_;rintro e W12 ⟨rfl,hb⟩;have HB12:=Hd (HB11.o.tm hb);clear hb;go_wp2_with fail;go_ret;exact⟨rfl,HB12.o⟩
end Go.Proofs.YtdcjbhdfphcefaaGreatDoor
