/- The contract. -/
import Derived.Test.YtdcjbhdfphcefaaGreatDoorCp
namespace Go.Proofs.YtdcjbhdfphcefaaGreatDoor
set_option linter.all false
set_option maxRecDepth 100000
set_option maxHeartbeats 40000000
open Go.Proofs.Tryz
open Go.RowKit
def Ko(w W:World)(I:Nat->Prop)(g o:Nat)(b:Bk):Prop:=
 ∃(A:OA) (k c:Nat) (l0 l1 l2 x0 x1 x2:Value),(∀(j:Nat) (v:Value),(zaW b A k c l0 l1 l2 x0 x1 x2)[j]? =some v->W.cell? ⟨g,o+j,none⟩=some v)/\Bz w I b A k l0 l1 l2 x0 x1 x2
theorem Ko.keep{w W W':World}{I:Nat->Prop}{g o:Nat}{b:Bk}(h:Ko w W I g o b)(hk:∀j,j<11->W'.cell? ⟨g,o+j,none⟩=W.cell? ⟨g,o+j,none⟩):Ko w W' I g o b:=by
 obtain⟨A,k,c,l0,l1,l2,x0,x1,x2,h1,h2⟩:=h;refine⟨A,k,c,l0,l1,l2,x0,x1,x2,λj v hj=>(hk j ?_).trans (h1 j v hj),h2⟩;have:=(Gu.1 hj).1;simpa[zaW]using this
structure ClR(w:World)(I:Nat->Prop)(l:List Bk)(C:OA)(k:Nat)(W:World):Prop where
 bel:Bw w W
 ex:(C=none/\l.length=0)\/∃g:Nat,C=some ⟨g,0,none⟩/\w.heap.size<=g/\(∃cs:Array Value,W.heap[g]? =some (.cells cs 54 (0,0)))/\
  (∀i b,i<k->l[i]? =some b->Kz W (λj=>w.heap.size<=j/\j≠g) g (i*11) b)/\(∀i b,k<=i->l[i]? =some b->Ko w W I g (i*11) b)
def WoR(w W:World)(I J:Nat->Prop)(ws:List (Int×Tr))(j gw:Nat):Prop:=
 (∀i c t,i<j->ws[i]? =some (c,t)->W.cell? ⟨gw,i*4,none⟩=some (.int .i64 c)/\∃x y z:Value,W.cell? ⟨gw,i*4+1,none⟩=some x/\W.cell? ⟨gw,i*4+2,none⟩=some y/\W.cell? ⟨gw,i*4+3,none⟩=some z/\Rz W J t (.agg #[x,y,z]))/\
 (∀i c t,j<=i->ws[i]? =some (c,t)->W.cell? ⟨gw,i*4,none⟩=some (.int .i64 c)/\∃x y z:Value,W.cell? ⟨gw,i*4+1,none⟩=some x/\W.cell? ⟨gw,i*4+2,none⟩=some y/\W.cell? ⟨gw,i*4+3,none⟩=some z/\Rz w I t (.agg #[x,y,z]))
structure ClI(w:World)(I:Nat->Prop)(l:List Bk)(g k:Nat)(b:Bk)(CW:OA)(cw:Nat)(j:Nat)(W:World):Prop where
 bel:Bw w W
 hg:w.heap.size<=g
 blk:∃cs:Array Value,W.heap[g]? =some (.cells cs 54 (0,0))
 new:∀i b,i<k->l[i]? =some b->Kz W (λq=>(w.heap.size<=q/\q≠g)/\some q≠CW.map (·.block)) g (i*11) b
 old:∀i b,k<i->l[i]? =some b->Ko w W I g (i*11) b
 here:∃l0 l1 l2 x0 x1 x2:Value,(∀(j:Nat) (v:Value),(zaW b CW b.words.length cw l0 l1 l2 x0 x1 x2)[j]? =some v->W.cell? ⟨g,k*11+j,none⟩=some v)/\
  Rz W (λq=>(w.heap.size<=q/\q≠g)/\some q≠CW.map (·.block)) b.left (.agg #[l0,l1,l2])/\Rz W (λq=>(w.heap.size<=q/\q≠g)/\some q≠CW.map (·.block)) b.x (.agg #[x0,x1,x2])
 words:(CW=none/\b.words.length=0)\/∃gw:Nat,CW=some ⟨gw,0,none⟩/\(w.heap.size<=gw/\gw≠g)/\(∃cs:Array Value,W.heap[gw]? =some (.cells cs 57 (0,0)))/\WoR w W I (λq=>(w.heap.size<=q/\q≠g)/\q≠gw) b.words j gw
theorem ClI.next{w:World}{I:Nat->Prop}{l:List Bk}{g k:Nat}{b:Bk}{gw cw j:Nat}{W W2:World}{x y z:Value}{c:Int}{t:Tr}(h:ClI w I l g k b (some ⟨gw,0,none⟩) cw j W)(hj:b.words[j]? =some (c,t))(hb:Bw W W2)(hr:Rz W2 (λq=>W.heap.size<=q) t (.agg #[x,y,z])):
 ClI w I l g k b (some ⟨gw,0,none⟩) cw (j+1) (set3 W2 gw (j*4+1) x y z):=by
 obtain⟨cs,hcs⟩:=h.blk;have h1:=hlS hcs;rcases h.words with⟨e,_⟩|⟨gw',e,⟨hw1,hw2⟩,⟨csw,hgw⟩,hn,ho⟩
 ·cases e
 cases e;have h2:=hlS hgw;have hss:W.heap.size<=(set3 W2 gw (j*4+1) x y z).heap.size:=by rw[bJ];exact hb.size
 have kp:∀q,q<W.heap.size->q≠gw->(set3 W2 gw (j*4+1) x y z).heap[q]? =W.heap[q]? :=λq hq hne=>(aL _ _ _ _ _ _ _ hne).trans (hb.block q hq);have kc:∀o,o<j*4+1\/j*4+1+3<=o->(set3 W2 gw (j*4+1) x y z).cell? ⟨gw,o,none⟩=W.cell? ⟨gw,o,none⟩:=λo ho=>(cS _ _ _ _ _ _ _ ho).trans (hb.cel gw o h2);have kg:∀o,(set3 W2 gw (j*4+1) x y z).cell? ⟨g,o,none⟩=W.cell? ⟨g,o,none⟩:=λo=>aB (kp g h1 (λe=>hw2 e.symm));have kr:∀{t:Tr} {v:Value},Rz W (λq=>(w.heap.size<=q/\q≠g)/\some q≠(some (⟨gw,0,none⟩:Addr)).map (·.block)) t v->Rz (set3 W2 gw (j*4+1) x y z) (λq=>(w.heap.size<=q/\q≠g)/\some q≠(some (⟨gw,0,none⟩:Addr)).map (·.block)) t v:=λhr=>hr.keep hss (λ_ _ h=>h) λq hq hi=>kp q hq λe=>hi.2 (by rw[e];rfl);obtain⟨l0,l1,l2,x0,x1,x2,hh1,hh2,hh3⟩:=h.here;refine⟨aQ (h.bel.trans (hb.mono (by omega))) hw1 _ _ _ _,h.hg,⟨cs,(kp g h1 (λe=>hw2 e.symm)).trans hcs⟩,λi b hi hb'=>(h.new i b hi hb').keep hss (λ_ _ h=>h) (λq hq hi=>kp q hq λe=>hi.2 (by rw[e];rfl)) λo _=>kg _,λi b hi hb'=>(h.old i b hi hb').keep λo _=>kg _,
  ⟨l0,l1,l2,x0,x1,x2,λo v hv=>(kg _).trans (hh1 o v hv),kr hh2,kr hh3⟩,.inr ⟨gw,rfl,⟨hw1,hw2⟩,?_,?_,?_⟩⟩
 ·obtain⟨cs',q1,_⟩:=oP (o:=j*4+1) (x:=x) (y:=y) (z:=z) ((hb.block gw h2).trans hgw);exact⟨cs',q1⟩
 ·intro i ci ti hi hx;by_cases e:i=j
  ·subst e;rw[hj]at hx;cases hx;obtain⟨c0,x',y',z',c1,c2,c3,_⟩:=ho i c t (Le _) hj;have e3:=rU (x:=x) (y:=y) (z:=z) (hb.ct h2 c1) (hb.ct h2 c2) (hb.ct h2 c3);exact⟨(kc _ (by omega)).trans c0,x,y,z,e3.1,e3.2.1,e3.2.2,hr.keep (by rw[bJ];exact Le _) (λq _ (hq:W.heap.size<=q)=>⟨⟨by have:=h.bel.size;omega,by omega⟩,by omega⟩) λq _ (hq:W.heap.size<=q)=>aL _ _ _ _ _ _ _ (by omega)⟩
  ·obtain⟨c0,x',y',z',c1,c2,c3,hr'⟩:=hn i ci ti (by omega) hx;exact⟨(kc _ (by omega)).trans c0,x',y',z',(kc _ (by omega)).trans c1,(kc _ (by omega)).trans c2,(kc _ (by omega)).trans c3,hr'.keep hss (λ_ _ h=>h) λq hq hi=>kp q hq hi.2⟩
 ·intro i ci ti hi hx;obtain⟨c0,x',y',z',c1,c2,c3,hr'⟩:=ho i ci ti (by omega) hx;exact⟨(kc _ (by omega)).trans c0,x',y',z',(kc _ (by omega)).trans c1,(kc _ (by omega)).trans c2,(kc _ (by omega)).trans c3,hr'⟩
theorem ClI.done{w:World}{I:Nat->Prop}{l:List Bk}{g k:Nat}{b:Bk}{CW:OA}{cw:Nat}{W:World}(h:ClI w I l g k b CW cw b.words.length W)(hb:l[k]? =some b)(h1:I64 b.kind)(h2:I64 b.label)(h3:I64 b.n)(h4:b.words.length<=maxLen)(h5:∀x∈b.words,I64 x.1):ClR w I l (some ⟨g,0,none⟩) (k+1) W:=by
 refine⟨h.bel,.inr ⟨g,rfl,h.hg,h.blk,λi b' hi hb'=> ?_,λi b' hi hb'=>h.old i b' (by omega) hb'⟩⟩;have kI:∀q:Nat,(w.heap.size<=q/\q≠g)/\some q≠CW.map (·.block)->w.heap.size<=q/\q≠g:=λq h=>h.1;by_cases e:i=k
 ·subst e;rw[hb]at hb';cases hb';obtain⟨l0,l1,l2,x0,x1,x2,hh1,hh2,hh3⟩:=h.here;refine⟨CW,b.words.length,cw,l0,l1,l2,x0,x1,x2,hh1,h1,h2,h3,⟨rfl,h4,h5,?_⟩,hh2.keep (Le _) (λq _=>kI q) λ_ _ _=>rfl,hh3.keep (Le _) (λq _=>kI q) λ_ _ _=>rfl⟩;rcases h.words with hw|⟨gw,e1,e2,⟨csw,hgw⟩,hn,_⟩
  ·exact .inl hw
  ·refine .inr ⟨gw,e1,e2,hlS hgw,λi c t hx=> ?_⟩;obtain⟨c0,x',y',z',c1,c2,c3,hr'⟩:=hn i c t (by have:=(Gu.1 hx).1;omega) hx;exact⟨c0,x',y',z',c1,c2,c3,hr'.keep (Le _) (λq _ h=>h.1) λ_ _ _=>rfl⟩
 ·exact(h.new i b' (by omega) hb').keep (Le _) (λq _=>kI q) (λ_ _ _=>rfl) λ_ _=>rfl
theorem ClI.start{w:World}{I:Nat->Prop}{l:List Bk}{g k:Nat}{b:Bk}{A CW:OA}{cw:Nat}{W W1 W2 W3:World}{l0 l1 l2 x0 x1 x2:Value}{xs:LV}(h:ClR w I l (some ⟨g,0,none⟩) k W)(hb:l[k]? =some b)
 (b1:Bw W W1) (r1:Rz W1 (λq=>W.heap.size<=q) b.left (.agg #[l0,l1,l2])) (b2:Bw W1 W2) (r2:Rz W2 (λq=>W1.heap.size<=q) b.x (.agg #[x0,x1,x2])) (b3:Bw W2 W3)
 (ho:W3.ownsRow W2.heap.size 57 4 (.slice CW b.words.length cw) b.words.length xs) (hA:Wz w I A b.words.length b.words) (hx:∀(i:Nat) (u:Value),i<b.words.length*4->∀ga,A=some ⟨ga,0,none⟩->w.cell? ⟨ga,i,none⟩=some u->xs[i]? =some u):
 ClI w I l g k b CW cw 0 ((set3 (set3 W3 g (k*11+4) l0 l1 l2) g (k*11+7) x0 x1 x2).setCell ⟨g,k*11+3,none⟩ (.slice CW b.words.length cw)):=by
 rcases h.ex with⟨e,_⟩|⟨g',e,hge,⟨cs,hcs⟩,hn,ho'⟩
 ·cases e
 cases e;have hgl:=hlS hcs;have s1:=b1.size;have s2:=b2.size;have s3:=b3.size;have bb:Bw W W3:=(b1.trans (b2.mono s1)).trans (b3.mono (by omega));obtain⟨WF,hWF⟩:∃WF,WF=(set3 (set3 W3 g (k*11+4) l0 l1 l2) g (k*11+7) x0 x1 x2).setCell ⟨g,k*11+3,none⟩ (.slice CW b.words.length cw):=⟨_,rfl⟩;rw[<-hWF];have kF:∀q,q≠g->WF.heap[q]? =W3.heap[q]? :=λq hq=>by rw[hWF];exact(Bj _ _ _ q hq).trans ((aL _ _ _ _ _ _ _ hq).trans (aL _ _ _ _ _ _ _ hq))
 have kz:WF.heap.size=W3.heap.size:=by rw[hWF];simp[World.setCell,set3]
 have kc:∀o,o<k*11+3\/k*11+10<=o->WF.cell? ⟨g,o,none⟩=W.cell? ⟨g,o,none⟩:=λo ho=>by
  rw[hWF];exact(bP (by omega)).trans ((cS _ _ _ _ _ _ _ (by omega)).trans ((cS _ _ _ _ _ _ _ (by omega)).trans (bb.cel g o hgl)))
 have hob:∀q,some q=CW.map (·.block)->W2.heap.size<=q/\q<W3.heap.size:=λq hq=>by
  rcases ho.2 with⟨e1,_⟩|⟨g',cap,cur,e1,h1,h2,_⟩
  ·simp only[Vs]at e1;rw[e1.1]at hq;simp at hq
  ·simp only[Vs,true_and]at e1;rw[e1.1]at hq;simp at hq;subst hq;exact⟨h1,hlS h2⟩
 have lift:∀{q0:Nat} {V:World} {t:Tr} {v:Value},Bw V W3->w.heap.size<=q0->V.heap.size<=W2.heap.size->(∀q,q0<=q->q<V.heap.size->q≠g)->Rz V (λq=>q0<=q) t v->Rz WF (λq=>(w.heap.size<=q/\q≠g)/\some q≠CW.map (·.block)) t v:=λhV hq0 hsV hne hr=>
  hr.keep (by rw[kz];exact hV.size) (λq hq hi=>⟨⟨Ly hq0 hi,hne q hi hq⟩,λe=>by have:=(hob q e).1;omega⟩) λq hq hi=>(kF q (hne q hi hq)).trans (hV.block q hq)
 obtain⟨A0,k0,c0,y0,y1,y2,z0,z1,z2,hcell,hbz⟩:=ho' k b (Le _) hb;have hin:∀j v,(zaW b A0 k0 c0 y0 y1 y2 z0 z1 z2)[j]? =some v->W3.cell? ⟨g,k*11+j,none⟩=some v:=λj v hv=>(bb.cel g (k*11+j) hgl).trans (hcell j v hv);have hbs:=h.bel.size;refine⟨?_,hge,?_,λi b' hi hb'=> ?_,λi b' hi hb'=> ?_,?_,?_⟩
 ·rw[hWF];exact(aQ (aQ (h.bel.trans (bb.mono hbs)) hge _ _ _ _) hge _ _ _ _).setCell (p:=⟨g,k*11+3,none⟩) hge _
 ·obtain⟨c1,q1,_⟩:=oP (o:=k*11+4) (x:=l0) (y:=l1) (z:=l2) ((bb.block g hgl).trans hcs);obtain⟨c2,q2,_⟩:=oP (o:=k*11+7) (x:=x0) (y:=x1) (z:=x2) q1;obtain⟨c3,q3,_⟩:=oN (o:=k*11+3) (v:=.slice CW b.words.length cw) q2;exact⟨c3,by rw[hWF];exact q3⟩
 ·exact(hn i b' hi hb').keep (by rw[kz];omega) (λq hq hi=>⟨hi,λe=>by have:=(hob q e).1;omega⟩) (λq hq hi=>(kF q hi.2).trans (bb.block q hq)) λo ho=>kc _ (by omega)
 ·exact(ho' i b' (by omega) hb').keep λo ho=>kc _ (by omega)
 ·have e4:=rU (x:=l0) (y:=l1) (z:=l2) (hin 4 _ rfl) (hin 5 _ rfl) (hin 6 _ rfl);have h7:∀j v,7<=j->(zaW b A0 k0 c0 y0 y1 y2 z0 z1 z2)[j]? =some v->(set3 W3 g (k*11+4) l0 l1 l2).cell? ⟨g,k*11+j,none⟩=some v:=λj v h hv=>(cS _ _ _ _ _ _ _ (by omega)).trans (hin j v hv);have e7:=rU (x:=x0) (y:=x1) (z:=x2) (h7 7 _ (by omega) rfl) (h7 8 _ (by omega) rfl) (h7 9 _ (by omega) rfl);have h3:(set3 (set3 W3 g (k*11+4) l0 l1 l2) g (k*11+7) x0 x1 x2).cell? ⟨g,k*11+3,none⟩=some (.slice A0 k0 c0):=(cS _ _ _ _ _ _ _ (by omega)).trans ((cS _ _ _ _ _ _ _ (by omega)).trans (hin 3 _ rfl));refine⟨l0,l1,l2,x0,x1,x2,λj v hv=> ?_,lift ((b2.mono (Le _)).trans (b3.mono s2)) hbs s2 (λq hq _=>by omega) r1,lift b3 (by omega) (Le _) (λq hq _=>by omega) r2⟩;have hj:j<11:=by have:=(Gu.1 hv).1;simpa[zaW]using this
  rw[hWF];have hcs:j=0\/j=1\/j=2\/j=3\/j=4\/j=5\/j=6\/j=7\/j=8\/j=9\/j=10:=by omega
  rcases hcs with rfl|rfl|rfl|rfl|rfl|rfl|rfl|rfl|rfl|rfl|rfl
  ·cases hv;exact(bP (by omega)).trans ((cS _ _ _ _ _ _ _ (by omega)).trans ((cS _ _ _ _ _ _ _ (by omega)).trans (hin 0 _ rfl)))
  ·cases hv;exact(bP (by omega)).trans ((cS _ _ _ _ _ _ _ (by omega)).trans ((cS _ _ _ _ _ _ _ (by omega)).trans (hin 1 _ rfl)))
  ·cases hv;exact(bP (by omega)).trans ((cS _ _ _ _ _ _ _ (by omega)).trans ((cS _ _ _ _ _ _ _ (by omega)).trans (hin 2 _ rfl)))
  ·cases hv;exact World.cell?_setCell_same _ _ _ h3
  ·cases hv;exact(bP (by omega)).trans ((cS _ _ _ _ _ _ _ (by omega)).trans e4.1)
  ·cases hv;exact(bP (by omega)).trans ((cS _ _ _ _ _ _ _ (by omega)).trans e4.2.1)
  ·cases hv;exact(bP (by omega)).trans ((cS _ _ _ _ _ _ _ (by omega)).trans e4.2.2)
  ·cases hv;exact(bP (by omega)).trans e7.1
  ·cases hv;exact(bP (by omega)).trans e7.2.1
  ·cases hv;exact(bP (by omega)).trans e7.2.2
  ·cases hv;exact(bP (by omega)).trans ((cS _ _ _ _ _ _ _ (by omega)).trans ((cS _ _ _ _ _ _ _ (by omega)).trans (hin 10 _ rfl)))
 ·rcases ho.2 with⟨e1,e2⟩|⟨gw,cap,cur,e1,h1,h2,h3,h4,h5,h6⟩
  ·simp only[Vs]at e1;exact .inl ⟨e1.1,e2⟩
  ·simp only[Vs,true_and]at e1;obtain⟨rfl,rfl⟩:=e1;refine .inr ⟨gw,rfl,⟨by omega,by omega⟩,⟨cur,(kF gw (by omega)).trans h2⟩,λi c t hi=>absurd hi (by omega),λi c t _ hi=> ?_⟩;have hil:=(Gu.1 hi).1;have hca:∀j,j<b.words.length*4->WF.cell? ⟨gw,j,none⟩=xs[j]? :=λj hj=>(aB (kF gw (by omega))).trans (ho.cellAt j hj);obtain⟨_,_,_,hA4⟩:=hA;rcases hA4 with⟨_,e⟩|⟨ga,e,_,hla,hra⟩
   ·omega
   obtain⟨c0,x,y,z,c1,c2,c3,hr⟩:=hra i c t hi;exact⟨(hca _ (by omega)).trans (hx _ _ (by omega) ga e c0),x,y,z,(hca _ (by omega)).trans (hx _ _ (by omega) ga e c1),(hca _ (by omega)).trans (hx _ _ (by omega) ga e c2),(hca _ (by omega)).trans (hx _ _ (by omega) ga e c3),hr⟩
theorem qgC{w:World}{I:Nat->Prop}{b:Bk}{A:OA}{k c:Nat}{l0 l1 l2 x0 x1 x2:Value}(h:Bz w I b A k l0 l1 l2 x0 x1 x2):∀v∈zaW b A k c l0 l1 l2 x0 x1 x2,v.oneCell'=true:=by
 obtain⟨a,b',c',e1,p1,p2,p3⟩:=h.left.agg3;obtain⟨d,e',f,e2,p4,p5,p6⟩:=h.x.agg3;simp only[Value.agg.injEq,Array.mk.injEq,List.cons.injEq,and_true]at e1 e2;obtain⟨rfl,rfl,rfl⟩:=e1;obtain⟨rfl,rfl,rfl⟩:=e2;intro v hv;simp only[zaW,List.mem_cons,List.not_mem_nil,or_false]at hv;rcases hv with rfl|rfl|rfl|rfl|rfl|rfl|rfl|rfl|rfl|rfl|rfl
 all_goals first|rfl|assumption
theorem Lz.news{w:World}{I:Nat->Prop}{g:Nat}{l:List Bk}(h:∀i b,l[i]? =some b->Kz w I g (i*11) b):
 ∃news:LV,news.length=l.length*11/\(∀j u,news[j]? =some u->w.cell? ⟨g,0+j,none⟩=some u)/\∀u∈news,u.oneCell'=true:=by
 refine sC w g (l.length*11) 0 λj hj=> ?_;obtain⟨b,hb⟩:∃b,l[j/11]? =some b:=⟨_,Gg (by omega)⟩;obtain⟨A,k,c,l0,l1,l2,x0,x1,x2,h1,h2⟩:=h _ b hb;have hlen:(zaW b A k c l0 l1 l2 x0 x1 x2).length=11:=rfl;obtain⟨v,hv⟩:∃v,(zaW b A k c l0 l1 l2 x0 x1 x2)[j%11]? =some v:=⟨_,Gg (by rw[hlen];omega)⟩;refine⟨v,?_,qgC h2 v (Mg hv)⟩;rw[Nat.zero_add,show j=j/11*11+j%11 by omega];exact h1 _ v hv
theorem Wz.news{w:World}{I:Nat->Prop}{A:OA}{n:Nat}{ws:List (Int×Tr)}(h:Wz w I A n ws):
 ∃news:LV,news.length=n*4/\(∀ga,A=some ⟨ga,0,none⟩->∀j u,news[j]? =some u->w.cell? ⟨ga,0+j,none⟩=some u)/\(∀u∈news,u.oneCell'=true)/\(A=none/\n=0\/∃ga,A=some ⟨ga,0,none⟩/\ga<w.heap.size):=by
 obtain⟨h1,h2,h3,h4⟩:=h;rcases h4 with⟨e1,e2⟩|⟨g,e,_,hl,hr⟩
 ·exact⟨[],by simp[e2],λ_ _ j u h=>by simp at h,λu h=>by simp at h,.inl ⟨e1,e2⟩⟩
 ·obtain⟨news,q1,q2,q3⟩:=sC w g (n*4) 0 λj hj=>by
   obtain⟨⟨c,t⟩,hx⟩:∃x,ws[j/4]? =some x:=⟨_,Gg (by omega)⟩;obtain⟨c0,x,y,z,c1,c2,c3,hz⟩:=hr _ c t hx;obtain⟨x',y',z',e',o0,o1,o2⟩:=hz.agg3;simp only[Value.agg.injEq,Array.mk.injEq,List.cons.injEq,and_true]at e';obtain⟨rfl,rfl,rfl⟩:=e';have:j=j/4*4\/j=j/4*4+1\/j=j/4*4+2\/j=j/4*4+3:=by omega
   rw[Nat.zero_add];rcases this with q|q|q|q
   ·exact⟨_,by rw[q];exact c0,rfl⟩
   ·exact⟨x,by rw[q];exact c1,o0⟩
   ·exact⟨y,by rw[q];exact c2,o1⟩
   ·exact⟨z,by rw[q];exact c3,o2⟩
  exact⟨news,q1,λga e' j u hj=>by rw[e]at e';cases e';exact q2 j u hj,q3,.inr ⟨g,e,hl⟩⟩
theorem qkE(w:World)(I:Nat->Prop)(A:OA)(c:Nat)(l:List Bk)(h:Lz w I A l.length l)(hs:∀b∈l,zhG b)(hn:l.length<=100000):
 Calls prog 31 #[.slice A l.length c] w λe w'=>∃(C:OA) (cp:Nat),e=.returned (.slice C l.length cp)/\Lz w' (λg=>w.heap.size<=g) C l.length l/\Bw w w':=by
 have HSL:=Hd hs;have HLZ:=Hd h;have hA:A=none\/∃b off:Nat,A=some ⟨b,off,none⟩:=by
  rcases h.2.2 with⟨e,_⟩|⟨g,e,_⟩
  ·exact .inl e
  ·exact .inr ⟨g,0,e⟩
 obtain⟨news,hnl,hnc,hn1⟩:∃news:LV,news.length=l.length*11/\(0<l.length->∃b off:Nat,A=some ⟨b,off,none⟩/\∀j u,news[j]? =some u->w.cell? ⟨b,off+j,none⟩=some u)/\∀u∈news,u.oneCell'=true:=by
  rcases h.2.2 with⟨e,e2⟩|⟨g,e,_,hl,hr⟩
  ·exact⟨[],by simp[e2],λh=>by omega,λu h=>by simp at h⟩
  ·obtain⟨news,q1,q2,q3⟩:=Lz.news hr;exact⟨news,q1,λ_=>⟨g,0,e,q2⟩,q3⟩
 have HC:=Hd (zlB w A l.length c news hnl (by omega) hnc hn1 hA);have HNC:=Hd hnc;clear h hs hnc hA;go_enter func31,ntmps31;go_wp2_with(go_at_call 51;refine HC.o.mono ?_;rintro e w1 ⟨C,cp,rfl,ho,hb⟩;have HO:=Hd ho;have HB1:=Hd hb;clear ho hb);have HR0:Hid (ClR w I l C 0 w1):=by
  refine⟨HB1.o,?_⟩;rcases HO.o.2 with⟨e1,e2⟩|⟨g,cap,cur,e1,h1,h2,h3,h4,h5,h6⟩
  ·simp only[Vs]at e1;exact .inl ⟨e1.1,e2⟩
  ·simp only[Vs,true_and]at e1;obtain⟨rfl,rfl⟩:=e1;refine .inr ⟨g,rfl,h1,⟨cur,h2⟩,λi b hi=>absurd hi (by omega),λi b _ hi=> ?_⟩;have hil:=(Gu.1 hi).1;have hca:∀j,j<l.length*11->w1.cell? ⟨g,j,none⟩=news[j]? :=λj hj=>HO.o.cellAt j hj;rcases HLZ.o.2.2 with⟨_,e⟩|⟨g0,e,_,hl0,hr0⟩
   ·omega
   obtain⟨A',k',c',l0,l1,l2,x0,x1,x2,hh1,hh2⟩:=hr0 i b hi;obtain⟨b',off,e',hq⟩:=HNC.o (by omega);rw[e]at e';cases e';have hn':∀j u,j<l.length*11->w.cell? ⟨g0,j,none⟩=some u->news[j]? =some u:=λj u hj hu=>by
    obtain⟨v,hv⟩:∃v,news[j]? =some v:=⟨_,Gg (by omega)⟩;have:=hq j v hv;rw[Nat.zero_add,hu]at this;rw[hv,this]
   refine⟨A',k',c',l0,l1,l2,x0,x1,x2,λj v hv=> ?_,hh2.keep (Le _) (λ_ _ h=>h.1) λ_ _ _=>rfl⟩;have hj:j<11:=by have:=(Gu.1 hv).1;simpa[zaW]using this
   exact(hca _ (by omega)).trans (hn' _ _ (by omega) (hh1 j v hv))
 have HN:Hid (l.length<=100000):=hn;clear hnl hn1 HO HB1 HNC HC;go_loopw[12] (λi W=>∃k:Nat,k<=l.length/\i=.int .i64 (k:Int)/\ClR w I l C k W) (λi _=>l.length-(intOf i).toNat)
 case atStart=>exact⟨0,by omega,rfl,HR0.o⟩
 case round=>
  obtain⟨k,hk,rfl,hR⟩:=hrel;have HR:=Hd hR;clear hR;by_cases hlt:k<l.length
  ·obtain⟨g,rfl,hge,⟨cs,hgb⟩,hnw,hod⟩:∃g:Nat,C=some ⟨g,0,none⟩/\w.heap.size<=g/\(∃cs:Array Value,wr.heap[g]? =some (.cells cs 54 (0,0)))/\_/\_:=by
    rcases HR.o.ex with⟨_,e⟩|h
    ·omega
    ·exact h
   obtain⟨b,hb⟩:∃b,l[k]? =some b:=⟨_,Gg hlt⟩;obtain⟨A1,k1,c1,l0,l1,l2,x0,x1,x2,hcell,hbz⟩:=hod k b (Le _) hb;obtain⟨lo,ln,lA,lk,lc,rfl,rfl,rfl⟩:=hbz.left.form;obtain⟨xo,xn,xA,xk,xc,rfl,rfl,rfl⟩:=hbz.x.form;have hk1:k1=b.words.length:=hbz.words.1;subst hk1;have HSB:Hid (zhG b):=HSL.o b (Mg hb);have hgl:=hlS hgb;have HBZ:=Hd hbz;have HBK:=Hd hb;have HGB:=Hd hgb;have D3:∀W,Bw wr W->W.cell? ⟨g,k*11+3,none⟩=some (.slice A1 b.words.length c1):=λW hW=>(hW.cel g (k*11+3) hgl).trans (hcell 3 _ rfl);have DL:∀W,Bw wr W->W.cell? ⟨g,k*11+4,none⟩=some (.int .i64 lo)/\W.cell? ⟨g,k*11+4+1,none⟩=some (.int .i64 ln)/\W.cell? ⟨g,k*11+4+2,none⟩=some (.slice lA lk lc):=λW hW=>⟨(hW.cel g (k*11+4) hgl).trans (hcell 4 _ rfl),(hW.cel g (k*11+5) hgl).trans (hcell 5 _ rfl),(hW.cel g (k*11+6) hgl).trans (hcell 6 _ rfl)⟩;have DX:∀W,Bw wr W->W.cell? ⟨g,k*11+5,none⟩=some (.int .i64 ln)/\W.cell? ⟨g,k*11+7,none⟩=some (.int .i64 xo)/\W.cell? ⟨g,k*11+7+1,none⟩=some (.int .i64 xn)/\W.cell? ⟨g,k*11+7+2,none⟩=some (.slice xA xk xc):=λW hW=>⟨(hW.cel g (k*11+5) hgl).trans (hcell 5 _ rfl),(hW.cel g (k*11+7) hgl).trans (hcell 7 _ rfl),(hW.cel g (k*11+8) hgl).trans (hcell 8 _ rfl),(hW.cel g (k*11+9) hgl).trans (hcell 9 _ rfl)⟩;have DF:∀W,Bw wr W->∀i,W.frozen? ⟨g,i,none⟩=false:=λW hW i=>by simp[World.frozen?,(hW.block g hgl).trans hgb]
   have HD3:=Hd D3;have HDL:=Hd DL;have HDX:=Hd DX;have HDF:=Hd DF;obtain⟨nws,hn1,hn2,hn3,hn4⟩:=hbz.words.news;have HNWS:=Hd hn2;have HNW1:=Hd hn3;have HNW4:=Hd hn4;have hwl:b.words.length<=1000:=HSB.o.1;have HWN:Hid (nws.length=b.words.length*4):=hn1;have i1:(0:Int)<=(k:Int):=by omega
   have i2:(k:Int)<(l.length:Int):=by omega
   clear hnw hod hb hcell hbz D3 DL DX DF hn1 hn2 hn3 hn4 hgb;go_upto_region 6 with(fail)
   go_cut[]from 18 to 41 (λw'=>∃(CW:OA) (cw:Nat),ClI w I l g k b CW cw 0 w')
   case first=>
    have HB:Hid (Bw wr wr.drew):=aA (Bf _ _) 1;obtain⟨q4,q5,q6⟩:=HDL.o _ (Bf _ _);obtain⟨-,q7,q8,q9⟩:=HDX.o _ (Bf _ _);have q3:=HD3.o _ (Bf _ _);have qf:=HDF.o _ (Bf _ _);have tok1:=trivial;have tok2:=trivial;have hwl6:b.words.length<=1000000:=by omega
    have HNC2:Hid (∀W,Bw w W->0<b.words.length->∃b' off:Nat,A1=some ⟨b',off,none⟩/\∀j u,nws[j]? =some u->W.cell? ⟨b',off+j,none⟩=some u):=by
     intro W hW hp;rcases HNW4.o with q|⟨ga,q,ql⟩
     ·omega
     ·exact⟨ga,0,q,λj u hj=>(hW.cel ga (0+j) ql).trans (HNWS.o ga q j u hj)⟩
    have HNA:Hid (A1=none\/∃b' off:Nat,A1=some ⟨b',off,none⟩):=by
     rcases HNW4.o with q|⟨ga,q,_⟩
     ·exact .inl q.1
     ·exact .inr ⟨ga,0,q⟩
    have HHX:Hid (∀(i:Nat) (u:Value),i<b.words.length*4->∀ga,A1=some ⟨ga,0,none⟩->w.cell? ⟨ga,i,none⟩=some u->nws[i]? =some u):=by
     intro i u hi ga hga hu;have hl:=HWN.o;obtain⟨v,hv⟩:∃v,nws[i]? =some v:=⟨_,Gg (by omega)⟩;have:=HNWS.o ga hga i v hv;rw[Nat.zero_add,hu]at this;rw[hv,this]
    go_region_with(first|(go_at_call 52;clear tok1;refine(lQ I b.left _ _ HSB.o.2.1 (HBZ.o.left.below (HR.o.bel.tm HB.o))).mono ?_;rintro e w1p ⟨a0,a1,a2,rfl,hr1,hb1⟩;obtain⟨po,pn,pA,pk,pc,rfl,rfl,rfl⟩:=hr1.form;have HR1:=Hd hr1;have HB1:=Hd hb1;have HBn:=Hd (HB.o.tm hb1);clear HB hr1 hb1;have HB:=Hd HBn.o;clear HBn;clear q3 q4 q5 q6 q7 q8 q9 qf;obtain⟨q4,q5,q6⟩:=HDL.o _ HB.o;obtain⟨-,q7,q8,q9⟩:=HDX.o _ HB.o;have q3:=HD3.o _ HB.o;have qf:=HDF.o _ HB.o)|(go_at_call 52;clear tok2;refine(lQ I b.x _ _ HSB.o.2.2.1 (HBZ.o.x.below (HR.o.bel.tm HB.o))).mono ?_;rintro e w2p ⟨a0,a1,a2,rfl,hr2,hb2⟩;obtain⟨ro,rn,rA,rk,rc,rfl,rfl,rfl⟩:=hr2.form;have HR2:=Hd hr2;have HB2:=Hd hb2;have HBn:=Hd (HB.o.tm hb2);clear HB hr2 hb2;have HB:=Hd HBn.o;clear HBn;clear q3 q4 q5 q6 q7 q8 q9 qf;obtain⟨q4,q5,q6⟩:=HDL.o _ HB.o;obtain⟨-,q7,q8,q9⟩:=HDX.o _ HB.o;have q3:=HD3.o _ HB.o;have qf:=HDF.o _ HB.o)|(go_at_call 53;refine(zkY _ A1 b.words.length c1 nws HWN.o hwl6 (HNC2.o _ (HR.o.bel.tm HB.o)) HNW1.o HNA.o).mono ?_;rintro e w3p ⟨CW,cw,rfl,ho3,hb3⟩;have HO3:=Hd ho3;have HB3:=Hd hb3;have HBn:=Hd (HB.o.tm hb3);clear HB ho3 hb3;have HB:=Hd HBn.o;clear HBn;clear q3 q4 q5 q6 q7 q8 q9 qf;obtain⟨q4,q5,q6⟩:=HDL.o _ HB.o;obtain⟨-,q7,q8,q9⟩:=HDX.o _ HB.o;have q3:=HD3.o _ HB.o;have qf:=HDF.o _ HB.o));all_goals have HST:=Hd (ClI.start HR.o HBK.o (W1:=w1p) (W2:=w2p) (W3:=w3p) ⟨HB1.o.os,HB1.o.tape,HB1.o.output,HB1.o.size,HB1.o.block⟩ HR1.o HB2.o HR2.o HB3.o HO3.o HBZ.o.words HHX.o)
    all_goals go_wp2_with fail
    all_goals go_meet
    all_goals exact⟨CW,cw,HST.o⟩
   case rest=>
    obtain⟨CW,cw,hI⟩:=hcut;have HI0:=Hd hI;have e3:wc.cell? ⟨g,k*11+3,none⟩=some (.slice CW b.words.length cw):=by
     obtain⟨_,_,_,_,_,_,hh,_⟩:=hI.here;exact hh 3 _ rfl
    clear hI HR HGB HD3 HDL HDX HDF HNWS HNW1 HNW4 HWN HR0 hgl;go_wp2_with fail;clear e3;go_loopw[47] (λi W=>∃j:Nat,j<=b.words.length/\i=.int .i64 (j:Int)/\ClI w I l g k b CW cw j W) (λi _=>b.words.length-(intOf i).toNat)
    case atStart=>exact⟨0,by omega,rfl,HI0.o⟩
    case round=>
     obtain⟨j,hj,rfl,hI⟩:=hrel;have HI:=Hd hI;clear hI HI0;by_cases hjl:j<b.words.length
     ·obtain⟨gw,rfl,⟨hw1,hw2⟩,⟨csw,hgw⟩,-,hwo⟩:∃gw:Nat,CW=some ⟨gw,0,none⟩/\(w.heap.size<=gw/\gw≠g)/\(∃cs:Array Value,wr.heap[gw]? =some (.cells cs 57 (0,0)))/\WoR w wr I (λq=>(w.heap.size<=q/\q≠g)/\q≠gw) b.words j gw:=by
       rcases HI.o.words with⟨_,e⟩|h
       ·omega
       ·exact h
      obtain⟨⟨cc,t⟩,hx⟩:∃x,b.words[j]? =some x:=⟨_,Gg hjl⟩;obtain⟨v0,x,y,z,v1,v2,v3,hr⟩:=hwo j cc t (Le _) hx;obtain⟨o1,n1,A2,k2,d2,rfl,rfl,rfl⟩:=hr.form;have e3:wr.cell? ⟨g,k*11+3,none⟩=some (.slice (some ⟨gw,0,none⟩) b.words.length cw):=by
       obtain⟨_,_,_,_,_,_,hh,_⟩:=HI.o.here;exact hh 3 _ rfl
      have hg0:g<wr.heap.size:=vG e3;have hgw0:=hlS hgw;have HRT:=Hd hr;have HXJ:=Hd hx;have HST:Hid (zfW t):=HSB.o.2.2.2 _ (Mg hx);have j1:(0:Int)<=(j:Int):=by omega
      have j2:(j:Int)<(b.words.length:Int):=by omega
      clear hwo hr hx;go_upto_region 10 with(fail)
      obtain⟨W2,hW2⟩:∃W2,W2=wr.alloc (.cells #[.int .i64 cc,.int .i64 o1,.int .i64 n1,.slice A2 k2 d2] 57):=⟨_,rfl⟩;rw[<-hW2];have X2:Hid (W2.heap[wr.heap.size]? =some (.cells #[.int .i64 cc,.int .i64 o1,.int .i64 n1,.slice A2 k2 d2] 57 (0,0))):=by unfold Hid;rw[hW2];exact Hn _ _
      have HB2:Hid (Bw wr W2):=by unfold Hid;rw[hW2];exact nB _ _
      have s0:W2.drew.cell? ⟨g,k*11+3,none⟩=some (.slice (some ⟨gw,0,none⟩) b.words.length cw)/\W2.drew.cell? ⟨wr.heap.size,1,none⟩=some (.int .i64 o1)/\W2.drew.cell? ⟨wr.heap.size,2,none⟩=some (.int .i64 n1)/\W2.drew.cell? ⟨wr.heap.size,3,none⟩=some (.slice A2 k2 d2):=
       ⟨HB2.o.ct hg0 e3,Ro W2 _ 1 _ _ _ X2.o,Ro W2 _ 2 _ _ _ X2.o,Ro W2 _ 3 _ _ _ X2.o⟩
      have S0:=Hd s0;have s2:=hlS X2.o;have HIH:=Hd (lQ I t W2.drew _ HST.o (HRT.o.below (aA (HI.o.bel.tm HB2.o) 1)));have C1:=Hd (HB2.o.ct hgw0 v1);have C2:=Hd (HB2.o.ct hgw0 v2);have C3:=Hd (HB2.o.ct hgw0 v3);have HG2:=Hd ((HB2.o.block gw hgw0).trans hgw);have hg2:=hlS HG2.o;have hx2:g<W2.heap.size:=Lt hg0 HB2.o.size;have hne1:g≠gw:=λe=>hw2 e.symm;have hne2:wr.heap.size≠gw:=by omega
      clear s0 v0 v1 v2 v3 hgw hW2 e3;go_region_held3(λw'=>w'.cell? ⟨g,k*11+3,none⟩=some (.slice (some ⟨gw,0,none⟩) b.words.length cw)/\w'.cell? ⟨wr.heap.size,1,none⟩=some (.int .i64 o1)/\w'.cell? ⟨wr.heap.size,2,none⟩=some (.int .i64 n1)/\w'.cell? ⟨wr.heap.size,3,none⟩=some (.slice A2 k2 d2)) (first|with_reducible exact S2.o|with_reducible exact S0.o|exact S3.o) (first|(go_at_call 52;refine HIH.o.mono ?_;rintro e w3 ⟨x',y',z',rfl,hr3,hb3⟩;obtain⟨o2,n2,A3,k3,d3,rfl,rfl,rfl⟩:=hr3.form;have HB3:Hid (Bw W2 w3):=(unB hb3);have HRZ:Hid (Rz w3 (λq=>W2.heap.size<=q) t (.agg #[.int .i64 o2,.int .i64 n2,.slice A3 k3 d3])):=hr3;have S2:Hid (w3.cell? ⟨g,k*11+3,none⟩=some (.slice (some ⟨gw,0,none⟩) b.words.length cw)/\w3.cell? ⟨wr.heap.size,1,none⟩=some (.int .i64 o1)/\w3.cell? ⟨wr.heap.size,2,none⟩=some (.int .i64 n1)/\w3.cell? ⟨wr.heap.size,3,none⟩=some (.slice A2 k2 d2)):=⟨HB3.o.ct hx2 S0.o.1,HB3.o.ct s2 S0.o.2.1,HB3.o.ct s2 S0.o.2.2.1,HB3.o.ct s2 S0.o.2.2.2⟩;have S3:Hid ((set3 w3 gw (j*4+1) (.int .i64 o2) (.int .i64 n2) (.slice A3 k3 d3)).cell? ⟨g,k*11+3,none⟩=some (.slice (some ⟨gw,0,none⟩) b.words.length cw)/\(set3 w3 gw (j*4+1) (.int .i64 o2) (.int .i64 n2) (.slice A3 k3 d3)).cell? ⟨wr.heap.size,1,none⟩=some (.int .i64 o1)/\(set3 w3 gw (j*4+1) (.int .i64 o2) (.int .i64 n2) (.slice A3 k3 d3)).cell? ⟨wr.heap.size,2,none⟩=some (.int .i64 n1)/\(set3 w3 gw (j*4+1) (.int .i64 o2) (.int .i64 n2) (.slice A3 k3 d3)).cell? ⟨wr.heap.size,3,none⟩=some (.slice A2 k2 d2)):=⟨(aB (aL _ _ _ _ _ _ _ hne1)).trans S2.o.1,(aB (aL _ _ _ _ _ _ _ hne2)).trans S2.o.2.1,(aB (aL _ _ _ _ _ _ _ hne2)).trans S2.o.2.2.1,(aB (aL _ _ _ _ _ _ _ hne2)).trans S2.o.2.2.2⟩;have e1:=HB3.o.ct hg2 C1.o;have e2:=HB3.o.ct hg2 C2.o;have e3:=HB3.o.ct hg2 C3.o;have ef:∀i,w3.frozen? ⟨gw,i,none⟩=false:=(λi=>by{simp[World.frozen?,(HB3.o.block gw hg2).trans HG2.o]});clear hb3 hr3));have HN2:=Hd (HI.o.next HXJ.o (HB2.o.tm HB3.o) (HRZ.o.keep (Le _) (λq _ (hq:W2.heap.size<=q)=>(Ly HB2.o.size hq:wr.heap.size<=q)) λ_ _ _=>rfl));go_wp2_with fail;exact⟨⟨j+1,by omega,by go_num,HN2.o⟩,by simp only[intOf];omega⟩
     ·have hje:j=b.words.length:=by omega
      subst hje;have HN2:=Hd (HI.o.done HBK.o HBZ.o.kind HBZ.o.label HBZ.o.n HBZ.o.words.2.1 HBZ.o.words.2.2.1);go_wp2_with fail;exact⟨⟨k+1,by omega,by go_num,HN2.o⟩,by simp only[intOf];omega⟩
  ·have hke:k=l.length:=by omega
   subst hke;have hml:=HLZ.o.2.1;go_wp2_with fail;go_ret;refine⟨C,cp,rfl,⟨rfl,hml,?_⟩,HR.o.bel⟩;rcases HR.o.ex with h|⟨g,e,hge,⟨cs,hgb⟩,hnw,_⟩
   ·exact .inl h
   ·exact .inr ⟨g,e,hge,hlS hgb,λi b hb=>hnw i b (by have:=(Gu.1 hb).1;omega) hb⟩
