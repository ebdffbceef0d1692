/- A library in. -/
import Derived.Test.YtdcjbhdfphcefaaGreatDoorCl
import Derived.Test.YtdcjbhdfphcefaaGreatDoorRm
namespace Go.Proofs.YtdcjbhdfphcefaaGreatDoor
set_option linter.all false
open Go.RowKit
def zdU(n:Int):List Pg->Nat->Option (Nat×Int)
 |[],_=>none
 |p::r,i=>if 0<=p.first/\p.first<p.stop/\p.stop<=n then some (i,p.first)else zdU n r (i+1)
def zeJ(q:Nat×Int):MS:=⟨q.1,q.2,[],⟨[λ_=>0],λ_=>0⟩,0,false,0⟩
def zgA(L:Lb):Option MS:=(zdU L.bl.length L.pr 0).map zeJ
structure LzB(w:World)(I:Nat->Prop)(L:Lb)(A1 A2 A3:OA):Prop where
 bl:Lz w I A1 L.bl.length L.bl
 pr:RdP w w.heap.size A2 L.pr.length L.pr
 prA:A2=none\/∃b off:Nat,A2=some ⟨b,off,none⟩
 mt:RdI w w.heap.size A3 L.mt.length L.mt
 mtA:A3=none\/∃b off:Nat,A3=some ⟨b,off,none⟩
 slim:∀b∈L.bl,zhG b
 fine:L.fine
 prN:L.pr.length<=100000
theorem LzB.below{w w':World}{I:Nat->Prop}{L:Lb}{A1 A2 A3:OA}(h:LzB w I L A1 A2 A3)(hb:Bw w w'):LzB w' I L A1 A2 A3:=
 ⟨Lz.keep hb.size (λ_ _ h=>h) (λg hg _=>hb.block g hg) h.bl,h.pr.keep (λp hp=>hb.cell hp) hb.size,h.prA,h.mt.keep (λp hp=>hb.cell hp) hb.size,h.mtA,h.slim,h.fine,h.prN⟩
theorem LzB.rd{w:World}{I:Nat->Prop}{L:Lb}{A1 A2 A3:OA}(h:LzB w I L A1 A2 A3):RdLb w w.heap.size L A1 L.bl.length A2 L.pr.length A3 L.mt.length:=⟨h.bl.rd,h.pr,h.mt⟩
theorem RdP.news{w:World}{B:Nat}{A:OA}{l:List Pg}(h:RdP w B A l.length l):
 ∃news:LV,news.length=l.length*3/\(∀W,Below B w W->0<l.length->∃b off:Nat,A=some ⟨b,off,none⟩/\∀j u,news[j]? =some u->W.cell? ⟨b,off+j,none⟩=some u)/\(∀u∈news,u.oneCell'=true)/\
  ∀(i:Nat) (p:Pg),l[i]? =some p->news[i*3]? =some (.int .i64 p.num)/\news[i*3+1]? =some (.int .i64 p.first)/\news[i*3+2]? =some (.int .i64 p.stop):=by
 obtain⟨_,_,_,h4⟩:=h;rcases Nz l.length with e|e
 ·have:l=[]:=Ez e;subst this;exact⟨[],rfl,λW _ h=>absurd h (by simp),λu h=>by simp at h,λi p h=>by simp at h⟩
 obtain⟨b,off,e1,hb,hc⟩:=h4 e;have hx:∀j,j<l.length*3->∃p,l[j/3]? =some p:=λj hj=>⟨_,Gg (by omega)⟩;obtain⟨news,q1,q2,q3⟩:=sC w b (l.length*3) off λj hj=>by
  obtain⟨p,hp⟩:=hx j hj;obtain⟨c0,c1,c2⟩:=hc _ p hp;have:j=j/3*3\/j=j/3*3+1\/j=j/3*3+2:=by omega
  rcases this with q|q|q
  ·exact⟨_,by rw[q];exact c0,rfl⟩
  ·exact⟨_,by rw[q];exact c1,rfl⟩
  ·exact⟨_,by rw[q];exact c2,rfl⟩
 refine⟨news,q1,λW hW _=>⟨b,off,e1,λj u hj=>(hW.cel b (off+j) hb).trans (q2 j u hj)⟩,q3,λi p hp=> ?_⟩;have hil:=(Gu.1 hp).1;obtain⟨c0,c1,c2⟩:=hc i p hp;have hq:∀j u,j<l.length*3->w.cell? ⟨b,off+j,none⟩=some u->news[j]? =some u:=λj u hj hu=>by
  obtain⟨v,hv⟩:∃v,news[j]? =some v:=⟨_,Gg (by omega)⟩;have:=q2 j v hv;rw[hu]at this;rw[hv,this]
 exact⟨hq _ _ (by omega) c0,hq _ _ (by omega) c1,hq _ _ (by omega) c2⟩
theorem RdI.news{w:World}{B:Nat}{A:OA}{l:List Int}(h:RdI w B A l.length l):
 ∃news:LV,news.length=l.length*1/\(∀W,Below B w W->0<l.length->∃b off:Nat,A=some ⟨b,off,none⟩/\∀j u,news[j]? =some u->W.cell? ⟨b,off+j,none⟩=some u)/\(∀u∈news,u.oneCell'=true)/\
  ∀(i:Nat) (x:Int),l[i]? =some x->news[i]? =some (.int .i64 x):=by
 obtain⟨_,_,_,h4⟩:=h;refine⟨l.map (λx=>.int .i64 x),by simp,λW hW hp=> ?_,λu hu=> ?_,λi x hx=>by simp[hx]⟩
 ·obtain⟨b,off,e1,hb,hc⟩:=h4 hp;refine⟨b,off,e1,λj u hj=> ?_⟩;rw[Gm]at hj;rcases hx:l[j]? with _|x
  ·rw[hx]at hj;simp at hj
  ·rw[hx]at hj;simp at hj;rw[<-hj];exact(hW.cel b (off+j) hb).trans (hc j x hx)
 ·obtain⟨x,_,rfl⟩:=List.mem_map.1 hu;rfl
theorem znS{w:World}{g:Nat}{cs:Array Value}{T:TypeId}(h:w.heap[g]? =some (.cells cs T (0,0))):∀i,w.frozen? ⟨g,i,none⟩=false:=λi=>by simp[World.frozen?,h]
theorem uA{W:World}{b:Nat}{e:TypeId}{s:Nat}{C:OA}{k cp:Nat}{xs:LV}(h:W.ownsRow b e s (.slice C k cp) k xs){g:Nat}(hg:(Value.slice C k cp).ownBlock=some g):b<=g:=by
 rcases h.2 with⟨e1,_⟩|⟨g',cap,cur,e1,h1,h2,_⟩
 ·simp only[Vs]at e1;obtain⟨rfl,_⟩:=e1;simp[Value.ownBlock]at hg
 ·simp only[Vs,true_and]at e1;obtain⟨rfl,_⟩:=e1;simp[Value.ownBlock]at hg;subst hg;exact h1
theorem rY{w:World}{b:Nat}{C:OA}{cp:Nat}{l:List Pg}{news:LV}(h:w.ownsRow b 73 3 (.slice C l.length cp) l.length news)(hn:∀(i:Nat) (p:Pg),l[i]? =some p->news[i*3]? =some (.int .i64 p.num)/\news[i*3+1]? =some (.int .i64 p.first)/\news[i*3+2]? =some (.int .i64 p.stop))(h1:l.length<=maxLen)(h2:∀p∈l,I64 p.num/\I64 p.first/\I64 p.stop):RdP w w.heap.size C l.length l:=by
 refine⟨rfl,h1,h2,λhp=> ?_⟩;rcases h.2 with⟨_,e⟩|⟨g,cap,cur,e1,h3,h4,_⟩
 ·omega
 ·simp only[Vs,true_and]at e1;obtain⟨rfl,rfl⟩:=e1;refine⟨g,0,rfl,hlS h4,λi p hi=> ?_⟩;have hil:=(Gu.1 hi).1;obtain⟨q0,q1,q2⟩:=hn i p hi;rw[Nat.zero_add];exact⟨(h.cellAt _ (by omega)).trans q0,(h.cellAt _ (by omega)).trans q1,(h.cellAt _ (by omega)).trans q2⟩
theorem yL{w:World}{b:Nat}{C:OA}{cp:Nat}{l:List Int}{news:LV}(h:w.ownsRow b 3 1 (.slice C l.length cp) l.length news)(hn:∀(i:Nat) (x:Int),l[i]? =some x->news[i]? =some (.int .i64 x))(h1:l.length<=maxLen)(h2:∀x∈l,I64 x):RdI w w.heap.size C l.length l:=by
 refine⟨rfl,h1,h2,λhp=> ?_⟩;rcases h.2 with⟨_,e⟩|⟨g,cap,cur,e1,h3,h4,_⟩
 ·omega
 ·simp only[Vs,true_and]at e1;obtain⟨rfl,rfl⟩:=e1;refine⟨g,0,rfl,hlS h4,λi p hi=> ?_⟩;have hil:=(Gu.1 hi).1;rw[Nat.zero_add];exact(h.cellAt _ (by omega)).trans (hn i p hi)
def zhR(n:Int):Tr:=.mk 0 n 0 λ_=>.none_
section
variable {L:Lb} {sk:Bool} {m m':MS}
end
def ziX:Sto:=⟨[λ_=>0],λ_=>0⟩
