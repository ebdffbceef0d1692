/- Expressions,. -/
import Derived.Test.YtdcjbhdfphcefaaGreatDoorFa
namespace Go.Proofs.YtdcjbhdfphcefaaGreatDoor
set_option linter.all false
open Go.RowKit
def Rz(w:World)(I:Nat→Prop):Tr→Value→Prop
 | .none_,_=>False
 | .mk op n k kid,v=>∃(A:OA) (c:Nat),v=.agg #[.int .i64 op,.int .i64 n,.slice A k c]∧I64 op∧I64 n∧k≤maxLen∧
  ((A=none∧k=0)∨∃g:Nat,A=some ⟨g,0,none⟩∧I g∧g<w.heap.size∧∀i,i<k→∃x y z:Value,w.cell? ⟨g,i*3,none⟩=some x∧w.cell? ⟨g,i*3+1,none⟩=some y∧w.cell? ⟨g,i*3+2,none⟩=some z∧Rz w I (kid i) (.agg #[x,y,z]))
theorem vG{w:World}{ab o:Nat}{v:Value}(h:w.cell? ⟨ab,o,none⟩=some v):ab<w.heap.size:=Nat.lt_of_not_le fun hb=>by simp[World.cell?,Array.getElem?_eq_none hb]at h
theorem aB{w w':World}{g o:Nat}(h:w'.heap[g]? =w.heap[g]?):w'.cell? ⟨g,o,none⟩=w.cell? ⟨g,o,none⟩:=cekC g o h
theorem Rz.keep{w w':World}{I I':Nat→Prop}{t:Tr}(hs:w.heap.size≤w'.heap.size)(hI:∀g,g<w.heap.size→I g→I' g)(hk:∀g,g<w.heap.size→I g→w'.heap[g]? =w.heap[g]?):∀{v:Value},Rz w I t v→Rz w' I' t v:=by
 induction t with
 |none_=>intro v h;exact h.elim
 |mk op n k kid ih=>
  intro v ⟨A,c,h1,h2,h3,h4,h5⟩;refine⟨A,c,h1,h2,h3,h4,?_⟩;rcases h5 with h5|⟨g,e,hi,hl,hr⟩
  ·exact .inl h5
  refine .inr ⟨g,e,hI g hl hi,Lt hl hs,fun i hi'=> ?_⟩;obtain⟨x,y,z,c1,c2,c3,c4⟩:=hr i hi';have e:=hk g hl hi;exact⟨x,y,z,(aB e).trans c1,(aB e).trans c2,(aB e).trans c3,ih i c4⟩
theorem Rz.below{w w':World}{I:Nat→Prop}{t:Tr}{v:Value}(h:Rz w I t v)(hb:Bw w w'):Rz w' I t v:=h.keep hb.size (fun _ _ h=>h) fun g hg _=>hb.block g hg
theorem Rz.rd{w:World}{I:Nat→Prop}{t:Tr}:∀{v:Value},Rz w I t v→Rd w w.heap.size t v:=by
 induction t with
 |none_=>intro v h;exact h.elim
 |mk op n k kid ih=>
  intro v ⟨A,c,h1,h2,h3,h4,h5⟩;refine⟨A,c,h1,h2,h3,h4,fun h=> ?_⟩;rcases h5 with⟨_,h5⟩|⟨g,e,hi,hl,hr⟩
  ·omega
  refine⟨g,0,e,hl,fun i hi'=> ?_⟩;obtain⟨x,y,z,c1,c2,c3,c4⟩:=hr i hi';rw[Nat.zero_add];exact⟨x,y,z,c1,c2,c3,ih i c4⟩
theorem Rz.agg3{w:World}{I:Nat→Prop}{t:Tr}{v:Value}(h:Rz w I t v):∃x y z:Value,v=.agg #[x,y,z]∧x.oneCell'=true∧y.oneCell'=true∧z.oneCell'=true:=by
 cases t with
 |none_=>exact h.elim
 |mk op n k kid=>obtain⟨A,c,h1,_⟩:=h;exact⟨_,_,_,h1,rfl,rfl,rfl⟩
theorem Rz.form{w:World}{I:Nat→Prop}{t:Tr}{x y z:Value}(h:Rz w I t (.agg #[x,y,z])):∃(o n:Int) (A:OA) (k c:Nat),x=.int .i64 o∧y=.int .i64 n∧z=.slice A k c:=by
 cases t with
 |none_=>exact h.elim
 |mk op n k kid=>
  obtain⟨A,c,h1,_⟩:=h;simp only[Value.agg.injEq,Array.mk.injEq,List.cons.injEq,and_true]at h1;exact⟨op,n,A,k,c,h1.1,h1.2.1,h1.2.2⟩
def Wz(w:World)(I:Nat→Prop)(A:OA)(k:Nat)(ws:List (Int×Tr)):Prop:=
 k=ws.length∧k≤maxLen∧(∀x∈ws,I64 x.1)∧
  ((A=none∧k=0)∨∃g:Nat,A=some ⟨g,0,none⟩∧I g∧g<w.heap.size∧∀(i:Nat) (c:Int) (t:Tr),ws[i]? =some (c,t)→w.cell? ⟨g,i*4,none⟩=some (.int .i64 c)∧
   ∃x y z:Value,w.cell? ⟨g,i*4+1,none⟩=some x∧w.cell? ⟨g,i*4+2,none⟩=some y∧w.cell? ⟨g,i*4+3,none⟩=some z∧Rz w I t (.agg #[x,y,z]))
theorem Wz.keep{w w':World}{I I':Nat→Prop}{A:OA}{k:Nat}{ws:List (Int×Tr)}(hs:w.heap.size≤w'.heap.size)(hI:∀g,g<w.heap.size→I g→I' g)(hk:∀g,g<w.heap.size→I g→w'.heap[g]? =w.heap[g]?)(h:Wz w I A k ws):Wz w' I' A k ws:=by
 obtain⟨h1,h2,h3,h4⟩:=h;refine⟨h1,h2,h3,?_⟩;rcases h4 with h4|⟨g,e,hi,hl,hr⟩
 ·exact .inl h4
 refine .inr ⟨g,e,hI g hl hi,Lt hl hs,fun i c t hx=> ?_⟩;obtain⟨c0,x,y,z,c1,c2,c3,c4⟩:=hr i c t hx;have e:=hk g hl hi;exact⟨(aB e).trans c0,x,y,z,(aB e).trans c1,(aB e).trans c2,(aB e).trans c3,c4.keep hs hI hk⟩
theorem Wz.rd{w:World}{I:Nat→Prop}{A:OA}{k:Nat}{ws:List (Int×Tr)}(h:Wz w I A k ws):RdW w w.heap.size A k ws:=by
 obtain⟨h1,h2,h3,h4⟩:=h;refine⟨h1,h2,h3,fun hp=> ?_⟩;rcases h4 with⟨_,h4⟩|⟨g,e,hi,hl,hr⟩
 ·omega
 refine⟨g,0,e,hl,fun i x hx=> ?_⟩;obtain⟨c,t⟩:=x;obtain⟨c0,x,y,z,c1,c2,c3,c4⟩:=hr i c t hx;rw[Nat.zero_add];exact⟨c0,x,y,z,c1,c2,c3,c4.rd⟩
structure Bz(w:World)(I:Nat→Prop)(b:Bk)(A:OA)(k:Nat)(l0 l1 l2 x0 x1 x2:Value):Prop where
 kind:I64 b.kind
 label:I64 b.label
 n:I64 b.n
 words:Wz w I A k b.words
 left:Rz w I b.left (.agg #[l0,l1,l2])
 x:Rz w I b.x (.agg #[x0,x1,x2])
theorem Bz.keep{w w':World}{I I':Nat→Prop}{b:Bk}{A:OA}{k:Nat}{l0 l1 l2 x0 x1 x2:Value}(hs:w.heap.size≤w'.heap.size)(hI:∀g,g<w.heap.size→I g→I' g)(hk:∀g,g<w.heap.size→I g→w'.heap[g]? =w.heap[g]?)(h:Bz w I b A k l0 l1 l2 x0 x1 x2):Bz w' I' b A k l0 l1 l2 x0 x1 x2:=
 ⟨h.kind,h.label,h.n,Wz.keep hs hI hk h.words,h.left.keep hs hI hk,h.x.keep hs hI hk⟩
def Kz(w:World)(I:Nat→Prop)(g o:Nat)(b:Bk):Prop:=
 ∃(A:OA) (k c:Nat) (l0 l1 l2 x0 x1 x2:Value),(∀(j:Nat) (v:Value),(cellsB b A k c l0 l1 l2 x0 x1 x2)[j]? =some v→w.cell? ⟨g,o+j,none⟩=some v)∧Bz w I b A k l0 l1 l2 x0 x1 x2
theorem Kz.keep{w w':World}{I I':Nat→Prop}{g o:Nat}{b:Bk}(hs:w.heap.size≤w'.heap.size)(hI:∀g,g<w.heap.size→I g→I' g)(hk:∀g,g<w.heap.size→I g→w'.heap[g]? =w.heap[g]?)(hg:∀j,j<11→w'.cell? ⟨g,o+j,none⟩=w.cell? ⟨g,o+j,none⟩)(h:Kz w I g o b):Kz w' I' g o b:=by
 obtain⟨A,k,c,l0,l1,l2,x0,x1,x2,h1,h2⟩:=h;refine⟨A,k,c,l0,l1,l2,x0,x1,x2,fun j v hj=> ?_,h2.keep hs hI hk⟩;have hl:j<11:=by
  have:=(Gu.1 hj).1;simpa[cellsB]using this
 exact(hg j hl).trans (h1 j v hj)
theorem Kz.rd{w:World}{I:Nat→Prop}{g o:Nat}{b:Bk}(h:Kz w I g o b):RdK w w.heap.size g o b:=by
 obtain⟨A,k,c,l0,l1,l2,x0,x1,x2,h1,h2⟩:=h;exact⟨A,k,c,l0,l1,l2,x0,x1,x2,h1,h2.kind,h2.label,h2.n,h2.words.rd,h2.left.rd,h2.x.rd⟩
theorem Kz.cells{w:World}{I:Nat→Prop}{g o:Nat}{b:Bk}(h:Kz w I g o b):∃(A:OA) (k c:Nat) (l0 l1 l2 x0 x1 x2:Value),Bz w I b A k l0 l1 l2 x0 x1 x2∧
 w.cell? ⟨g,o,none⟩=some (.int .i64 b.kind)∧w.cell? ⟨g,o+1,none⟩=some (.int .i64 b.label)∧w.cell? ⟨g,o+2,none⟩=some (.bool b.skip)∧w.cell? ⟨g,o+3,none⟩=some (.slice A k c)∧
 w.cell? ⟨g,o+4,none⟩=some l0∧w.cell? ⟨g,o+5,none⟩=some l1∧w.cell? ⟨g,o+6,none⟩=some l2∧w.cell? ⟨g,o+7,none⟩=some x0∧w.cell? ⟨g,o+8,none⟩=some x1∧w.cell? ⟨g,o+9,none⟩=some x2∧w.cell? ⟨g,o+10,none⟩=some (.int .i64 b.n):=by
 obtain⟨A,k,c,l0,l1,l2,x0,x1,x2,hc,hr⟩:=h;exact⟨A,k,c,l0,l1,l2,x0,x1,x2,hr,hc 0 _ rfl,hc 1 _ rfl,hc 2 _ rfl,hc 3 _ rfl,hc 4 _ rfl,hc 5 _ rfl,hc 6 _ rfl,hc 7 _ rfl,hc 8 _ rfl,hc 9 _ rfl,hc 10 _ rfl⟩
def Lz(w:World)(I:Nat→Prop)(A:OA)(k:Nat)(l:List Bk):Prop:=
 k=l.length∧k≤maxLen∧((A=none∧k=0)∨∃g:Nat,A=some ⟨g,0,none⟩∧I g∧g<w.heap.size∧∀(i:Nat) (b:Bk),l[i]? =some b→Kz w (fun j=>I j∧j≠g) g (i*11) b)
theorem Lz.keep{w w':World}{I I':Nat→Prop}{A:OA}{k:Nat}{l:List Bk}(hs:w.heap.size≤w'.heap.size)(hI:∀g,g<w.heap.size→I g→I' g)(hk:∀g,g<w.heap.size→I g→w'.heap[g]? =w.heap[g]?)(h:Lz w I A k l):Lz w' I' A k l:=by
 obtain⟨h1,h2,h4⟩:=h;refine⟨h1,h2,?_⟩;rcases h4 with h4|⟨g,e,hi,hl,hr⟩
 ·exact .inl h4
 refine .inr ⟨g,e,hI g hl hi,Lt hl hs,fun i b hb=> ?_⟩;have e:=hk g hl hi;exact(hr i b hb).keep hs (fun j hj q=>⟨hI j hj q.1,q.2⟩) (fun j hj q=>hk j hj q.1) fun j _=>aB e
theorem Lz.rd{w:World}{I:Nat→Prop}{A:OA}{k:Nat}{l:List Bk}(h:Lz w I A k l):RdL w w.heap.size A k l:=by
 obtain⟨h1,h2,h4⟩:=h;refine⟨h1,h2,fun hp=> ?_⟩;rcases h4 with⟨_,h4⟩|⟨g,e,hi,hl,hr⟩
 ·omega
 refine⟨g,0,e,hl,fun i b hb=> ?_⟩;rw[Nat.zero_add];exact(hr i b hb).rd
def slimT:Tr→Prop
 | .none_=>True
 | .mk _ _ k kid=>k≤1000∧∀i,i<k→slimT (kid i)
theorem tR{t:Tr}:∀{m:Nat},rightS m t=true→slimT t:=by
 induction t with
 |none_=>intro m h;trivial
 |mk op n k kid ih=>
  intro m h;rcases m with _|m
  ·cases h
  obtain⟨h1,h2,h3⟩:=cH h;have:=jV op;exact⟨by omega,fun i hi=>ih i (h3 i hi)⟩
theorem qjP{t:Tr}(h:noneS t=true):slimT t:=by
 cases t with
 |none_=>trivial
 |mk op n k kid=>
  simp only[noneS,Ba1,beq_iff_eq]at h;obtain⟨_,rfl⟩:=h;exact⟨by omega,fun i hi=>absurd hi (by omega)⟩
def slimB(b:Bk):Prop:=b.words.length≤1000∧slimT b.left∧slimT b.x∧∀x∈b.words,slimT x.2
theorem xE{need:Bool}{t:Tr}(h:partS need t=true):slimT t:=by
 unfold partS at h;split at h
 ·exact tR h
 ·exact qjP h
theorem sV{b:Bk}(h:validS b=true):slimB b:=by
 have hw:=rH h;unfold validS at h;simp only[Ba1,List.all_eq_true]at h;refine⟨by omega,xE h.1.1.2,xE h.1.2,fun x hx=> ?_⟩;have:=h.1.1.1.2 x hx;unfold wordS at this;simp only[Ba1]at this;exact tR this.2
theorem qgF(bs:List Bk):∀b∈(buildS bs).1.bl,slimB b:=by
 unfold buildS;split
 ·intro b hb;simp[noL]at hb
 ·split
  ·intro b hb;simp[noL]at hb
  ·rename_i hbad;unfold finB;split
   ·intro b hb;simp[noL]at hb
   ·split
    ·intro b hb;simp[noL]at hb
    ·intro b hb;exact sV (pW bs 0 hbad b hb)
def set3(w:World)(g o:Nat)(x y z:Value):World:=((w.setCell ⟨g,o,none⟩ x).setCell ⟨g,o+1,none⟩ y).setCell ⟨g,o+2,none⟩ z
theorem bJ(w:World)(g o:Nat)(x y z:Value):(set3 w g o x y z).heap.size=w.heap.size:=by simp[set3,World.setCell]
theorem aL(w:World)(g o j:Nat)(x y z:Value)(h:j≠g):(set3 w g o x y z).heap[j]? =w.heap[j]? :=
 (Bj _ _ _ j h).trans ((Bj _ _ _ j h).trans (Bj _ _ _ j h))
theorem bP{w:World}{g i j:Nat}{v:Value}(h:i≠j):(w.setCell ⟨g,i,none⟩ v).cell? ⟨g,j,none⟩=w.cell? ⟨g,j,none⟩:=
 World.cell?_setCell_other _ _ _ _ (fun e=>h (by injection e))
theorem cS(w:World)(g o j:Nat)(x y z:Value)(h:j<o∨o+3≤j):(set3 w g o x y z).cell? ⟨g,j,none⟩=w.cell? ⟨g,j,none⟩:=
 (bP (by omega)).trans ((bP (by omega)).trans (bP (by omega)))
theorem rU{w:World}{g o:Nat}{x y z a b c:Value}(h0:w.cell? ⟨g,o,none⟩=some a)(h1:w.cell? ⟨g,o+1,none⟩=some b)(h2:w.cell? ⟨g,o+2,none⟩=some c):
 (set3 w g o x y z).cell? ⟨g,o,none⟩=some x∧(set3 w g o x y z).cell? ⟨g,o+1,none⟩=some y∧(set3 w g o x y z).cell? ⟨g,o+2,none⟩=some z:=by
 refine⟨(bP (by omega)).trans ((bP (by omega)).trans (World.cell?_setCell_same _ _ _ h0)),(bP (by omega)).trans (World.cell?_setCell_same _ _ _ ((bP (by omega)).trans h1)),World.cell?_setCell_same _ _ _ ((bP (by omega)).trans ((bP (by omega)).trans h2))⟩
theorem oN{w:World}{g o:Nat}{v:Value}{cs:Array Value}{T:TypeId}(h:w.heap[g]? =some (.cells cs T (0,0))):∃cs',(w.setCell ⟨g,o,none⟩ v).heap[g]? =some (.cells cs' T (0,0))∧cs'.size=cs.size:=by
 refine⟨cs.setIfInBounds o v,?_,by simp⟩;simp[World.setCell,Array.getElem?_modify,h]
theorem oP{w:World}{g o:Nat}{x y z:Value}{cs:Array Value}{T:TypeId}(h:w.heap[g]? =some (.cells cs T (0,0))):∃cs',(set3 w g o x y z).heap[g]? =some (.cells cs' T (0,0))∧cs'.size=cs.size:=by
 obtain⟨c1,h1,e1⟩:=oN (o:=o) (v:=x) h;obtain⟨c2,h2,e2⟩:=oN (o:=o+1) (v:=y) h1;obtain⟨c3,h3,e3⟩:=oN (o:=o+2) (v:=z) h2;exact⟨c3,h3,by rw[e3,e2,e1]⟩
theorem cL{w:World}{g:Nat}{T:TypeId}{x0 x1 x2 x y z:Value}(h:w.heap[g]? =some (.cells #[x0,x1,x2] T (0,0))):
 (((w.setCell ⟨g,0,none⟩ x).setCell ⟨g,1,none⟩ y).setCell ⟨g,2,none⟩ z).heap[g]? =some (.cells #[x,y,z] T (0,0)):=by
 have h1:(w.setCell ⟨g,0,none⟩ x).heap[g]? =some (.cells #[x,x1,x2] T (0,0)):=by simp[World.setCell,Array.getElem?_modify,h]
 have h2:((w.setCell ⟨g,0,none⟩ x).setCell ⟨g,1,none⟩ y).heap[g]? =some (.cells #[x,y,x2] T (0,0)):=by
  generalize w.setCell ⟨g,0,none⟩ x=w1 at h1;simp[World.setCell,Array.getElem?_modify,h1]
 generalize(w.setCell ⟨g,0,none⟩ x).setCell ⟨g,1,none⟩ y=w2 at h2;simp[World.setCell,Array.getElem?_modify,h2]
theorem aQ{B:Nat}{w w':World}(h:Below B w w'){g:Nat}(hg:B≤g)(o:Nat)(x y z:Value):Below B w (set3 w' g o x y z):=
 ((h.setCell (p:=⟨g,o,none⟩) hg x).setCell (p:=⟨g,o+1,none⟩) hg y).setCell (p:=⟨g,o+2,none⟩) hg z
