/- Plain words. -/
import Derived.Test.YtdcjbhdfphcefaaGreatDoorTn
import Derived.Test.YtdcjbhdfphcefaaGreatDoorCd
namespace Go.Proofs.YtdcjbhdfphcefaaGreatDoor
set_option linter.all false
set_option maxRecDepth 100000
set_option maxHeartbeats 16000000
open Go.Proofs.Tryz
open Go.PlainAid
def zbY(l:List Tk)(r:Rs)(s:ByteArray):Rs:=if isA l r s=true then nxt r else zfE r
def zhJ:List ByteArray:=[⟨#[83,73,78]⟩,⟨#[67,79,83]⟩,⟨#[84,65,78]⟩,⟨#[65,84,65,78]⟩,⟨#[83,81,82,84]⟩,⟨#[65,66,83]⟩,⟨#[82,79,85,78,68]⟩,⟨#[70,73,88]⟩,⟨#[70,85,80]⟩]
def zeT(s:ByteArray):List ByteArray->Int->Int
 |[],_=> -1
 |f::r,i=>if f=s then 8+i else zeT s r (i+1)
def zfS(s:ByteArray):Int:=zeT s zhJ 0
def zdC:Nat->List (ByteArray×Int)
 |0=>[(⟨#[79,82]⟩,24),(⟨#[88,79,82]⟩,25)]
 |1=>[(⟨#[65,78,68]⟩,23)]
 |2=>[(⟨#[69,81]⟩,17),(⟨#[78,69]⟩,18),(⟨#[71,84]⟩,19),(⟨#[71,69]⟩,20),(⟨#[76,84]⟩,21),(⟨#[76,69]⟩,22)]
 |3=>[(⟨#[43]⟩,3),(⟨#[45]⟩,4)]
 |_=>[(⟨#[42]⟩,5),(⟨#[47]⟩,6),(⟨#[77,79,68]⟩,7)]
def zdP(l:List Tk)(r:Rs):List (ByteArray×Int)->Option Int
 |[]=>none
 |p::q=>if isA l r p.1=true then some p.2 else zdP l r q
def exA(l:List Tk):Nat->Md->Rs->Tr×Rs
 |0,_,r=>(zcL,r)
 |k+1,.lev n,r=>if n=5 then exA l k .una r else exA l k (.lop n (exA l k (.lev (n+1)) r).1) (exA l k (.lev (n+1)) r).2
 |k+1,.lop n x,r=>match zdP l r (zdC n)with
  |none=>(x,r)
  |some op=>let y:=exA l k (.lev (n+1)) (nxt r)
   if n=2 then(t2 op x y.1,y.2)else exA l k (.lop n (t2 op x y.1)) y.2
 |k+1,.una,r=>
  if isA l r ⟨#[43]⟩=true then exA l k .una (nxt r)
  else if isA l r ⟨#[45]⟩=true then(t1 2 (exA l k .una (nxt r)).1,(exA l k .una (nxt r)).2)
  else exA l k .pri r
 |k+1,.pri,r=>
  let op:=if(zcO l r).kind=3 then zfS (zcO l r).text else-1
  if op<0 then exA l k .cel r
  else
   let a:=exA l k .brk (nxt r)
   if op=11 then
    let b:=exA l k .brk (zbY l a.2 ⟨#[47]⟩)
    (t2 op a.1 b.1,b.2)
   else(t1 op a.1,a.2)
 |k+1,.brk,r=>let a:=exA l k (.lev 0) (zbY l r ⟨#[91]⟩);(a.1,zbY l a.2 ⟨#[93]⟩)
 |k+1,.cel,r=>
  if isA l r ⟨#[35]⟩=true then(t1 1 (exA l k .cel (nxt r)).1,(exA l k .cel (nxt r)).2)
  else if isA l r ⟨#[91]⟩=true then exA l k .brk r
  else ziC l r
def zaX(l:List Tk)(r:Rs):Nat:=if 0<=r.2 then 0 else l.length-r.1+1
def zbI(l:List Tk)(m:Md)(r:Rs):Nat:=if zaX l r=0 then b0 m else 40*zaX l r+b1 m
def EX(l:List Tk)(m:Md)(r:Rs):Tr×Rs:=exA l (zbI l m r) m r
def Md.ok:Md->Prop
 | .lev n=>n<=5
 | .lop n _=>n<=4
 |_=>True
theorem cQ{l:List Tk}{r:Rs}{s:ByteArray}(h:isA l r s=true):zaX l r=zaX l (nxt r)+1/\0<zaX l (nxt r):=by
 have h1:=qqI h;have h2:¬(0<=r.2):=λe=>by
  unfold isA at h;rw[iY (.inr e)]at h;simp[zjR]at h
 unfold zaX nxt;dsimp only;rw[Iq h2,Iq h2];omega
theorem qR{l:List Tk}{r:Rs}(h:(zcO l r).kind≠0):zaX l r=zaX l (nxt r)+1/\0<zaX l (nxt r):=by
 have h1:=gG h;have h2:¬(0<=r.2):=λe=>h (by rw[iY (.inr e)];rfl);unfold zaX nxt;dsimp only;rw[Iq h2,Iq h2];omega
theorem dX(l:List Tk)(r:Rs):zaX l (nxt r)<=zaX l r:=by
 unfold zaX nxt;dsimp only;split<;>omega
theorem qO(l:List Tk)(r:Rs):zaX l (zfE r)=0:=by
 unfold zaX zfE;split
 ·dsimp only;rw[Ip (by omega)]
 ·rw[Ip (by omega)]
theorem jS(l:List Tk)(r:Rs)(s:ByteArray):zaX l (zbY l r s)<=zaX l r:=by
 unfold zbY;split
 ·exact dX l r
 ·rw[qO];omega
theorem qoU(l:List Tk)(r:Rs):zaX l (ziC l r).2<=zaX l r:=by
 unfold ziC;split
 ·dsimp only;rw[qO];omega
 ·exact dX l r
theorem lM{l:List Tk}{r:Rs}{op:Int}:∀{ps:List (ByteArray×Int)},zdP l r ps=some op->zaX l r=zaX l (nxt r)+1/\0<zaX l (nxt r):=by
 intro ps;induction ps with
 |nil=>intro h;cases h
 |cons p q ih=>
  intro h;rw[zdP]at h;split at h
  ·rename_i hi;exact cQ hi
  ·exact ih h
theorem sG(l:List Tk):∀(k:Nat) (m:Md) (r:Rs),zaX l (exA l k m r).2<=zaX l r:=by
 intro k;induction k with
 |zero=>intro m r;cases m<;>exact Le _
 |succ k ih=>
  intro m r;cases m with
  |lev n=>
   rw[exA];split
   ·exact ih _ _
   ·exact Ly (ih _ _) (ih _ _)
  |lop n x=>
   rw[exA];split
   ·exact Le _
   ·dsimp only;split
    ·exact Ly (ih _ _) (dX l r)
    ·exact Ly (ih _ _) (Ly (ih _ _) (dX l r))
  |una=>
   rw[exA];split
   ·exact Ly (ih _ _) (dX l r)
   split
   ·exact Ly (ih _ _) (dX l r)
   ·exact ih _ _
  |pri=>
   rw[exA];dsimp only;generalize(if(zcO l r).kind=3 then zfS (zcO l r).text else-1)=op;split
   ·exact ih _ _
   split
   ·exact Ly (ih _ _) (Ly (jS _ _ _) (Ly (ih _ _) (dX l r)))
   ·exact Ly (ih _ _) (dX l r)
  |brk=>
   rw[exA];exact Ly (jS _ _ _) (Ly (ih _ _) (jS _ _ _))
  |cel=>
   rw[exA];split
   ·exact Ly (ih _ _) (dX l r)
   split
   ·exact ih _ _
   ·exact qoU l r
theorem gJ(l:List Tk)(m:Md)(r:Rs):zaX l (EX l m r).2<=zaX l r:=sG l _ m r
theorem znY{l:List Tk}{r:Rs}{n:Nat}(hn:n<5):zbI l (.lev (n+1)) r<zbI l (.lev n) r:=by
 unfold zbI;split<;>(try split)<;>simp only[b0,b1]<;>omega
theorem znX{l:List Tk}{r r':Rs}{n:Nat}{x:Tr}(hn:n<5)(h:zaX l r'<=zaX l r):zbI l (.lop n x) r'<zbI l (.lev n) r:=by
 unfold zbI;split<;>(try split)<;>simp only[b0,b1]<;>omega
theorem znU{l:List Tk}{r:Rs}:zbI l .una r<zbI l (.lev 5) r:=by
 unfold zbI;split<;>(try split)<;>simp only[b0,b1]<;>omega
theorem c_op{l:List Tk}{r:Rs}{n:Nat}{x:Tr}(hn:n<5)(h:zaX l r=zaX l (nxt r)+1/\0<zaX l (nxt r)):zbI l (.lev (n+1)) (nxt r)<zbI l (.lop n x) r:=by
 unfold zbI;split<;>(try split)<;>simp only[b0,b1]<;>omega
theorem znW{l:List Tk}{r r':Rs}{n:Nat}{x y:Tr}(hn:n<5)(h:zaX l r=zaX l (nxt r)+1/\0<zaX l (nxt r))(h2:zaX l r'<=zaX l (nxt r)):zbI l (.lop n y) r'<zbI l (.lop n x) r:=by
 unfold zbI;split<;>(try split)<;>simp only[b0,b1]<;>omega
theorem vH{l:List Tk}{r:Rs}(h:zaX l r=zaX l (nxt r)+1/\0<zaX l (nxt r)):zbI l .una (nxt r)<zbI l .una r:=by
 unfold zbI;split<;>(try split)<;>simp only[b0,b1]<;>omega
theorem znV{l:List Tk}{r:Rs}:zbI l .pri r<zbI l .una r:=by
 unfold zbI;split<;>(try split)<;>simp only[b0,b1]<;>omega
theorem znZ{l:List Tk}{r:Rs}:zbI l .cel r<zbI l .pri r:=by
 unfold zbI;split<;>(try split)<;>simp only[b0,b1]<;>omega
theorem qdP{l:List Tk}{r r':Rs}(h:zaX l r=zaX l (nxt r)+1/\0<zaX l (nxt r))(h2:zaX l r'<=zaX l (nxt r)):zbI l .brk r'<zbI l .pri r:=by
 unfold zbI;split<;>(try split)<;>simp only[b0,b1]<;>omega
theorem qsE(l:List Tk)(r:Rs):zbI l (.lev 0) (zbY l r ⟨#[91]⟩)<zbI l .brk r:=by
 unfold zbY;split
 ·rename_i hi;have h:=cQ hi;unfold zbI;split<;>(try split)<;>simp only[b0,b1]<;>omega
 ·have h:=qO l r;unfold zbI;split<;>(try split)<;>simp only[b0,b1]<;>omega
theorem qsD{l:List Tk}{r:Rs}(h:zaX l r=zaX l (nxt r)+1/\0<zaX l (nxt r)):zbI l .cel (nxt r)<zbI l .cel r:=by
 unfold zbI;split<;>(try split)<;>simp only[b0,b1]<;>omega
theorem zaF{l:List Tk}{r:Rs}(h:zaX l r=zaX l (nxt r)+1/\0<zaX l (nxt r)):zbI l .brk r<zbI l .cel r:=by
 unfold zbI;split<;>(try split)<;>simp only[b0,b1]<;>omega
theorem pR(l:List Tk)(m:Md)(r:Rs):0<zbI l m r:=by
 unfold zbI;cases m<;>simp only[b0,b1]<;>split<;>omega
theorem qzT(l:List Tk):∀(N:Nat) (m:Md) (r:Rs),m.ok->zbI l m r<=N->∀k,zbI l m r<=k->exA l k m r=exA l (zbI l m r) m r:=by
 intro N;induction N with
 |zero=>intro m r _ h;have:=pR l m r;omega
 |succ N ih=>
  intro m r hok hN;have key:∀(m':Md) (r':Rs),m'.ok->zbI l m' r'<zbI l m r->∀a b,zbI l m r<=a+1->zbI l m r<=b+1->exA l a m' r'=exA l b m' r':=λm' r' ho hc a b ha hb=>
   (ih m' r' ho (by omega) a (by omega)).trans (ih m' r' ho (by omega) b (by omega)).symm
  have both:∀a b,zbI l m r<=a+1->zbI l m r<=b+1->exA l (a+1) m r=exA l (b+1) m r:=by
   intro a b ha hb;cases m with
   |lev n=>
    rw[exA,exA];have hn:n<=5:=hok;by_cases h5:n=5
    ·subst h5;rw[Ip rfl,Ip rfl];exact key .una r trivial znU a b ha hb
    ·rw[Iq h5,Iq h5,key (.lev (n+1)) r (show n+1<=5 by omega) (znY (by omega)) a b ha hb];exact key (.lop n _) _ (show n<=4 by omega) (znX (by omega) (sG l _ _ _)) a b ha hb
   |lop n x=>
    rw[exA,exA];have hn:n<=4:=hok;cases ho:zdP l r (zdC n)with
    |none=>rfl
    |some op=>
     have hl:=lM ho;dsimp only;rw[key (.lev (n+1)) (nxt r) (show n+1<=5 by omega) (c_op (by omega) hl) a b ha hb];split
     ·rfl
     ·exact key (.lop n _) _ (show n<=4 by omega) (znW (by omega) hl (sG l _ _ _)) a b ha hb
   |una=>
    rw[exA,exA];by_cases h1:isA l r ⟨#[43]⟩=true
    ·rw[Ip h1,Ip h1];exact key .una (nxt r) trivial (vH (cQ h1)) a b ha hb
    ·rw[Iq h1,Iq h1];by_cases h2:isA l r ⟨#[45]⟩=true
     ·rw[Ip h2,Ip h2,key .una (nxt r) trivial (vH (cQ h2)) a b ha hb]
     ·rw[Iq h2,Iq h2];exact key .pri r trivial znV a b ha hb
   |pri=>
    rw[exA,exA];dsimp only;generalize hop:(if(zcO l r).kind=3 then zfS (zcO l r).text else-1)=op;by_cases h1:op<0
    ·rw[Ip h1,Ip h1];exact key .cel r trivial znZ a b ha hb
    ·rw[Iq h1,Iq h1];have hk:(zcO l r).kind≠0:=λe=>by rw[e]at hop;simp at hop;omega
     have hl:=qR hk;rw[key .brk (nxt r) trivial (qdP hl (Le _)) a b ha hb];split
     ·rw[key .brk _ trivial (qdP hl (Ly (jS _ _ _) (sG l _ _ _))) a b ha hb]
     ·rfl
   |brk=>
    rw[exA,exA];rw[key (.lev 0) _ (show 0<=5 by omega) (qsE l r) a b ha hb]
   |cel=>
    rw[exA,exA];by_cases h1:isA l r ⟨#[35]⟩=true
    ·rw[Ip h1,Ip h1,key .cel (nxt r) trivial (qsD (cQ h1)) a b ha hb]
    ·rw[Iq h1,Iq h1];by_cases h2:isA l r ⟨#[91]⟩=true
     ·rw[Ip h2,Ip h2];exact key .brk r trivial (zaF (cQ h2)) a b ha hb
     ·rw[Iq h2,Iq h2]
  intro k hk;have hp:=pR l m r;have q:=both (k-1) (zbI l m r-1) (by omega) (by omega);rw[show k-1+1=k by omega,show zbI l m r-1+1=zbI l m r by omega]at q;exact q
theorem iR{l:List Tk}(m:Md)(r:Rs)(hok:m.ok){k:Nat}(hk:zbI l m r<=k):exA l k m r=EX l m r:=qzT l _ m r hok (Le _) k hk
theorem jZ(l:List Tk)(m:Md)(r:Rs):∃k,EX l m r=exA l (k+1) m r/\zbI l m r<=k+1:=⟨zbI l m r-1,by have:=pR l m r;unfold EX;rw[show zbI l m r-1+1=zbI l m r by omega],by omega⟩
theorem qwA(l:List Tk)(r:Rs):EX l (.lev 5) r=EX l .una r:=by
 obtain⟨k,e,hk⟩:=jZ l (.lev 5) r;rw[e,exA,Ip rfl];exact iR .una r trivial (by have:= @znU l r;omega)
theorem zaT(l:List Tk)(n:Nat)(hn:n<5)(r:Rs):EX l (.lev n) r=EX l (.lop n (EX l (.lev (n+1)) r).1) (EX l (.lev (n+1)) r).2:=by
 obtain⟨k,e,hk⟩:=jZ l (.lev n) r;have e1:exA l k (.lev (n+1)) r=EX l (.lev (n+1)) r:=iR (.lev (n+1)) r (show n+1<=5 by omega) (by have:= @znY l r n hn;omega);rw[e,exA,Iq (by omega),e1];exact iR (.lop n _) _ (show n<=4 by omega) (by have:= @znX l r _ n (EX l (.lev (n+1)) r).1 hn (gJ l (.lev (n+1)) r);omega)
theorem qvZ{l:List Tk}{n:Nat}{x:Tr}{r:Rs}(h:zdP l r (zdC n)=none):EX l (.lop n x) r=(x,r):=by
 obtain⟨k,e,hk⟩:=jZ l (.lop n x) r;rw[e,exA,h]
theorem zaS{l:List Tk}{n:Nat}{x:Tr}{r:Rs}{op:Int}(hn:n<5)(h:zdP l r (zdC n)=some op):EX l (.lop n x) r=if n=2 then(t2 op x (EX l (.lev (n+1)) (nxt r)).1,(EX l (.lev (n+1)) (nxt r)).2)else EX l (.lop n (t2 op x (EX l (.lev (n+1)) (nxt r)).1)) (EX l (.lev (n+1)) (nxt r)).2:=by
 obtain⟨k,e,hk⟩:=jZ l (.lop n x) r;have hl:=lM h;have e1:exA l k (.lev (n+1)) (nxt r)=EX l (.lev (n+1)) (nxt r):=iR (.lev (n+1)) (nxt r) (show n+1<=5 by omega) (by have:= @c_op l r n x hn hl;omega);rw[e,exA,h];dsimp only;rw[e1];split
 ·rfl
 ·exact iR (.lop n _) _ (show n<=4 by omega) (by have:= @znW l r _ n x (t2 op x (EX l (.lev (n+1)) (nxt r)).1) hn hl (gJ l (.lev (n+1)) (nxt r));omega)
theorem qvY{l:List Tk}{r:Rs}(h:isA l r ⟨#[43]⟩=true):EX l .una r=EX l .una (nxt r):=by
 obtain⟨k,e,hk⟩:=jZ l .una r;rw[e,exA,Ip h];exact iR .una (nxt r) trivial (by have:=vH (cQ h);omega)
theorem qsQ{l:List Tk}{r:Rs}(h1:isA l r ⟨#[43]⟩=false)(h:isA l r ⟨#[45]⟩=true):EX l .una r=(t1 2 (EX l .una (nxt r)).1,(EX l .una (nxt r)).2):=by
 obtain⟨k,e,hk⟩:=jZ l .una r;rw[e,exA,Iq (by rw[h1];exact Bool.false_ne_true),Ip h,iR .una (nxt r) trivial (by have:=vH (cQ h);omega)]
theorem zaP{l:List Tk}{r:Rs}(h1:isA l r ⟨#[43]⟩=false)(h:isA l r ⟨#[45]⟩=false):EX l .una r=EX l .pri r:=by
 obtain⟨k,e,hk⟩:=jZ l .una r;rw[e,exA,Iq (by rw[h1];exact Bool.false_ne_true),Iq (by rw[h];exact Bool.false_ne_true)];exact iR .pri r trivial (by have:= @znV l r;omega)
def opA(l:List Tk)(r:Rs):Int:=if(zcO l r).kind=3 then zfS (zcO l r).text else-1
theorem qcC{l:List Tk}{r:Rs}(h:0<=opA l r):zaX l r=zaX l (nxt r)+1/\0<zaX l (nxt r):=
 qR λe=>by unfold opA at h;rw[e]at h;simp at h
theorem qiH{l:List Tk}{r:Rs}(h:opA l r<0):EX l .pri r=EX l .cel r:=by
 obtain⟨k,e,hk⟩:=jZ l .pri r;rw[e,exA,show(if(zcO l r).kind=3 then zfS (zcO l r).text else-1)=opA l r from rfl];dsimp only;rw[Ip h];exact iR .cel r trivial (by have:= @znZ l r;omega)
theorem zaQ{l:List Tk}{r:Rs}(h:0<=opA l r):EX l .pri r=if opA l r=11 then(t2 (opA l r) (EX l .brk (nxt r)).1 (EX l .brk (zbY l (EX l .brk (nxt r)).2 ⟨#[47]⟩)).1,(EX l .brk (zbY l (EX l .brk (nxt r)).2 ⟨#[47]⟩)).2)else(t1 (opA l r) (EX l .brk (nxt r)).1,(EX l .brk (nxt r)).2):=by
 obtain⟨k,e,hk⟩:=jZ l .pri r;have hl:=qcC h;have e1:exA l k .brk (nxt r)=EX l .brk (nxt r):=iR .brk (nxt r) trivial (by have:=qdP hl (Le (zaX l (nxt r)));omega);have e2:exA l k .brk (zbY l (EX l .brk (nxt r)).2 ⟨#[47]⟩)=EX l .brk (zbY l (EX l .brk (nxt r)).2 ⟨#[47]⟩):=iR .brk _ trivial (by have:=qdP hl (Ly (jS l _ ⟨#[47]⟩) (gJ l .brk (nxt r)));omega);rw[e,exA,show(if(zcO l r).kind=3 then zfS (zcO l r).text else-1)=opA l r from rfl];dsimp only;rw[Iq (show¬(opA l r<0)by omega),e1,e2]
theorem zaU(l:List Tk)(r:Rs):EX l .brk r=((EX l (.lev 0) (zbY l r ⟨#[91]⟩)).1,zbY l (EX l (.lev 0) (zbY l r ⟨#[91]⟩)).2 ⟨#[93]⟩):=by
 obtain⟨k,e,hk⟩:=jZ l .brk r;rw[e,exA];rw[iR (.lev 0) _ (show 0<=5 by omega) (by have:=qsE l r;omega)]
theorem qwB{l:List Tk}{r:Rs}(h:isA l r ⟨#[35]⟩=true):EX l .cel r=(t1 1 (EX l .cel (nxt r)).1,(EX l .cel (nxt r)).2):=by
 obtain⟨k,e,hk⟩:=jZ l .cel r;rw[e,exA,Ip h,iR .cel (nxt r) trivial (by have:=qsD (cQ h);omega)]
theorem zoO{l:List Tk}{r:Rs}(h1:isA l r ⟨#[35]⟩=false)(h:isA l r ⟨#[91]⟩=true):EX l .cel r=EX l .brk r:=by
 obtain⟨k,e,hk⟩:=jZ l .cel r;rw[e,exA,Iq (by rw[h1];exact Bool.false_ne_true),Ip h];exact iR .brk r trivial (by have:=zaF (cQ h);omega)
theorem zaR{l:List Tk}{r:Rs}(h1:isA l r ⟨#[35]⟩=false)(h:isA l r ⟨#[91]⟩=false):EX l .cel r=ziC l r:=by
 obtain⟨k,e,hk⟩:=jZ l .cel r;rw[e,exA,Iq (by rw[h1];exact Bool.false_ne_true),Iq (by rw[h];exact Bool.false_ne_true)]
open Go.RowKit
theorem qtC{w:World}{B rb:Nat}{A:OA}{c:Nat}{l:List Tk}{r:Rs}{s:ByteArray}{v:Bool}(hs:isA l r s=v)(h:RX w B rb A c l r):
 Calls prog 98 #[.pointer (some ⟨rb,0,none⟩),.string s] w λe w'=>e=.returned (.bool v)/\RP B rb A c l (if v=true then nxt r else r) w w':=by
 cases v
 ·exact aR hs h
 ·exact dI hs h
theorem qwI{w:World}{B rb:Nat}{A:OA}{c:Nat}{l:List Tk}{r:Rs}{s:ByteArray}{v:Bool}(hs:isA l r s=v)(h:RX w B rb A c l r):
 Calls prog 132 #[.pointer (some ⟨rb,0,none⟩),.string s] w λe w'=>e=.returned (.bool v)/\Bw w w':=by
 have q:=zR w B rb A c l r s h;rw[hs]at q;exact q
theorem lC(w:World)(B rb:Nat)(A:OA)(c:Nat)(l:List Tk)(r:Rs)(s:ByteArray)(h:RX w B rb A c l r):
 Calls prog 137 #[.pointer (some ⟨rb,0,none⟩),.string s] w λe w'=>e=.returned (.tuple #[])/\RP B rb A c l (zbY l r s) w w':=by
 have HX:=Hd h;clear h;unfold zbY;rcases hi:isA l r s with _|_
 ·have HI:=Hd hi;rw[Iq Bool.false_ne_true];clear hi;go_enter func137,ntmps137;go_wp2_with(first|(go_at_call 98;refine(aR HI.o HX.o).mono ?_;rintro e w1 ⟨rfl,hrp⟩;have HRP:=Hd hrp;clear hrp)|(go_at_call 135;refine(dB _ _ _ _ _ _ _ HRP.o.1).mono ?_;rintro e w2 ⟨rfl,hrp⟩;have HRQ:=Hd hrp;clear hrp));exact bodyPost_end (results_none results137 _ _ _) rfl ⟨rfl,HRQ.o.1,HRP.o.2.trans HRQ.o.2⟩
 ·have HI:=Hd hi;rw[Ip rfl];clear hi;go_enter func137,ntmps137;go_wp2_with(go_at_call 98;refine(dI HI.o HX.o).mono ?_;rintro e w1 ⟨rfl,hrp⟩;have HRP:=Hd hrp;clear hrp);exact bodyPost_end (results_none results137 _ _ _) rfl ⟨rfl,HRP.o⟩
theorem qwY{W:World}{n0:Nat}{t:Tr}{op:Int}{x y z:Value}(h:Rz W (λg=>n0<=g) t (.agg #[x,y,z]))(hn:n0<=W.heap.size)(ho:I64 op):
 Rz (W.alloc (.cells #[x,y,z] 52)) (λg=>n0<=g) (t1 op t) (.agg #[.int .i64 op,.int .i64 0,.slice (some ⟨W.heap.size,0,none⟩) 1 1]):=by
 have hb:Bw W (W.alloc (.cells #[x,y,z] 52)):=nB _ _;have hq:=Hn W (.cells #[x,y,z] 52);refine⟨_,1,rfl,ho,by unfold I64;omega,by unfold maxLen;omega,.inr ⟨W.heap.size,rfl,hn,hlS hq,λi hi=> ?_⟩⟩;obtain rfl:i=0:=by omega
 exact⟨x,y,z,Ro _ _ 0 _ _ _ hq,Ro _ _ 1 _ _ _ hq,Ro _ _ 2 _ _ _ hq,h.below hb⟩
theorem XP.one{w W W2:World}{B rb:Nat}{A:OA}{c:Nat}{l:List Tk}{q:Tr×Rs}{op:Int}{x y z:Value}(h1:zaZ rb w W)(h2:Rz W2 (λg=>W.heap.size<=g) q.1 (.agg #[x,y,z]))(h3:RP B rb A c l q.2 W W2)(hrb:rb<w.heap.size)(hlt:w.heap.size<W.heap.size)(ho:I64 op):
 XP B rb A c l (t1 op q.1,q.2) w (.returned (.agg #[.int .i64 op,.int .i64 0,.slice (some ⟨W2.heap.size,0,none⟩) 1 1])) ((((W2.setCell ⟨w.heap.size,0,none⟩ (.int .i64 op)).setCell ⟨w.heap.size,1,none⟩ (.int .i64 0)).setCell ⟨w.heap.size,2,none⟩ (.slice (some ⟨W2.heap.size,0,none⟩) 1 1)).alloc (.cells #[x,y,z] 52)):=by
 have hs:=h3.2.2.2.2.1;obtain⟨X,hX⟩:∃X,X=((W2.setCell ⟨w.heap.size,0,none⟩ (.int .i64 op)).setCell ⟨w.heap.size,1,none⟩ (.int .i64 0)).setCell ⟨w.heap.size,2,none⟩ (.slice (some ⟨W2.heap.size,0,none⟩) 1 1):=⟨_,rfl⟩;have hXs:X.heap.size=W2.heap.size:=by rw[hX];exact bJ W2 w.heap.size 0 _ _ _
 have hXo:zaZ rb w X:=by rw[hX];exact gL (h1.trans h3.2) (Le _) _ _ _
 have hXr:RX X B rb A c l q.2:=by rw[hX];exact h3.1.set3 hrb _ _ _
 have hXz:Rz X (λg=>w.heap.size<=g) q.1 (.agg #[x,y,z]):=h2.keep (Nat.le_of_eq hXs.symm) (λg _ hg=>by have q:W.heap.size<=g:=hg;show w.heap.size<=g;omega) λg _ hg=>by rw[hX];exact aL W2 w.heap.size 0 g _ _ _ (by have q:W.heap.size<=g:=hg;omega)
 rw[<-hX,<-hXs];have hb:Bw X (X.alloc (.cells #[x,y,z] 52)):=nB _ _;exact⟨_,_,_,rfl,qwY hXz (by omega) ho,hXr.below hb,hXo.trans (zaZ.of_below hb)⟩
theorem qsC(w:World)(B rb:Nat)(A:OA)(c:Nat)(l:List Tk)(r:Rs)(h:RX w B rb A c l r)(k1:isA l r ⟨#[35]⟩=true->∀W,RX W B rb A c l (nxt r)->Calls prog 136 #[.pointer (some ⟨rb,0,none⟩)] W (XP B rb A c l (EX l .cel (nxt r)) W))(k2:isA l r ⟨#[91]⟩=true->∀W,RX W B rb A c l (r)->Calls prog 139 #[.pointer (some ⟨rb,0,none⟩)] W (XP B rb A c l (EX l .brk (r)) W)):
 Calls prog 136 #[.pointer (some ⟨rb,0,none⟩)] w (XP B rb A c l (EX l .cel r) w):=by
 have K1:=Hd k1;have K2:=Hd k2;clear k1 k2;obtain⟨W0,hW0,HB0,-⟩:=newW w #[.int .i64 0,.int .i64 0,.slice none 0 0] 52;have HR0:Hid (RB W0 w.heap.size):=by unfold Hid;rw[hW0];exact RB.start w
 have hlt:=h.lt;have HX0:=Hd (h.below HB0.o);have HO0:Hid (zaZ rb w W0):=zaZ.of_below HB0.o;have hs0:w.heap.size<W0.heap.size:=hlS HR0.o.blk;clear h;rcases n1:isA l r ⟨#[35]⟩with _|_
 ·rcases n2:isA l r ⟨#[91]⟩with _|_
  ·rw[zaR n1 n2];have N1:=Hd n1;have N2:=Hd n2;clear n1 n2;go_enter func136,ntmps136;go_wp2_with(first|(rw[<-hW0];clear hW0;go_at_call 98;refine(aR N1.o HX0.o).mono ?_;rintro e w1 ⟨rfl,hrp⟩;have HX1:=Hd hrp.1;have HO1:=Hd (HO0.o.trans hrp.2);have HR1:=Hd (HR0.o.only hrp.2 hlt);have hs1:w.heap.size<w1.heap.size:=hlS HR1.o.blk;clear hrp)|(go_at_call 132;refine(qwI N2.o HX1.o).mono ?_;rintro e w2 ⟨rfl,hb⟩;have HX2:=Hd (HX1.o.below hb);have HO2:=Hd (HO1.o.trans (zaZ.of_below hb));have HR2:=Hd (HR1.o.below hb);have hs2:w.heap.size<w2.heap.size:=hlS HR2.o.blk;clear hb)|(go_at_call 169;refine(rN _ _ _ _ _ _ _ HX2.o).mono ?_;rintro e w3 ⟨x,y,z,rfl,hz,hrp⟩;obtain⟨xo,xn,xA,xk,xc,rfl,rfl,rfl⟩:=hz.form;have HZ:=Hd hz;have HRP:=Hd hrp;have HR3:=Hd (HR2.o.only hrp.2 hlt);obtain⟨m0,m1,m2,mf⟩:=HR3.o.facts;have hs3:w.heap.size<w3.heap.size:=hlS HR3.o.blk;clear hz hrp));exact bodyPost_ret (aN results136 _ _ w.heap.size _ _ _ _ rfl (bB HR3.o.blk) underlying52 (by kernel_rfl)) rfl (XP.done HO2.o HZ.o HRP.o hlt hs2)
  ·rw[zoO n1 n2];have N1:=Hd n1;have N2:=Hd n2;clear n1 n2;go_enter func136,ntmps136;go_wp2_with(first|(rw[<-hW0];clear hW0;go_at_call 98;refine(aR N1.o HX0.o).mono ?_;rintro e w1 ⟨rfl,hrp⟩;have HX1:=Hd hrp.1;have HO1:=Hd (HO0.o.trans hrp.2);have HR1:=Hd (HR0.o.only hrp.2 hlt);have hs1:w.heap.size<w1.heap.size:=hlS HR1.o.blk;clear hrp)|(go_at_call 132;refine(qwI N2.o HX1.o).mono ?_;rintro e w2 ⟨rfl,hb⟩;have HX2:=Hd (HX1.o.below hb);have HO2:=Hd (HO1.o.trans (zaZ.of_below hb));have HR2:=Hd (HR1.o.below hb);have hs2:w.heap.size<w2.heap.size:=hlS HR2.o.blk;clear hb)|(go_at_call 139;refine(K2.o N2.o _ HX2.o).mono ?_;rintro e w3 ⟨x,y,z,rfl,hz,hrp⟩;obtain⟨xo,xn,xA,xk,xc,rfl,rfl,rfl⟩:=hz.form;have HZ:=Hd hz;have HRP:=Hd hrp;have HR3:=Hd (HR2.o.only hrp.2 hlt);obtain⟨m0,m1,m2,mf⟩:=HR3.o.facts;have hs3:w.heap.size<w3.heap.size:=hlS HR3.o.blk;clear hz hrp));exact bodyPost_ret (aN results136 _ _ w.heap.size _ _ _ _ rfl (bB HR3.o.blk) underlying52 (by kernel_rfl)) rfl (XP.done HO2.o HZ.o HRP.o hlt hs2)
 ·rw[qwB n1];have N1:=Hd n1;clear n1;go_enter func136,ntmps136;go_wp2_with(first|(rw[<-hW0];clear hW0;go_at_call 98;refine(dI N1.o HX0.o).mono ?_;rintro e w1 ⟨rfl,hrp⟩;have HX1:=Hd hrp.1;have HO1:=Hd (HO0.o.trans hrp.2);have HR1:=Hd (HR0.o.only hrp.2 hlt);have hs1:w.heap.size<w1.heap.size:=hlS HR1.o.blk;clear hrp)|(go_at_call 136;refine(K1.o N1.o _ HX1.o).mono ?_;rintro e w3 ⟨x,y,z,rfl,hz,hrp⟩;obtain⟨xo,xn,xA,xk,xc,rfl,rfl,rfl⟩:=hz.form;have HZ:=Hd hz;have HRP:=Hd hrp;have HR3:=Hd (HR1.o.only hrp.2 hlt);obtain⟨m0,m1,m2,mf⟩:=HR3.o.facts;have hs3:w.heap.size<w3.heap.size:=hlS HR3.o.blk;clear hz hrp));exact bodyPost_ret (aN results136 _ _ w.heap.size _ _ _ _ rfl ((Bm _ _ _ (by simpa[World.setCell]using hs3)).trans (bB HR3.o.blk)) underlying52 (by kernel_rfl)) rfl (XP.one HO1.o HZ.o HRP.o hlt hs1 (by unfold I64;omega))
theorem tH(w:World)(B rb:Nat)(A:OA)(c:Nat)(l:List Tk)(r:Rs)(h:RX w B rb A c l r)(k:∀W,RX W B rb A c l r->Calls prog 136 #[.pointer (some ⟨rb,0,none⟩)] W (XP B rb A c l (EX l .cel r) W)):
 Calls prog 172 #[.pointer (some ⟨rb,0,none⟩)] w (XP B rb A c l (EX l .cel r) w):=by
 have K:=Hd k;clear k;obtain⟨W0,hW0,HB0,-⟩:=newW w #[.int .i64 0,.int .i64 0,.slice none 0 0] 52;have HR0:Hid (RB W0 w.heap.size):=by unfold Hid;rw[hW0];exact RB.start w
 have hlt:=h.lt;have HX0:=Hd (h.below HB0.o);have HO0:Hid (zaZ rb w W0):=zaZ.of_below HB0.o;have hs0:w.heap.size<W0.heap.size:=hlS HR0.o.blk;clear h;go_enter func172,ntmps172;go_wp2_with(rw[<-hW0];clear hW0;go_at_call 136;refine(K.o _ HX0.o).mono ?_;rintro e w3 ⟨x,y,z,rfl,hz,hrp⟩;obtain⟨xo,xn,xA,xk,xc,rfl,rfl,rfl⟩:=hz.form;have HZ:=Hd hz;have HRP:=Hd hrp;have HR3:=Hd (HR0.o.only hrp.2 hlt);obtain⟨m0,m1,m2,mf⟩:=HR3.o.facts;have hs3:w.heap.size<w3.heap.size:=hlS HR3.o.blk;clear hz hrp);exact bodyPost_ret (aN results172 _ _ w.heap.size _ _ _ _ rfl (bB HR3.o.blk) underlying52 (by kernel_rfl)) rfl (XP.done HO0.o HZ.o HRP.o hlt hs0)
def zeS(l:List Tk)(r:Rs):Tr×Rs:=if isA l r ⟨#[45]⟩=true then(t1 2 (EX l .cel (nxt r)).1,(EX l .cel (nxt r)).2)else EX l .cel (if isA l r ⟨#[43]⟩=true then nxt r else r)
theorem qdX(w:World)(B rb:Nat)(A:OA)(c:Nat)(l:List Tk)(r:Rs)(h:RX w B rb A c l r)(k:∀r' W,RX W B rb A c l r'->Calls prog 136 #[.pointer (some ⟨rb,0,none⟩)] W (XP B rb A c l (EX l .cel r') W)):
 Calls prog 140 #[.pointer (some ⟨rb,0,none⟩)] w (XP B rb A c l (zeS l r) w):=by
 have K:Hid (∀r' W,RX W B rb A c l r'->Calls prog 172 #[.pointer (some ⟨rb,0,none⟩)] W (XP B rb A c l (EX l .cel r') W)):=λr' W hx=>tH W B rb A c l r' hx (k r');clear k;obtain⟨W0,hW0,HB0,-⟩:=newW w #[.int .i64 0,.int .i64 0,.slice none 0 0] 52;have HR0:Hid (RB W0 w.heap.size):=by unfold Hid;rw[hW0];exact RB.start w
 have hlt:=h.lt;have HX0:=Hd (h.below HB0.o);have HO0:Hid (zaZ rb w W0):=zaZ.of_below HB0.o;have hs0:w.heap.size<W0.heap.size:=hlS HR0.o.blk;clear h;unfold zeS;rcases n1:isA l r ⟨#[45]⟩with _|_
 ·rw[Iq Bool.false_ne_true];obtain⟨r2,hr2⟩:∃r2,(if isA l r ⟨#[43]⟩=true then nxt r else r)=r2:=⟨_,rfl⟩;obtain⟨v,HT⟩:∃v,Hid (∀W,RX W B rb A c l r->Calls prog 98 #[.pointer (some ⟨rb,0,none⟩),.string ⟨#[43]⟩] W λe w'=>e=.returned (.bool v)/\RP B rb A c l r2 W w'):=⟨isA l r ⟨#[43]⟩,λW hx=>by rw[<-hr2];exact qtC rfl hx⟩;rw[hr2];have N1:=Hd n1;have tok1:=trivial;clear n1 hr2;go_enter func140,ntmps140;go_wp2_with(first|(clear tok1;rw[<-hW0];clear hW0;go_at_call 98;refine(aR N1.o HX0.o).mono ?_;rintro e w1 ⟨rfl,hrp⟩;have HX1:=Hd hrp.1;have HO1:=Hd (HO0.o.trans hrp.2);have HR1:=Hd (HR0.o.only hrp.2 hlt);have hs1:w.heap.size<w1.heap.size:=hlS HR1.o.blk;clear hrp)|(go_at_call 98;refine(HT.o _ HX1.o).mono ?_;rintro e w2 ⟨rfl,hrp⟩;have HX2:=Hd hrp.1;have HO2:=Hd (HO1.o.trans hrp.2);have HR2:=Hd (HR1.o.only hrp.2 hlt);have hs2:w.heap.size<w2.heap.size:=hlS HR2.o.blk;clear hrp)|(go_at_call 172;refine(K.o _ _ HX2.o).mono ?_;rintro e w3 ⟨x,y,z,rfl,hz,hrp⟩;obtain⟨xo,xn,xA,xk,xc,rfl,rfl,rfl⟩:=hz.form;have HZ:=Hd hz;have HRP:=Hd hrp;have HR3:=Hd (HR2.o.only hrp.2 hlt);obtain⟨m0,m1,m2,mf⟩:=HR3.o.facts;have hs3:w.heap.size<w3.heap.size:=hlS HR3.o.blk;clear hz hrp));exact bodyPost_ret (aN results140 _ _ w.heap.size _ _ _ _ rfl (bB HR3.o.blk) underlying52 (by kernel_rfl)) rfl (XP.done HO2.o HZ.o HRP.o hlt hs2)
 ·rw[Ip rfl];have N1:=Hd n1;clear n1;go_enter func140,ntmps140;go_wp2_with(first|(rw[<-hW0];clear hW0;go_at_call 98;refine(dI N1.o HX0.o).mono ?_;rintro e w1 ⟨rfl,hrp⟩;have HX1:=Hd hrp.1;have HO1:=Hd (HO0.o.trans hrp.2);have HR1:=Hd (HR0.o.only hrp.2 hlt);have hs1:w.heap.size<w1.heap.size:=hlS HR1.o.blk;clear hrp)|(go_at_call 172;refine(K.o _ _ HX1.o).mono ?_;rintro e w3 ⟨x,y,z,rfl,hz,hrp⟩;obtain⟨xo,xn,xA,xk,xc,rfl,rfl,rfl⟩:=hz.form;have HZ:=Hd hz;have HRP:=Hd hrp;have HR3:=Hd (HR1.o.only hrp.2 hlt);obtain⟨m0,m1,m2,mf⟩:=HR3.o.facts;have hs3:w.heap.size<w3.heap.size:=hlS HR3.o.blk;clear hz hrp));exact bodyPost_ret (aN results140 _ _ w.heap.size _ _ _ _ rfl ((Bm _ _ _ (by simpa[World.setCell]using hs3)).trans (bB HR3.o.blk)) underlying52 (by kernel_rfl)) rfl (XP.one HO1.o HZ.o HRP.o hlt hs1 (by unfold I64;omega))
theorem qdZ(w:World)(B rb:Nat)(A:OA)(c:Nat)(l:List Tk)(r:Rs)(h:RX w B rb A c l r)(k1:isA l r ⟨#[43]⟩=true\/isA l r ⟨#[45]⟩=true->∀W,RX W B rb A c l (nxt r)->Calls prog 170 #[.pointer (some ⟨rb,0,none⟩)] W (XP B rb A c l (EX l .una (nxt r)) W))(k2:∀W,RX W B rb A c l r->Calls prog 197 #[.pointer (some ⟨rb,0,none⟩)] W (XP B rb A c l (EX l .pri r) W)):
 Calls prog 170 #[.pointer (some ⟨rb,0,none⟩)] w (XP B rb A c l (EX l .una r) w):=by
 have K1:=Hd k1;have K2:=Hd k2;clear k1 k2;obtain⟨W0,hW0,HB0,-⟩:=newW w #[.int .i64 0,.int .i64 0,.slice none 0 0] 52;have HR0:Hid (RB W0 w.heap.size):=by unfold Hid;rw[hW0];exact RB.start w
 have hlt:=h.lt;have HX0:=Hd (h.below HB0.o);have HO0:Hid (zaZ rb w W0):=zaZ.of_below HB0.o;have hs0:w.heap.size<W0.heap.size:=hlS HR0.o.blk;clear h;rcases n1:isA l r ⟨#[43]⟩with _|_
 ·rcases n2:isA l r ⟨#[45]⟩with _|_
  ·rw[zaP n1 n2];have N1:=Hd n1;have N2:=Hd n2;have tok1:=trivial;clear n1 n2;go_enter func170,ntmps170;go_wp2_with(first|(clear tok1;rw[<-hW0];clear hW0;go_at_call 98;refine(aR N1.o HX0.o).mono ?_;rintro e w1 ⟨rfl,hrp⟩;have HX1:=Hd hrp.1;have HO1:=Hd (HO0.o.trans hrp.2);have HR1:=Hd (HR0.o.only hrp.2 hlt);have hs1:w.heap.size<w1.heap.size:=hlS HR1.o.blk;clear hrp)|(go_at_call 98;refine(aR N2.o HX1.o).mono ?_;rintro e w2 ⟨rfl,hrp⟩;have HX2:=Hd hrp.1;have HO2:=Hd (HO1.o.trans hrp.2);have HR2:=Hd (HR1.o.only hrp.2 hlt);have hs2:w.heap.size<w2.heap.size:=hlS HR2.o.blk;clear hrp)|(go_at_call 197;refine(K2.o _ HX2.o).mono ?_;rintro e w3 ⟨x,y,z,rfl,hz,hrp⟩;obtain⟨xo,xn,xA,xk,xc,rfl,rfl,rfl⟩:=hz.form;have HZ:=Hd hz;have HRP:=Hd hrp;have HR3:=Hd (HR2.o.only hrp.2 hlt);obtain⟨m0,m1,m2,mf⟩:=HR3.o.facts;have hs3:w.heap.size<w3.heap.size:=hlS HR3.o.blk;clear hz hrp));exact bodyPost_ret (aN results170 _ _ w.heap.size _ _ _ _ rfl (bB HR3.o.blk) underlying52 (by kernel_rfl)) rfl (XP.done HO2.o HZ.o HRP.o hlt hs2)
  ·rw[qsQ n1 n2];have N1:=Hd n1;have N2:=Hd n2;have tok1:=trivial;clear n1 n2;go_enter func170,ntmps170;go_wp2_with(first|(clear tok1;rw[<-hW0];clear hW0;go_at_call 98;refine(aR N1.o HX0.o).mono ?_;rintro e w1 ⟨rfl,hrp⟩;have HX1:=Hd hrp.1;have HO1:=Hd (HO0.o.trans hrp.2);have HR1:=Hd (HR0.o.only hrp.2 hlt);have hs1:w.heap.size<w1.heap.size:=hlS HR1.o.blk;clear hrp)|(go_at_call 98;refine(dI N2.o HX1.o).mono ?_;rintro e w2 ⟨rfl,hrp⟩;have HX2:=Hd hrp.1;have HO2:=Hd (HO1.o.trans hrp.2);have HR2:=Hd (HR1.o.only hrp.2 hlt);have hs2:w.heap.size<w2.heap.size:=hlS HR2.o.blk;clear hrp)|(go_at_call 170;refine(K1.o (.inr N2.o) _ HX2.o).mono ?_;rintro e w3 ⟨x,y,z,rfl,hz,hrp⟩;obtain⟨xo,xn,xA,xk,xc,rfl,rfl,rfl⟩:=hz.form;have HZ:=Hd hz;have HRP:=Hd hrp;have HR3:=Hd (HR2.o.only hrp.2 hlt);obtain⟨m0,m1,m2,mf⟩:=HR3.o.facts;have hs3:w.heap.size<w3.heap.size:=hlS HR3.o.blk;clear hz hrp));exact bodyPost_ret (aN results170 _ _ w.heap.size _ _ _ _ rfl ((Bm _ _ _ (by simpa[World.setCell]using hs3)).trans (bB HR3.o.blk)) underlying52 (by kernel_rfl)) rfl (XP.one HO2.o HZ.o HRP.o hlt hs2 (by unfold I64;omega))
 ·rw[qvY n1];have N1:=Hd n1;clear n1;go_enter func170,ntmps170;go_wp2_with(first|(rw[<-hW0];clear hW0;go_at_call 98;refine(dI N1.o HX0.o).mono ?_;rintro e w1 ⟨rfl,hrp⟩;have HX1:=Hd hrp.1;have HO1:=Hd (HO0.o.trans hrp.2);have HR1:=Hd (HR0.o.only hrp.2 hlt);have hs1:w.heap.size<w1.heap.size:=hlS HR1.o.blk;clear hrp)|(go_at_call 170;refine(K1.o (.inl N1.o) _ HX1.o).mono ?_;rintro e w3 ⟨x,y,z,rfl,hz,hrp⟩;obtain⟨xo,xn,xA,xk,xc,rfl,rfl,rfl⟩:=hz.form;have HZ:=Hd hz;have HRP:=Hd hrp;have HR3:=Hd (HR1.o.only hrp.2 hlt);obtain⟨m0,m1,m2,mf⟩:=HR3.o.facts;have hs3:w.heap.size<w3.heap.size:=hlS HR3.o.blk;clear hz hrp));exact bodyPost_ret (aN results170 _ _ w.heap.size _ _ _ _ rfl (bB HR3.o.blk) underlying52 (by kernel_rfl)) rfl (XP.done HO1.o HZ.o HRP.o hlt hs1)
theorem vV(w:World)(B rb:Nat)(A:OA)(c:Nat)(l:List Tk)(r:Rs)(h:RX w B rb A c l r)(k:∀W,RX W B rb A c l (zbY l r ⟨#[91]⟩)->Calls prog 138 #[.pointer (some ⟨rb,0,none⟩),.int .i64 0] W (XP B rb A c l (EX l (.lev 0) (zbY l r ⟨#[91]⟩)) W)):
 Calls prog 139 #[.pointer (some ⟨rb,0,none⟩)] w (XP B rb A c l (EX l .brk r) w):=by
 have K:=Hd k;clear k;obtain⟨W0,hW0,HB0,-⟩:=newW w #[.int .i64 0,.int .i64 0,.slice none 0 0] 52;have HR0:Hid (RB W0 w.heap.size):=by unfold Hid;rw[hW0];exact RB.start w
 have hlt:=h.lt;have HX0:=Hd (h.below HB0.o);have HO0:Hid (zaZ rb w W0):=zaZ.of_below HB0.o;have hs0:w.heap.size<W0.heap.size:=hlS HR0.o.blk;clear h;rw[zaU];have tok1:=trivial;go_enter func139,ntmps139;go_wp2_with(first|(clear tok1;rw[<-hW0];clear hW0;go_at_call 137;refine(lC _ _ _ _ _ _ _ _ HX0.o).mono ?_;rintro e w1 ⟨rfl,hrp⟩;have HX1:=Hd hrp.1;have HO1:=Hd (HO0.o.trans hrp.2);have HR1:=Hd (HR0.o.only hrp.2 hlt);have hs1:w.heap.size<w1.heap.size:=hlS HR1.o.blk;clear hrp)|(go_at_call 138;refine(K.o _ HX1.o).mono ?_;rintro e w2 ⟨x,y,z,rfl,hz,hrp⟩;obtain⟨xo,xn,xA,xk,xc,rfl,rfl,rfl⟩:=hz.form;have HZ:=Hd hz;have HRP:=Hd hrp;have HR2:=Hd (HR1.o.only hrp.2 hlt);have hs2:w.heap.size<w2.heap.size:=hlS HR2.o.blk;clear hz hrp;have HB3:Hid (Bw w2 (w2.alloc (.cells #[.int .i64 xo,.int .i64 xn,.slice xA xk xc] 52))):=nB _ _;have HX3:=Hd (HRP.o.1.below HB3.o);have HR3:=Hd (HR2.o.below HB3.o);have hq3:=Hn w2 (.cells #[.int .i64 xo,.int .i64 xn,.slice xA xk xc] 52);have HQ3:=Hd hq3;have hl3:=hlS hq3;clear hq3)|(go_at_call 137;refine(lC _ _ _ _ _ _ _ _ HX3.o).mono ?_;rintro e w4 ⟨rfl,hrp⟩;have HRQ:=Hd hrp;have HR4:=Hd (HR3.o.only hrp.2 hlt);obtain⟨m0,m1,m2,mf⟩:=HR4.o.facts;have q4:=(hrp.2.2.2.2.2 _ hl3 (by omega)).trans HQ3.o;have p0:w4.cell? ⟨w2.heap.size,0,none⟩=some (.int .i64 xo):=Ro w4 _ 0 _ _ _ q4;have p1:w4.cell? ⟨w2.heap.size,1,none⟩=some (.int .i64 xn):=Ro w4 _ 1 _ _ _ q4;have p2:w4.cell? ⟨w2.heap.size,2,none⟩=some (.slice xA xk xc):=Ro w4 _ 2 _ _ _ q4;clear hrp q4));have HZ4:Rz w4 (λg=>w1.heap.size<=g) (EX l (.lev 0) (zbY l r ⟨#[91]⟩)).1 (.agg #[.int .i64 xo,.int .i64 xn,.slice xA xk xc]):=by
  have ho:=HRQ.o.2;have h1:=HB3.o.size;exact HZ.o.keep (Ly h1 ho.2.2.2.1) (λ_ _ q=>q) λg hg hi=>(ho.2.2.2.2 g (by omega) (by have:=hs1;omega)).trans (HB3.o.block g hg)
 exact bodyPost_ret (aN results139 _ _ w.heap.size _ _ _ _ rfl (bB HR4.o.blk) underlying52 (by kernel_rfl)) rfl (XP.done (q:=((EX l (.lev 0) (zbY l r ⟨#[91]⟩)).1,zbY l (EX l (.lev 0) (zbY l r ⟨#[91]⟩)).2 ⟨#[93]⟩)) HO1.o HZ4 ⟨HRQ.o.1,(HRP.o.2.trans (zaZ.of_below HB3.o)).trans HRQ.o.2⟩ hlt hs1)
def zkD:Array Value:=⟨zhJ.map .string⟩
def zlV(s:ByteArray)(W0:World)(i:Value)(W:World):Prop:=∃k:Nat,k<=9/\i=.int .i64 (k:Int)/\W0=W/\zfS s=zeT s (zhJ.drop k) k
theorem pK(s:ByteArray)(w:World):
 Calls prog 210 #[.string s] w λe w'=>e=.returned (.int .i64 (zfS s))/\Bw w w':=by
 obtain⟨W0,hW0⟩:∃W0,W0=w.alloc (.cells zkD 9):=⟨_,rfl⟩;have HB0:Hid (Bw w W0):=by unfold Hid;rw[hW0];exact nB _ _
 have H0:Hid (W0.heap[w.heap.size]? =some (.cells zkD 9 (0,0))):=by unfold Hid;rw[hW0];exact Hn w _
 have HR0:Hid (zlV s W0 (.int .i64 0) W0):=⟨0,by omega,rfl,rfl,rfl⟩;go_enter func210,ntmps210;go_wp2_with fail;have e0:w.alloc (.cells #[.string ⟨#[83,73,78]⟩,.string ⟨#[67,79,83]⟩,.string ⟨#[84,65,78]⟩,.string ⟨#[65,84,65,78]⟩,.string ⟨#[83,81,82,84]⟩,.string ⟨#[65,66,83]⟩,.string ⟨#[82,79,85,78,68]⟩,.string ⟨#[70,73,88]⟩,.string ⟨#[70,85,80]⟩] 9)=W0:=hW0.symm;rw[e0];clear e0 hW0;go_loopw[4] (zlV s W0) (λj _=>9-(intOf j).toNat)
 case atStart=>exact HR0.o
 case round=>
  obtain⟨k,hk,rfl,rfl,her⟩:=hrel;have HER:=Hd her;clear her HR0;by_cases hlt:k<9
  ·obtain⟨nm,hnm⟩:∃nm,zhJ[k]? =some nm:=⟨_,Gg (show k<zhJ.length by show k<9;omega)⟩;have c0:W0.cell? ⟨w.heap.size,k,none⟩=some (.string nm):=by
    refine(Ro W0 _ k _ _ _ H0.o).trans ?_;unfold zkD;rw[List.getElem?_toArray,Gm,hnm];rfl
   have HST:Hid (zfS s=if nm=s then 8+(k:Int)else zeT s (zhJ.drop (k+1)) ((k:Int)+1)):=by
    unfold Hid;rw[HER.o,cE hnm];rfl
   have i0:(0:Int)<=(k:Int):=by omega
   have i1:(k:Int)<9:=by omega
   clear hnm;by_cases hq:nm.toList=s.toList
   ·have hq':(nm.toList==s.toList)=true:=beq_iff_eq.2 hq;have E:Hid (zfS s=8+(k:Int)):=by unfold Hid;rw[HST.o,Ip (Eq.mp (mY _ _) hq)]
    go_wp2_with fail;go_ret;exact⟨by rw[E.o];rfl,HB0.o⟩
   ·have hq':(nm.toList==s.toList)=false:=beq_eq_false_iff_ne.2 hq;have E:Hid (zfS s=zeT s (zhJ.drop (k+1)) ((k:Int)+1)):=by unfold Hid;rw[HST.o,Iq (λe=>hq (Eq.mpr (mY _ _) e))]
    go_wp2_with fail;exact⟨⟨k+1,by omega,by go_num,rfl,E.o⟩,by simp only[intOf];omega⟩
  ·obtain rfl:k=9:=by omega
   have E:Hid (zfS s= -1):=HER.o;go_wp2_with fail;go_ret;exact⟨by rw[E.o];rfl,HB0.o⟩
def zgK(n:Nat):Array Value:=⟨(zdC n).map λp=>.string p.1⟩
def ziQ(n:Nat):Array Value:=⟨(zdC n).map λp=>.int .i64 p.2⟩
theorem vO(n:Nat)(hn:n<5)(w:World):
 Calls prog 171 #[.int .i64 n] w λe w'=>e=.returned (.tuple #[.slice (some ⟨w.heap.size,0,none⟩) (zdC n).length (zdC n).length,.slice (some ⟨w.heap.size+1,0,none⟩) (zdC n).length (zdC n).length])/\w'=(w.alloc (.cells (zgK n) 9)).alloc (.cells (ziQ n) 3):=by
 obtain rfl|rfl|rfl|rfl|rfl:n=0\/n=1\/n=2\/n=3\/n=4:=by omega
 all_goals
  go_enter func171,ntmps171;go_wp2_with fail;go_ret2;exact⟨by simp[zdC],rfl⟩
theorem qfN(s:ByteArray):∀(fs:List ByteArray) (i:Int),0<=i->i+fs.length<=1000->-1<=zeT s fs i/\zeT s fs i<=1100:=by
 intro fs;induction fs with
 |nil=>intro i h1 h2;simp only[zeT];omega
 |cons f fs ih=>
  intro i h1 h2;rw[zeT];simp only[Lc]at h2;split
  ·omega
  ·exact ih (i+1) (by omega) (by omega)
theorem qxQ(l:List Tk)(r:Rs): -1<=opA l r/\opA l r<=1100:=by
 unfold opA;split
 ·exact qfN _ zhJ 0 (by omega) (by show(0:Int)+(9:Nat)<=1000;omega)
 ·omega
theorem qbZ(w:World)(B rb:Nat)(A:OA)(c:Nat)(l:List Tk)(r:Rs)(h:RX w B rb A c l r)(hA:opA l r≠11)(k1:opA l r<0->∀W,RX W B rb A c l r->Calls prog 136 #[.pointer (some ⟨rb,0,none⟩)] W (XP B rb A c l (EX l .cel r) W))(k2:0<=opA l r->∀W,RX W B rb A c l (nxt r)->Calls prog 139 #[.pointer (some ⟨rb,0,none⟩)] W (XP B rb A c l (EX l .brk (nxt r)) W)):
 Calls prog 197 #[.pointer (some ⟨rb,0,none⟩)] w (XP B rb A c l (EX l .pri r) w):=by
 have K1:Hid (opA l r<0->∀W,RX W B rb A c l r->Calls prog 172 #[.pointer (some ⟨rb,0,none⟩)] W (XP B rb A c l (EX l .cel r) W)):=λho W hx=>tH W B rb A c l r hx (k1 ho);have K2:=Hd k2;clear k1 k2;obtain⟨W0,hW0,HB0,-⟩:=newW w #[.int .i64 0,.int .i64 0,.slice none 0 0] 52;have HR0:Hid (RB W0 w.heap.size):=by unfold Hid;rw[hW0];exact RB.start w
 have hlt:=h.lt;have HX0:=Hd (h.below HB0.o);have HO0:Hid (zaZ rb w W0):=zaZ.of_below HB0.o;have hs0:w.heap.size<W0.heap.size:=hlS HR0.o.blk;clear h;have HC0:=Hd (eA W0 B rb A c l r HX0.o);have HLT:Hid ((zcO l r).kind≠0->r.1<l.length):=gG;obtain⟨⟨tk,tn,tp,tx⟩,ht⟩:∃t,zcO l r=t:=⟨_,rfl⟩;have hop:opA l r=if tk=3 then zfS tx else-1:=by unfold opA;rw[ht]
 rw[ht]at HC0 HLT;have HTK:Hid (Calls prog 133 #[.pointer (some ⟨rb,0,none⟩)] W0 λe w'=>e=.returned (.agg #[.int .i64 tk,.int .i64 tn,.int .i64 tp,.string tx])/\Bw W0 w'):=HC0.o;dsimp only at HLT;clear ht HC0;by_cases h3:tk=3
 ·rw[Ip h3]at hop;have g0:(tk==3)=true:=beq_iff_eq.2 h3;have hk0:tk≠0:=by omega
  clear h3;by_cases hn:opA l r<0
  ·rw[qiH hn];have KS:=Hd (K1.o hn);rw[hop]at hn;have g1:decide (zfS tx<0)=true:=Dt hn;clear hop hA K1 K2 HLT;go_enter func197,ntmps197;go_wp2_with(first|(rw[<-hW0];clear hW0;go_at_call 133;refine(HTK.o).mono ?_;rintro e w1 ⟨rfl,hb⟩;have HB1:=Hd (hb.alloc hb.size (.cells #[.int .i64 tk,.int .i64 tn,.int .i64 tp,.string tx] 157));have HX1:=Hd (HX0.o.below HB1.o);have HO1:=Hd (HO0.o.trans (zaZ.of_below HB1.o));have HR1:=Hd (HR0.o.below HB1.o);have hs1:=hlS HR1.o.blk;clear hb)|(go_at_call 210;refine(pK _ _).mono ?_;rintro e w2 ⟨rfl,hb⟩;have HX2:=Hd (HX1.o.below hb);have HO2:=Hd (HO1.o.trans (zaZ.of_below hb));have HR2:=Hd (HR1.o.below hb);have hs2:w.heap.size<w2.heap.size:=hlS HR2.o.blk;obtain⟨c0,c1,c2,cf⟩:=HX2.o.cells;have hml:=HX2.o.tok.1;clear hb)|(go_at_call 172;refine(KS.o _ HX2.o).mono ?_;rintro e w3 ⟨x,y,z,rfl,hz,hrp⟩;obtain⟨xo,xn,xA,xk,xc,rfl,rfl,rfl⟩:=hz.form;have HZ:=Hd hz;have HRP:=Hd hrp;have HR3:=Hd (HR2.o.only hrp.2 hlt);obtain⟨m0,m1,m2,mf⟩:=HR3.o.facts;have hs3:w.heap.size<w3.heap.size:=hlS HR3.o.blk;clear hz hrp));exact bodyPost_ret (aN results197 _ _ w.heap.size _ _ _ _ rfl (bB HR3.o.blk) underlying52 (by kernel_rfl)) rfl (XP.done HO2.o HZ.o HRP.o hlt hs2)
  ·have hA':=hA;rw[zaQ (by omega),Iq hA];have KB:=Hd (K2.o (by omega));have hlt2:=HLT.o hk0;have ho:=qxQ l r;rw[hop]at hn hA' ho⊢
   have g1:decide (zfS tx<0)=false:=Df hn;have g2:(zfS tx==11)=false:=beq_eq_false_iff_ne.2 hA';obtain⟨op,hopx⟩:∃op,zfS tx=op:=⟨_,rfl⟩;have HFX:Hid (∀W,Calls prog 210 #[.string tx] W λe w'=>e=.returned (.int .i64 op)/\Bw W w'):=λW=>by rw[<-hopx];exact pK tx W
   rw[hopx]at hn ho g1 g2⊢
   clear hopx hn;clear hop hA hA' K1 K2 HLT;go_enter func197,ntmps197;go_wp2_with(first|(rw[<-hW0];clear hW0;go_at_call 133;refine(HTK.o).mono ?_;rintro e w1 ⟨rfl,hb⟩;have HB1:=Hd (hb.alloc hb.size (.cells #[.int .i64 tk,.int .i64 tn,.int .i64 tp,.string tx] 157));have HX1:=Hd (HX0.o.below HB1.o);have HO1:=Hd (HO0.o.trans (zaZ.of_below HB1.o));have HR1:=Hd (HR0.o.below HB1.o);have hs1:=hlS HR1.o.blk;clear hb)|(go_at_call 210;refine(HFX.o _).mono ?_;rintro e w2 ⟨rfl,hb⟩;have HX2:=Hd (HX1.o.below hb);have HO2:=Hd (HO1.o.trans (zaZ.of_below hb));have HR2:=Hd (HR1.o.below hb);have hs2:w.heap.size<w2.heap.size:=hlS HR2.o.blk;obtain⟨c0,c1,c2,cf⟩:=HX2.o.cells;have hml:=HX2.o.tok.1;clear hb));refine(KB.o _ (HX2.o.next hlt2)).mono ?_;rintro e w3 ⟨x,y,z,rfl,hz,hrp⟩;obtain⟨xo,xn,xA,xk,xc,rfl,rfl,rfl⟩:=hz.form;have HZ:=Hd hz;have HRP:=Hd hrp;have HR3:=Hd ((HR2.o.only (HX2.o.only 1 _) hlt).only hrp.2 hlt);obtain⟨m0,m1,m2,mf⟩:=HR3.o.facts;have hs3:w.heap.size<w3.heap.size:=hlS HR3.o.blk;clear hz hrp;go_wp2_with fail;exact bodyPost_ret (aN results197 _ _ w.heap.size _ _ _ _ rfl ((Bm _ _ _ (by simpa[World.setCell]using hs3)).trans (bB HR3.o.blk)) underlying52 (by kernel_rfl)) rfl (XP.one (HO2.o.trans (HX2.o.only 1 _)) HZ.o HRP.o hlt (by simpa[World.setCell]using hs2) (by unfold I64;omega))
 ·rw[Iq h3]at hop;have hn:opA l r<0:=by omega
  rw[qiH hn];have KS:=Hd (K1.o hn);have g0:(tk==3)=false:=beq_eq_false_iff_ne.2 h3;clear hop hA hn K1 K2 HLT;go_enter func197,ntmps197;go_wp2_with(first|(rw[<-hW0];clear hW0;go_at_call 133;refine(HTK.o).mono ?_;rintro e w1 ⟨rfl,hb⟩;have HB1:=Hd (hb.alloc hb.size (.cells #[.int .i64 tk,.int .i64 tn,.int .i64 tp,.string tx] 157));have HX1:=Hd (HX0.o.below HB1.o);have HO1:=Hd (HO0.o.trans (zaZ.of_below HB1.o));have HR1:=Hd (HR0.o.below HB1.o);have hs1:=hlS HR1.o.blk;clear hb)|(go_at_call 172;refine(KS.o _ HX1.o).mono ?_;rintro e w3 ⟨x,y,z,rfl,hz,hrp⟩;obtain⟨xo,xn,xA,xk,xc,rfl,rfl,rfl⟩:=hz.form;have HZ:=Hd hz;have HRP:=Hd hrp;have HR3:=Hd (HR1.o.only hrp.2 hlt);obtain⟨m0,m1,m2,mf⟩:=HR3.o.facts;have hs3:w.heap.size<w3.heap.size:=hlS HR3.o.blk;clear hz hrp));exact bodyPost_ret (aN results197 _ _ w.heap.size _ _ _ _ rfl (bB HR3.o.blk) underlying52 (by kernel_rfl)) rfl (XP.done HO1.o HZ.o HRP.o hlt hs1)
theorem zmB:(prog.info? 52).bind (λi=>i.zero.map λz=>(i.size,i.bytes,z.cells.size))=some (3,40,3):=by kernel_rfl
theorem ziE:∃(i:TypeInfo) (z:Value),prog.info? 52=some i/\i.zero=some z/\i.size=3/\i.bytes=40/\z.cells.size=3:=by
 have h:=zmB;rcases hi:prog.info? 52 with _|i
 ·rw[hi]at h;cases h
 rw[hi]at h;rcases hz:i.zero with _|z
 ·simp only[Ob,hz,On]at h;cases h
 simp only[Ob,hz,Om,Oi,Pj]at h;exact⟨i,z,rfl,hz,h.1,h.2.1,h.2.2⟩
theorem zkT{W:World}{n0 g cap:Nat}{t s:Tr}{op:Int}{x y z x2 y2 z2:Value}(hc:∀j,j<6->W.cell? ⟨g,j,none⟩=[x,y,z,x2,y2,z2][j]?)(hl:g<W.heap.size)(ht:Rz W (λg=>n0<=g) t (.agg #[x,y,z]))(hs:Rz W (λg=>n0<=g) s (.agg #[x2,y2,z2]))(hn:n0<=g)(ho:I64 op):
 Rz W (λg=>n0<=g) (t2 op t s) (.agg #[.int .i64 op,.int .i64 0,.slice (some ⟨g,0,none⟩) 2 cap]):=by
 refine⟨_,cap,rfl,ho,by unfold I64;omega,by unfold maxLen;omega,.inr ⟨g,rfl,hn,hl,λi hi=> ?_⟩⟩;obtain rfl|rfl:i=0\/i=1:=by omega
 ·exact⟨x,y,z,(hc 0 (by omega)).trans rfl,(hc 1 (by omega)).trans rfl,(hc 2 (by omega)).trans rfl,ht⟩
 ·exact⟨x2,y2,z2,(hc 3 (by omega)).trans rfl,(hc 4 (by omega)).trans rfl,(hc 5 (by omega)).trans rfl,hs⟩
theorem XP.mk'{w wF:World}{B rb:Nat}{A:OA}{c:Nat}{l:List Tk}{t:Tr}{r:Rs}{x y z:Value}(h:Rz wF (λg=>w.heap.size+1<=g) t (.agg #[x,y,z]))(hx:RX wF B rb A c l r)(ho:zaZ rb w wF):XP B rb A c l (t,r) w (.returned (.agg #[x,y,z])) wF:=
 ⟨x,y,z,rfl,h.keep (Le _) (λq _ hi=>by have h1:w.heap.size+1<=q:=hi;show w.heap.size<=q;omega) (λ_ _ _=>rfl),hx,ho⟩
theorem RX.of{w w':World}{B rb:Nat}{A:OA}{c:Nat}{l:List Tk}{r:Rs}(h:RX w B rb A c l r)(k:∀q,q<=rb->w'.heap[q]? =w.heap[q]?):RX w' B rb A c l r:=by
 have hge:=h.ge;exact⟨h.ge,(k _ (Le _)).trans h.blk,h.tok.keep (λp hp=>Wb (k p.block (by omega))) (Le _),h.pos,h.bad⟩
theorem ziA(w:World)(B rb:Nat)(A:OA)(c:Nat)(l:List Tk)(r:Rs)(h:RX w B rb A c l r)(hA:opA l r=11)(k2:∀r' W,zaX l r'<=zaX l (nxt r)->RX W B rb A c l r'->Calls prog 139 #[.pointer (some ⟨rb,0,none⟩)] W (XP B rb A c l (EX l .brk r') W)):
 Calls prog 197 #[.pointer (some ⟨rb,0,none⟩)] w (XP B rb A c l (EX l .pri r) w):=by
 have K2:=Hd k2;clear k2;obtain⟨W0,hW0,HB0,-⟩:=newW w #[.int .i64 0,.int .i64 0,.slice none 0 0] 52;have HR0:Hid (RB W0 w.heap.size):=by unfold Hid;rw[hW0];exact RB.start w
 have hlt:=h.lt;have HX0:=Hd (h.below HB0.o);have HO0:Hid (zaZ rb w W0):=zaZ.of_below HB0.o;have hs0:w.heap.size<W0.heap.size:=hlS HR0.o.blk;clear h;have HC0:=Hd (eA W0 B rb A c l r HX0.o);have HLT:Hid ((zcO l r).kind≠0->r.1<l.length):=gG;have HEX:Hid (EX l .pri r=(t2 11 (EX l .brk (nxt r)).1 (EX l .brk (zbY l (EX l .brk (nxt r)).2 ⟨#[47]⟩)).1,(EX l .brk (zbY l (EX l .brk (nxt r)).2 ⟨#[47]⟩)).2)):=by
  unfold Hid;rw[zaQ (by omega),Ip hA,hA]
 rw[HEX.o];clear HEX;obtain⟨⟨tk,tn,tp,tx⟩,ht⟩:∃t,zcO l r=t:=⟨_,rfl⟩;have hop:opA l r=if tk=3 then zfS tx else-1:=by unfold opA;rw[ht]
 rw[ht]at HC0 HLT;have HTK:Hid (Calls prog 133 #[.pointer (some ⟨rb,0,none⟩)] W0 λe w'=>e=.returned (.agg #[.int .i64 tk,.int .i64 tn,.int .i64 tp,.string tx])/\Bw W0 w'):=HC0.o;dsimp only at HLT;clear ht HC0;have h3:tk=3:=by
  by_cases h3:tk=3
  ·exact h3
  ·rw[Iq h3]at hop;omega
 rw[Ip h3,hA]at hop;have g0:(tk==3)=true:=beq_iff_eq.2 h3;have hk0:tk≠0:=by omega
 have hlt2:=HLT.o hk0;have HFX:Hid (∀W,Calls prog 210 #[.string tx] W λe w'=>e=.returned (.int .i64 11)/\Bw W w'):=λW=>by rw[hop];exact pK tx W
 obtain⟨iE,zE,hiE,hE0,hEa,hEb,hEs⟩:=ziE;have HIE:=Hd hiE;have HZE:=Hd hE0;have KB:=Hd (λW hx=>K2.o (nxt r) W (Le _) hx);obtain⟨⟨ta,ra⟩,hqa⟩:∃q,EX l .brk (nxt r)=q:=⟨_,rfl⟩;have HQL:Hid (zaX l (zbY l ra ⟨#[47]⟩)<=zaX l (nxt r)):=by
  have q:=gJ l .brk (nxt r);rw[hqa]at q;exact Ly (jS l ra _) q
 rw[hqa]at KB⊢
 dsimp only;obtain⟨rw2,hrw⟩:∃q,zbY l ra ⟨#[47]⟩=q:=⟨_,rfl⟩;have HWT:=Hd (λ(W:World) (hx:RX W B rb A c l ra)=>lC W B rb A c l ra ⟨#[47]⟩ hx);rw[hrw]at HQL HWT⊢
 have KC:=Hd (λW hx=>K2.o rw2 W HQL.o hx);obtain⟨⟨tb,rb2⟩,hqb⟩:∃q,EX l .brk rw2=q:=⟨_,rfl⟩;rw[hqb]at KC⊢
 clear hqa hqb hrw HQL K2 hop h3 hk0 hiE hE0 HLT hA;dsimp only;go_enter func197,ntmps197;go_wp2_with(first|(rw[<-hW0];clear hW0;go_at_call 133;refine(HTK.o).mono ?_;rintro e w1 ⟨rfl,hb⟩;have HB1:=Hd (hb.alloc hb.size (.cells #[.int .i64 tk,.int .i64 tn,.int .i64 tp,.string tx] 157));have HX1:=Hd (HX0.o.below HB1.o);have HO1:=Hd (HO0.o.trans (zaZ.of_below HB1.o));have HR1:=Hd (HR0.o.below HB1.o);have hs1:=hlS HR1.o.blk;clear hb)|(go_at_call 210;refine(HFX.o _).mono ?_;rintro e w2 ⟨rfl,hb⟩;have HX2:=Hd (HX1.o.below hb);have HO2:=Hd (HO1.o.trans (zaZ.of_below hb));have HR2:=Hd (HR1.o.below hb);have hs2:w.heap.size<w2.heap.size:=hlS HR2.o.blk;obtain⟨c0,c1,c2,cf⟩:=HX2.o.cells;have hml:=HX2.o.tok.1;clear hb));refine(KB.o _ (HX2.o.next hlt2)).mono ?_;rintro e w3 ⟨x,y,z,rfl,hz,hrp⟩;obtain⟨xo,xn,xA,xk,xc,rfl,rfl,rfl⟩:=hz.form;have HO3:Hid (zaZ rb w w3):=(HO2.o.trans (HX2.o.only 1 _)).trans hrp.2;have HR3:=Hd ((HR2.o.only (HX2.o.only 1 _) hlt).only hrp.2 hlt);have HZ:Hid (Rz w3 (λg=>w.heap.size+1<=g) ta (.agg #[.int .i64 xo,.int .i64 xn,.slice xA xk xc])):=hz.keep (Le _) (λg _ hg=>by have q:(w2.setCell ⟨rb,1,none⟩ _).heap.size<=g:=hg;simp only[World.setCell,Array.size_setIfInBounds,Array.size_modify]at q;omega) (λ_ _ _=>rfl);have HX3:=Hd hrp.1;have hs3:w.heap.size<w3.heap.size:=hlS HR3.o.blk;clear hz hrp HX2 HO2 HR2 KB;obtain⟨W4,hW4,HB4,q4⟩:=newW w3 #[.int .i64 xo,.int .i64 xn,.slice xA xk xc] 52;have HX4:=Hd (HX3.o.below HB4.o);have HR4:=Hd (HR3.o.below HB4.o);have HQ4:=Hd q4;have hs4:=hlS q4;clear q4 HX3;go_wp2_with fail;rw[<-hW4];clear hW4;refine(HWT.o _ HX4.o).mono ?_;rintro e w5 ⟨rfl,hrp⟩;have HX5:=Hd hrp.1;have HO5:=Hd hrp.2;have hs5:=hrp.2.size;clear hrp HX4 HWT;go_wp2_with fail;refine(KC.o _ HX5.o).mono ?_;rintro e w6 ⟨x',y',z',rfl,hz,hrp⟩;obtain⟨yo,yn,yA,yk,yc,rfl,rfl,rfl⟩:=hz.form;have hs6:=hrp.2.size;have HO36:Hid (zaZ rb w3 w6):=((zaZ.of_below HB4.o).trans HO5.o).trans hrp.2;have HO6:Hid (zaZ rb w w6):=HO3.o.trans HO36.o;have HZ6:Hid (Rz w6 (λg=>w3.heap.size+1<=g) tb (.agg #[.int .i64 yo,.int .i64 yn,.slice yA yk yc])):=hz.keep (Le _) (λg _ hg=>by have q:w5.heap.size<=g:=hg;omega) (λ_ _ _=>rfl);have HQ6:Hid (w6.heap[w3.heap.size]? =some (.cells #[.int .i64 xo,.int .i64 xn,.slice xA xk xc] 52 (0,0))):=((HO5.o.trans hrp.2).2.2.2.2 _ hs4 (by omega)).trans HQ4.o;have HR6:Hid (RB w6 w.heap.size):=HR3.o.only HO36.o hlt;have HX6:=Hd hrp.1;clear hz hrp HX5 KC HO5 HR4 HQ4 HB4;obtain⟨W7,hW7,HB7,q7⟩:=newW w6 #[.int .i64 yo,.int .i64 yn,.slice yA yk yc] 52;have HQ7:=Hd q7;have hs7:=hlS q7;have HOW:Hid (W7.ownsRow (w.heap.size+1) 52 3 (.slice (some ⟨w3.heap.size,0,none⟩) 1 1) 1 [.int .i64 xo,.int .i64 xn,.slice xA xk xc]):=
  ⟨rfl,.inr ⟨w3.heap.size,1,#[.int .i64 xo,.int .i64 xn,.slice xA xk xc],rfl,by omega,(HB7.o.block _ (by omega)).trans HQ6.o,Le _,by unfold maxLen;omega,rfl,rfl⟩⟩
 clear q7;go_wp2_with(at_builtin;rw[<-hW7];refine wpList_append_lies _ rfl (.tmp 32) (.tmp 35) 50 rfl (w.heap.size+1) 52 iE zE 3 40 underlying50 HIE.o HZE.o hEa hEb hEs (by omega) (.slice (some ⟨w3.heap.size,0,none⟩) 1 1) 1 [.int .i64 xo,.int .i64 xn,.slice xA xk xc] rfl HOW.o ⟨w6.heap.size,0,none⟩ 1 1 [.int .i64 yo,.int .i64 yn,.slice yA yk yc] rfl rfl (Nk HQ7.o) (by intro u hu;simp only[List.mem_cons,List.not_mem_nil,or_false]at hu;rcases hu with rfl|rfl|rfl<;>rfl) (by omega) (by unfold maxLen;omega) (by omega) (by omega) _ rfl ?_;intro g9 c9 w9 ho9 hg9 hl9 hlt9;have KQ:Hid (∀q,q<w6.heap.size->q≠w3.heap.size->w9.heap[q]? =w6.heap[q]?):=(λq h1 h2=>(hg9.block q (by omega) (λe=>h2 (Oj e))).trans (HB7.o.block q h1));have HOS:Hid (w9.os=w.os/\w9.tape=w.tape/\w9.output=w.output):=⟨hg9.os.trans (HB7.o.os.trans HO6.o.1),hg9.tape.trans (HB7.o.tape.trans HO6.o.2.1),hg9.output.trans (HB7.o.output.trans HO6.o.2.2.1)⟩;have hs9:=hg9.size;have HR9:Hid (RB w9 w.heap.size):=⟨(KQ.o _ (by omega) (by omega)).trans HR6.o.blk⟩;obtain⟨m0,m1,m2,mf⟩:=HR9.o.facts;have HO9:=Hd ho9;have HL9:Hid (w.heap.size+1<=g9):=(by rcases hl9 with e|e;(have e2:w3.heap.size=g9:=Oj e;unfold Hid;omega);(unfold Hid;omega));clear ho9 hg9 hl9);obtain⟨wF,hwF⟩:∃wF,wF=((w9.setCell ⟨w.heap.size,0,none⟩ (.int .i64 11)).setCell ⟨w.heap.size,1,none⟩ (.int .i64 0)).setCell ⟨w.heap.size,2,none⟩ (.slice (some ⟨g9,0,none⟩) 2 c9):=⟨_,rfl⟩;have hk:∀q,q≠w.heap.size->wF.heap[q]? =w9.heap[q]? :=λq hq=>by rw[hwF];exact aL w9 w.heap.size 0 q _ _ _ hq
 have hsF:wF.heap.size=w9.heap.size:=by rw[hwF];exact bJ w9 w.heap.size 0 _ _ _
 have hz1:=HZ.o.keep (w':=wF) (by omega) (λ_ _ h=>h) λq hq hi=>(hk q (by have h1:w.heap.size+1<=q:=hi;omega)).trans ((KQ.o q (by omega) (by omega)).trans (HO36.o.2.2.2.2 q hq (by have h1:w.heap.size+1<=q:=hi;omega)));have hz2:=HZ6.o.keep (w':=wF) (I':=λg=>w.heap.size+1<=g) (by omega) (λq hq hi=>by have h1:w3.heap.size+1<=q:=hi;show w.heap.size+1<=q;omega) λq hq hi=>by
  have h1:w3.heap.size+1<=q:=hi;exact(hk q (by omega)).trans (KQ.o q hq (by omega))
 have hgF:=HL9.o;have hzz:Rz wF (λg=>w.heap.size+1<=g) (t2 11 ta tb) (.agg #[.int .i64 11,.int .i64 0,.slice (some ⟨g9,0,none⟩) 2 c9]):=zkT (λj hj=>((cekC g9 j (hk g9 (by omega))).trans (HO9.o.cellAt j (by omega))).trans (by rfl)) (by omega) hz1 hz2 hgF (by unfold I64;omega);have HXF:RX wF B rb A c l rb2:=HX6.o.of λq hq=>(hk q (by omega)).trans (KQ.o q (by omega) (by omega));have HOF:zaZ rb w wF:=by
  have o9:∀q,q<w.heap.size->q≠rb->wF.heap[q]? =w.heap[q]? :=λq hq hn=>(hk q (by omega)).trans ((KQ.o q (by omega) (by omega)).trans (HO6.o.2.2.2.2 q hq hn));exact⟨by rw[hwF];exact HOS.o.1,by rw[hwF];exact HOS.o.2.1,by rw[hwF];exact HOS.o.2.2,by omega,o9⟩
 have hres:=XP.mk' hzz HXF HOF;rw[hwF]at hres;exact bodyPost_ret (aN results197 _ _ w.heap.size _ _ _ _ rfl (bB HR9.o.blk) underlying52 (by kernel_rfl)) rfl hres
