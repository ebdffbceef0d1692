/- Plain words of the reader: expressions by modes, their cost, and the equations that the walks use. The reader of cncref06: the contracts of want, cell, simple, value, function, primary, unary, bracketed. The reader of cncref06: the contracts of function, primary, operators, level; all of the reader's expressions. Conditions: those that each lemma names. -/
import Derived.Test.YtdcjbhdfphcefaaGreatDoorTn
import Derived.Test.YtdcjbhdfphcefaaGreatDoorCd
set_option linter.unusedVariables false
set_option linter.unusedSimpArgs false
namespace Go.Proofs.YtdcjbhdfphcefaaGreatDoor
open Go.PlainAid
def wantA(l:List Tk)(r:Rs)(s:ByteArray):Rs:=if isA l r s=true then nxt r else failA r
def funsB:List ByteArray:=[⟨#[83,73,78]⟩,⟨#[67,79,83]⟩,⟨#[84,65,78]⟩,⟨#[65,84,65,78]⟩,⟨#[83,81,82,84]⟩,⟨#[65,66,83]⟩,⟨#[82,79,85,78,68]⟩,⟨#[70,73,88]⟩,⟨#[70,85,80]⟩]
def funFrom(s:ByteArray):List ByteArray→Int→Int
 |[],_=> -1
 |f::r,i=>if f=s then 8+i else funFrom s r (i+1)
def funS(s:ByteArray):Int:=funFrom s funsB 0
def opsS:Nat→List (ByteArray×Int)
 |0=>[(⟨#[79,82]⟩,24),(⟨#[88,79,82]⟩,25)]
 |1=>[(⟨#[65,78,68]⟩,23)]
 |2=>[(⟨#[69,81]⟩,17),(⟨#[78,69]⟩,18),(⟨#[71,84]⟩,19),(⟨#[71,69]⟩,20),(⟨#[76,84]⟩,21),(⟨#[76,69]⟩,22)]
 |3=>[(⟨#[43]⟩,3),(⟨#[45]⟩,4)]
 |_=>[(⟨#[42]⟩,5),(⟨#[47]⟩,6),(⟨#[77,79,68]⟩,7)]
def opFrom(l:List Tk)(r:Rs):List (ByteArray×Int)→Option Int
 |[]=>none
 |p::q=>if isA l r p.1=true then some p.2 else opFrom l r q
def exA(l:List Tk):Nat→Md→Rs→Tr×Rs
 |0,_,r=>(zeroT,r)
 |k+1,.lev n,r=>if n=5 then exA l k .una r else exA l k (.lop n (exA l k (.lev (n+1)) r).1) (exA l k (.lev (n+1)) r).2
 |k+1,.lop n x,r=>match opFrom l r (opsS n)with
  |none=>(x,r)
  |some op=>let y:=exA l k (.lev (n+1)) (nxt r)
   if n=2 then(t2 op x y.1,y.2)else exA l k (.lop n (t2 op x y.1)) y.2
 |k+1,.una,r=>
  if isA l r ⟨#[43]⟩=true then exA l k .una (nxt r)
  else if isA l r ⟨#[45]⟩=true then(t1 2 (exA l k .una (nxt r)).1,(exA l k .una (nxt r)).2)
  else exA l k .pri r
 |k+1,.pri,r=>
  let op:=if(tokA l r).kind=3 then funS (tokA l r).text else-1
  if op<0 then exA l k .cel r
  else
   let a:=exA l k .brk (nxt r)
   if op=11 then
    let b:=exA l k .brk (wantA l a.2 ⟨#[47]⟩)
    (t2 op a.1 b.1,b.2)
   else(t1 op a.1,a.2)
 |k+1,.brk,r=>let a:=exA l k (.lev 0) (wantA l r ⟨#[91]⟩);(a.1,wantA l a.2 ⟨#[93]⟩)
 |k+1,.cel,r=>
  if isA l r ⟨#[35]⟩=true then(t1 1 (exA l k .cel (nxt r)).1,(exA l k .cel (nxt r)).2)
  else if isA l r ⟨#[91]⟩=true then exA l k .brk r
  else numA l r
def leftA(l:List Tk)(r:Rs):Nat:=if 0≤r.2 then 0 else l.length-r.1+1
def costA(l:List Tk)(m:Md)(r:Rs):Nat:=if leftA l r=0 then b0 m else 40*leftA l r+b1 m
def EX(l:List Tk)(m:Md)(r:Rs):Tr×Rs:=exA l (costA l m r) m r
def Md.ok:Md→Prop
 | .lev n=>n≤5
 | .lop n _=>n≤4
 |_=>True
theorem isA_left{l:List Tk}{r:Rs}{s:ByteArray}(h:isA l r s=true):leftA l r=leftA l (nxt r)+1∧0<leftA l (nxt r):=by
 have h1:=isA_lt h;have h2:¬(0≤r.2):=fun e=>by
  unfold isA at h;rw[tokA_none (.inr e)]at h;simp[noTk]at h
 unfold leftA nxt;dsimp only;rw[if_neg h2,if_neg h2];omega
theorem kind_left{l:List Tk}{r:Rs}(h:(tokA l r).kind≠0):leftA l r=leftA l (nxt r)+1∧0<leftA l (nxt r):=by
 have h1:=tokA_lt h;have h2:¬(0≤r.2):=fun e=>h (by rw[tokA_none (.inr e)];rfl);unfold leftA nxt;dsimp only;rw[if_neg h2,if_neg h2];omega
theorem left_nxt(l:List Tk)(r:Rs):leftA l (nxt r)≤leftA l r:=by
 unfold leftA nxt;dsimp only;split<;>omega
theorem left_fail(l:List Tk)(r:Rs):leftA l (failA r)=0:=by
 unfold leftA failA;split
 ·dsimp only;rw[if_pos (by omega)]
 ·rw[if_pos (by omega)]
theorem left_want(l:List Tk)(r:Rs)(s:ByteArray):leftA l (wantA l r s)≤leftA l r:=by
 unfold wantA;split
 ·exact left_nxt l r
 ·rw[left_fail];omega
theorem left_num(l:List Tk)(r:Rs):leftA l (numA l r).2≤leftA l r:=by
 unfold numA;split
 ·dsimp only;rw[left_fail];omega
 ·exact left_nxt l r
theorem opFrom_left{l:List Tk}{r:Rs}{op:Int}:∀{ps:List (ByteArray×Int)},opFrom l r ps=some op→leftA l r=leftA l (nxt r)+1∧0<leftA l (nxt r):=by
 intro ps;induction ps with
 |nil=>intro h;cases h
 |cons p q ih=>
  intro h;rw[opFrom]at h;split at h
  ·rename_i hi;exact isA_left hi
  ·exact ih h
theorem left_ex(l:List Tk):∀(k:Nat) (m:Md) (r:Rs),leftA l (exA l k m r).2≤leftA l r:=by
 intro k;induction k with
 |zero=>intro m r;cases m<;>exact Nat.le_refl _
 |succ k ih=>
  intro m r;cases m with
  |lev n=>
   rw[exA];split
   ·exact ih _ _
   ·exact Nat.le_trans (ih _ _) (ih _ _)
  |lop n x=>
   rw[exA];split
   ·exact Nat.le_refl _
   ·dsimp only;split
    ·exact Nat.le_trans (ih _ _) (left_nxt l r)
    ·exact Nat.le_trans (ih _ _) (Nat.le_trans (ih _ _) (left_nxt l r))
  |una=>
   rw[exA];split
   ·exact Nat.le_trans (ih _ _) (left_nxt l r)
   split
   ·exact Nat.le_trans (ih _ _) (left_nxt l r)
   ·exact ih _ _
  |pri=>
   rw[exA];dsimp only;generalize(if(tokA l r).kind=3 then funS (tokA l r).text else-1)=op;split
   ·exact ih _ _
   split
   ·exact Nat.le_trans (ih _ _) (Nat.le_trans (left_want _ _ _) (Nat.le_trans (ih _ _) (left_nxt l r)))
   ·exact Nat.le_trans (ih _ _) (left_nxt l r)
  |brk=>
   rw[exA];exact Nat.le_trans (left_want _ _ _) (Nat.le_trans (ih _ _) (left_want _ _ _))
  |cel=>
   rw[exA];split
   ·exact Nat.le_trans (ih _ _) (left_nxt l r)
   split
   ·exact ih _ _
   ·exact left_num l r
theorem left_EX(l:List Tk)(m:Md)(r:Rs):leftA l (EX l m r).2≤leftA l r:=left_ex l _ m r
theorem c_lev{l:List Tk}{r:Rs}{n:Nat}(hn:n<5):costA l (.lev (n+1)) r<costA l (.lev n) r:=by
 unfold costA;split<;>(try split)<;>simp only[b0,b1]<;>omega
theorem c_lop{l:List Tk}{r r':Rs}{n:Nat}{x:Tr}(hn:n<5)(h:leftA l r'≤leftA l r):costA l (.lop n x) r'<costA l (.lev n) r:=by
 unfold costA;split<;>(try split)<;>simp only[b0,b1]<;>omega
theorem c_una{l:List Tk}{r:Rs}:costA l .una r<costA l (.lev 5) r:=by
 unfold costA;split<;>(try split)<;>simp only[b0,b1]<;>omega
theorem c_op{l:List Tk}{r:Rs}{n:Nat}{x:Tr}(hn:n<5)(h:leftA l r=leftA l (nxt r)+1∧0<leftA l (nxt r)):costA l (.lev (n+1)) (nxt r)<costA l (.lop n x) r:=by
 unfold costA;split<;>(try split)<;>simp only[b0,b1]<;>omega
theorem c_op2{l:List Tk}{r r':Rs}{n:Nat}{x y:Tr}(hn:n<5)(h:leftA l r=leftA l (nxt r)+1∧0<leftA l (nxt r))(h2:leftA l r'≤leftA l (nxt r)):costA l (.lop n y) r'<costA l (.lop n x) r:=by
 unfold costA;split<;>(try split)<;>simp only[b0,b1]<;>omega
theorem c_sign{l:List Tk}{r:Rs}(h:leftA l r=leftA l (nxt r)+1∧0<leftA l (nxt r)):costA l .una (nxt r)<costA l .una r:=by
 unfold costA;split<;>(try split)<;>simp only[b0,b1]<;>omega
theorem c_pri{l:List Tk}{r:Rs}:costA l .pri r<costA l .una r:=by
 unfold costA;split<;>(try split)<;>simp only[b0,b1]<;>omega
theorem c_cel{l:List Tk}{r:Rs}:costA l .cel r<costA l .pri r:=by
 unfold costA;split<;>(try split)<;>simp only[b0,b1]<;>omega
theorem c_fun{l:List Tk}{r r':Rs}(h:leftA l r=leftA l (nxt r)+1∧0<leftA l (nxt r))(h2:leftA l r'≤leftA l (nxt r)):costA l .brk r'<costA l .pri r:=by
 unfold costA;split<;>(try split)<;>simp only[b0,b1]<;>omega
theorem c_brk(l:List Tk)(r:Rs):costA l (.lev 0) (wantA l r ⟨#[91]⟩)<costA l .brk r:=by
 unfold wantA;split
 ·rename_i hi;have h:=isA_left hi;unfold costA;split<;>(try split)<;>simp only[b0,b1]<;>omega
 ·have h:=left_fail l r;unfold costA;split<;>(try split)<;>simp only[b0,b1]<;>omega
theorem c_num{l:List Tk}{r:Rs}(h:leftA l r=leftA l (nxt r)+1∧0<leftA l (nxt r)):costA l .cel (nxt r)<costA l .cel r:=by
 unfold costA;split<;>(try split)<;>simp only[b0,b1]<;>omega
theorem c_in{l:List Tk}{r:Rs}(h:leftA l r=leftA l (nxt r)+1∧0<leftA l (nxt r)):costA l .brk r<costA l .cel r:=by
 unfold costA;split<;>(try split)<;>simp only[b0,b1]<;>omega
theorem cost_pos(l:List Tk)(m:Md)(r:Rs):0<costA l m r:=by
 unfold costA;cases m<;>simp only[b0,b1]<;>split<;>omega
theorem exA_ge(l:List Tk):∀(N:Nat) (m:Md) (r:Rs),m.ok→costA l m r≤N→∀k,costA l m r≤k→exA l k m r=exA l (costA l m r) m r:=by
 intro N;induction N with
 |zero=>intro m r _ h;have:=cost_pos l m r;omega
 |succ N ih=>
  intro m r hok hN;have key:∀(m':Md) (r':Rs),m'.ok→costA l m' r'<costA l m r→∀a b,costA l m r≤a+1→costA l m r≤b+1→exA l a m' r'=exA l b m' r':=fun m' r' ho hc a b ha hb=>
   (ih m' r' ho (by omega) a (by omega)).trans (ih m' r' ho (by omega) b (by omega)).symm
  have both:∀a b,costA l m r≤a+1→costA l m r≤b+1→exA l (a+1) m r=exA l (b+1) m r:=by
   intro a b ha hb;cases m with
   |lev n=>
    rw[exA,exA];have hn:n≤5:=hok;by_cases h5:n=5
    ·subst h5;rw[if_pos rfl,if_pos rfl];exact key .una r trivial c_una a b ha hb
    ·rw[if_neg h5,if_neg h5,key (.lev (n+1)) r (show n+1≤5 by omega) (c_lev (by omega)) a b ha hb];exact key (.lop n _) _ (show n≤4 by omega) (c_lop (by omega) (left_ex l _ _ _)) a b ha hb
   |lop n x=>
    rw[exA,exA];have hn:n≤4:=hok;cases ho:opFrom l r (opsS n)with
    |none=>rfl
    |some op=>
     have hl:=opFrom_left ho;dsimp only;rw[key (.lev (n+1)) (nxt r) (show n+1≤5 by omega) (c_op (by omega) hl) a b ha hb];split
     ·rfl
     ·exact key (.lop n _) _ (show n≤4 by omega) (c_op2 (by omega) hl (left_ex l _ _ _)) a b ha hb
   |una=>
    rw[exA,exA];by_cases h1:isA l r ⟨#[43]⟩=true
    ·rw[if_pos h1,if_pos h1];exact key .una (nxt r) trivial (c_sign (isA_left h1)) a b ha hb
    ·rw[if_neg h1,if_neg h1];by_cases h2:isA l r ⟨#[45]⟩=true
     ·rw[if_pos h2,if_pos h2,key .una (nxt r) trivial (c_sign (isA_left h2)) a b ha hb]
     ·rw[if_neg h2,if_neg h2];exact key .pri r trivial c_pri a b ha hb
   |pri=>
    rw[exA,exA];dsimp only;generalize hop:(if(tokA l r).kind=3 then funS (tokA l r).text else-1)=op;by_cases h1:op<0
    ·rw[if_pos h1,if_pos h1];exact key .cel r trivial c_cel a b ha hb
    ·rw[if_neg h1,if_neg h1];have hk:(tokA l r).kind≠0:=fun e=>by rw[e]at hop;simp at hop;omega
     have hl:=kind_left hk;rw[key .brk (nxt r) trivial (c_fun hl (Nat.le_refl _)) a b ha hb];split
     ·rw[key .brk _ trivial (c_fun hl (Nat.le_trans (left_want _ _ _) (left_ex l _ _ _))) a b ha hb]
     ·rfl
   |brk=>
    rw[exA,exA];rw[key (.lev 0) _ (show 0≤5 by omega) (c_brk l r) a b ha hb]
   |cel=>
    rw[exA,exA];by_cases h1:isA l r ⟨#[35]⟩=true
    ·rw[if_pos h1,if_pos h1,key .cel (nxt r) trivial (c_num (isA_left h1)) a b ha hb]
    ·rw[if_neg h1,if_neg h1];by_cases h2:isA l r ⟨#[91]⟩=true
     ·rw[if_pos h2,if_pos h2];exact key .brk r trivial (c_in (isA_left h2)) a b ha hb
     ·rw[if_neg h2,if_neg h2]
  intro k hk;have hp:=cost_pos l m r;have q:=both (k-1) (costA l m r-1) (by omega) (by omega);rw[show k-1+1=k by omega,show costA l m r-1+1=costA l m r by omega]at q;exact q
theorem EX_ge{l:List Tk}(m:Md)(r:Rs)(hok:m.ok){k:Nat}(hk:costA l m r≤k):exA l k m r=EX l m r:=exA_ge l _ m r hok (Nat.le_refl _) k hk
theorem EX_un(l:List Tk)(m:Md)(r:Rs):∃k,EX l m r=exA l (k+1) m r∧costA l m r≤k+1:=⟨costA l m r-1,by have:=cost_pos l m r;unfold EX;rw[show costA l m r-1+1=costA l m r by omega],by omega⟩
theorem EX_lev5(l:List Tk)(r:Rs):EX l (.lev 5) r=EX l .una r:=by
 obtain⟨k,e,hk⟩:=EX_un l (.lev 5) r;rw[e,exA,if_pos rfl];exact EX_ge .una r trivial (by have:= @c_una l r;omega)
theorem EX_lev(l:List Tk)(n:Nat)(hn:n<5)(r:Rs):EX l (.lev n) r=EX l (.lop n (EX l (.lev (n+1)) r).1) (EX l (.lev (n+1)) r).2:=by
 obtain⟨k,e,hk⟩:=EX_un l (.lev n) r;have e1:exA l k (.lev (n+1)) r=EX l (.lev (n+1)) r:=EX_ge (.lev (n+1)) r (show n+1≤5 by omega) (by have:= @c_lev l r n hn;omega);rw[e,exA,if_neg (by omega),e1];exact EX_ge (.lop n _) _ (show n≤4 by omega) (by have:= @c_lop l r _ n (EX l (.lev (n+1)) r).1 hn (left_EX l (.lev (n+1)) r);omega)
theorem EX_lop0{l:List Tk}{n:Nat}{x:Tr}{r:Rs}(h:opFrom l r (opsS n)=none):EX l (.lop n x) r=(x,r):=by
 obtain⟨k,e,hk⟩:=EX_un l (.lop n x) r;rw[e,exA,h]
theorem EX_lop{l:List Tk}{n:Nat}{x:Tr}{r:Rs}{op:Int}(hn:n<5)(h:opFrom l r (opsS n)=some op):EX l (.lop n x) r=if n=2 then(t2 op x (EX l (.lev (n+1)) (nxt r)).1,(EX l (.lev (n+1)) (nxt r)).2)else EX l (.lop n (t2 op x (EX l (.lev (n+1)) (nxt r)).1)) (EX l (.lev (n+1)) (nxt r)).2:=by
 obtain⟨k,e,hk⟩:=EX_un l (.lop n x) r;have hl:=opFrom_left h;have e1:exA l k (.lev (n+1)) (nxt r)=EX l (.lev (n+1)) (nxt r):=EX_ge (.lev (n+1)) (nxt r) (show n+1≤5 by omega) (by have:= @c_op l r n x hn hl;omega);rw[e,exA,h];dsimp only;rw[e1];split
 ·rfl
 ·exact EX_ge (.lop n _) _ (show n≤4 by omega) (by have:= @c_op2 l r _ n x (t2 op x (EX l (.lev (n+1)) (nxt r)).1) hn hl (left_EX l (.lev (n+1)) (nxt r));omega)
theorem EX_plus{l:List Tk}{r:Rs}(h:isA l r ⟨#[43]⟩=true):EX l .una r=EX l .una (nxt r):=by
 obtain⟨k,e,hk⟩:=EX_un l .una r;rw[e,exA,if_pos h];exact EX_ge .una (nxt r) trivial (by have:=c_sign (isA_left h);omega)
theorem EX_minus{l:List Tk}{r:Rs}(h1:isA l r ⟨#[43]⟩=false)(h:isA l r ⟨#[45]⟩=true):EX l .una r=(t1 2 (EX l .una (nxt r)).1,(EX l .una (nxt r)).2):=by
 obtain⟨k,e,hk⟩:=EX_un l .una r;rw[e,exA,if_neg (by rw[h1];exact Bool.false_ne_true),if_pos h,EX_ge .una (nxt r) trivial (by have:=c_sign (isA_left h);omega)]
theorem EX_una{l:List Tk}{r:Rs}(h1:isA l r ⟨#[43]⟩=false)(h:isA l r ⟨#[45]⟩=false):EX l .una r=EX l .pri r:=by
 obtain⟨k,e,hk⟩:=EX_un l .una r;rw[e,exA,if_neg (by rw[h1];exact Bool.false_ne_true),if_neg (by rw[h];exact Bool.false_ne_true)];exact EX_ge .pri r trivial (by have:= @c_pri l r;omega)
def opA(l:List Tk)(r:Rs):Int:=if(tokA l r).kind=3 then funS (tokA l r).text else-1
theorem opA_left{l:List Tk}{r:Rs}(h:0≤opA l r):leftA l r=leftA l (nxt r)+1∧0<leftA l (nxt r):=
 kind_left fun e=>by unfold opA at h;rw[e]at h;simp at h
theorem EX_pri0{l:List Tk}{r:Rs}(h:opA l r<0):EX l .pri r=EX l .cel r:=by
 obtain⟨k,e,hk⟩:=EX_un l .pri r;rw[e,exA,show(if(tokA l r).kind=3 then funS (tokA l r).text else-1)=opA l r from rfl];dsimp only;rw[if_pos h];exact EX_ge .cel r trivial (by have:= @c_cel l r;omega)
theorem EX_pri{l:List Tk}{r:Rs}(h:0≤opA l r):EX l .pri r=if opA l r=11 then(t2 (opA l r) (EX l .brk (nxt r)).1 (EX l .brk (wantA l (EX l .brk (nxt r)).2 ⟨#[47]⟩)).1,(EX l .brk (wantA l (EX l .brk (nxt r)).2 ⟨#[47]⟩)).2)else(t1 (opA l r) (EX l .brk (nxt r)).1,(EX l .brk (nxt r)).2):=by
 obtain⟨k,e,hk⟩:=EX_un l .pri r;have hl:=opA_left h;have e1:exA l k .brk (nxt r)=EX l .brk (nxt r):=EX_ge .brk (nxt r) trivial (by have:=c_fun hl (Nat.le_refl (leftA l (nxt r)));omega);have e2:exA l k .brk (wantA l (EX l .brk (nxt r)).2 ⟨#[47]⟩)=EX l .brk (wantA l (EX l .brk (nxt r)).2 ⟨#[47]⟩):=EX_ge .brk _ trivial (by have:=c_fun hl (Nat.le_trans (left_want l _ ⟨#[47]⟩) (left_EX l .brk (nxt r)));omega);rw[e,exA,show(if(tokA l r).kind=3 then funS (tokA l r).text else-1)=opA l r from rfl];dsimp only;rw[if_neg (show¬(opA l r<0)by omega),e1,e2]
theorem EX_brk(l:List Tk)(r:Rs):EX l .brk r=((EX l (.lev 0) (wantA l r ⟨#[91]⟩)).1,wantA l (EX l (.lev 0) (wantA l r ⟨#[91]⟩)).2 ⟨#[93]⟩):=by
 obtain⟨k,e,hk⟩:=EX_un l .brk r;rw[e,exA];rw[EX_ge (.lev 0) _ (show 0≤5 by omega) (by have:=c_brk l r;omega)]
theorem EX_hash{l:List Tk}{r:Rs}(h:isA l r ⟨#[35]⟩=true):EX l .cel r=(t1 1 (EX l .cel (nxt r)).1,(EX l .cel (nxt r)).2):=by
 obtain⟨k,e,hk⟩:=EX_un l .cel r;rw[e,exA,if_pos h,EX_ge .cel (nxt r) trivial (by have:=c_num (isA_left h);omega)]
theorem EX_in{l:List Tk}{r:Rs}(h1:isA l r ⟨#[35]⟩=false)(h:isA l r ⟨#[91]⟩=true):EX l .cel r=EX l .brk r:=by
 obtain⟨k,e,hk⟩:=EX_un l .cel r;rw[e,exA,if_neg (by rw[h1];exact Bool.false_ne_true),if_pos h];exact EX_ge .brk r trivial (by have:=c_in (isA_left h);omega)
theorem EX_num{l:List Tk}{r:Rs}(h1:isA l r ⟨#[35]⟩=false)(h:isA l r ⟨#[91]⟩=false):EX l .cel r=numA l r:=by
 obtain⟨k,e,hk⟩:=EX_un l .cel r;rw[e,exA,if_neg (by rw[h1];exact Bool.false_ne_true),if_neg (by rw[h];exact Bool.false_ne_true)]
end Go.Proofs.YtdcjbhdfphcefaaGreatDoor
namespace Go.Proofs.YtdcjbhdfphcefaaGreatDoor
open Go.RowKit
theorem take_is{w:World}{B rb:Nat}{A:Option Addr}{c:Nat}{l:List Tk}{r:Rs}{s:ByteArray}{v:Bool}(hs:isA l r s=v)(h:RX w B rb A c l r):
 Calls Tryz.prog 98 #[.pointer (some ⟨rb,0,none⟩),.string s] w fun e w'=>e=.returned (.bool v)∧RP B rb A c l (if v=true then nxt r else r) w w':=by
 cases v
 ·exact take_no hs h
 ·exact take_yes hs h
theorem is_is{w:World}{B rb:Nat}{A:Option Addr}{c:Nat}{l:List Tk}{r:Rs}{s:ByteArray}{v:Bool}(hs:isA l r s=v)(h:RX w B rb A c l r):
 Calls Tryz.prog 132 #[.pointer (some ⟨rb,0,none⟩),.string s] w fun e w'=>e=.returned (.bool v)∧Below w.heap.size w w':=by
 have q:=is_any6 w B rb A c l r s h;rw[hs]at q;exact q
set_option maxHeartbeats 4000000 in
theorem want_any(w:World)(B rb:Nat)(A:Option Addr)(c:Nat)(l:List Tk)(r:Rs)(s:ByteArray)(h:RX w B rb A c l r):
 Calls Tryz.prog 137 #[.pointer (some ⟨rb,0,none⟩),.string s] w fun e w'=>e=.returned (.tuple #[])∧RP B rb A c l (wantA l r s) w w':=by
 have HX:=Lib.hid h;clear h;unfold wantA;rcases hi:isA l r s with _|_
 ·have HI:=Lib.hid hi;rw[if_neg Bool.false_ne_true];clear hi;go_enter Tryz.func137,Tryz.ntmps137;go_wp2_with(first|(go_at_call 98;refine(take_no HI.out HX.out).mono ?_;rintro e w1 ⟨rfl,hrp⟩;have HRP:=Lib.hid hrp;clear hrp)|(go_at_call 135;refine(fail_any _ _ _ _ _ _ _ HRP.out.1).mono ?_;rintro e w2 ⟨rfl,hrp⟩;have HRQ:=Lib.hid hrp;clear hrp));exact bodyPost_end (results_none Tryz.results137 _ _ _) rfl ⟨rfl,HRQ.out.1,HRP.out.2.trans HRQ.out.2⟩
 ·have HI:=Lib.hid hi;rw[if_pos rfl];clear hi;go_enter Tryz.func137,Tryz.ntmps137;go_wp2_with(go_at_call 98;refine(take_yes HI.out HX.out).mono ?_;rintro e w1 ⟨rfl,hrp⟩;have HRP:=Lib.hid hrp;clear hrp);exact bodyPost_end (results_none Tryz.results137 _ _ _) rfl ⟨rfl,HRP.out⟩
theorem rz_one{W:World}{n0:Nat}{t:Tr}{op:Int}{x y z:Value}(h:Rz W (fun g=>n0≤g) t (.agg #[x,y,z]))(hn:n0≤W.heap.size)(ho:I64 op):
 Rz (W.alloc (.cells #[x,y,z] 52)) (fun g=>n0≤g) (t1 op t) (.agg #[.int .i64 op,.int .i64 0,.slice (some ⟨W.heap.size,0,none⟩) 1 1]):=by
 have hb:Below W.heap.size W (W.alloc (.cells #[x,y,z] 52)):=(Below.refl _ _).alloc (Nat.le_refl _) _;have hq:=heap_alloc_new W (.cells #[x,y,z] 52);refine⟨_,1,rfl,ho,by unfold I64;omega,by unfold maxLen;omega,.inr ⟨W.heap.size,rfl,hn,hlS hq,fun i hi=> ?_⟩⟩;obtain rfl:i=0:=by omega
 exact⟨x,y,z,cell_of_row _ _ 0 _ _ _ hq,cell_of_row _ _ 1 _ _ _ hq,cell_of_row _ _ 2 _ _ _ hq,h.below hb⟩
theorem XP.one{w W W2:World}{B rb:Nat}{A:Option Addr}{c:Nat}{l:List Tk}{q:Tr×Rs}{op:Int}{x y z:Value}(h1:Only rb w W)(h2:Rz W2 (fun g=>W.heap.size≤g) q.1 (.agg #[x,y,z]))(h3:RP B rb A c l q.2 W W2)(hrb:rb<w.heap.size)(hlt:w.heap.size<W.heap.size)(ho:I64 op):
 XP B rb A c l (t1 op q.1,q.2) w (.returned (.agg #[.int .i64 op,.int .i64 0,.slice (some ⟨W2.heap.size,0,none⟩) 1 1])) ((((W2.setCell ⟨w.heap.size,0,none⟩ (.int .i64 op)).setCell ⟨w.heap.size,1,none⟩ (.int .i64 0)).setCell ⟨w.heap.size,2,none⟩ (.slice (some ⟨W2.heap.size,0,none⟩) 1 1)).alloc (.cells #[x,y,z] 52)):=by
 have hs:=h3.2.2.2.2.1;obtain⟨X,hX⟩:∃X,X=((W2.setCell ⟨w.heap.size,0,none⟩ (.int .i64 op)).setCell ⟨w.heap.size,1,none⟩ (.int .i64 0)).setCell ⟨w.heap.size,2,none⟩ (.slice (some ⟨W2.heap.size,0,none⟩) 1 1):=⟨_,rfl⟩;have hXs:X.heap.size=W2.heap.size:=by rw[hX];exact set3_size W2 w.heap.size 0 _ _ _
 have hXo:Only rb w X:=by rw[hX];exact only_set3 (h1.trans h3.2) (Nat.le_refl _) _ _ _
 have hXr:RX X B rb A c l q.2:=by rw[hX];exact h3.1.set3 hrb _ _ _
 have hXz:Rz X (fun g=>w.heap.size≤g) q.1 (.agg #[x,y,z]):=h2.keep (Nat.le_of_eq hXs.symm) (fun g _ hg=>by have q:W.heap.size≤g:=hg;show w.heap.size≤g;omega) fun g _ hg=>by rw[hX];exact set3_heap W2 w.heap.size 0 g _ _ _ (by have q:W.heap.size≤g:=hg;omega)
 rw[←hX,←hXs];have hb:Below X.heap.size X (X.alloc (.cells #[x,y,z] 52)):=(Below.refl _ _).alloc (Nat.le_refl _) _;exact⟨_,_,_,rfl,rz_one hXz (by omega) ho,hXr.below hb,hXo.trans (Only.of_below hb)⟩
set_option maxHeartbeats 4000000 in
theorem cell_any(w:World)(B rb:Nat)(A:Option Addr)(c:Nat)(l:List Tk)(r:Rs)(h:RX w B rb A c l r)(k1:isA l r ⟨#[35]⟩=true→∀W,RX W B rb A c l (nxt r)→Calls Tryz.prog 136 #[.pointer (some ⟨rb,0,none⟩)] W (XP B rb A c l (EX l .cel (nxt r)) W))(k2:isA l r ⟨#[91]⟩=true→∀W,RX W B rb A c l (r)→Calls Tryz.prog 139 #[.pointer (some ⟨rb,0,none⟩)] W (XP B rb A c l (EX l .brk (r)) W)):
 Calls Tryz.prog 136 #[.pointer (some ⟨rb,0,none⟩)] w (XP B rb A c l (EX l .cel r) w):=by
 have K1:=Lib.hid k1;have K2:=Lib.hid k2;clear k1 k2;obtain⟨W0,hW0⟩:∃W0,W0=w.alloc (.cells #[.int .i64 0,.int .i64 0,.slice none 0 0] 52):=⟨_,rfl⟩;have HB0:Hid (Below w.heap.size w W0):=by unfold Hid;rw[hW0];exact(Below.refl _ _).alloc (Nat.le_refl _) _
 have HR0:Hid (RB W0 w.heap.size):=by unfold Hid;rw[hW0];exact RB.start w
 have hlt:=h.lt;have HX0:=Lib.hid (h.below HB0.out);have HO0:Hid (Only rb w W0):=Only.of_below HB0.out;have hs0:w.heap.size<W0.heap.size:=hlS HR0.out.blk;clear h;rcases n1:isA l r ⟨#[35]⟩with _|_
 ·rcases n2:isA l r ⟨#[91]⟩with _|_
  ·rw[EX_num n1 n2];have N1:=Lib.hid n1;have N2:=Lib.hid n2;clear n1 n2;go_enter Tryz.func136,Tryz.ntmps136;go_wp2_with(first|(rw[←hW0];clear hW0;go_at_call 98;refine(take_no N1.out HX0.out).mono ?_;rintro e w1 ⟨rfl,hrp⟩;have HX1:=Lib.hid hrp.1;have HO1:=Lib.hid (HO0.out.trans hrp.2);have HR1:=Lib.hid (HR0.out.only hrp.2 hlt);have hs1:w.heap.size<w1.heap.size:=hlS HR1.out.blk;clear hrp)|(go_at_call 132;refine(is_is N2.out HX1.out).mono ?_;rintro e w2 ⟨rfl,hb⟩;have HX2:=Lib.hid (HX1.out.below hb);have HO2:=Lib.hid (HO1.out.trans (Only.of_below hb));have HR2:=Lib.hid (HR1.out.below hb);have hs2:w.heap.size<w2.heap.size:=hlS HR2.out.blk;clear hb)|(go_at_call 169;refine(number_any6 _ _ _ _ _ _ _ HX2.out).mono ?_;rintro e w3 ⟨x,y,z,rfl,hz,hrp⟩;obtain⟨xo,xn,xA,xk,xc,rfl,rfl,rfl⟩:=hz.form;have HZ:=Lib.hid hz;have HRP:=Lib.hid hrp;have HR3:=Lib.hid (HR2.out.only hrp.2 hlt);obtain⟨m0,m1,m2,mf⟩:=HR3.out.facts;have hs3:w.heap.size<w3.heap.size:=hlS HR3.out.blk;clear hz hrp));exact bodyPost_ret (results_c1 Tryz.results136 _ _ w.heap.size _ _ _ _ rfl (set_three HR3.out.blk) Tryz.underlying52 (by kernel_rfl)) rfl (XP.done HO2.out HZ.out HRP.out hlt hs2)
  ·rw[EX_in n1 n2];have N1:=Lib.hid n1;have N2:=Lib.hid n2;clear n1 n2;go_enter Tryz.func136,Tryz.ntmps136;go_wp2_with(first|(rw[←hW0];clear hW0;go_at_call 98;refine(take_no N1.out HX0.out).mono ?_;rintro e w1 ⟨rfl,hrp⟩;have HX1:=Lib.hid hrp.1;have HO1:=Lib.hid (HO0.out.trans hrp.2);have HR1:=Lib.hid (HR0.out.only hrp.2 hlt);have hs1:w.heap.size<w1.heap.size:=hlS HR1.out.blk;clear hrp)|(go_at_call 132;refine(is_is N2.out HX1.out).mono ?_;rintro e w2 ⟨rfl,hb⟩;have HX2:=Lib.hid (HX1.out.below hb);have HO2:=Lib.hid (HO1.out.trans (Only.of_below hb));have HR2:=Lib.hid (HR1.out.below hb);have hs2:w.heap.size<w2.heap.size:=hlS HR2.out.blk;clear hb)|(go_at_call 139;refine(K2.out N2.out _ HX2.out).mono ?_;rintro e w3 ⟨x,y,z,rfl,hz,hrp⟩;obtain⟨xo,xn,xA,xk,xc,rfl,rfl,rfl⟩:=hz.form;have HZ:=Lib.hid hz;have HRP:=Lib.hid hrp;have HR3:=Lib.hid (HR2.out.only hrp.2 hlt);obtain⟨m0,m1,m2,mf⟩:=HR3.out.facts;have hs3:w.heap.size<w3.heap.size:=hlS HR3.out.blk;clear hz hrp));exact bodyPost_ret (results_c1 Tryz.results136 _ _ w.heap.size _ _ _ _ rfl (set_three HR3.out.blk) Tryz.underlying52 (by kernel_rfl)) rfl (XP.done HO2.out HZ.out HRP.out hlt hs2)
 ·rw[EX_hash n1];have N1:=Lib.hid n1;clear n1;go_enter Tryz.func136,Tryz.ntmps136;go_wp2_with(first|(rw[←hW0];clear hW0;go_at_call 98;refine(take_yes N1.out HX0.out).mono ?_;rintro e w1 ⟨rfl,hrp⟩;have HX1:=Lib.hid hrp.1;have HO1:=Lib.hid (HO0.out.trans hrp.2);have HR1:=Lib.hid (HR0.out.only hrp.2 hlt);have hs1:w.heap.size<w1.heap.size:=hlS HR1.out.blk;clear hrp)|(go_at_call 136;refine(K1.out N1.out _ HX1.out).mono ?_;rintro e w3 ⟨x,y,z,rfl,hz,hrp⟩;obtain⟨xo,xn,xA,xk,xc,rfl,rfl,rfl⟩:=hz.form;have HZ:=Lib.hid hz;have HRP:=Lib.hid hrp;have HR3:=Lib.hid (HR1.out.only hrp.2 hlt);obtain⟨m0,m1,m2,mf⟩:=HR3.out.facts;have hs3:w.heap.size<w3.heap.size:=hlS HR3.out.blk;clear hz hrp));exact bodyPost_ret (results_c1 Tryz.results136 _ _ w.heap.size _ _ _ _ rfl ((Below.heap_alloc _ _ _ (by simpa[World.setCell]using hs3)).trans (set_three HR3.out.blk)) Tryz.underlying52 (by kernel_rfl)) rfl (XP.one HO1.out HZ.out HRP.out hlt hs1 (by unfold I64;omega))
set_option maxHeartbeats 4000000 in
theorem simple_any(w:World)(B rb:Nat)(A:Option Addr)(c:Nat)(l:List Tk)(r:Rs)(h:RX w B rb A c l r)(k:∀W,RX W B rb A c l r→Calls Tryz.prog 136 #[.pointer (some ⟨rb,0,none⟩)] W (XP B rb A c l (EX l .cel r) W)):
 Calls Tryz.prog 172 #[.pointer (some ⟨rb,0,none⟩)] w (XP B rb A c l (EX l .cel r) w):=by
 have K:=Lib.hid k;clear k;obtain⟨W0,hW0⟩:∃W0,W0=w.alloc (.cells #[.int .i64 0,.int .i64 0,.slice none 0 0] 52):=⟨_,rfl⟩;have HB0:Hid (Below w.heap.size w W0):=by unfold Hid;rw[hW0];exact(Below.refl _ _).alloc (Nat.le_refl _) _
 have HR0:Hid (RB W0 w.heap.size):=by unfold Hid;rw[hW0];exact RB.start w
 have hlt:=h.lt;have HX0:=Lib.hid (h.below HB0.out);have HO0:Hid (Only rb w W0):=Only.of_below HB0.out;have hs0:w.heap.size<W0.heap.size:=hlS HR0.out.blk;clear h;go_enter Tryz.func172,Tryz.ntmps172;go_wp2_with(rw[←hW0];clear hW0;go_at_call 136;refine(K.out _ HX0.out).mono ?_;rintro e w3 ⟨x,y,z,rfl,hz,hrp⟩;obtain⟨xo,xn,xA,xk,xc,rfl,rfl,rfl⟩:=hz.form;have HZ:=Lib.hid hz;have HRP:=Lib.hid hrp;have HR3:=Lib.hid (HR0.out.only hrp.2 hlt);obtain⟨m0,m1,m2,mf⟩:=HR3.out.facts;have hs3:w.heap.size<w3.heap.size:=hlS HR3.out.blk;clear hz hrp);exact bodyPost_ret (results_c1 Tryz.results172 _ _ w.heap.size _ _ _ _ rfl (set_three HR3.out.blk) Tryz.underlying52 (by kernel_rfl)) rfl (XP.done HO0.out HZ.out HRP.out hlt hs0)
def valA(l:List Tk)(r:Rs):Tr×Rs:=if isA l r ⟨#[45]⟩=true then(t1 2 (EX l .cel (nxt r)).1,(EX l .cel (nxt r)).2)else EX l .cel (if isA l r ⟨#[43]⟩=true then nxt r else r)
set_option maxHeartbeats 4000000 in
theorem value_any6(w:World)(B rb:Nat)(A:Option Addr)(c:Nat)(l:List Tk)(r:Rs)(h:RX w B rb A c l r)(k:∀r' W,RX W B rb A c l r'→Calls Tryz.prog 136 #[.pointer (some ⟨rb,0,none⟩)] W (XP B rb A c l (EX l .cel r') W)):
 Calls Tryz.prog 140 #[.pointer (some ⟨rb,0,none⟩)] w (XP B rb A c l (valA l r) w):=by
 have K:Hid (∀r' W,RX W B rb A c l r'→Calls Tryz.prog 172 #[.pointer (some ⟨rb,0,none⟩)] W (XP B rb A c l (EX l .cel r') W)):=fun r' W hx=>simple_any W B rb A c l r' hx (k r');clear k;obtain⟨W0,hW0⟩:∃W0,W0=w.alloc (.cells #[.int .i64 0,.int .i64 0,.slice none 0 0] 52):=⟨_,rfl⟩;have HB0:Hid (Below w.heap.size w W0):=by unfold Hid;rw[hW0];exact(Below.refl _ _).alloc (Nat.le_refl _) _
 have HR0:Hid (RB W0 w.heap.size):=by unfold Hid;rw[hW0];exact RB.start w
 have hlt:=h.lt;have HX0:=Lib.hid (h.below HB0.out);have HO0:Hid (Only rb w W0):=Only.of_below HB0.out;have hs0:w.heap.size<W0.heap.size:=hlS HR0.out.blk;clear h;unfold valA;rcases n1:isA l r ⟨#[45]⟩with _|_
 ·rw[if_neg Bool.false_ne_true];obtain⟨r2,hr2⟩:∃r2,(if isA l r ⟨#[43]⟩=true then nxt r else r)=r2:=⟨_,rfl⟩;obtain⟨v,HT⟩:∃v,Hid (∀W,RX W B rb A c l r→Calls Tryz.prog 98 #[.pointer (some ⟨rb,0,none⟩),.string ⟨#[43]⟩] W fun e w'=>e=.returned (.bool v)∧RP B rb A c l r2 W w'):=⟨isA l r ⟨#[43]⟩,fun W hx=>by rw[←hr2];exact take_is rfl hx⟩;rw[hr2];have N1:=Lib.hid n1;have tok1:True:=trivial;clear n1 hr2;go_enter Tryz.func140,Tryz.ntmps140;go_wp2_with(first|(clear tok1;rw[←hW0];clear hW0;go_at_call 98;refine(take_no N1.out HX0.out).mono ?_;rintro e w1 ⟨rfl,hrp⟩;have HX1:=Lib.hid hrp.1;have HO1:=Lib.hid (HO0.out.trans hrp.2);have HR1:=Lib.hid (HR0.out.only hrp.2 hlt);have hs1:w.heap.size<w1.heap.size:=hlS HR1.out.blk;clear hrp)|(go_at_call 98;refine(HT.out _ HX1.out).mono ?_;rintro e w2 ⟨rfl,hrp⟩;have HX2:=Lib.hid hrp.1;have HO2:=Lib.hid (HO1.out.trans hrp.2);have HR2:=Lib.hid (HR1.out.only hrp.2 hlt);have hs2:w.heap.size<w2.heap.size:=hlS HR2.out.blk;clear hrp)|(go_at_call 172;refine(K.out _ _ HX2.out).mono ?_;rintro e w3 ⟨x,y,z,rfl,hz,hrp⟩;obtain⟨xo,xn,xA,xk,xc,rfl,rfl,rfl⟩:=hz.form;have HZ:=Lib.hid hz;have HRP:=Lib.hid hrp;have HR3:=Lib.hid (HR2.out.only hrp.2 hlt);obtain⟨m0,m1,m2,mf⟩:=HR3.out.facts;have hs3:w.heap.size<w3.heap.size:=hlS HR3.out.blk;clear hz hrp));exact bodyPost_ret (results_c1 Tryz.results140 _ _ w.heap.size _ _ _ _ rfl (set_three HR3.out.blk) Tryz.underlying52 (by kernel_rfl)) rfl (XP.done HO2.out HZ.out HRP.out hlt hs2)
 ·rw[if_pos rfl];have N1:=Lib.hid n1;clear n1;go_enter Tryz.func140,Tryz.ntmps140;go_wp2_with(first|(rw[←hW0];clear hW0;go_at_call 98;refine(take_yes N1.out HX0.out).mono ?_;rintro e w1 ⟨rfl,hrp⟩;have HX1:=Lib.hid hrp.1;have HO1:=Lib.hid (HO0.out.trans hrp.2);have HR1:=Lib.hid (HR0.out.only hrp.2 hlt);have hs1:w.heap.size<w1.heap.size:=hlS HR1.out.blk;clear hrp)|(go_at_call 172;refine(K.out _ _ HX1.out).mono ?_;rintro e w3 ⟨x,y,z,rfl,hz,hrp⟩;obtain⟨xo,xn,xA,xk,xc,rfl,rfl,rfl⟩:=hz.form;have HZ:=Lib.hid hz;have HRP:=Lib.hid hrp;have HR3:=Lib.hid (HR1.out.only hrp.2 hlt);obtain⟨m0,m1,m2,mf⟩:=HR3.out.facts;have hs3:w.heap.size<w3.heap.size:=hlS HR3.out.blk;clear hz hrp));exact bodyPost_ret (results_c1 Tryz.results140 _ _ w.heap.size _ _ _ _ rfl ((Below.heap_alloc _ _ _ (by simpa[World.setCell]using hs3)).trans (set_three HR3.out.blk)) Tryz.underlying52 (by kernel_rfl)) rfl (XP.one HO1.out HZ.out HRP.out hlt hs1 (by unfold I64;omega))
set_option maxHeartbeats 4000000 in
theorem unary_any6(w:World)(B rb:Nat)(A:Option Addr)(c:Nat)(l:List Tk)(r:Rs)(h:RX w B rb A c l r)(k1:isA l r ⟨#[43]⟩=true∨isA l r ⟨#[45]⟩=true→∀W,RX W B rb A c l (nxt r)→Calls Tryz.prog 170 #[.pointer (some ⟨rb,0,none⟩)] W (XP B rb A c l (EX l .una (nxt r)) W))(k2:∀W,RX W B rb A c l r→Calls Tryz.prog 197 #[.pointer (some ⟨rb,0,none⟩)] W (XP B rb A c l (EX l .pri r) W)):
 Calls Tryz.prog 170 #[.pointer (some ⟨rb,0,none⟩)] w (XP B rb A c l (EX l .una r) w):=by
 have K1:=Lib.hid k1;have K2:=Lib.hid k2;clear k1 k2;obtain⟨W0,hW0⟩:∃W0,W0=w.alloc (.cells #[.int .i64 0,.int .i64 0,.slice none 0 0] 52):=⟨_,rfl⟩;have HB0:Hid (Below w.heap.size w W0):=by unfold Hid;rw[hW0];exact(Below.refl _ _).alloc (Nat.le_refl _) _
 have HR0:Hid (RB W0 w.heap.size):=by unfold Hid;rw[hW0];exact RB.start w
 have hlt:=h.lt;have HX0:=Lib.hid (h.below HB0.out);have HO0:Hid (Only rb w W0):=Only.of_below HB0.out;have hs0:w.heap.size<W0.heap.size:=hlS HR0.out.blk;clear h;rcases n1:isA l r ⟨#[43]⟩with _|_
 ·rcases n2:isA l r ⟨#[45]⟩with _|_
  ·rw[EX_una n1 n2];have N1:=Lib.hid n1;have N2:=Lib.hid n2;have tok1:True:=trivial;clear n1 n2;go_enter Tryz.func170,Tryz.ntmps170;go_wp2_with(first|(clear tok1;rw[←hW0];clear hW0;go_at_call 98;refine(take_no N1.out HX0.out).mono ?_;rintro e w1 ⟨rfl,hrp⟩;have HX1:=Lib.hid hrp.1;have HO1:=Lib.hid (HO0.out.trans hrp.2);have HR1:=Lib.hid (HR0.out.only hrp.2 hlt);have hs1:w.heap.size<w1.heap.size:=hlS HR1.out.blk;clear hrp)|(go_at_call 98;refine(take_no N2.out HX1.out).mono ?_;rintro e w2 ⟨rfl,hrp⟩;have HX2:=Lib.hid hrp.1;have HO2:=Lib.hid (HO1.out.trans hrp.2);have HR2:=Lib.hid (HR1.out.only hrp.2 hlt);have hs2:w.heap.size<w2.heap.size:=hlS HR2.out.blk;clear hrp)|(go_at_call 197;refine(K2.out _ HX2.out).mono ?_;rintro e w3 ⟨x,y,z,rfl,hz,hrp⟩;obtain⟨xo,xn,xA,xk,xc,rfl,rfl,rfl⟩:=hz.form;have HZ:=Lib.hid hz;have HRP:=Lib.hid hrp;have HR3:=Lib.hid (HR2.out.only hrp.2 hlt);obtain⟨m0,m1,m2,mf⟩:=HR3.out.facts;have hs3:w.heap.size<w3.heap.size:=hlS HR3.out.blk;clear hz hrp));exact bodyPost_ret (results_c1 Tryz.results170 _ _ w.heap.size _ _ _ _ rfl (set_three HR3.out.blk) Tryz.underlying52 (by kernel_rfl)) rfl (XP.done HO2.out HZ.out HRP.out hlt hs2)
  ·rw[EX_minus n1 n2];have N1:=Lib.hid n1;have N2:=Lib.hid n2;have tok1:True:=trivial;clear n1 n2;go_enter Tryz.func170,Tryz.ntmps170;go_wp2_with(first|(clear tok1;rw[←hW0];clear hW0;go_at_call 98;refine(take_no N1.out HX0.out).mono ?_;rintro e w1 ⟨rfl,hrp⟩;have HX1:=Lib.hid hrp.1;have HO1:=Lib.hid (HO0.out.trans hrp.2);have HR1:=Lib.hid (HR0.out.only hrp.2 hlt);have hs1:w.heap.size<w1.heap.size:=hlS HR1.out.blk;clear hrp)|(go_at_call 98;refine(take_yes N2.out HX1.out).mono ?_;rintro e w2 ⟨rfl,hrp⟩;have HX2:=Lib.hid hrp.1;have HO2:=Lib.hid (HO1.out.trans hrp.2);have HR2:=Lib.hid (HR1.out.only hrp.2 hlt);have hs2:w.heap.size<w2.heap.size:=hlS HR2.out.blk;clear hrp)|(go_at_call 170;refine(K1.out (.inr N2.out) _ HX2.out).mono ?_;rintro e w3 ⟨x,y,z,rfl,hz,hrp⟩;obtain⟨xo,xn,xA,xk,xc,rfl,rfl,rfl⟩:=hz.form;have HZ:=Lib.hid hz;have HRP:=Lib.hid hrp;have HR3:=Lib.hid (HR2.out.only hrp.2 hlt);obtain⟨m0,m1,m2,mf⟩:=HR3.out.facts;have hs3:w.heap.size<w3.heap.size:=hlS HR3.out.blk;clear hz hrp));exact bodyPost_ret (results_c1 Tryz.results170 _ _ w.heap.size _ _ _ _ rfl ((Below.heap_alloc _ _ _ (by simpa[World.setCell]using hs3)).trans (set_three HR3.out.blk)) Tryz.underlying52 (by kernel_rfl)) rfl (XP.one HO2.out HZ.out HRP.out hlt hs2 (by unfold I64;omega))
 ·rw[EX_plus n1];have N1:=Lib.hid n1;clear n1;go_enter Tryz.func170,Tryz.ntmps170;go_wp2_with(first|(rw[←hW0];clear hW0;go_at_call 98;refine(take_yes N1.out HX0.out).mono ?_;rintro e w1 ⟨rfl,hrp⟩;have HX1:=Lib.hid hrp.1;have HO1:=Lib.hid (HO0.out.trans hrp.2);have HR1:=Lib.hid (HR0.out.only hrp.2 hlt);have hs1:w.heap.size<w1.heap.size:=hlS HR1.out.blk;clear hrp)|(go_at_call 170;refine(K1.out (.inl N1.out) _ HX1.out).mono ?_;rintro e w3 ⟨x,y,z,rfl,hz,hrp⟩;obtain⟨xo,xn,xA,xk,xc,rfl,rfl,rfl⟩:=hz.form;have HZ:=Lib.hid hz;have HRP:=Lib.hid hrp;have HR3:=Lib.hid (HR1.out.only hrp.2 hlt);obtain⟨m0,m1,m2,mf⟩:=HR3.out.facts;have hs3:w.heap.size<w3.heap.size:=hlS HR3.out.blk;clear hz hrp));exact bodyPost_ret (results_c1 Tryz.results170 _ _ w.heap.size _ _ _ _ rfl (set_three HR3.out.blk) Tryz.underlying52 (by kernel_rfl)) rfl (XP.done HO1.out HZ.out HRP.out hlt hs1)
set_option maxHeartbeats 4000000 in
theorem bracketed_any(w:World)(B rb:Nat)(A:Option Addr)(c:Nat)(l:List Tk)(r:Rs)(h:RX w B rb A c l r)(k:∀W,RX W B rb A c l (wantA l r ⟨#[91]⟩)→Calls Tryz.prog 138 #[.pointer (some ⟨rb,0,none⟩),.int .i64 0] W (XP B rb A c l (EX l (.lev 0) (wantA l r ⟨#[91]⟩)) W)):
 Calls Tryz.prog 139 #[.pointer (some ⟨rb,0,none⟩)] w (XP B rb A c l (EX l .brk r) w):=by
 have K:=Lib.hid k;clear k;obtain⟨W0,hW0⟩:∃W0,W0=w.alloc (.cells #[.int .i64 0,.int .i64 0,.slice none 0 0] 52):=⟨_,rfl⟩;have HB0:Hid (Below w.heap.size w W0):=by unfold Hid;rw[hW0];exact(Below.refl _ _).alloc (Nat.le_refl _) _
 have HR0:Hid (RB W0 w.heap.size):=by unfold Hid;rw[hW0];exact RB.start w
 have hlt:=h.lt;have HX0:=Lib.hid (h.below HB0.out);have HO0:Hid (Only rb w W0):=Only.of_below HB0.out;have hs0:w.heap.size<W0.heap.size:=hlS HR0.out.blk;clear h;rw[EX_brk];have tok1:True:=trivial;go_enter Tryz.func139,Tryz.ntmps139;go_wp2_with(first|(clear tok1;rw[←hW0];clear hW0;go_at_call 137;refine(want_any _ _ _ _ _ _ _ _ HX0.out).mono ?_;rintro e w1 ⟨rfl,hrp⟩;have HX1:=Lib.hid hrp.1;have HO1:=Lib.hid (HO0.out.trans hrp.2);have HR1:=Lib.hid (HR0.out.only hrp.2 hlt);have hs1:w.heap.size<w1.heap.size:=hlS HR1.out.blk;clear hrp)|(go_at_call 138;refine(K.out _ HX1.out).mono ?_;rintro e w2 ⟨x,y,z,rfl,hz,hrp⟩;obtain⟨xo,xn,xA,xk,xc,rfl,rfl,rfl⟩:=hz.form;have HZ:=Lib.hid hz;have HRP:=Lib.hid hrp;have HR2:=Lib.hid (HR1.out.only hrp.2 hlt);have hs2:w.heap.size<w2.heap.size:=hlS HR2.out.blk;clear hz hrp;have HB3:Hid (Below w2.heap.size w2 (w2.alloc (.cells #[.int .i64 xo,.int .i64 xn,.slice xA xk xc] 52))):=(Below.refl _ _).alloc (Nat.le_refl _) _;have HX3:=Lib.hid (HRP.out.1.below HB3.out);have HR3:=Lib.hid (HR2.out.below HB3.out);have hq3:=heap_alloc_new w2 (.cells #[.int .i64 xo,.int .i64 xn,.slice xA xk xc] 52);have HQ3:=Lib.hid hq3;have hl3:=hlS hq3;clear hq3)|(go_at_call 137;refine(want_any _ _ _ _ _ _ _ _ HX3.out).mono ?_;rintro e w4 ⟨rfl,hrp⟩;have HRQ:=Lib.hid hrp;have HR4:=Lib.hid (HR3.out.only hrp.2 hlt);obtain⟨m0,m1,m2,mf⟩:=HR4.out.facts;have q4:=(hrp.2.2.2.2.2 _ hl3 (by omega)).trans HQ3.out;have p0:w4.cell? ⟨w2.heap.size,0,none⟩=some (.int .i64 xo):=cell_of_row w4 _ 0 _ _ _ q4;have p1:w4.cell? ⟨w2.heap.size,1,none⟩=some (.int .i64 xn):=cell_of_row w4 _ 1 _ _ _ q4;have p2:w4.cell? ⟨w2.heap.size,2,none⟩=some (.slice xA xk xc):=cell_of_row w4 _ 2 _ _ _ q4;clear hrp q4));have HZ4:Rz w4 (fun g=>w1.heap.size≤g) (EX l (.lev 0) (wantA l r ⟨#[91]⟩)).1 (.agg #[.int .i64 xo,.int .i64 xn,.slice xA xk xc]):=by
  have ho:=HRQ.out.2;have h1:=HB3.out.size;exact HZ.out.keep (Nat.le_trans h1 ho.2.2.2.1) (fun _ _ q=>q) fun g hg hi=>(ho.2.2.2.2 g (by omega) (by have:=hs1;omega)).trans (HB3.out.block g hg)
 exact bodyPost_ret (results_c1 Tryz.results139 _ _ w.heap.size _ _ _ _ rfl (set_three HR4.out.blk) Tryz.underlying52 (by kernel_rfl)) rfl (XP.done (q:=((EX l (.lev 0) (wantA l r ⟨#[91]⟩)).1,wantA l (EX l (.lev 0) (wantA l r ⟨#[91]⟩)).2 ⟨#[93]⟩)) HO1.out HZ4 ⟨HRQ.out.1,(HRP.out.2.trans (Only.of_below HB3.out)).trans HRQ.out.2⟩ hlt hs1)
end Go.Proofs.YtdcjbhdfphcefaaGreatDoor
namespace Go.Proofs.YtdcjbhdfphcefaaGreatDoor
open Go.RowKit
def funsC:Array Value:=⟨funsB.map .string⟩
def FnRel(s:ByteArray)(W0:World)(i:Value)(W:World):Prop:=∃k:Nat,k≤9∧i=.int .i64 (k:Int)∧W0=W∧funS s=funFrom s (funsB.drop k) k
set_option maxHeartbeats 4000000 in
theorem function_any(s:ByteArray)(w:World):
 Calls Tryz.prog 210 #[.string s] w fun e w'=>e=.returned (.int .i64 (funS s))∧Below w.heap.size w w':=by
 obtain⟨W0,hW0⟩:∃W0,W0=w.alloc (.cells funsC 9):=⟨_,rfl⟩;have HB0:Hid (Below w.heap.size w W0):=by unfold Hid;rw[hW0];exact(Below.refl _ _).alloc (Nat.le_refl _) _
 have H0:Hid (W0.heap[w.heap.size]? =some (.cells funsC 9 (0,0))):=by unfold Hid;rw[hW0];exact heap_alloc_new w _
 have HR0:Hid (FnRel s W0 (.int .i64 0) W0):=⟨0,by omega,rfl,rfl,rfl⟩;go_enter Tryz.func210,Tryz.ntmps210;go_wp2_with fail;have e0:w.alloc (.cells #[.string ⟨#[83,73,78]⟩,.string ⟨#[67,79,83]⟩,.string ⟨#[84,65,78]⟩,.string ⟨#[65,84,65,78]⟩,.string ⟨#[83,81,82,84]⟩,.string ⟨#[65,66,83]⟩,.string ⟨#[82,79,85,78,68]⟩,.string ⟨#[70,73,88]⟩,.string ⟨#[70,85,80]⟩] 9)=W0:=hW0.symm;rw[e0];clear e0 hW0;go_loopw[4] (FnRel s W0) (fun j _=>9-(intOf j).toNat)
 case atStart=>exact HR0.out
 case round=>
  obtain⟨k,hk,rfl,rfl,her⟩:=hrel;have HER:=Lib.hid her;clear her HR0;by_cases hlt:k<9
  ·obtain⟨nm,hnm⟩:∃nm,funsB[k]? =some nm:=⟨_,List.getElem?_eq_getElem (show k<funsB.length by show k<9;omega)⟩;have c0:W0.cell? ⟨w.heap.size,k,none⟩=some (.string nm):=by
    refine(cell_of_row W0 _ k _ _ _ H0.out).trans ?_;unfold funsC;rw[List.getElem?_toArray,List.getElem?_map,hnm];rfl
   have HST:Hid (funS s=if nm=s then 8+(k:Int)else funFrom s (funsB.drop (k+1)) ((k:Int)+1)):=by
    unfold Hid;rw[HER.out,drop_at hnm];rfl
   have i0:(0:Int)≤(k:Int):=by omega
   have i1:(k:Int)<9:=by omega
   clear hnm;by_cases hq:nm.toList=s.toList
   ·have hq':(nm.toList==s.toList)=true:=beq_iff_eq.2 hq;have E:Hid (funS s=8+(k:Int)):=by unfold Hid;rw[HST.out,if_pos (Eq.mp (str_eq _ _) hq)]
    go_wp2_with fail;go_ret;exact⟨by rw[E.out];rfl,HB0.out⟩
   ·have hq':(nm.toList==s.toList)=false:=beq_eq_false_iff_ne.2 hq;have E:Hid (funS s=funFrom s (funsB.drop (k+1)) ((k:Int)+1)):=by unfold Hid;rw[HST.out,if_neg (fun e=>hq (Eq.mpr (str_eq _ _) e))]
    go_wp2_with fail;exact⟨⟨k+1,by omega,by go_num,rfl,E.out⟩,by simp only[intOf];omega⟩
  ·obtain rfl:k=9:=by omega
   have E:Hid (funS s= -1):=HER.out;go_wp2_with fail;go_ret;exact⟨by rw[E.out];rfl,HB0.out⟩
def signsC(n:Nat):Array Value:=⟨(opsS n).map fun p=>.string p.1⟩
def opsC(n:Nat):Array Value:=⟨(opsS n).map fun p=>.int .i64 p.2⟩
set_option maxHeartbeats 4000000 in
theorem operators_any(n:Nat)(hn:n<5)(w:World):
 Calls Tryz.prog 171 #[.int .i64 n] w fun e w'=>e=.returned (.tuple #[.slice (some ⟨w.heap.size,0,none⟩) (opsS n).length (opsS n).length,.slice (some ⟨w.heap.size+1,0,none⟩) (opsS n).length (opsS n).length])∧w'=(w.alloc (.cells (signsC n) 9)).alloc (.cells (opsC n) 3):=by
 obtain rfl|rfl|rfl|rfl|rfl:n=0∨n=1∨n=2∨n=3∨n=4:=by omega
 all_goals
  go_enter Tryz.func171,Tryz.ntmps171;go_wp2_with fail;go_ret2;exact⟨by simp[opsS],rfl⟩
theorem rz_two{W:World}{n0 g cap:Nat}{t s:Tr}{op:Int}{x y z x2 y2 z2:Value}{cur:Array Value}{T:TypeId}(hg:W.heap[g]? =some (.cells cur T (0,0)))(h0:cur[0]? =some x)(h1:cur[1]? =some y)(h2:cur[2]? =some z)(h3:cur[3]? =some x2)(h4:cur[4]? =some y2)(h5:cur[5]? =some z2)
 (ht:Rz W (fun g=>n0≤g) t (.agg #[x,y,z])) (hs:Rz W (fun g=>n0≤g) s (.agg #[x2,y2,z2])) (hn:n0≤g) (ho:I64 op):Rz W (fun g=>n0≤g) (t2 op t s) (.agg #[.int .i64 op,.int .i64 0,.slice (some ⟨g,0,none⟩) 2 cap]):=by
 refine⟨_,cap,rfl,ho,by unfold I64;omega,by unfold maxLen;omega,.inr ⟨g,rfl,hn,hlS hg,fun i hi=> ?_⟩⟩;obtain rfl|rfl:i=0∨i=1:=by omega
 ·exact⟨x,y,z,(cell_of_row W g 0 _ _ _ hg).trans h0,(cell_of_row W g 1 _ _ _ hg).trans h1,(cell_of_row W g 2 _ _ _ hg).trans h2,ht⟩
 ·exact⟨x2,y2,z2,(cell_of_row W g 3 _ _ _ hg).trans h3,(cell_of_row W g 4 _ _ _ hg).trans h4,(cell_of_row W g 5 _ _ _ hg).trans h5,hs⟩
theorem funFrom_bd(s:ByteArray):∀(fs:List ByteArray) (i:Int),0≤i→i+fs.length≤1000→-1≤funFrom s fs i∧funFrom s fs i≤1100:=by
 intro fs;induction fs with
 |nil=>intro i h1 h2;simp only[funFrom];omega
 |cons f fs ih=>
  intro i h1 h2;rw[funFrom];simp only[List.length_cons]at h2;split
  ·omega
  ·exact ih (i+1) (by omega) (by omega)
theorem opA_bd(l:List Tk)(r:Rs): -1≤opA l r∧opA l r≤1100:=by
 unfold opA;split
 ·exact funFrom_bd _ funsB 0 (by omega) (by show(0:Int)+(9:Nat)≤1000;omega)
 ·omega
set_option maxHeartbeats 8000000 in
theorem primary_any(w:World)(B rb:Nat)(A:Option Addr)(c:Nat)(l:List Tk)(r:Rs)(h:RX w B rb A c l r)(hA:opA l r≠11)(k1:opA l r<0→∀W,RX W B rb A c l r→Calls Tryz.prog 136 #[.pointer (some ⟨rb,0,none⟩)] W (XP B rb A c l (EX l .cel r) W))(k2:0≤opA l r→∀W,RX W B rb A c l (nxt r)→Calls Tryz.prog 139 #[.pointer (some ⟨rb,0,none⟩)] W (XP B rb A c l (EX l .brk (nxt r)) W)):
 Calls Tryz.prog 197 #[.pointer (some ⟨rb,0,none⟩)] w (XP B rb A c l (EX l .pri r) w):=by
 have K1:Hid (opA l r<0→∀W,RX W B rb A c l r→Calls Tryz.prog 172 #[.pointer (some ⟨rb,0,none⟩)] W (XP B rb A c l (EX l .cel r) W)):=fun ho W hx=>simple_any W B rb A c l r hx (k1 ho);have K2:=Lib.hid k2;clear k1 k2;obtain⟨W0,hW0⟩:∃W0,W0=w.alloc (.cells #[.int .i64 0,.int .i64 0,.slice none 0 0] 52):=⟨_,rfl⟩;have HB0:Hid (Below w.heap.size w W0):=by unfold Hid;rw[hW0];exact(Below.refl _ _).alloc (Nat.le_refl _) _
 have HR0:Hid (RB W0 w.heap.size):=by unfold Hid;rw[hW0];exact RB.start w
 have hlt:=h.lt;have HX0:=Lib.hid (h.below HB0.out);have HO0:Hid (Only rb w W0):=Only.of_below HB0.out;have hs0:w.heap.size<W0.heap.size:=hlS HR0.out.blk;clear h;have HC0:=Lib.hid (token_any W0 B rb A c l r HX0.out);have HLT:Hid ((tokA l r).kind≠0→r.1<l.length):=tokA_lt;obtain⟨⟨tk,tn,tp,tx⟩,ht⟩:∃t,tokA l r=t:=⟨_,rfl⟩;have hop:opA l r=if tk=3 then funS tx else-1:=by unfold opA;rw[ht]
 rw[ht]at HC0 HLT;have HTK:Hid (Calls Tryz.prog 133 #[.pointer (some ⟨rb,0,none⟩)] W0 fun e w'=>e=.returned (.agg #[.int .i64 tk,.int .i64 tn,.int .i64 tp,.string tx])∧Below W0.heap.size W0 w'):=HC0.out;dsimp only at HLT;clear ht HC0;by_cases h3:tk=3
 ·rw[if_pos h3]at hop;have g0:(tk==3)=true:=beq_iff_eq.2 h3;have hk0:tk≠0:=by omega
  clear h3;by_cases hn:opA l r<0
  ·rw[EX_pri0 hn];have KS:=Lib.hid (K1.out hn);rw[hop]at hn;have g1:decide (funS tx<0)=true:=decide_eq_true hn;clear hop hA K1 K2 HLT;go_enter Tryz.func197,Tryz.ntmps197;go_wp2_with(first|(rw[←hW0];clear hW0;go_at_call 133;refine(HTK.out).mono ?_;rintro e w1 ⟨rfl,hb⟩;have HB1:=Lib.hid (hb.alloc hb.size (.cells #[.int .i64 tk,.int .i64 tn,.int .i64 tp,.string tx] 157));have HX1:=Lib.hid (HX0.out.below HB1.out);have HO1:=Lib.hid (HO0.out.trans (Only.of_below HB1.out));have HR1:=Lib.hid (HR0.out.below HB1.out);have hs1:=hlS HR1.out.blk;clear hb)|(go_at_call 210;refine(function_any _ _).mono ?_;rintro e w2 ⟨rfl,hb⟩;have HX2:=Lib.hid (HX1.out.below hb);have HO2:=Lib.hid (HO1.out.trans (Only.of_below hb));have HR2:=Lib.hid (HR1.out.below hb);have hs2:w.heap.size<w2.heap.size:=hlS HR2.out.blk;obtain⟨c0,c1,c2,cf⟩:=HX2.out.cells;have hml:=HX2.out.tok.1;clear hb)|(go_at_call 172;refine(KS.out _ HX2.out).mono ?_;rintro e w3 ⟨x,y,z,rfl,hz,hrp⟩;obtain⟨xo,xn,xA,xk,xc,rfl,rfl,rfl⟩:=hz.form;have HZ:=Lib.hid hz;have HRP:=Lib.hid hrp;have HR3:=Lib.hid (HR2.out.only hrp.2 hlt);obtain⟨m0,m1,m2,mf⟩:=HR3.out.facts;have hs3:w.heap.size<w3.heap.size:=hlS HR3.out.blk;clear hz hrp));exact bodyPost_ret (results_c1 Tryz.results197 _ _ w.heap.size _ _ _ _ rfl (set_three HR3.out.blk) Tryz.underlying52 (by kernel_rfl)) rfl (XP.done HO2.out HZ.out HRP.out hlt hs2)
  ·have hA':=hA;rw[EX_pri (by omega),if_neg hA];have KB:=Lib.hid (K2.out (by omega));have hlt2:=HLT.out hk0;have ho:=opA_bd l r;rw[hop]at hn hA' ho⊢
   have g1:decide (funS tx<0)=false:=decide_eq_false hn;have g2:(funS tx==11)=false:=beq_eq_false_iff_ne.2 hA';obtain⟨op,hopx⟩:∃op,funS tx=op:=⟨_,rfl⟩;have HFX:Hid (∀W,Calls Tryz.prog 210 #[.string tx] W fun e w'=>e=.returned (.int .i64 op)∧Below W.heap.size W w'):=fun W=>by rw[←hopx];exact function_any tx W
   rw[hopx]at hn ho g1 g2⊢
   clear hopx hn;clear hop hA hA' K1 K2 HLT;go_enter Tryz.func197,Tryz.ntmps197;go_wp2_with(first|(rw[←hW0];clear hW0;go_at_call 133;refine(HTK.out).mono ?_;rintro e w1 ⟨rfl,hb⟩;have HB1:=Lib.hid (hb.alloc hb.size (.cells #[.int .i64 tk,.int .i64 tn,.int .i64 tp,.string tx] 157));have HX1:=Lib.hid (HX0.out.below HB1.out);have HO1:=Lib.hid (HO0.out.trans (Only.of_below HB1.out));have HR1:=Lib.hid (HR0.out.below HB1.out);have hs1:=hlS HR1.out.blk;clear hb)|(go_at_call 210;refine(HFX.out _).mono ?_;rintro e w2 ⟨rfl,hb⟩;have HX2:=Lib.hid (HX1.out.below hb);have HO2:=Lib.hid (HO1.out.trans (Only.of_below hb));have HR2:=Lib.hid (HR1.out.below hb);have hs2:w.heap.size<w2.heap.size:=hlS HR2.out.blk;obtain⟨c0,c1,c2,cf⟩:=HX2.out.cells;have hml:=HX2.out.tok.1;clear hb));refine(KB.out _ (HX2.out.next hlt2)).mono ?_;rintro e w3 ⟨x,y,z,rfl,hz,hrp⟩;obtain⟨xo,xn,xA,xk,xc,rfl,rfl,rfl⟩:=hz.form;have HZ:=Lib.hid hz;have HRP:=Lib.hid hrp;have HR3:=Lib.hid ((HR2.out.only (HX2.out.only 1 _) hlt).only hrp.2 hlt);obtain⟨m0,m1,m2,mf⟩:=HR3.out.facts;have hs3:w.heap.size<w3.heap.size:=hlS HR3.out.blk;clear hz hrp;go_wp2_with fail;exact bodyPost_ret (results_c1 Tryz.results197 _ _ w.heap.size _ _ _ _ rfl ((Below.heap_alloc _ _ _ (by simpa[World.setCell]using hs3)).trans (set_three HR3.out.blk)) Tryz.underlying52 (by kernel_rfl)) rfl (XP.one (HO2.out.trans (HX2.out.only 1 _)) HZ.out HRP.out hlt (by simpa[World.setCell]using hs2) (by unfold I64;omega))
 ·rw[if_neg h3]at hop;have hn:opA l r<0:=by omega
  rw[EX_pri0 hn];have KS:=Lib.hid (K1.out hn);have g0:(tk==3)=false:=beq_eq_false_iff_ne.2 h3;clear hop hA hn K1 K2 HLT;go_enter Tryz.func197,Tryz.ntmps197;go_wp2_with(first|(rw[←hW0];clear hW0;go_at_call 133;refine(HTK.out).mono ?_;rintro e w1 ⟨rfl,hb⟩;have HB1:=Lib.hid (hb.alloc hb.size (.cells #[.int .i64 tk,.int .i64 tn,.int .i64 tp,.string tx] 157));have HX1:=Lib.hid (HX0.out.below HB1.out);have HO1:=Lib.hid (HO0.out.trans (Only.of_below HB1.out));have HR1:=Lib.hid (HR0.out.below HB1.out);have hs1:=hlS HR1.out.blk;clear hb)|(go_at_call 172;refine(KS.out _ HX1.out).mono ?_;rintro e w3 ⟨x,y,z,rfl,hz,hrp⟩;obtain⟨xo,xn,xA,xk,xc,rfl,rfl,rfl⟩:=hz.form;have HZ:=Lib.hid hz;have HRP:=Lib.hid hrp;have HR3:=Lib.hid (HR1.out.only hrp.2 hlt);obtain⟨m0,m1,m2,mf⟩:=HR3.out.facts;have hs3:w.heap.size<w3.heap.size:=hlS HR3.out.blk;clear hz hrp));exact bodyPost_ret (results_c1 Tryz.results197 _ _ w.heap.size _ _ _ _ rfl (set_three HR3.out.blk) Tryz.underlying52 (by kernel_rfl)) rfl (XP.done HO1.out HZ.out HRP.out hlt hs1)
end Go.Proofs.YtdcjbhdfphcefaaGreatDoor
