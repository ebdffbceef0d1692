/- Plain words of layer 5 and of the reader of layer 6: the tokens of a line, what the reader does with the next one. Plain words of layer 6: the expression and the block that tokens make, the blocks of a text. Conditions: those that each lemma names. -/
import Derived.Test.YtdcjbhdfphcefaaGreatDoorBa
import Derived.Test.YtdcjbhdfphcefaaGreatDoorBp
import Derived.PlainAid
import Derived.Test.YtdcjbhdfphcefaaGreatDoorPm
set_option linter.unusedVariables false
set_option linter.unusedSimpArgs false
namespace Go.Proofs.YtdcjbhdfphcefaaGreatDoor
open Go.PlainAid
structure Tk where
 kind:Int
 n:Int
 pos:Int
 text:ByteArray
def noTk:Tk:=⟨0,0,0,⟨#[]⟩⟩
def namesB:List ByteArray:=[⟨#[73,70]⟩,⟨#[71,79,84,79]⟩,⟨#[87,72,73,76,69]⟩,⟨#[68,79]⟩,⟨#[69,78,68]⟩,⟨#[69,81]⟩,⟨#[78,69]⟩,⟨#[71,84]⟩,⟨#[71,69]⟩,⟨#[76,84]⟩,⟨#[76,69]⟩,⟨#[65,78,68]⟩,⟨#[79,82]⟩,⟨#[88,79,82]⟩,⟨#[77,79,68]⟩,⟨#[83,73,78]⟩,⟨#[67,79,83]⟩,⟨#[84,65,78]⟩,⟨#[65,84,65,78]⟩,⟨#[83,81,82,84]⟩,⟨#[65,66,83]⟩,⟨#[82,79,85,78,68]⟩,⟨#[70,73,88]⟩,⟨#[70,85,80]⟩]
def named1(s:ByteArray)(i:Nat)(best nm:ByteArray):ByteArray:=
 if nm.size≤s.size-i∧s.extract i (i+nm.size)=nm∧best.size<nm.size then nm else best
def namedS(s:ByteArray)(i:Nat):ByteArray:=namesB.foldl (named1 s i) ⟨#[]⟩
def partB(c:Int):Bool:=decide (48≤c∧c≤57)||c==46
def signB(c:Int):Bool:=c==43||c==45||c==42||c==47||c==61||c==35||c==91||c==93
def scanS(p:Int→Bool)(s:ByteArray):Nat→Nat→Nat
 |0,i=>i
 |k+1,i=>if p (bt s i)=true then scanS p s k (i+1)else i
def lexS(s:ByteArray)(i:Nat):Nat×Option Tk×Int:=
 let c:=bt s i
 if c=32∨c=9∨c=13 then(i+1,none,0)
 else if c=59 then(s.size,none,0)
 else if c=40 then
  let t:=scanS (fun x=>x !=41) s (s.size-(i+1)) (i+1)
  if t=s.size then(t,none,2)else(t+1,none,0)
 else if partB c=true then
  let t:=scanS partB s (s.size-(i+1)) (i+1);let r:=parseS (strI (s.extract i t))
  if r.2≠0 then(t,none,2)else(t,some ⟨2,r.1,i,⟨#[]⟩⟩,0)
 else if 65≤c∧c≤90 then
  let nm:=namedS s i
  if nm.size=0 then(i+1,some ⟨1,c,i,⟨#[]⟩⟩,0)else(i+nm.size,some ⟨3,0,i,nm⟩,0)
 else if signB c=true then(i+1,some ⟨4,0,i,s.extract i (i+1)⟩,0)
 else(i+1,none,2)
def tokF(s:ByteArray):Nat→Nat→List Tk→List Tk×Int×Int
 |0,i,acc=>(acc,(s.size:Int),0)
 |k+1,i,acc=>
  if s.size≤i then(acc,(s.size:Int),0)
  else if(lexS s i).2.2≠0 then([],(i:Int),2)
  else tokF s k (lexS s i).1 (acc++(lexS s i).2.1.toList)
def tokS(s:ByteArray):List Tk×Int×Int:=tokF s (s.size+1) 0 []
abbrev Rs:=Nat×Int
def failA(r:Rs):Rs:=if r.2<0 then(r.1,(r.1:Int))else r
def tokA(l:List Tk)(r:Rs):Tk:=if l.length≤r.1∨0≤r.2 then noTk else l.getD r.1 noTk
def isA(l:List Tk)(r:Rs)(s:ByteArray):Bool:=((tokA l r).kind==4||(tokA l r).kind==3)&&decide ((tokA l r).text=s)
def nxt(r:Rs):Rs:=(r.1+1,r.2)
def takeA(l:List Tk)(r:Rs)(s:ByteArray):Bool×Rs:=if isA l r s=true then(true,nxt r)else(false,r)
def cntA(l:List Tk)(most:Int)(r:Rs):Int×Rs:=
 let q:=wholeS (tokA l r).n
 if(tokA l r).kind≠2∨q.2=false∨q.1<1∨most<q.1 then(0,failA r)else(q.1,nxt r)
def letA(l:List Tk)(r:Rs)(c:Int):Bool:=(tokA l r).kind==1&&(tokA l r).n==c
end Go.Proofs.YtdcjbhdfphcefaaGreatDoor
namespace Go.Proofs.YtdcjbhdfphcefaaGreatDoor
open Go.PlainAid
def zeroT:Tr:=.mk 0 0 0 fun _=>.none_
def numA(l:List Tk)(r:Rs):Tr×Rs:=if(tokA l r).kind≠2 then(zeroT,failA r)else(.mk 0 (tokA l r).n 0 (fun _=>.none_),nxt r)
inductive Md where
 |lev (n:Nat)
 |lop (n:Nat) (x:Tr)
 |una
 |pri
 |brk
 |cel
def t1(op:Int)(x:Tr):Tr:=.mk op 0 1 fun _=>x
def t2(op:Int)(x y:Tr):Tr:=.mk op 0 2 fun i=>if i=0 then x else y
def b0:Md→Nat
 | .lev n=>4+2*(5-n)
 | .lop n _=>3+2*(5-n)
 | .una=>3
 | .pri=>2
 | .brk=>15
 | .cel=>1
def b1:Md→Nat
 | .lev n=>19+2*(5-n)
 | .lop n _=>18+2*(5-n)
 | .una=>18
 | .pri=>17
 | .brk=>15
 | .cel=>16
def depthS:Nat→Tr→Nat
 |_,.none_=>1
 |0,.mk _ _ _ _=>1
 |m+1,.mk _ _ k kid=>(if m=0 then 0 else(List.range k).foldl (fun d i=>max d (depthS m (kid i))) 0)+1
def linesF(s:ByteArray):Nat→Nat→Nat→List ByteArray
 |0,fr,i=>if fr<s.size then[s.extract fr s.size]else[]
 |k+1,fr,i=>if bt s i=10 then s.extract fr i::linesF s k (i+1) (i+1)else linesF s k fr (i+1)
def linesS(s:ByteArray):List ByteArray:=linesF s s.size 0 0
end Go.Proofs.YtdcjbhdfphcefaaGreatDoor
