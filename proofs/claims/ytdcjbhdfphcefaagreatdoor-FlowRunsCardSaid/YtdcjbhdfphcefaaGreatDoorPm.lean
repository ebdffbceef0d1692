/- The plain ma. -/
import Derived.Test.YtdcjbhdfphcefaaGreatDoorSv
import Derived.Test.YtdcjbhdfphcefaaGreatDoorBg
import Derived.Test.YtdcjbhdfphcefaaGreatDoorEw
namespace Go.Proofs.YtdcjbhdfphcefaaGreatDoor
set_option linter.all false
structure Bk where
 kind:Int
 label:Int
 skip:Bool
 words:List (Int×Tr)
 left:Tr
 x:Tr
 n:Int
structure Pg where
 num:Int
 first:Int
 stop:Int
structure Lb where
 bl:List Bk
 pr:List Pg
 mt:List Int
structure Cl where
 prog:Nat
 caller:Nat
 back:Int
 left:Int
 args:LI
 lev:Bool
structure MS where
 prog:Nat
 pos:Int
 calls:List Cl
 sto:Sto
 steps:Int
 ended:Bool
 err:Int
def noneB:Bk:=⟨0,0,false,[],.none_,.none_,0⟩
def Lb.blk(L:Lb)(i:Nat):Bk:=L.bl.getD i noneB
def Lb.prg(L:Lb)(i:Nat):Pg:=L.pr.getD i ⟨0,0,0⟩
def Lb.ok(L:Lb):Prop:=∀(i:Nat) (p:Pg),L.pr[i]? =some p→0≤p.first∧p.first≤L.bl.length∧p.stop≤L.bl.length
def findFrom(n:Int):List Pg→Nat→Int×Bool
 |[],_=>(0,false)
 |p::r,i=>if p.num=n then((i:Int),true)else findFrom n r (i+1)
def findS(L:Lb)(n:Int):Int×Bool:=findFrom n L.pr 0
def labelFrom(L:Lb)(n:Int):Nat→Nat→Int×Bool
 |0,_=>(0,false)
 |k+1,i=>if(L.blk i).label=n then((i:Int),true)else labelFrom L n k (i+1)
def labelS(L:Lb)(p:Nat)(n:Int):Int×Bool:=
 if n<1∨L.pr.length≤p then(0,false)
 else labelFrom L n ((L.prg p).stop.toNat-(L.prg p).first.toNat) (L.prg p).first.toNat
def insideFrom(at_:Int):List Int→Nat→List Int
 |[],_=>[]
 |m::r,w=>if(w:Int)<at_∧at_≤m then(w:Int)::insideFrom at_ r (w+1)else insideFrom at_ r (w+1)
def insideS(L:Lb)(at_:Int):List Int:=if at_<0∨(L.bl.length:Int)≤at_ then[]else insideFrom at_ L.mt 0
def mateS(L:Lb)(at_:Int):Int:=if at_<L.mt.length then L.mt.getD at_.toNat 0 else-1
def isC(v:Int×Int)(letter n:Int):Bool:=v.1==letter&&v.2==n*1000000
def valsS(f:Int→Int):List (Int×Tr)→LI×Int
 |[]=>([],0)
 |(c,t)::r=>if(EvalS (getS f) t).2≠0 then([],(EvalS (getS f) t).2)else
  if(valsS f r).2≠0 then([],(valsS f r).2)else((c,(EvalS (getS f) t).1)::(valsS f r).1,0)
def ctl1(p:Int×Int)(v:Int×Int):Int×Int:=
 if isC v 71 65 then(p.1+1,65)else if isC v 77 98 then(p.1+1,98)else if isC v 77 99 then(p.1+1,99)else p
def ctlS(l:LI):Int×Int:=l.foldl ctl1 (0,0)
def fitsS(l:LI)(macro_:Bool):Bool:=(l.countP fun v=> !(v.1==80||v.1==76)&& !(macro_&&v.1 !=71))==1
structure En where
 number:Int
 times:Int
 numbers:Int
 repeats:Int
 args:LI
def en1(s:En)(v:Int×Int):En:=
 if v.1=80 then{s with number:=v.2,numbers:=s.numbers+1}
 else if v.1=76 then{s with times:=v.2,repeats:=s.repeats+1}
 else if v.1=71 then s
 else{s with args:=s.args++[v]}
def enS(l:LI):En:=l.foldl en1 ⟨0,1000000,0,0,[]⟩
def enterE(L:Lb)(m:MS)(l:LI)(macro_:Bool):Int:=
 if fitsS l macro_=false then 8
 else if 1<(enS l).numbers∨1<(enS l).repeats then 7
 else if(enS l).numbers=0 then 9
 else if(wholeS (enS l).number).2=false∨(findS L (wholeS (enS l).number).1).2=false then 6
 else if(wholeS (enS l).times).2=false∨(wholeS (enS l).times).1<1∨999<(wholeS (enS l).times).1 then 1
 else if m.calls.length=8 then 10
 else if macro_ then pushE m.sto (enS l).args else 0
def enterM(L:Lb)(m:MS)(l:LI)(macro_:Bool):MS:=
 if enterE L m l macro_≠0 then m else
  let p:=(findS L (wholeS (enS l).number).1).1.toNat
  {m with sto:=if macro_ then pushX m.sto (enS l).args else m.sto,calls:=m.calls++[⟨p,m.prog,m.pos+1,(wholeS (enS l).times).1-1,(enS l).args,macro_⟩],prog:=p,pos:=(L.prg p).first}
def leaveM(L:Lb)(m:MS):MS×Int:=
 match m.calls.getLast? with
 |none=>({m with ended:=true},0)
 |some c=>
  if c.lev=true∧popE m.sto≠0 then(m,popE m.sto)
  else
   let s1:=if c.lev then popX m.sto else m.sto
   if 0<c.left then
    ({m with sto:=if c.lev then pushX s1 c.args else s1,calls:=m.calls.dropLast++[{c with left:=c.left-1}],pos:=(L.prg c.prog).first},if c.lev then pushE s1 c.args else 0)
   else({m with sto:=s1,prog:=c.caller,pos:=c.back,calls:=m.calls.dropLast},0)
def jumpM(L:Lb)(m:MS)(x:Tr):MS×Int:=
 let e:=EvalS (getS m.sto.f) x
 if e.2≠0 then(m,e.2)
 else
  let t:=labelS L m.prog (wholeS e.1).1
  if(wholeS e.1).2=false∨t.2=false then(m,6)
  else if((insideS L t.1).all fun w=>(insideS L m.pos).contains w)=false then(m,11)
  else({m with pos:=t.1},0)
def setM(m:MS)(b:Bk):MS×Int:=
 let a:=EvalS (getS m.sto.f) b.left;let e:=EvalS (getS m.sto.f) b.x
 if a.2≠0 then(m,a.2)
 else if e.2≠0 then(m,e.2)
 else if(wholeS a.1).2=false then(m,6)
 else({m with pos:=m.pos+1,sto:=setX m.sto (wholeS a.1).1 e.1},setS (wholeS a.1).1 e.1)
def wordsM(L:Lb)(m:MS)(ws:List (Int×Tr)):MS×Option (LI)×Int:=
 let r:=valsS m.sto.f ws;let c:=ctlS r.1
 if r.2≠0 then(m,none,r.2)
 else if 1<c.1 then(m,none,8)
 else if c.2=99∧1<r.1.length then(m,none,8)
 else if c.2=99 then((leaveM L m).1,none,(leaveM L m).2)
 else if c.2≠0 then(enterM L m r.1 (c.2==65),none,enterE L m r.1 (c.2==65))
 else({m with pos:=m.pos+1,ended:=m.ended||r.1.any fun v=>isC v 77 2||isC v 77 30},some r.1,0)
def exeM(L:Lb)(sk:Bool)(m:MS)(b:Bk):MS×Option (LI)×Int:=
 let next:MS:={m with pos:=m.pos+1}
 if b.skip&&sk then(next,none,0)
 else if b.kind=1 then((setM m b).1,none,(setM m b).2)
 else if b.kind=2 then((jumpM L m b.x).1,none,(jumpM L m b.x).2)
 else if b.kind=3∨b.kind=4 then
  let e:=EvalS (getS m.sto.f) b.x
  if e.2≠0 then(m,none,e.2)
  else if b.kind=3∧e.1≠0 then((jumpM L m b.left).1,none,(jumpM L m b.left).2)
  else if b.kind=4∧e.1=0 then({m with pos:=mateS L m.pos+1},none,0)
  else(next,none,0)
 else if b.kind=5 then({m with pos:=mateS L m.pos},none,0)
 else if b.kind=0∧b.words≠[]then wordsM L m b.words
 else(next,none,0)
abbrev Stp:=Int×Int×LI
def roundM(L:Lb)(sk:Bool)(m:MS):MS×Option (Stp×Int):=
 if m.err≠0 then(m,some ((0,0,[]),m.err))
 else if m.ended then(m,some ((2,0,[]),0))
 else if m.steps=20000 then({m with err:=10},none)
 else
  let m1:MS:={m with steps:=m.steps+1}
  if m1.pos<0∨(L.prg m1.prog).stop≤m1.pos then({(leaveM L m1).1 with err:=(leaveM L m1).2},none)
  else
   let r:=exeM L sk m1 (L.blk m1.pos.toNat);let m2:MS:={r.1 with err:=r.2.2}
   match r.2.1 with
   |some l=>if r.2.2=0 then(m2,some ((1,m1.pos,l),0))else(m2,none)
   |none=>(m2,none)
def nextM(L:Lb)(sk:Bool):Nat→MS→MS×Stp×Int
 |0,m=>(m,(0,0,[]),0)
 |k+1,m=>match(roundM L sk m).2 with
  |some r=>((roundM L sk m).1,r)
  |none=>nextM L sk k (roundM L sk m).1
def restM(m:MS):Nat:=if m.err≠0 then 1 else if m.ended then 1 else(20000-m.steps).toNat+2
def nextS(L:Lb)(sk:Bool)(m:MS):MS×Stp×Int:=nextM L sk (restM m) m
def noneS:Tr→Bool
 | .none_=>false
 | .mk op n k _=>op==0&&n==0&&k==0
def leftK(b:Bk):Bool:=b.kind==1||b.kind==3
def xK(b:Bk):Bool:=leftK b||b.kind==2||b.kind==4
def wordS(x:Int×Tr):Bool:=decide (65≤x.1∧x.1≤90∧x.1≠78∧x.1≠79)&&rightS 16 x.2
def partS(need:Bool)(t:Tr):Bool:=if need then rightS 16 t else noneS t
def tailS(b:Bk):Bool:=
 if b.kind=4∨b.kind=5 then decide (1≤b.n∧b.n≤3)
 else if b.kind=6 then decide (1≤b.n∧b.n≤99999)else decide (b.n=0)
def headS(b:Bk):Bool:=decide (0≤b.kind∧b.kind≤6∧0≤b.label∧b.label≤99999∧b.words.length≤24∧(b.kind≠0→b.words.length=0))
def validS(b:Bk):Bool:=headS b&&b.words.all wordS&&partS (leftK b) b.left&&partS (xK b) b.x&&tailS b
structure Bu where
 pr:List Pg
 mt:List Int
 op:List Nat
def topO(s:Bu):Nat:=s.op.getD (s.op.length-1) 0
def stopS(pr:List Pg)(e:Int):List Pg:=pr.modify (pr.length-1) fun p=>{p with stop:=e}
def openB(i:Nat)(b:Bk)(s:Bu):Bu×Int×Int:=
 if b.kind=6 then
  if s.op≠[]then(s,(topO s:Int),11)
  else if(findFrom b.n s.pr 0).2=true then(s,(i:Int),7)
  else({s with pr:=s.pr++[⟨b.n,i,0⟩]},0,0)
 else(s,0,0)
def lastP(s:Bu):Pg:=s.pr.getD (s.pr.length-1) ⟨0,0,0⟩
def dupL(bs:List Bk)(i:Nat)(b:Bk)(s:Bu):Bool:=decide (0<b.label)&&(labelFrom ⟨bs,[],[]⟩ b.label (i-(lastP s).first.toNat) (lastP s).first.toNat).2
def closeB(bs:List Bk)(i:Nat)(b:Bk)(s:Bu):Bu×Int×Int:=
 if b.kind=4 then
  if(s.op.any fun w=>(bs.getD w noneB).n==b.n)=true then(s,(i:Int),11)
  else({s with op:=s.op++[i]},0,0)
 else if b.kind=5 then
  if s.op=[]∨(bs.getD (topO s) noneB).n≠b.n then(s,(i:Int),11)
  else({s with mt:=(s.mt.set (topO s) i).set i (topO s:Int),op:=s.op.dropLast},0,0)
 else(s,0,0)
def stepB(bs:List Bk)(i:Nat)(b:Bk)(s:Bu):Bu×Int×Int:=
 if(openB i b s).2.2≠0 then openB i b s
 else if dupL bs i b (openB i b s).1=true then((openB i b s).1,(i:Int),7)
 else closeB bs i b {(openB i b s).1 with pr:=stopS (openB i b s).1.pr ((i:Int)+1)}
def buildFrom(bs:List Bk):List Bk→Nat→Bu→Bu×Int×Int
 |[],i,s=>(s,(i:Int),0)
 |b::r,i,s=>if(stepB bs i b s).2.2≠0 then stepB bs i b s else buildFrom bs r (i+1) (stepB bs i b s).1
def badFrom:List Bk→Nat→Option Nat
 |[],_=>none
 |b::r,i=>if validS b=true then badFrom r (i+1)else some i
def startB(bs:List Bk):Bu:=⟨[⟨0,0,0⟩],List.replicate bs.length (-1),[]⟩
def noL:Lb:=⟨[],[],[]⟩
def finB(bs:List Bk)(q:Bu×Int×Int):Lb×Int×Int:=
 if q.2.2≠0 then(noL,q.2.1,q.2.2)
 else if q.1.op≠[]then(noL,(topO q.1:Int),11)
 else(⟨bs,q.1.pr,q.1.mt⟩,(bs.length:Int),0)
def buildS(bs:List Bk):Lb×Int×Int:=
 if 2000<bs.length then(noL,0,10)
 else match badFrom bs 0 with
  |some i=>(noL,(i:Int),1)
  |none=>finB bs (buildFrom bs bs 0 (startB bs))
structure BuOk(n i:Nat)(s:Bu):Prop where
 ne:s.pr≠[]
 pr:∀p∈s.pr,0≤p.first∧p.first≤n∧p.stop≤n∧0≤p.stop
 lastF:(lastP s).first≤i
 mt:s.mt.length=n∧∀x∈s.mt,-1≤x∧x<n
 op:∀x∈s.op,x<i
theorem qsY{n i:Nat}{s:Bu}(h:BuOk n i s)(hne:s.op≠[]):topO s<i:=by
 have hl:0<s.op.length:=List.length_pos_iff.2 hne;unfold topO;rw[Gd,Gg (by omega)];exact h.op _ (List.getElem_mem _)
theorem qcB{n i:Nat}{b:Bk}{s:Bu}(h:BuOk n i s)(hi:i<n):BuOk n i (openB i b s).1:=by
 unfold openB;split
 ·split
  ·exact h
  ·split
   ·exact h
   ·refine⟨by simp,fun p hp=> ?_,?_,h.mt,h.op⟩
    ·rcases Ma.1 hp with q|q
     ·exact h.pr p q
     ·rw[Mt.1 q];dsimp only;omega
    ·unfold lastP;simp
 ·exact h
theorem qcI{pr:List Pg}{e:Int}{p:Pg}(h:p∈stopS pr e):∃q∈pr,p.num=q.num∧p.first=q.first∧(p.stop=q.stop∨p.stop=e):=by
 unfold stopS at h;obtain⟨i,hi⟩:=List.mem_iff_getElem?.1 h;rw[List.getElem?_modify]at hi;rcases hq:pr[i]? with _|q
 ·rw[hq]at hi;simp at hi
 ·rw[hq]at hi;by_cases c:pr.length-1=i
  ·simp[c]at hi;exact⟨q,Mg hq,by rw[←hi],by rw[←hi],.inr (by rw[←hi])⟩
  ·simp[c]at hi;exact⟨q,Mg hq,by rw[←hi],by rw[←hi],.inl (by rw[←hi])⟩
theorem oK(pr:List Pg)(e:Int):(stopS pr e).length=pr.length:=by unfold stopS;rw[List.length_modify]
theorem qiU{s:Bu}(e:Int):(lastP {s with pr:=stopS s.pr e}).first=(lastP s).first:=by
 unfold lastP stopS;dsimp only;rw[List.length_modify,Gd,Gd,List.getElem?_modify];rcases hq:s.pr[s.pr.length-1]? with _|q
 ·simp
 ·simp
theorem qtG{n i:Nat}{s:Bu}(h:BuOk n i s)(hi:i<n):BuOk n i {s with pr:=stopS s.pr ((i:Int)+1)}:=by
 refine⟨?_,fun p hp=> ?_,by rw[qiU];exact h.lastF,h.mt,h.op⟩
 ·intro e;have:=congrArg List.length e;rw[oK]at this;exact h.ne (Ez this)
 ·obtain⟨q,hq,e1,e2,e3⟩:=qcI hp;have:=h.pr q hq;rcases e3 with e3|e3<;>rw[e2,e3]<;>omega
theorem qlE{n i:Nat}{bs:List Bk}{b:Bk}{s:Bu}(h:BuOk n i s)(hi:i<n):BuOk n (i+1) (closeB bs i b s).1:=by
 have h1:BuOk n (i+1) s:=⟨h.ne,h.pr,by have:=h.lastF;omega,h.mt,fun x hx=>Nat.lt_succ_of_lt (h.op x hx)⟩;unfold closeB;split
 ·split
  ·exact h1
  ·refine⟨h1.ne,h1.pr,h1.lastF,h1.mt,fun x hx=> ?_⟩;rcases Ma.1 hx with q|q
   ·exact h1.op x q
   ·rw[Mt.1 q];omega
 ·split
  ·split
   ·exact h1
   ·rename_i hc;have hne:s.op≠[]:=fun e=>hc (.inl e);have ht:=qsY h hne;refine⟨h1.ne,h1.pr,h1.lastF,⟨by simp[h.mt.1],fun x hx=> ?_⟩,fun x hx=>h1.op x ((List.dropLast_sublist _).subset hx)⟩;rcases List.mem_or_eq_of_mem_set hx with q|q
    ·rcases List.mem_or_eq_of_mem_set q with q|q
     ·exact h.mt.2 x q
     ·omega
    ·omega
  ·exact h1
theorem qbF{n i:Nat}{bs:List Bk}{b:Bk}{s:Bu}(h:BuOk n i s)(hi:i<n)(he:(stepB bs i b s).2.2=0):BuOk n (i+1) (stepB bs i b s).1:=by
 unfold stepB at he⊢
 split at he
 ·rename_i h1;exact absurd he h1
 ·split at he
  ·simp at he
  ·rename_i h1 h2;rw[Iq h1,Iq h2];exact qlE (qtG (qcB h hi) hi) hi
theorem wJ(bs:List Bk):BuOk bs.length 0 (startB bs):=
 ⟨by simp[startB],fun p hp=>by simp[startB]at hp;rw[hp];simp,by simp[startB,lastP],⟨by simp[startB],fun x hx=>by simp[startB]at hx;omega⟩,fun x hx=>by simp[startB]at hx⟩
theorem qaR{bs:List Bk}:∀(r:List Bk) (i:Nat) (s:Bu),BuOk bs.length i s→i+r.length=bs.length→(buildFrom bs r i s).2.2=0→BuOk bs.length bs.length (buildFrom bs r i s).1:=by
 intro r;induction r with
 |nil=>intro i s h hl he;simp at hl;rw[←hl]at h⊢;exact h
 |cons b r ih=>
  intro i s h hl he;rw[Lc]at hl;rw[buildFrom]at he⊢
  split at he
  ·rename_i h1;exact absurd he h1
  ·rename_i h1;rw[Iq h1];exact ih _ _ (qbF h (by omega) (by omega)) (by omega) he
structure Lb.fine(L:Lb):Prop where
 ok:L.ok
 few:L.mt.length≤100000
 bl:L.bl.length≤100000
 mt:∀x∈L.mt,-1≤x∧x≤100000
 wl:∀b∈L.bl,b.words.length≤1000
theorem lN:noL.fine:=⟨fun i p h=>by simp[noL]at h,by simp[noL],by simp[noL],fun x hx=>by simp[noL]at hx,fun x hx=>by simp[noL]at hx⟩
theorem pW:∀(bs:List Bk) (i:Nat),badFrom bs i=none→∀b∈bs,validS b=true:=by
 intro bs;induction bs with
 |nil=>intro i _ b hb;cases hb
 |cons x r ih=>
  intro i h b hb;rw[badFrom]at h;split at h
  ·rename_i hv;rcases List.mem_cons.1 hb with q|q
   ·rw[q];exact hv
   ·exact ih _ h b q
  ·cases h
theorem rH{b:Bk}(h:validS b=true):b.words.length≤24:=by
 unfold validS headS at h;simp only[Ba1,Du]at h;exact h.1.1.1.1.2.2.2.2.1
theorem qgG(bs:List Bk):(buildS bs).1.fine:=by
 unfold buildS;split
 ·exact lN
 ·rename_i h2;split
  ·exact lN
  ·rename_i hbad;unfold finB;split
   ·exact lN
   ·rename_i he;split
    ·exact lN
    ·have h:=qaR bs 0 (startB bs) (wJ bs) (by omega) (by omega);refine⟨fun i p hp=> ?_,?_,?_,fun x hx=> ?_,?_⟩
     ·have:=h.pr p (Mg hp);dsimp only;omega
     ·have:=h.mt.1;dsimp only;omega
     ·dsimp only;omega
     ·have:=h.mt.2 x hx;omega
     ·exact fun b hb=>Ly (rH (pW bs 0 hbad b hb)) (by omega)
theorem lP(L:Lb)(m:MS):(leaveM L m).1.steps=m.steps:=by
 unfold leaveM;split
 ·rfl
 ·split
  ·rfl
  ·dsimp only;split<;>rfl
theorem qcY(L:Lb)(m:MS)(l:LI)(mc:Bool):(enterM L m l mc).steps=m.steps:=by
 unfold enterM;split
 ·rfl
 ·rfl
theorem uM(L:Lb)(m:MS)(x:Tr):(jumpM L m x).1.steps=m.steps:=by
 unfold jumpM;dsimp only;split
 ·rfl
 split
 ·rfl
 split<;>rfl
theorem set_steps(m:MS)(b:Bk):(setM m b).1.steps=m.steps:=by
 unfold setM;dsimp only;split
 ·rfl
 split
 ·rfl
 split<;>rfl
theorem qaY(L:Lb)(m:MS)(ws:List (Int×Tr)):(wordsM L m ws).1.steps=m.steps:=by
 unfold wordsM;dsimp only;split
 ·rfl
 split
 ·rfl
 split
 ·rfl
 split
 ·exact lP L m
 split
 ·exact qcY L m _ _
 ·rfl
theorem xU(L:Lb)(sk:Bool)(m:MS)(b:Bk):(exeM L sk m b).1.steps=m.steps:=by
 unfold exeM;dsimp only;split
 ·rfl
 split
 ·exact set_steps m b
 split
 ·exact uM L m _
 split
 ·split
  ·rfl
  split
  ·exact uM L m _
  split<;>rfl
 split
 ·rfl
 split
 ·exact qaY L m _
 ·rfl
theorem qgW(m:MS)(k:Int)(h:m.steps=k)(hk:k≤20000):restM m≤(20000-k).toNat+2:=by
 unfold restM;split
 ·omega
 split
 ·omega
 ·rw[h];exact Le _
def afterM(L:Lb)(sk:Bool)(m1:MS):MS×Option (Stp×Int):=
 if m1.pos<0∨(L.prg m1.prog).stop≤m1.pos then({(leaveM L m1).1 with err:=(leaveM L m1).2},none)
 else match(exeM L sk m1 (L.blk m1.pos.toNat)).2.1 with
  |some l=>if(exeM L sk m1 (L.blk m1.pos.toNat)).2.2=0 then({(exeM L sk m1 (L.blk m1.pos.toNat)).1 with err:=(exeM L sk m1 (L.blk m1.pos.toNat)).2.2},some ((1,m1.pos,l),0))else({(exeM L sk m1 (L.blk m1.pos.toNat)).1 with err:=(exeM L sk m1 (L.blk m1.pos.toNat)).2.2},none)
  |none=>({(exeM L sk m1 (L.blk m1.pos.toNat)).1 with err:=(exeM L sk m1 (L.blk m1.pos.toNat)).2.2},none)
theorem bM(L:Lb)(sk:Bool)(m:MS):roundM L sk m=if m.err≠0 then(m,some ((0,0,[]),m.err))else if m.ended then(m,some ((2,0,[]),0))else if m.steps=20000 then({m with err:=10},none)else afterM L sk {m with steps:=m.steps+1}:=rfl
theorem qgI(L:Lb)(sk:Bool)(m:MS)(hs:0≤m.steps∧m.steps≤20000)(h:(afterM L sk m).2=none):restM (afterM L sk m).1≤(20000-m.steps).toNat+2:=by
 unfold afterM at h⊢
 split at h
 ·rename_i h4;rw[Ip h4];exact qgW _ m.steps (lP L m) hs.2
 ·rename_i h4;rw[Iq h4];have hx:=xU L sk m (L.blk m.pos.toNat);generalize exeM L sk m (L.blk m.pos.toNat)=r at h hx⊢
  obtain⟨m2,o,er⟩:=r;have:=qgW {m2 with err:=er} m.steps hx hs.2;rcases o with _|l
  ·exact this
  ·by_cases h5:er=0
   ·subst h5;simp at h
   ·simp only[Iq h5];exact this
theorem nF(L:Lb)(sk:Bool)(m:MS)(hs:0≤m.steps∧m.steps≤20000)(h:(roundM L sk m).2=none):restM (roundM L sk m).1<restM m:=by
 rw[bM]at h⊢
 by_cases h1:m.err≠0
 ·rw[Ip h1]at h;cases h
 rw[Iq h1]at h⊢
 by_cases h2:m.ended=true
 ·rw[Ip h2]at h;cases h
 rw[Iq h2]at h⊢
 have hr:restM m=(20000-m.steps).toNat+2:=by unfold restM;rw[Iq h1,Iq h2]
 rw[hr];by_cases h3:m.steps=20000
 ·rw[Ip h3];unfold restM;simp
 rw[Iq h3]at h⊢
 have:=qgI L sk {m with steps:=m.steps+1} (by dsimp only;omega) h;dsimp only at this;omega
theorem aY(L:Lb)(sk:Bool)(k:Nat)(m:MS):nextM L sk (k+1) m=match(roundM L sk m).2 with
 |some r=>((roundM L sk m).1,r)
 |none=>nextM L sk k (roundM L sk m).1:=rfl
theorem oQ(m:MS):1≤restM m:=by unfold restM;split;omega;split<;>omega
