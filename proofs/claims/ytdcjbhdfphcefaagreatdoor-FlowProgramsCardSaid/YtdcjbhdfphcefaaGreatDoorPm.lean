/- The plain ma. -/
import Derived.Test.YtdcjbhdfphcefaaGreatDoorSv
import Derived.Test.YtdcjbhdfphcefaaGreatDoorBg
import Derived.Test.YtdcjbhdfphcefaaGreatDoorEw
namespace Go.Proofs.YtdcjbhdfphcefaaGreatDoor
set_option linter.all false
structure Bk where
 kind:Int
 label:Int
 skip:Bool
 words:List (Int×Tr)
 left:Tr
 x:Tr
 n:Int
structure Pg where
 num:Int
 first:Int
 stop:Int
structure Lb where
 bl:List Bk
 pr:List Pg
 mt:List Int
structure Cl where
 prog:Nat
 caller:Nat
 back:Int
 left:Int
 args:LI
 lev:Bool
structure MS where
 prog:Nat
 pos:Int
 calls:List Cl
 sto:Sto
 steps:Int
 ended:Bool
 err:Int
def zdY:Bk:=⟨0,0,false,[],.none_,.none_,0⟩
def Lb.blk(L:Lb)(i:Nat):Bk:=L.bl.getD i zdY
def Lb.prg(L:Lb)(i:Nat):Pg:=L.pr.getD i ⟨0,0,0⟩
def Lb.ok(L:Lb):Prop:=∀(i:Nat) (p:Pg),L.pr[i]? =some p->0<=p.first/\p.first<=L.bl.length/\p.stop<=L.bl.length
def zbM(n:Int):List Pg->Nat->Int×Bool
 |[],_=>(0,false)
 |p::r,i=>if p.num=n then((i:Int),true)else zbM n r (i+1)
def zdO(L:Lb)(n:Int):Int×Bool:=zbM n L.pr 0
def zbB(L:Lb)(n:Int):Nat->Nat->Int×Bool
 |0,_=>(0,false)
 |k+1,i=>if(L.blk i).label=n then((i:Int),true)else zbB L n k (i+1)
def zcD(L:Lb)(p:Nat)(n:Int):Int×Bool:=
 if n<1\/L.pr.length<=p then(0,false)
 else zbB L n ((L.prg p).stop.toNat-(L.prg p).first.toNat) (L.prg p).first.toNat
def zbC(at_:Int):List Int->Nat->List Int
 |[],_=>[]
 |m::r,w=>if(w:Int)<at_/\at_<=m then(w:Int)::zbC at_ r (w+1)else zbC at_ r (w+1)
def zbF(L:Lb)(at_:Int):List Int:=if at_<0\/(L.bl.length:Int)<=at_ then[]else zbC at_ L.mt 0
def zcM(L:Lb)(at_:Int):Int:=if at_<L.mt.length then L.mt.getD at_.toNat 0 else-1
def isC(v:Int×Int)(letter n:Int):Bool:=v.1==letter&&v.2==n*1000000
def zbX(f:Int->Int):List (Int×Tr)->LI×Int
 |[]=>([],0)
 |(c,t)::r=>if(zcH (zbG f) t).2≠0 then([],(zcH (zbG f) t).2)else
  if(zbX f r).2≠0 then([],(zbX f r).2)else((c,(zcH (zbG f) t).1)::(zbX f r).1,0)
def zfN(p:Int×Int)(v:Int×Int):Int×Int:=
 if isC v 71 65 then(p.1+1,65)else if isC v 77 98 then(p.1+1,98)else if isC v 77 99 then(p.1+1,99)else p
def zeU(l:LI):Int×Int:=l.foldl zfN (0,0)
def zhS(l:LI)(macro_:Bool):Bool:=(l.countP λv=> !(v.1==80||v.1==76)&& !(macro_&&v.1 !=71))==1
structure En where
 number:Int
 times:Int
 numbers:Int
 repeats:Int
 args:LI
def en1(s:En)(v:Int×Int):En:=
 if v.1=80 then{s with number:=v.2,numbers:=s.numbers+1}
 else if v.1=76 then{s with times:=v.2,repeats:=s.repeats+1}
 else if v.1=71 then s
 else{s with args:=s.args++[v]}
def enS(l:LI):En:=l.foldl en1 ⟨0,1000000,0,0,[]⟩
def zbH(L:Lb)(m:MS)(l:LI)(macro_:Bool):Int:=
 if zhS l macro_=false then 8
 else if 1<(enS l).numbers\/1<(enS l).repeats then 7
 else if(enS l).numbers=0 then 9
 else if(zaY (enS l).number).2=false\/(zdO L (zaY (enS l).number).1).2=false then 6
 else if(zaY (enS l).times).2=false\/(zaY (enS l).times).1<1\/999<(zaY (enS l).times).1 then 1
 else if m.calls.length=8 then 10
 else if macro_ then zcG m.sto (enS l).args else 0
def zcV(L:Lb)(m:MS)(l:LI)(macro_:Bool):MS:=
 if zbH L m l macro_≠0 then m else
  let p:=(zdO L (zaY (enS l).number).1).1.toNat
  {m with sto:=if macro_ then zbU m.sto (enS l).args else m.sto,calls:=m.calls++[⟨p,m.prog,m.pos+1,(zaY (enS l).times).1-1,(enS l).args,macro_⟩],prog:=p,pos:=(L.prg p).first}
def zbJ(L:Lb)(m:MS):MS×Int:=
 match m.calls.getLast? with
 |none=>({m with ended:=true},0)
 |some c=>
  if c.lev=true/\zfJ m.sto≠0 then(m,zfJ m.sto)
  else
   let s1:=if c.lev then zdN m.sto else m.sto
   if 0<c.left then
    ({m with sto:=if c.lev then zbU s1 c.args else s1,calls:=m.calls.dropLast++[{c with left:=c.left-1}],pos:=(L.prg c.prog).first},if c.lev then zcG s1 c.args else 0)
   else({m with sto:=s1,prog:=c.caller,pos:=c.back,calls:=m.calls.dropLast},0)
def zbQ(L:Lb)(m:MS)(x:Tr):MS×Int:=
 let e:=zcH (zbG m.sto.f) x
 if e.2≠0 then(m,e.2)
 else
  let t:=zcD L m.prog (zaY e.1).1
  if(zaY e.1).2=false\/t.2=false then(m,6)
  else if((zbF L t.1).all λw=>(zbF L m.pos).contains w)=false then(m,11)
  else({m with pos:=t.1},0)
def zdM(m:MS)(b:Bk):MS×Int:=
 let a:=zcH (zbG m.sto.f) b.left;let e:=zcH (zbG m.sto.f) b.x
 if a.2≠0 then(m,a.2)
 else if e.2≠0 then(m,e.2)
 else if(zaY a.1).2=false then(m,6)
 else({m with pos:=m.pos+1,sto:=zeY m.sto (zaY a.1).1 e.1},zdL (zaY a.1).1 e.1)
def zbT(L:Lb)(m:MS)(ws:List (Int×Tr)):MS×Option (LI)×Int:=
 let r:=zbX m.sto.f ws;let c:=zeU r.1
 if r.2≠0 then(m,none,r.2)
 else if 1<c.1 then(m,none,8)
 else if c.2=99/\1<r.1.length then(m,none,8)
 else if c.2=99 then((zbJ L m).1,none,(zbJ L m).2)
 else if c.2≠0 then(zcV L m r.1 (c.2==65),none,zbH L m r.1 (c.2==65))
 else({m with pos:=m.pos+1,ended:=m.ended||r.1.any λv=>isC v 77 2||isC v 77 30},some r.1,0)
def zbK(L:Lb)(sk:Bool)(m:MS)(b:Bk):MS×Option (LI)×Int:=
 let next:MS:={m with pos:=m.pos+1}
 if b.skip&&sk then(next,none,0)
 else if b.kind=1 then((zdM m b).1,none,(zdM m b).2)
 else if b.kind=2 then((zbQ L m b.x).1,none,(zbQ L m b.x).2)
 else if b.kind=3\/b.kind=4 then
  let e:=zcH (zbG m.sto.f) b.x
  if e.2≠0 then(m,none,e.2)
  else if b.kind=3/\e.1≠0 then((zbQ L m b.left).1,none,(zbQ L m b.left).2)
  else if b.kind=4/\e.1=0 then({m with pos:=zcM L m.pos+1},none,0)
  else(next,none,0)
 else if b.kind=5 then({m with pos:=zcM L m.pos},none,0)
 else if b.kind=0/\b.words≠[]then zbT L m b.words
 else(next,none,0)
abbrev Stp:=Int×Int×LI
def zbZ(L:Lb)(sk:Bool)(m:MS):MS×Option (Stp×Int):=
 if m.err≠0 then(m,some ((0,0,[]),m.err))
 else if m.ended then(m,some ((2,0,[]),0))
 else if m.steps=20000 then({m with err:=10},none)
 else
  let m1:MS:={m with steps:=m.steps+1}
  if m1.pos<0\/(L.prg m1.prog).stop<=m1.pos then({(zbJ L m1).1 with err:=(zbJ L m1).2},none)
  else
   let r:=zbK L sk m1 (L.blk m1.pos.toNat);let m2:MS:={r.1 with err:=r.2.2}
   match r.2.1 with
   |some l=>if r.2.2=0 then(m2,some ((1,m1.pos,l),0))else(m2,none)
   |none=>(m2,none)
def zfZ(L:Lb)(sk:Bool):Nat->MS->MS×Stp×Int
 |0,m=>(m,(0,0,[]),0)
 |k+1,m=>match(zbZ L sk m).2 with
  |some r=>((zbZ L sk m).1,r)
  |none=>zfZ L sk k (zbZ L sk m).1
def zeB(m:MS):Nat:=if m.err≠0 then 1 else if m.ended then 1 else(20000-m.steps).toNat+2
def zcY(L:Lb)(sk:Bool)(m:MS):MS×Stp×Int:=zfZ L sk (zeB m) m
def zcX:Tr->Bool
 | .none_=>false
 | .mk op n k _=>op==0&&n==0&&k==0
def zdA(b:Bk):Bool:=b.kind==1||b.kind==3
def xK(b:Bk):Bool:=zdA b||b.kind==2||b.kind==4
def zeR(x:Int×Tr):Bool:=decide (65<=x.1/\x.1<=90/\x.1≠78/\x.1≠79)&&zaV 16 x.2
def zcK(need:Bool)(t:Tr):Bool:=if need then zaV 16 t else zcX t
def zdB(b:Bk):Bool:=
 if b.kind=4\/b.kind=5 then decide (1<=b.n/\b.n<=3)
 else if b.kind=6 then decide (1<=b.n/\b.n<=99999)else decide (b.n=0)
def zgJ(b:Bk):Bool:=decide (0<=b.kind/\b.kind<=6/\0<=b.label/\b.label<=99999/\b.words.length<=24/\(b.kind≠0->b.words.length=0))
def zbA(b:Bk):Bool:=zgJ b&&b.words.all zeR&&zcK (zdA b) b.left&&zcK (xK b) b.x&&zdB b
structure Bu where
 pr:List Pg
 mt:List Int
 op:List Nat
def zdE(s:Bu):Nat:=s.op.getD (s.op.length-1) 0
def zcS(pr:List Pg)(e:Int):List Pg:=pr.modify (pr.length-1) λp=>{p with stop:=e}
def zdD(i:Nat)(b:Bk)(s:Bu):Bu×Int×Int:=
 if b.kind=6 then
  if s.op≠[]then(s,(zdE s:Int),11)
  else if(zbM b.n s.pr 0).2=true then(s,(i:Int),7)
  else({s with pr:=s.pr++[⟨b.n,i,0⟩]},0,0)
 else(s,0,0)
def zeV(s:Bu):Pg:=s.pr.getD (s.pr.length-1) ⟨0,0,0⟩
def zjC(bs:List Bk)(i:Nat)(b:Bk)(s:Bu):Bool:=decide (0<b.label)&&(zbB ⟨bs,[],[]⟩ b.label (i-(zeV s).first.toNat) (zeV s).first.toNat).2
def zeF(bs:List Bk)(i:Nat)(b:Bk)(s:Bu):Bu×Int×Int:=
 if b.kind=4 then
  if(s.op.any λw=>(bs.getD w zdY).n==b.n)=true then(s,(i:Int),11)
  else({s with op:=s.op++[i]},0,0)
 else if b.kind=5 then
  if s.op=[]\/(bs.getD (zdE s) zdY).n≠b.n then(s,(i:Int),11)
  else({s with mt:=(s.mt.set (zdE s) i).set i (zdE s:Int),op:=s.op.dropLast},0,0)
 else(s,0,0)
def zdH(bs:List Bk)(i:Nat)(b:Bk)(s:Bu):Bu×Int×Int:=
 if(zdD i b s).2.2≠0 then zdD i b s
 else if zjC bs i b (zdD i b s).1=true then((zdD i b s).1,(i:Int),7)
 else zeF bs i b {(zdD i b s).1 with pr:=zcS (zdD i b s).1.pr ((i:Int)+1)}
def zcC(bs:List Bk):List Bk->Nat->Bu->Bu×Int×Int
 |[],i,s=>(s,(i:Int),0)
 |b::r,i,s=>if(zdH bs i b s).2.2≠0 then zdH bs i b s else zcC bs r (i+1) (zdH bs i b s).1
def zeG:List Bk->Nat->Option Nat
 |[],_=>none
 |b::r,i=>if zbA b=true then zeG r (i+1)else some i
def zcP(bs:List Bk):Bu:=⟨[⟨0,0,0⟩],List.replicate bs.length (-1),[]⟩
def noL:Lb:=⟨[],[],[]⟩
def ziF(bs:List Bk)(q:Bu×Int×Int):Lb×Int×Int:=
 if q.2.2≠0 then(noL,q.2.1,q.2.2)
 else if q.1.op≠[]then(noL,(zdE q.1:Int),11)
 else(⟨bs,q.1.pr,q.1.mt⟩,(bs.length:Int),0)
def zbN(bs:List Bk):Lb×Int×Int:=
 if 2000<bs.length then(noL,0,10)
 else match zeG bs 0 with
  |some i=>(noL,(i:Int),1)
  |none=>ziF bs (zcC bs bs 0 (zcP bs))
structure BuOk(n i:Nat)(s:Bu):Prop where
 ne:s.pr≠[]
 pr:∀p∈s.pr,0<=p.first/\p.first<=n/\p.stop<=n/\0<=p.stop
 lastF:(zeV s).first<=i
 mt:s.mt.length=n/\∀x∈s.mt,-1<=x/\x<n
 op:∀x∈s.op,x<i
theorem qsY{n i:Nat}{s:Bu}(h:BuOk n i s)(hne:s.op≠[]):zdE s<i:=by
 have hl:0<s.op.length:=List.length_pos_iff.2 hne;unfold zdE;rw[Gd,Gg (by omega)];exact h.op _ (List.getElem_mem _)
theorem qcB{n i:Nat}{b:Bk}{s:Bu}(h:BuOk n i s)(hi:i<n):BuOk n i (zdD i b s).1:=by
 unfold zdD;split
 ·split
  ·exact h
  ·split
   ·exact h
   ·refine⟨by simp,λp hp=> ?_,?_,h.mt,h.op⟩
    ·rcases Ma.1 hp with q|q
     ·exact h.pr p q
     ·rw[Mt.1 q];dsimp only;omega
    ·unfold zeV;simp
 ·exact h
theorem qcI{pr:List Pg}{e:Int}{p:Pg}(h:p∈zcS pr e):∃q∈pr,p.num=q.num/\p.first=q.first/\(p.stop=q.stop\/p.stop=e):=by
 unfold zcS at h;obtain⟨i,hi⟩:=List.mem_iff_getElem?.1 h;rw[List.getElem?_modify]at hi;rcases hq:pr[i]? with _|q
 ·rw[hq]at hi;simp at hi
 ·rw[hq]at hi;by_cases c:pr.length-1=i
  ·simp[c]at hi;exact⟨q,Mg hq,by rw[<-hi],by rw[<-hi],.inr (by rw[<-hi])⟩
  ·simp[c]at hi;exact⟨q,Mg hq,by rw[<-hi],by rw[<-hi],.inl (by rw[<-hi])⟩
theorem oK(pr:List Pg)(e:Int):(zcS pr e).length=pr.length:=by unfold zcS;rw[List.length_modify]
theorem qiU{s:Bu}(e:Int):(zeV {s with pr:=zcS s.pr e}).first=(zeV s).first:=by
 unfold zeV zcS;dsimp only;rw[List.length_modify,Gd,Gd,List.getElem?_modify];rcases hq:s.pr[s.pr.length-1]? with _|q
 ·simp
 ·simp
theorem qtG{n i:Nat}{s:Bu}(h:BuOk n i s)(hi:i<n):BuOk n i {s with pr:=zcS s.pr ((i:Int)+1)}:=by
 refine⟨?_,λp hp=> ?_,by rw[qiU];exact h.lastF,h.mt,h.op⟩
 ·intro e;have:=congrArg List.length e;rw[oK]at this;exact h.ne (Ez this)
 ·obtain⟨q,hq,e1,e2,e3⟩:=qcI hp;have:=h.pr q hq;rcases e3 with e3|e3<;>rw[e2,e3]<;>omega
theorem qlE{n i:Nat}{bs:List Bk}{b:Bk}{s:Bu}(h:BuOk n i s)(hi:i<n):BuOk n (i+1) (zeF bs i b s).1:=by
 have h1:BuOk n (i+1) s:=⟨h.ne,h.pr,by have:=h.lastF;omega,h.mt,λx hx=>Nat.lt_succ_of_lt (h.op x hx)⟩;unfold zeF;split
 ·split
  ·exact h1
  ·refine⟨h1.ne,h1.pr,h1.lastF,h1.mt,λx hx=> ?_⟩;rcases Ma.1 hx with q|q
   ·exact h1.op x q
   ·rw[Mt.1 q];omega
 ·split
  ·split
   ·exact h1
   ·rename_i hc;have hne:s.op≠[]:=λe=>hc (.inl e);have ht:=qsY h hne;refine⟨h1.ne,h1.pr,h1.lastF,⟨by simp[h.mt.1],λx hx=> ?_⟩,λx hx=>h1.op x ((List.dropLast_sublist _).subset hx)⟩;rcases List.mem_or_eq_of_mem_set hx with q|q
    ·rcases List.mem_or_eq_of_mem_set q with q|q
     ·exact h.mt.2 x q
     ·omega
    ·omega
  ·exact h1
theorem qbF{n i:Nat}{bs:List Bk}{b:Bk}{s:Bu}(h:BuOk n i s)(hi:i<n)(he:(zdH bs i b s).2.2=0):BuOk n (i+1) (zdH bs i b s).1:=by
 unfold zdH at he⊢
 split at he
 ·rename_i h1;exact absurd he h1
 ·split at he
  ·simp at he
  ·rename_i h1 h2;rw[Iq h1,Iq h2];exact qlE (qtG (qcB h hi) hi) hi
theorem wJ(bs:List Bk):BuOk bs.length 0 (zcP bs):=
 ⟨by simp[zcP],λp hp=>by simp[zcP]at hp;rw[hp];simp,by simp[zcP,zeV],⟨by simp[zcP],λx hx=>by simp[zcP]at hx;omega⟩,λx hx=>by simp[zcP]at hx⟩
theorem qaR{bs:List Bk}:∀(r:List Bk) (i:Nat) (s:Bu),BuOk bs.length i s->i+r.length=bs.length->(zcC bs r i s).2.2=0->BuOk bs.length bs.length (zcC bs r i s).1:=by
 intro r;induction r with
 |nil=>intro i s h hl he;simp at hl;rw[<-hl]at h⊢;exact h
 |cons b r ih=>
  intro i s h hl he;rw[Lc]at hl;rw[zcC]at he⊢
  split at he
  ·rename_i h1;exact absurd he h1
  ·rename_i h1;rw[Iq h1];exact ih _ _ (qbF h (by omega) (by omega)) (by omega) he
structure Lb.fine(L:Lb):Prop where
 ok:L.ok
 few:L.mt.length<=100000
 bl:L.bl.length<=100000
 mt:∀x∈L.mt,-1<=x/\x<=100000
 wl:∀b∈L.bl,b.words.length<=1000
theorem lN:noL.fine:=⟨λi p h=>by simp[noL]at h,by simp[noL],by simp[noL],λx hx=>by simp[noL]at hx,λx hx=>by simp[noL]at hx⟩
theorem pW:∀(bs:List Bk) (i:Nat),zeG bs i=none->∀b∈bs,zbA b=true:=by
 intro bs;induction bs with
 |nil=>intro i _ b hb;cases hb
 |cons x r ih=>
  intro i h b hb;rw[zeG]at h;split at h
  ·rename_i hv;rcases List.mem_cons.1 hb with q|q
   ·rw[q];exact hv
   ·exact ih _ h b q
  ·cases h
theorem rH{b:Bk}(h:zbA b=true):b.words.length<=24:=by
 unfold zbA zgJ at h;simp only[Ba1,Du]at h;exact h.1.1.1.1.2.2.2.2.1
theorem qgG(bs:List Bk):(zbN bs).1.fine:=by
 unfold zbN;split
 ·exact lN
 ·rename_i h2;split
  ·exact lN
  ·rename_i hbad;unfold ziF;split
   ·exact lN
   ·rename_i he;split
    ·exact lN
    ·have h:=qaR bs 0 (zcP bs) (wJ bs) (by omega) (by omega);refine⟨λi p hp=> ?_,?_,?_,λx hx=> ?_,?_⟩
     ·have:=h.pr p (Mg hp);dsimp only;omega
     ·have:=h.mt.1;dsimp only;omega
     ·dsimp only;omega
     ·have:=h.mt.2 x hx;omega
     ·exact λb hb=>Ly (rH (pW bs 0 hbad b hb)) (by omega)
theorem lP(L:Lb)(m:MS):(zbJ L m).1.steps=m.steps:=by
 unfold zbJ;split
 ·rfl
 ·split
  ·rfl
  ·dsimp only;split<;>rfl
theorem qcY(L:Lb)(m:MS)(l:LI)(mc:Bool):(zcV L m l mc).steps=m.steps:=by
 unfold zcV;split
 ·rfl
 ·rfl
theorem uM(L:Lb)(m:MS)(x:Tr):(zbQ L m x).1.steps=m.steps:=by
 unfold zbQ;dsimp only;split
 ·rfl
 split
 ·rfl
 split<;>rfl
theorem set_steps(m:MS)(b:Bk):(zdM m b).1.steps=m.steps:=by
 unfold zdM;dsimp only;split
 ·rfl
 split
 ·rfl
 split<;>rfl
theorem qaY(L:Lb)(m:MS)(ws:List (Int×Tr)):(zbT L m ws).1.steps=m.steps:=by
 unfold zbT;dsimp only;split
 ·rfl
 split
 ·rfl
 split
 ·rfl
 split
 ·exact lP L m
 split
 ·exact qcY L m _ _
 ·rfl
theorem xU(L:Lb)(sk:Bool)(m:MS)(b:Bk):(zbK L sk m b).1.steps=m.steps:=by
 unfold zbK;dsimp only;split
 ·rfl
 split
 ·exact set_steps m b
 split
 ·exact uM L m _
 split
 ·split
  ·rfl
  split
  ·exact uM L m _
  split<;>rfl
 split
 ·rfl
 split
 ·exact qaY L m _
 ·rfl
theorem qgW(m:MS)(k:Int)(h:m.steps=k)(hk:k<=20000):zeB m<=(20000-k).toNat+2:=by
 unfold zeB;split
 ·omega
 split
 ·omega
 ·rw[h];exact Le _
def zeL(L:Lb)(sk:Bool)(m1:MS):MS×Option (Stp×Int):=
 if m1.pos<0\/(L.prg m1.prog).stop<=m1.pos then({(zbJ L m1).1 with err:=(zbJ L m1).2},none)
 else match(zbK L sk m1 (L.blk m1.pos.toNat)).2.1 with
  |some l=>if(zbK L sk m1 (L.blk m1.pos.toNat)).2.2=0 then({(zbK L sk m1 (L.blk m1.pos.toNat)).1 with err:=(zbK L sk m1 (L.blk m1.pos.toNat)).2.2},some ((1,m1.pos,l),0))else({(zbK L sk m1 (L.blk m1.pos.toNat)).1 with err:=(zbK L sk m1 (L.blk m1.pos.toNat)).2.2},none)
  |none=>({(zbK L sk m1 (L.blk m1.pos.toNat)).1 with err:=(zbK L sk m1 (L.blk m1.pos.toNat)).2.2},none)
theorem bM(L:Lb)(sk:Bool)(m:MS):zbZ L sk m=if m.err≠0 then(m,some ((0,0,[]),m.err))else if m.ended then(m,some ((2,0,[]),0))else if m.steps=20000 then({m with err:=10},none)else zeL L sk {m with steps:=m.steps+1}:=rfl
theorem qgI(L:Lb)(sk:Bool)(m:MS)(hs:0<=m.steps/\m.steps<=20000)(h:(zeL L sk m).2=none):zeB (zeL L sk m).1<=(20000-m.steps).toNat+2:=by
 unfold zeL at h⊢
 split at h
 ·rename_i h4;rw[Ip h4];exact qgW _ m.steps (lP L m) hs.2
 ·rename_i h4;rw[Iq h4];have hx:=xU L sk m (L.blk m.pos.toNat);generalize zbK L sk m (L.blk m.pos.toNat)=r at h hx⊢
  obtain⟨m2,o,er⟩:=r;have:=qgW {m2 with err:=er} m.steps hx hs.2;rcases o with _|l
  ·exact this
  ·by_cases h5:er=0
   ·subst h5;simp at h
   ·simp only[Iq h5];exact this
theorem nF(L:Lb)(sk:Bool)(m:MS)(hs:0<=m.steps/\m.steps<=20000)(h:(zbZ L sk m).2=none):zeB (zbZ L sk m).1<zeB m:=by
 rw[bM]at h⊢
 by_cases h1:m.err≠0
 ·rw[Ip h1]at h;cases h
 rw[Iq h1]at h⊢
 by_cases h2:m.ended=true
 ·rw[Ip h2]at h;cases h
 rw[Iq h2]at h⊢
 have hr:zeB m=(20000-m.steps).toNat+2:=by unfold zeB;rw[Iq h1,Iq h2]
 rw[hr];by_cases h3:m.steps=20000
 ·rw[Ip h3];unfold zeB;simp
 rw[Iq h3]at h⊢
 have:=qgI L sk {m with steps:=m.steps+1} (by dsimp only;omega) h;dsimp only at this;omega
theorem aY(L:Lb)(sk:Bool)(k:Nat)(m:MS):zfZ L sk (k+1) m=match(zbZ L sk m).2 with
 |some r=>((zbZ L sk m).1,r)
 |none=>zfZ L sk k (zbZ L sk m).1:=rfl
theorem oQ(m:MS):1<=zeB m:=by unfold zeB;split;omega;split<;>omega
