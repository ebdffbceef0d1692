/- Plain words. -/
import Derived.Test.YtdcjbhdfphcefaaGreatDoorBa
import Derived.Test.YtdcjbhdfphcefaaGreatDoorPm
import Derived.Test.YtdcjbhdfphcefaaGreatDoorSvq
namespace Go.Proofs.YtdcjbhdfphcefaaGreatDoor
set_option linter.all false
set_option maxHeartbeats 4000000
open Go.Proofs.Tryz
open Go.PlainAid
structure Tk where
 kind:Int
 n:Int
 pos:Int
 text:ByteArray
def zjR:Tk:=⟨0,0,0,⟨#[]⟩⟩
def zgL:List ByteArray:=[⟨#[73,70]⟩,⟨#[71,79,84,79]⟩,⟨#[87,72,73,76,69]⟩,⟨#[68,79]⟩,⟨#[69,78,68]⟩,⟨#[69,81]⟩,⟨#[78,69]⟩,⟨#[71,84]⟩,⟨#[71,69]⟩,⟨#[76,84]⟩,⟨#[76,69]⟩,⟨#[65,78,68]⟩,⟨#[79,82]⟩,⟨#[88,79,82]⟩,⟨#[77,79,68]⟩,⟨#[83,73,78]⟩,⟨#[67,79,83]⟩,⟨#[84,65,78]⟩,⟨#[65,84,65,78]⟩,⟨#[83,81,82,84]⟩,⟨#[65,66,83]⟩,⟨#[82,79,85,78,68]⟩,⟨#[70,73,88]⟩,⟨#[70,85,80]⟩]
def zeC(s:ByteArray)(i:Nat)(best nm:ByteArray):ByteArray:=
 if nm.size<=s.size-i/\s.extract i (i+nm.size)=nm/\best.size<nm.size then nm else best
def zeZ(s:ByteArray)(i:Nat):ByteArray:=zgL.foldl (zeC s i) ⟨#[]⟩
def zeN(c:Int):Bool:=decide (48<=c/\c<=57)||c==46
def ziL(c:Int):Bool:=c==43||c==45||c==42||c==47||c==61||c==35||c==91||c==93
def zdJ(p:Int->Bool)(s:ByteArray):Nat->Nat->Nat
 |0,i=>i
 |k+1,i=>if p (bt s i)=true then zdJ p s k (i+1)else i
def zfR(s:ByteArray)(i:Nat):Nat×Option Tk×Int:=
 let c:=bt s i
 if c=32\/c=9\/c=13 then(i+1,none,0)
 else if c=59 then(s.size,none,0)
 else if c=40 then
  let t:=zdJ (λx=>x !=41) s (s.size-(i+1)) (i+1)
  if t=s.size then(t,none,2)else(t+1,none,0)
 else if zeN c=true then
  let t:=zdJ zeN s (s.size-(i+1)) (i+1);let r:=zdF (zeM (s.extract i t))
  if r.2≠0 then(t,none,2)else(t,some ⟨2,r.1,i,⟨#[]⟩⟩,0)
 else if 65<=c/\c<=90 then
  let nm:=zeZ s i
  if nm.size=0 then(i+1,some ⟨1,c,i,⟨#[]⟩⟩,0)else(i+nm.size,some ⟨3,0,i,nm⟩,0)
 else if ziL c=true then(i+1,some ⟨4,0,i,s.extract i (i+1)⟩,0)
 else(i+1,none,2)
def zhP(s:ByteArray):Nat->Nat->List Tk->List Tk×Int×Int
 |0,i,acc=>(acc,(s.size:Int),0)
 |k+1,i,acc=>
  if s.size<=i then(acc,(s.size:Int),0)
  else if(zfR s i).2.2≠0 then([],(i:Int),2)
  else zhP s k (zfR s i).1 (acc++(zfR s i).2.1.toList)
def zfV(s:ByteArray):List Tk×Int×Int:=zhP s (s.size+1) 0 []
abbrev Rs:=Nat×Int
def zfE(r:Rs):Rs:=if r.2<0 then(r.1,(r.1:Int))else r
def zcO(l:List Tk)(r:Rs):Tk:=if l.length<=r.1\/0<=r.2 then zjR else l.getD r.1 zjR
def isA(l:List Tk)(r:Rs)(s:ByteArray):Bool:=((zcO l r).kind==4||(zcO l r).kind==3)&&decide ((zcO l r).text=s)
def nxt(r:Rs):Rs:=(r.1+1,r.2)
def zgH(l:List Tk)(r:Rs)(s:ByteArray):Bool×Rs:=if isA l r s=true then(true,nxt r)else(false,r)
def zfB(l:List Tk)(most:Int)(r:Rs):Int×Rs:=
 let q:=zaY (zcO l r).n
 if(zcO l r).kind≠2\/q.2=false\/q.1<1\/most<q.1 then(0,zfE r)else(q.1,nxt r)
def zgB(l:List Tk)(r:Rs)(c:Int):Bool:=(zcO l r).kind==1&&(zcO l r).n==c
open Go.PlainAid
def zcL:Tr:=.mk 0 0 0 λ_=>.none_
def ziC(l:List Tk)(r:Rs):Tr×Rs:=if(zcO l r).kind≠2 then(zcL,zfE r)else(.mk 0 (zcO l r).n 0 (λ_=>.none_),nxt r)
inductive Md where
 |lev (n:Nat)
 |lop (n:Nat) (x:Tr)
 |una
 |pri
 |brk
 |cel
def t1(op:Int)(x:Tr):Tr:=.mk op 0 1 λ_=>x
def t2(op:Int)(x y:Tr):Tr:=.mk op 0 2 λi=>if i=0 then x else y
def b0:Md->Nat
 | .lev n=>4+2*(5-n)
 | .lop n _=>3+2*(5-n)
 | .una=>3
 | .pri=>2
 | .brk=>15
 | .cel=>1
def b1:Md->Nat
 | .lev n=>19+2*(5-n)
 | .lop n _=>18+2*(5-n)
 | .una=>18
 | .pri=>17
 | .brk=>15
 | .cel=>16
def zcA:Nat->Tr->Nat
 |_,.none_=>1
 |0,.mk _ _ _ _=>1
 |m+1,.mk _ _ k kid=>(if m=0 then 0 else(List.range k).foldl (λd i=>max d (zcA m (kid i))) 0)+1
def zeE(s:ByteArray):Nat->Nat->Nat->List ByteArray
 |0,fr,i=>if fr<s.size then[s.extract fr s.size]else[]
 |k+1,fr,i=>if bt s i=10 then s.extract fr i::zeE s k (i+1) (i+1)else zeE s k fr (i+1)
def zcF(s:ByteArray):List ByteArray:=zeE s s.size 0 0
open Go.RowKit
def RdT(w:World)(B:Nat)(A:OA)(l:List Tk):Prop:=
 l.length<=100000/\(∀t∈l,I64 t.kind/\I64 t.n/\I64 t.pos)/\(0<l.length->∃ab off:Nat,A=some ⟨ab,off,none⟩/\ab<B/\∀(i:Nat) (t:Tk),l[i]? =some t->
  w.cell? ⟨ab,off+i*4,none⟩=some (.int .i64 t.kind)/\w.cell? ⟨ab,off+i*4+1,none⟩=some (.int .i64 t.n)/\w.cell? ⟨ab,off+i*4+2,none⟩=some (.int .i64 t.pos)/\w.cell? ⟨ab,off+i*4+3,none⟩=some (.string t.text))
theorem RdT.keep{w w':World}{B B':Nat}{A:OA}{l:List Tk}(h:RdT w B A l)(hk:∀p:Addr,p.block<B->w'.cell? p=w.cell? p)(hB:B<=B'):RdT w' B' A l:=by
 obtain⟨h2,h3,h4⟩:=h;refine⟨h2,h3,λhp=> ?_⟩;obtain⟨ab,off,e,hab,hc⟩:=h4 hp;exact⟨ab,off,e,by omega,λi x hx=>⟨(hk ⟨ab,off+i*4,none⟩ hab).trans (hc i x hx).1,(hk ⟨ab,off+i*4+1,none⟩ hab).trans (hc i x hx).2.1,(hk ⟨ab,off+i*4+2,none⟩ hab).trans (hc i x hx).2.2.1,(hk ⟨ab,off+i*4+3,none⟩ hab).trans (hc i x hx).2.2.2⟩⟩
structure RX(w:World)(B rb:Nat)(A:OA)(c:Nat)(l:List Tk)(r:Rs):Prop where
 ge:B<=rb
 blk:w.heap[rb]? =some (.cells #[.slice A l.length c,.int .i64 (r.1:Nat),.int .i64 r.2] 153 (0,0))
 tok:RdT w B A l
 pos:r.1<=l.length
 bad: -1<=r.2/\r.2<=l.length
section
variable {w w':World} {B rb:Nat} {A:OA} {c:Nat} {l:List Tk} {r:Rs}
theorem RX.lt(h:RX w B rb A c l r):rb<w.heap.size:=hlS h.blk
theorem RX.below(h:RX w B rb A c l r)(hb:Bw w w'):RX w' B rb A c l r:=
 ⟨h.ge,(hb.block _ h.lt).trans h.blk,h.tok.keep (λp hp=>hb.cell (by have:=h.lt;have:=h.ge;omega)) (Le _),h.pos,h.bad⟩
theorem RX.cells(h:RX w B rb A c l r):w.cell? ⟨rb,0,none⟩=some (.slice A l.length c)/\w.cell? ⟨rb,1,none⟩=some (.int .i64 (r.1:Nat))/\w.cell? ⟨rb,2,none⟩=some (.int .i64 r.2)/\∀i,w.frozen? ⟨rb,i,none⟩=false:=
 ⟨Ro w rb 0 _ _ _ h.blk,Ro w rb 1 _ _ _ h.blk,Ro w rb 2 _ _ _ h.blk,λi=>by simp[World.frozen?,h.blk]⟩
theorem RX.next(h:RX w B rb A c l r)(hl:r.1<l.length):RX (w.setCell ⟨rb,1,none⟩ (.int .i64 ((r.1:Int)+1))) B rb A c l (nxt r):=by
 have k:∀g,g≠rb->(w.setCell ⟨rb,1,none⟩ (.int .i64 ((r.1:Int)+1))).heap[g]? =w.heap[g]? :=λg hg=>Bj _ _ _ g hg;refine⟨h.ge,?_,h.tok.keep (λp hp=>Wb (k p.block (by have:=h.ge;omega))) (Le _),?_,h.bad⟩
 ·have:=aD (i:=1) (u:=.int .i64 ((r.1:Int)+1)) h.blk;simpa[nxt]using this
 ·show r.1+1<=l.length;omega
theorem RX.only(h:RX w B rb A c l r)(i:Nat)(v:Value):zaZ rb w (w.setCell ⟨rb,i,none⟩ v):=⟨rfl,rfl,rfl,by simp[World.setCell],λg _ hg=>Bj _ _ _ g hg⟩
theorem iY(h:l.length<=r.1\/0<=r.2):zcO l r=zjR:=by unfold zcO;rw[Ip h]
theorem qtA{t:Tk}(h1:r.1<l.length)(h2:r.2<0)(ht:l[r.1]? =some t):zcO l r=t:=by unfold zcO;rw[Iq (by omega),Gd,ht];rfl
theorem gG(h:(zcO l r).kind≠0):r.1<l.length:=by
 rcases Nat.lt_or_ge r.1 l.length with q|q
 ·exact q
 ·rw[iY (.inl q)]at h;exact absurd rfl h
theorem qqI{s:ByteArray}(h:isA l r s=true):r.1<l.length:=by
 refine gG (λe=> ?_);unfold isA at h;rw[e]at h;simp at h
end
def tkV(t:Tk):Value:=.agg #[.int .i64 t.kind,.int .i64 t.n,.int .i64 t.pos,.string t.text]
theorem mY(a b:ByteArray):(a.toList=b.toList)=(a=b):=by
 rw[ByteArray.toList_eq,ByteArray.toList_eq];obtain⟨⟨a⟩⟩:=a;obtain⟨⟨b⟩⟩:=b;simp
theorem aN{fn:Func}{p:Tmp}{ty:TypeId}(h:fn.results= #[.cell p ty])(tmps:Array Value)(w:World)(g:Nat)(t:TypeId)(cs:Array Value)(fr:Nat×Nat)(fs:Array Field)
 (hp:tmps.getD p undef=.pointer (some ⟨g,0,none⟩)) (hg:w.heap[g]? =some (.cells cs t fr))
 (hu:prog.underlying ty=some (.struct fs)) (hi:(prog.info? ty).map (·.size)=some cs.size):
 (results fn tmps).run prog w=.ok (.agg cs) w:=by
 have hp':tmps[p]?.getD undef=.pointer (some ⟨g,0,none⟩):=by simpa using hp
 simp[results,h,hp',asAddr,run_loadVar_row w g t ty cs fr (.struct fs) hg hu rfl hi]
theorem tL{w:World}{g:Nat}{T:TypeId}{x0 x1 x2 x3 x y z u:Value}(h:w.heap[g]? =some (.cells #[x0,x1,x2,x3] T (0,0))):
 ((((w.setCell ⟨g,0,none⟩ x).setCell ⟨g,1,none⟩ y).setCell ⟨g,2,none⟩ z).setCell ⟨g,3,none⟩ u).heap[g]? =some (.cells #[x,y,z,u] T (0,0)):=by
 have h1:=aD (i:=0) (u:=x) h;have h2:=aD (i:=1) (u:=y) h1;have h3:=aD (i:=2) (u:=z) h2;have h4:=aD (i:=3) (u:=u) h3;simpa using h4
def zhV(w:World)(g:Nat)(x y z u:Value):World:=(((w.setCell ⟨g,0,none⟩ x).setCell ⟨g,1,none⟩ y).setCell ⟨g,2,none⟩ z).setCell ⟨g,3,none⟩ u
theorem nW{B:Nat}{w w':World}(h:Below B w w'){g:Nat}(hg:B<=g)(x y z u:Value):Below B w (zhV w' g x y z u):=
 (((h.setCell (p:=⟨g,0,none⟩) hg x).setCell (p:=⟨g,1,none⟩) hg y).setCell (p:=⟨g,2,none⟩) hg z).setCell (p:=⟨g,3,none⟩) hg u
theorem qtR(w:World)(g j:Nat)(x y z u:Value)(h:j≠g):(zhV w g x y z u).heap[j]? =w.heap[j]? :=
 (Bj _ _ _ j h).trans ((Bj _ _ _ j h).trans ((Bj _ _ _ j h).trans (Bj _ _ _ j h)))
theorem eA(w:World)(B rb:Nat)(A:OA)(c:Nat)(l:List Tk)(r:Rs)(h:RX w B rb A c l r):
 Calls prog 133 #[.pointer (some ⟨rb,0,none⟩)] w λe w'=>e=.returned (tkV (zcO l r))/\Bw w w':=by
 obtain⟨W0,hW0,HB0,H0⟩:=newWH w #[.int .i64 0,.int .i64 0,.int .i64 0,.string ⟨#[]⟩] 157;have hlt:=h.lt;have hge:=h.ge;have n0:=ce0 H0.o;have n1:=ce1 H0.o;have n2:=ce2 H0.o;have n3:=ce3 H0.o;have nf:∀i,W0.frozen? ⟨w.heap.size,i,none⟩=false:=λi=>by simp[World.frozen?,H0.o]
 have h2:=h.below HB0.o;obtain⟨c0,c1,c2,-⟩:=h2.cells;obtain⟨p,b⟩:=r;dsimp only at c1 c2;have hml:=h2.tok.1;have HT:=Hd h2.tok.2.2;have hp:=h2.pos;have hb:=h2.bad;dsimp only at hp hb;clear h h2;by_cases h1:p<l.length
 ·have g1:decide ((p:Int)≥(l.length:Int))=false:=Df (by omega);by_cases h2:b<0
  ·have g2:decide (b≥0)=false:=Df (by omega);obtain⟨ab,off,rfl,hab,hc⟩:=HT.o (by omega);obtain⟨t,ht⟩:∃t,l[p]? =some t:=⟨_,Gg h1⟩;obtain⟨d0,d1,d2,d3⟩:=hc p t ht;have E:Hid (zcO l (p,b)=t):=qtA h1 h2 ht;have i1:(0:Int)<=(p:Int):=by omega
   have i2:(p:Int)<(l.length:Int):=by omega
   clear hc ht;have hne1:ab≠w.heap.size:=by omega
   have hne2:rb≠w.heap.size:=by omega
   go_enter func133,ntmps133;go_wp2_with fail;rw[<-hW0];clear hW0;go_quiet(fail);go_wp2_with fail;have S0:Hid ((W0.drewN nq).drew.cell? ⟨rb,0,none⟩=some (.slice (some ⟨ab,off,none⟩) l.length c)/\(W0.drewN nq).drew.cell? ⟨rb,1,none⟩=some (.int .i64 (p:Nat))/\(W0.drewN nq).drew.cell? ⟨ab,off+p*4,none⟩=some (.int .i64 t.kind)/\(W0.drewN nq).drew.cell? ⟨ab,off+p*4+1,none⟩=some (.int .i64 t.n)/\(W0.drewN nq).drew.cell? ⟨ab,off+p*4+2,none⟩=some (.int .i64 t.pos)/\(W0.drewN nq).drew.cell? ⟨ab,off+p*4+3,none⟩=some (.string t.text)):=⟨c0,c1,d0,d1,d2,d3⟩;have S1:Hid ((zhV (W0.drewN (nq+1)) w.heap.size (.int .i64 t.kind) (.int .i64 t.n) (.int .i64 t.pos) (.string t.text)).cell? ⟨rb,0,none⟩=some (.slice (some ⟨ab,off,none⟩) l.length c)/\(zhV (W0.drewN (nq+1)) w.heap.size (.int .i64 t.kind) (.int .i64 t.n) (.int .i64 t.pos) (.string t.text)).cell? ⟨rb,1,none⟩=some (.int .i64 (p:Nat))/\(zhV (W0.drewN (nq+1)) w.heap.size (.int .i64 t.kind) (.int .i64 t.n) (.int .i64 t.pos) (.string t.text)).cell? ⟨ab,off+p*4,none⟩=some (.int .i64 t.kind)/\(zhV (W0.drewN (nq+1)) w.heap.size (.int .i64 t.kind) (.int .i64 t.n) (.int .i64 t.pos) (.string t.text)).cell? ⟨ab,off+p*4+1,none⟩=some (.int .i64 t.n)/\(zhV (W0.drewN (nq+1)) w.heap.size (.int .i64 t.kind) (.int .i64 t.n) (.int .i64 t.pos) (.string t.text)).cell? ⟨ab,off+p*4+2,none⟩=some (.int .i64 t.pos)/\(zhV (W0.drewN (nq+1)) w.heap.size (.int .i64 t.kind) (.int .i64 t.n) (.int .i64 t.pos) (.string t.text)).cell? ⟨ab,off+p*4+3,none⟩=some (.string t.text)):=by
    have q:∀g i,g≠w.heap.size->(zhV (W0.drewN (nq+1)) w.heap.size (.int .i64 t.kind) (.int .i64 t.n) (.int .i64 t.pos) (.string t.text)).cell? ⟨g,i,none⟩=W0.cell? ⟨g,i,none⟩:=λg i hg=>cekC g i (qtR _ _ _ _ _ _ _ hg);exact⟨(q _ _ hne2).trans c0,(q _ _ hne2).trans c1,(q _ _ hne1).trans d0,(q _ _ hne1).trans d1,(q _ _ hne1).trans d2,(q _ _ hne1).trans d3⟩
   unfold zhV at S1;go_region_held3(λw'=>w'.cell? ⟨rb,0,none⟩=some (.slice (some ⟨ab,off,none⟩) l.length c)/\w'.cell? ⟨rb,1,none⟩=some (.int .i64 (p:Nat))/\w'.cell? ⟨ab,off+p*4,none⟩=some (.int .i64 t.kind)/\w'.cell? ⟨ab,off+p*4+1,none⟩=some (.int .i64 t.n)/\w'.cell? ⟨ab,off+p*4+2,none⟩=some (.int .i64 t.pos)/\w'.cell? ⟨ab,off+p*4+3,none⟩=some (.string t.text)) (first|with_reducible exact S0.o|with_reducible exact S1.o|fail) (fail);go_wp2_with fail;rw[E.o];exact bodyPost_ret (aN results133 _ _ w.heap.size _ _ _ _ rfl (tL H0.o) underlying157 (by kernel_rfl)) rfl ⟨rfl,nW (aA HB0.o (nq+1)) (Le _) _ _ _ _⟩
  ·have E:Hid (zcO l (p,b)=zjR):=iY (.inr (by show 0<=b;omega));have g2:decide (b≥0)=true:=Dt (by omega);go_enter func133,ntmps133;go_wp2_with fail;rw[<-hW0];clear hW0;go_quiet(fail);go_wp2_with fail;rw[E.o];exact bodyPost_ret (aN results133 _ _ w.heap.size _ _ _ _ rfl (tL H0.o) underlying157 (by kernel_rfl)) rfl ⟨rfl,nW (aA HB0.o _) (Le _) _ _ _ _⟩
 ·have E:Hid (zcO l (p,b)=zjR):=iY (.inl (by show l.length<=p;omega));have g1:decide ((p:Int)≥(l.length:Int))=true:=Dt (by omega);go_enter func133,ntmps133;go_wp2_with fail;rw[<-hW0];clear hW0;go_quiet(fail);go_wp2_with fail;rw[E.o];exact bodyPost_ret (aN results133 _ _ w.heap.size _ _ _ _ rfl (tL H0.o) underlying157 (by kernel_rfl)) rfl ⟨rfl,nW (aA HB0.o _) (Le _) _ _ _ _⟩
def RP(B rb:Nat)(A:OA)(c:Nat)(l:List Tk)(r':Rs)(w w':World):Prop:=RX w' B rb A c l r'/\zaZ rb w w'
theorem RP.of{w w':World}{B rb:Nat}{A:OA}{c:Nat}{l:List Tk}{r:Rs}(h:RX w B rb A c l r)(hb:Bw w w'):RP B rb A c l r w w':=⟨h.below hb,zaZ.of_below hb⟩
theorem zR(w:World)(B rb:Nat)(A:OA)(c:Nat)(l:List Tk)(r:Rs)(s:ByteArray)(h:RX w B rb A c l r):
 Calls prog 132 #[.pointer (some ⟨rb,0,none⟩),.string s] w λe w'=>e=.returned (.bool (isA l r s))/\Bw w w':=by
 have HC:=Hd (eA w B rb A c l r h);clear h;unfold isA;generalize zcO l r=t at HC;obtain⟨tk,tn,tp,tx⟩:=t;unfold tkV at HC;dsimp only at HC⊢
 have HB0:Hid (Bw w w):=Bf _ _;rw[<-decide_eq_decide.2 (Iff.of_eq (mY tx s))];rcases h4:(tk==4)with _|_<;>rcases h3:(tk==3)with _|_<;>rcases hs:decide (tx.toList=s.toList)with _|_
 all_goals
  go_enter func132,ntmps132;go_wp2_with(go_at_call 133;refine HC.o.mono ?_;rintro e w1 ⟨rfl,hb⟩;have HB1:=Hd hb;clear hb);go_ret;exact⟨by simp at hs;simp[h4,h3,hs],HB1.o.alloc HB1.o.size _⟩
theorem wH(w:World)(B rb:Nat)(A:OA)(c:Nat)(l:List Tk)(r:Rs)(s:ByteArray)(h:RX w B rb A c l r):
 Calls prog 98 #[.pointer (some ⟨rb,0,none⟩),.string s] w λe w'=>e=.returned (.bool (zgH l r s).1)/\RP B rb A c l (zgH l r s).2 w w':=by
 have HC:=Hd (zR w B rb A c l r s h);have HX:=Hd h;clear h;rcases hi:isA l r s with _|_
 ·have E:Hid (zgH l r s=(false,r)):=by unfold Hid zgH;rw[hi];rfl
  rw[hi]at HC;rw[E.o];go_enter func98,ntmps98;go_wp2_with(go_at_call 132;refine HC.o.mono ?_;rintro e w1 ⟨rfl,hb⟩;have HB1:=Hd hb;clear hb);go_ret;exact⟨rfl,RP.of HX.o HB1.o⟩
 ·have E:Hid (zgH l r s=(true,nxt r)):=by unfold Hid zgH;rw[hi];rfl
  have hlt:=qqI hi;rw[hi]at HC;rw[E.o];clear hi;go_enter func98,ntmps98;go_wp2_with(go_at_call 132;refine HC.o.mono ?_;rintro e w1 ⟨rfl,hb⟩;have HX1:=Hd (HX.o.below hb);have HB1:=Hd hb;clear hb;obtain⟨c0,c1,c2,cf⟩:=HX1.o.cells;have hml:=HX1.o.tok.1);go_ret;exact⟨rfl,HX1.o.next hlt,(zaZ.of_below HB1.o).trans (HX1.o.only _ _)⟩
theorem qcN(w:World)(B rb:Nat)(A:OA)(c:Nat)(l:List Tk)(r:Rs)(q:Int)(h:RX w B rb A c l r):
 Calls prog 99 #[.pointer (some ⟨rb,0,none⟩),.int .i64 q] w λe w'=>e=.returned (.bool (zgB l r q))/\Bw w w':=by
 have HC:=Hd (eA w B rb A c l r h);clear h;unfold zgB;generalize zcO l r=t at HC;obtain⟨tk,tn,tp,tx⟩:=t;unfold tkV at HC;dsimp only at HC⊢
 rcases h4:(tk==1)with _|_<;>rcases h3:(tn==q)with _|_
 all_goals
  go_enter func99,ntmps99;go_wp2_with(go_at_call 133;refine HC.o.mono ?_;rintro e w1 ⟨rfl,hb⟩;have HB1:=Hd hb;clear hb);go_ret;exact⟨by simp[h4,h3],HB1.o.alloc HB1.o.size _⟩
theorem RX.fail{w:World}{B rb:Nat}{A:OA}{c:Nat}{l:List Tk}{r:Rs}(h:RX w B rb A c l r)(hb:r.2<0):RX (w.setCell ⟨rb,2,none⟩ (.int .i64 (r.1:Nat))) B rb A c l (zfE r):=by
 have k:∀g,g≠rb->(w.setCell ⟨rb,2,none⟩ (.int .i64 (r.1:Nat))).heap[g]? =w.heap[g]? :=λg hg=>Bj _ _ _ g hg;have e:zfE r=(r.1,(r.1:Int)):=by unfold zfE;rw[Ip hb]
 have hp:=h.pos;rw[e];refine⟨h.ge,?_,h.tok.keep (λp hp=>Wb (k p.block (by have:=h.ge;omega))) (Le _),hp,?_⟩
 ·have:=aD (i:=2) (u:=.int .i64 (r.1:Nat)) h.blk;simpa using this
 ·dsimp only;omega
theorem dB(w:World)(B rb:Nat)(A:OA)(c:Nat)(l:List Tk)(r:Rs)(h:RX w B rb A c l r):
 Calls prog 135 #[.pointer (some ⟨rb,0,none⟩)] w λe w'=>e=.returned (.tuple #[])/\RP B rb A c l (zfE r) w w':=by
 have HX:=Hd h;obtain⟨c0,c1,c2,cf⟩:=h.cells;clear h;by_cases hb:r.2<0
 ·have g1:decide (r.2<0)=true:=Dt hb;go_enter func135,ntmps135;go_wp2_with fail;exact bodyPost_end (results_none results135 _ _ _) rfl ⟨rfl,HX.o.fail hb,HX.o.only _ _⟩
 ·have g1:decide (r.2<0)=false:=Df hb;have e:zfE r=r:=by unfold zfE;rw[Iq hb]
  rw[e];go_enter func135,ntmps135;go_wp2_with fail;exact bodyPost_end (results_none results135 _ _ _) rfl ⟨rfl,RP.of HX.o (Bf _ _)⟩
theorem nT(w:World)(B rb:Nat)(A:OA)(c:Nat)(l:List Tk)(r:Rs)(most:Int)(h:RX w B rb A c l r):
 Calls prog 100 #[.pointer (some ⟨rb,0,none⟩),.int .i64 most] w λe w'=>e=.returned (.int .i64 (zfB l most r).1)/\RP B rb A c l (zfB l most r).2 w w':=by
 have HC:=Hd (eA w B rb A c l r h);have HX:=Hd h;have HLT:Hid ((zcO l r).kind≠0->r.1<l.length):=gG;clear h;unfold zfB;generalize zcO l r=t at HC HLT;obtain⟨tk,tn,tp,tx⟩:=t;unfold tkV at HC;dsimp only at HC HLT⊢
 have HW:=λw=>Hd (eV tn w);generalize zaY tn=q at HW;obtain⟨qn,qk⟩:=q;dsimp only at HW⊢
 by_cases hgo:tk=2/\qk=true/\1<=qn/\qn<=most
 ·obtain⟨rfl,rfl,h1,h2⟩:=hgo;rw[Iq (by simp;omega)];have hlt:=HLT.o (by omega);have g1:decide (qn<1)=false:=Df (by omega);have g2:decide (qn>most)=false:=Df (by omega);go_enter func100,ntmps100;go_wp2_with(first|(go_at_call 133;refine HC.o.mono ?_;rintro e w1 ⟨rfl,hb⟩;have HB1:=Hd (hb.alloc hb.size (.cells #[.int .i64 2,.int .i64 tn,.int .i64 tp,.string tx] 157));clear hb;have HX1:=Hd (HX.o.below HB1.o);obtain⟨c0,c1,c2,cf⟩:=HX1.o.cells;have hml:=HX1.o.tok.1)|(go_at_call 134;refine(HW _).o.mono ?_;rintro e w2 ⟨rfl,rfl⟩));go_ret;exact⟨rfl,HX1.o.next hlt,(zaZ.of_below HB1.o).trans (HX1.o.only _ _)⟩
 ·rw[Ip (by rcases Classical.em (tk=2)with a|a;·{rcases qk with _|_;·{exact .inr (.inl rfl)};·{have:¬(1<=qn/\qn<=most):=λh=>hgo ⟨a,rfl,h⟩;omega}};·{exact .inl a})];dsimp only;have HNG:Hid (¬(tk=2/\qk=true/\1<=qn/\qn<=most)):=hgo;clear hgo;by_cases ha:tk=2
  ·subst ha;rcases qk with _|_
   ·go_enter func100,ntmps100;go_wp2_with(first|(go_at_call 133;refine HC.o.mono ?_;rintro e w1 ⟨rfl,hb⟩;have HB1:=Hd (hb.alloc hb.size (.cells #[.int .i64 2,.int .i64 tn,.int .i64 tp,.string tx] 157));clear hb;have HX1:=Hd (HX.o.below HB1.o))|(go_at_call 134;refine(HW _).o.mono ?_;rintro e w2 ⟨rfl,rfl⟩)|(go_at_call 135;refine(dB _ _ _ _ _ _ _ HX1.o).mono ?_;rintro e w3 ⟨rfl,hrp⟩;have HRP:=Hd hrp;clear hrp));go_ret;exact⟨rfl,HRP.o.1,(zaZ.of_below HB1.o).trans HRP.o.2⟩
   ·by_cases hb1:qn<1
    ·have g1:decide (qn<1)=true:=Dt hb1;go_enter func100,ntmps100;go_wp2_with(first|(go_at_call 133;refine HC.o.mono ?_;rintro e w1 ⟨rfl,hb⟩;have HB1:=Hd (hb.alloc hb.size (.cells #[.int .i64 2,.int .i64 tn,.int .i64 tp,.string tx] 157));clear hb;have HX1:=Hd (HX.o.below HB1.o))|(go_at_call 134;refine(HW _).o.mono ?_;rintro e w2 ⟨rfl,rfl⟩)|(go_at_call 135;refine(dB _ _ _ _ _ _ _ HX1.o).mono ?_;rintro e w3 ⟨rfl,hrp⟩;have HRP:=Hd hrp;clear hrp));go_ret;exact⟨rfl,HRP.o.1,(zaZ.of_below HB1.o).trans HRP.o.2⟩
    ·have g1:decide (qn<1)=false:=Df hb1;have hm:most<qn:=by
      have h:=HNG.o;rcases Il most qn with q|q
      ·exact q
      ·exact absurd ⟨rfl,rfl,by omega,q⟩ h
     have g2:decide (qn>most)=true:=Dt hm;go_enter func100,ntmps100;go_wp2_with(first|(go_at_call 133;refine HC.o.mono ?_;rintro e w1 ⟨rfl,hb⟩;have HB1:=Hd (hb.alloc hb.size (.cells #[.int .i64 2,.int .i64 tn,.int .i64 tp,.string tx] 157));clear hb;have HX1:=Hd (HX.o.below HB1.o))|(go_at_call 134;refine(HW _).o.mono ?_;rintro e w2 ⟨rfl,rfl⟩)|(go_at_call 135;refine(dB _ _ _ _ _ _ _ HX1.o).mono ?_;rintro e w3 ⟨rfl,hrp⟩;have HRP:=Hd hrp;clear hrp));go_ret;exact⟨rfl,HRP.o.1,(zaZ.of_below HB1.o).trans HRP.o.2⟩
  ·have ha1:(tk==2)=false:=by simpa using ha
   have ha2:(tk !=2)=true:=by simpa using ha
   go_enter func100,ntmps100;go_wp2_with(first|(go_at_call 133;refine HC.o.mono ?_;rintro e w1 ⟨rfl,hb⟩;have HB1:=Hd (hb.alloc hb.size (.cells #[.int .i64 tk,.int .i64 tn,.int .i64 tp,.string tx] 157));clear hb;have HX1:=Hd (HX.o.below HB1.o))|(go_at_call 134;refine(HW _).o.mono ?_;rintro e w2 ⟨rfl,rfl⟩)|(go_at_call 135;refine(dB _ _ _ _ _ _ _ HX1.o).mono ?_;rintro e w3 ⟨rfl,hrp⟩;have HRP:=Hd hrp;clear hrp));go_ret;exact⟨rfl,HRP.o.1,(zaZ.of_below HB1.o).trans HRP.o.2⟩
