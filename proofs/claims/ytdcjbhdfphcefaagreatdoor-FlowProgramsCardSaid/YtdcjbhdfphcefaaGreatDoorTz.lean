/- The contract. -/
import Derived.Test.YtdcjbhdfphcefaaGreatDoorTk
import Derived.Test.YtdcjbhdfphcefaaGreatDoorFa
import Derived.Test.YtdcjbhdfphcefaaGreatDoorBx
namespace Go.Proofs.YtdcjbhdfphcefaaGreatDoor
set_option linter.all false
set_option maxRecDepth 100000
set_option maxHeartbeats 40000000
open Go.Proofs.Tryz
open Go.RowKit Go.PlainAid
def ziD:Array Value:=⟨zgL.map .string⟩
theorem qjT(w:World):Calls prog 167 #[] w λe w'=>e=.returned (.slice (some ⟨w.heap.size,0,none⟩) 24 24)/\w'=w.alloc (.cells ziD 9):=by
 go_enter func167,ntmps167;go_wp2;go_ret;exact⟨rfl,rfl⟩
theorem fC(c:Int)(w:World):
 Calls prog 128 #[.int .u8 c] w λe w'=>e=.returned (.bool (zeN c))/\w=w':=by
 unfold zeN;by_cases h1:48<=c<;>by_cases h2:c<=57<;>rcases h3:(c==46)with _|_
 all_goals
  go_enter func128,ntmps128;go_wp2;go_ret;exact⟨by simp[h1,h2,h3],rfl⟩
theorem qE(c:Int)(w:World):
 Calls prog 131 #[.int .u8 c] w λe w'=>e=.returned (.bool (ziL c))/\w=w':=by
 by_cases h:c=43\/c=45\/c=42\/c=47\/c=61\/c=35\/c=91\/c=93
 ·rcases h with rfl|rfl|rfl|rfl|rfl|rfl|rfl|rfl
  all_goals
   go_enter func131,ntmps131;go_wp2;go_ret;exact⟨rfl,rfl⟩
 ·have e:ziL c=false:=by unfold ziL;simp;omega
  have e1:(c==43)=false:=by simp;omega
  have e2:(c==45)=false:=by simp;omega
  have e3:(c==42)=false:=by simp;omega
  have e4:(c==47)=false:=by simp;omega
  have e5:(c==61)=false:=by simp;omega
  have e6:(c==35)=false:=by simp;omega
  have e7:(c==91)=false:=by simp;omega
  have e8:(c==93)=false:=by simp;omega
  rw[e];clear h e;go_enter func131,ntmps131;go_wp2;go_ret;exact⟨rfl,rfl⟩
open Go.RowKit Go.PlainAid
theorem yZ:∀nm∈zgL,nm.size<=5:=by decide
def zlR(s:ByteArray)(i:Nat)(W0:World)(b j:Value)(W:World):Prop:=∃(best:ByteArray) (k:Nat),k<=24/\b=.string best/\best.size<=5/\j=.int .i64 (k:Int)/\Bw W0 W/\zeZ s i=(zgL.drop k).foldl (zeC s i) best
theorem qjU(s:ByteArray)(i:Nat)(hs:s.size<=100000)(hi:i<s.size)(w:World):
 Calls prog 130 #[.string s,.int .i64 (i:Nat)] w λe w'=>e=.returned (.string (zeZ s i))/\Bw w w':=by
 obtain⟨W0,hW0⟩:∃W0,W0=w.alloc (.cells ziD 9):=⟨_,rfl⟩;have HB0:Hid (Bw w W0):=by unfold Hid;rw[hW0];exact nB _ _
 have H0:Hid (W0.heap[w.heap.size]? =some (.cells ziD 9 (0,0))):=by unfold Hid;rw[hW0];exact Hn w _
 have hs0:=hlS H0.o;have HR0:Hid (zlR s i W0 (.string ⟨#[]⟩) (.int .i64 0) W0):=⟨⟨#[]⟩,0,by omega,rfl,by decide,rfl,Bf _ _,rfl⟩;go_enter func130,ntmps130;go_wp2_with(go_at_call 167;refine(qjT _).mono ?_;rintro e w1 ⟨rfl,hw1⟩;obtain rfl:w1=W0:=(by rw[hw1,hW0]);clear hw1 hW0);go_loopw[5,7] (zlR s i w1) (λ_ j _=>24-(intOf j).toNat)
 case atStart=>exact HR0.o
 case round=>
  obtain⟨best,k,hk,rfl,hbs,rfl,hbw,her⟩:=hrel;have HBW:=Hd hbw;have HER:=Hd her;clear hbw her HR0;by_cases hlt:k<24
  ·obtain⟨nm,hnm⟩:∃nm,zgL[k]? =some nm:=⟨_,Gg (show k<zgL.length by show k<24;omega)⟩;have hn5:=yZ nm (Mg hnm);have c0:wr.cell? ⟨w.heap.size,k,none⟩=some (.string nm):=by
    refine(HBW.o.cel w.heap.size k hs0).trans ?_;refine(Ro w1 _ k _ _ _ H0.o).trans ?_;unfold ziD;rw[List.getElem?_toArray,Gm,hnm];rfl
   have HST:Hid (zeZ s i=(zgL.drop (k+1)).foldl (zeC s i) (zeC s i best nm)):=by
    unfold Hid;rw[HER.o,cE hnm];rfl
   have w1':IntKind.i64.wrap ((s.size:Int)-(i:Int))=(s.size:Int)-i:=IntWalk.i64_in _ (by omega);have w2':IntKind.i64.wrap ((i:Int)+(nm.size:Int))=(i:Int)+nm.size:=IntWalk.i64_in _ (by omega);have i0:(0:Int)<=(k:Int):=by omega
   have i1:(k:Int)<24:=by omega
   clear hnm;by_cases hf:nm.size<=s.size-i
   ·have g1:decide ((s.size:Int)-(i:Int)≥(nm.size:Int))=true:=Dt (by omega);have g1b:decide ((nm.size:Int)<=(s.size:Int)-(i:Int))=true:=Dt (by omega);have i2:(0:Int)<=(i:Int):=by omega
    have i3:(i:Int)<=(i:Int)+(nm.size:Int):=by omega
    have i4:(i:Int)+(nm.size:Int)<=(s.size:Int):=by omega
    have t1:((i:Int)+(nm.size:Int)).toNat=i+nm.size:=by omega
    have t2:(IntKind.i64.wrap ((i:Int)+(nm.size:Int))).toNat=i+nm.size:=by rw[w2'];omega
    have t3:(i:Int)<=IntKind.i64.wrap ((i:Int)+(nm.size:Int)):=by rw[w2'];omega
    have t4:IntKind.i64.wrap ((i:Int)+(nm.size:Int))<=(s.size:Int):=by rw[w2'];omega
    have t5:(0:Int)<=IntKind.i64.wrap ((i:Int)+(nm.size:Int)):=by rw[w2'];omega
    by_cases hq:(s.extract i (i+nm.size)).toList=nm.toList
    ·have hq':decide ((s.extract i (i+nm.size)).toList=nm.toList)=true:=Dt hq;by_cases hl:best.size<nm.size
     ·have E1:Hid (zeC s i best nm=nm):=by unfold Hid zeC;rw[Ip ⟨hf,(Eq.mp (mY _ _) hq),hl⟩]
      have g2:decide ((nm.size:Int)>(best.size:Int))=true:=Dt (by omega);go_wp2_with fail;go_quiet(fail);go_wp2_with fail;exact⟨⟨nm,k+1,by omega,rfl,hn5,by go_num,aA HBW.o nq,by rw[HST.o,E1.o]⟩,by simp only[intOf];omega⟩
     ·have E1:Hid (zeC s i best nm=best):=by unfold Hid zeC;rw[Iq (by omega)]
      have g2:decide ((nm.size:Int)>(best.size:Int))=false:=Df (by omega);go_wp2_with fail;go_quiet(fail);go_wp2_with fail;exact⟨⟨best,k+1,by omega,rfl,hbs,by go_num,aA HBW.o nq,by rw[HST.o,E1.o]⟩,by simp only[intOf];omega⟩
    ·have hq':decide ((s.extract i (i+nm.size)).toList=nm.toList)=false:=Df hq;have E1:Hid (zeC s i best nm=best):=by unfold Hid zeC;rw[Iq (λh=>hq (Eq.mpr (mY _ _) h.2.1))]
     go_wp2_with fail;go_quiet(fail);go_wp2_with fail;exact⟨⟨best,k+1,by omega,rfl,hbs,by go_num,aA HBW.o nq,by rw[HST.o,E1.o]⟩,by simp only[intOf];omega⟩
   ·have g1:decide ((s.size:Int)-(i:Int)≥(nm.size:Int))=false:=Df (by omega);have g1b:decide ((nm.size:Int)<=(s.size:Int)-(i:Int))=false:=Df (by omega);have E1:Hid (zeC s i best nm=best):=by unfold Hid zeC;rw[Iq (by omega)]
    go_wp2_with fail;go_quiet(fail);go_wp2_with fail;exact⟨⟨best,k+1,by omega,rfl,hbs,by go_num,aA HBW.o nq,by rw[HST.o,E1.o]⟩,by simp only[intOf];omega⟩
  ·have hke:k=24:=by omega
   subst hke;have E:Hid (zeZ s i=best):=by unfold Hid;rw[HER.o];rfl
   go_wp2_with fail;go_ret;rw[E.o];exact⟨rfl,HB0.o.tm HBW.o⟩
open Go.RowKit Go.PlainAid
theorem qxN:∀(l:List Int) (w p:Nat) (pt:Bool) (n:Int) (r:Nat×Nat×Int),w<=9->p<=6->0<=n->n<10^(w+p)->prs l w p pt n=some r->r.1<=9/\r.2.1<=6/\0<=r.2.2/\r.2.2<10^(r.1+r.2.1):=by
 intro l;induction l with
 |nil=>
  intro w p pt n r h1 h2 h3 h4 h;rw[prs]at h;cases h;exact⟨h1,h2,h3,h4⟩
 |cons c cs ih=>
  intro w p pt n r h1 h2 h3 h4 h;rw[prs]at h;split at h
  ·exact ih _ _ _ _ _ h1 h2 h3 h4 h
  ·split at h
   ·cases h
   ·rename_i hd;have hd':dgt c=true:=by simpa using hd
    have c0:=iO hd';split at h
    ·split at h
     ·cases h
     ·exact ih _ _ _ _ _ h1 (by omega) (by omega) (by rw[show w+(p+1)=w+p+1 from by omega];exact jJ h4 c0.1 c0.2) h
    ·split at h
     ·cases h
     ·exact ih _ _ _ _ _ (by omega) h2 (by omega) (by rw[show w+1+p=w+p+1 from by omega];exact jJ h4 c0.1 c0.2) h
theorem xF(l:List Int):0<=(zdF l).1/\(zdF l).1<1000000000000000:=by
 unfold zdF;rcases h:prs l 0 0 false 0 with _|⟨w,p,n⟩
 ·unfold fin;dsimp only;omega
 ·obtain⟨h1,h2,h3,h4⟩:=qxN l 0 0 false 0 _ (by omega) (by omega) (by omega) (by decide) h;dsimp only at h1 h2 h3 h4;unfold fin;dsimp only;split
  ·dsimp only;omega
  ·dsimp only;have e1:(10:Int)^(w+p)*10^(6-p)=10^(w+6):=by rw[<-Int.pow_add];congr 1;omega
   have e2:(10:Int)^(w+6)<=10^15:=by
    have:(10:Nat)^(w+6)<=10^15:=Nat.pow_le_pow_right (by omega) (by omega)
    exact_mod_cast this
   have hp:(0:Int)<10^(6-p):=Int.pow_pos (by omega);refine⟨Im h3 (Int.le_of_lt hp),?_⟩;have e3:=Int.mul_lt_mul_of_pos_right h4 hp;rw[e1]at e3;have e4:(10:Int)^15=1000000000000000:=by decide
   omega
def fT(l:List Tk):LV:=l.flatMap λt=>[.int .i64 t.kind,.int .i64 t.n,.int .i64 t.pos,.string t.text]
theorem qzP(l r:List Tk):fT (l++r)=fT l++fT r:=by unfold fT;exact List.flatMap_append
theorem znT{l:List Tk}:∀{i:Nat} {t:Tk},l[i]? =some t->(fT l)[i*4]? =some (.int .i64 t.kind)/\(fT l)[i*4+1]? =some (.int .i64 t.n)/\(fT l)[i*4+2]? =some (.int .i64 t.pos)/\(fT l)[i*4+3]? =some (.string t.text):=by
 induction l with
 |nil=>intro i p h;simp at h
 |cons q r ih=>
  intro i p h;have e:fT (q::r)=[.int .i64 q.kind,.int .i64 q.n,.int .i64 q.pos,.string q.text]++fT r:=rfl;rcases i with _|i
  ·simp at h;subst h;exact⟨rfl,rfl,rfl,rfl⟩
  ·rw[List.getElem?_cons_succ]at h;obtain⟨h0,h1,h2,h3⟩:=ih h;rw[e];refine⟨?_,?_,?_,?_⟩
   ·rw[Ga (by simp;omega),<-h0];congr 1;simp;omega
   ·rw[Ga (by simp;omega),<-h1];congr 1;simp;omega
   ·rw[Ga (by simp;omega),<-h2];congr 1;simp;omega
   ·rw[Ga (by simp;omega),<-h3];congr 1;simp;omega
structure TzS(w:World)(acc:List Tk)(O:OA)(cO:Nat)(W:World):Prop where
 bel:Bw w W
 own:W.ownsRow w.heap.size 157 4 (.slice O acc.length cO) acc.length (fT acc)
 sm:∀t∈acc,I64 t.kind/\I64 t.n/\I64 t.pos
theorem TzS.below{w W W':World}{acc:List Tk}{O:OA}{cO:Nat}(h:TzS w acc O cO W)(hb:Bw W W'):TzS w acc O cO W':=
 ⟨h.bel.tm hb,aC h.own λg hg _=>hb.block g hg,h.sm⟩
theorem TzS.push{w W W3 w1:World}{acc:List Tk}{O:OA}{cO g cap:Nat}{t:Tk}(h:TzS w acc O cO W)(ht:I64 t.kind/\I64 t.n/\I64 t.pos)(hb:Bw W W3)
 (ho:w1.ownsRow w.heap.size 157 4 (.slice (some ⟨g,0,none⟩) (acc.length+1) cap) (acc.length+1) (fT acc++[.int .i64 t.kind,.int .i64 t.n,.int .i64 t.pos,.string t.text])) (hg:W3.grownBy w1 (Value.slice O acc.length cO).ownBlock):
 TzS w (acc++[t]) (some ⟨g,0,none⟩) cap w1:=by
 have k:=bF hb hg;have hs:=hb.size;have hgs:=hg.size;have hc:=h.bel.size;refine⟨⟨hg.os.trans (hb.os.trans h.bel.os),hg.tape.trans (hb.tape.trans h.bel.tape),hg.output.trans (hb.output.trans h.bel.output),by omega,λq hq=>(k q (by omega) (λe=>by have:=(aI h.own e).1;omega)).trans (h.bel.block q hq)⟩,?_,λx hx=> ?_⟩
 ·have e:fT (acc++[t])=fT acc++[.int .i64 t.kind,.int .i64 t.n,.int .i64 t.pos,.string t.text]:=by rw[qzP];rfl
  rw[e];simpa using ho
 ·rcases Ma.1 hx with q|q
  ·exact h.sm x q
  ·rw[Mt.1 q];exact ht
theorem TzS.rd{w W:World}{acc:List Tk}{O:OA}{cO:Nat}(h:TzS w acc O cO W)(hl:acc.length<=100000):RdT W W.heap.size O acc:=by
 refine⟨hl,h.sm,λhp=> ?_⟩;rcases h.own.2 with⟨e1,e2⟩|⟨g,cap,cur,e1,q1,q2,_⟩
 ·omega
 ·simp only[Vs,true_and]at e1;obtain⟨rfl,rfl⟩:=e1;refine⟨g,0,rfl,hlS q2,λi t ht=> ?_⟩;have hil:=(Gu.1 ht).1;obtain⟨h0,h1,h2,h3⟩:=znT ht;rw[Nat.zero_add];exact⟨(h.own.cellAt _ (by omega)).trans h0,(h.own.cellAt _ (by omega)).trans h1,(h.own.cellAt _ (by omega)).trans h2,(h.own.cellAt _ (by omega)).trans h3⟩
theorem zmE:(prog.info? 157).bind (λi=>i.zero.map λz=>(i.size,i.bytes,z.cells.size))=some (4,40,4):=by kernel_rfl
theorem zV:∃(i:TypeInfo) (z:Value),prog.info? 157=some i/\i.zero=some z/\i.size=4/\i.bytes=40/\z.cells.size=4:=by
 have h:=zmE;rcases hi:prog.info? 157 with _|i
 ·rw[hi]at h;simp at h
 ·rw[hi]at h;rcases hz:i.zero with _|z
  ·simp[hz]at h
  ·simp[hz]at h;exact⟨i,z,rfl,hz,h.1,h.2.1,h.2.2⟩
open Go.RowKit Go.PlainAid
def zkJ(s:ByteArray)(w:World)(e:Ending)(w':World):Prop:=
 ∃(O:OA) (cO:Nat),e=.returned (.tuple #[.slice O (zfV s).1.length cO,.int .i64 (zfV s).2.1,.int .i64 (zfV s).2.2])/\RdT w' w'.heap.size O (zfV s).1/\Bw w w'
def zlO(s:ByteArray)(w:World)(o i:Value)(W:World):Prop:=
 ∃(acc:List Tk) (k a:Nat) (O:OA) (cO:Nat),o=.slice O acc.length cO/\i=.int .i64 (a:Int)/\a<=s.size/\acc.length<=a/\TzS w acc O cO W/\zfV s=zhP s k a acc/\s.size+1<=k+a
theorem fQ{fn:Func}{t u v:Tmp}(h:fn.results= #[.tmp t,.tmp u,.tmp v])(tmps:Array Value)(P:Program)(w:World):
 (results fn tmps).run P w=.ok (.tuple #[tmps.getD t undef,tmps.getD u undef,tmps.getD v undef]) w:=by simp[results,h]
theorem wU{p:Int->Bool}{s:ByteArray}{i:Nat}(hi:i<s.size)(h:p (bt s i)=false):zdJ p s (s.size-i) i=i:=by
 rw[show s.size-i=(s.size-(i+1))+1 by omega,zdJ,Iq (by rw[h];simp)]
theorem qgT{p:Int->Bool}{s:ByteArray}{i:Nat}(hi:i<s.size)(h:p (bt s i)=true):zdJ p s (s.size-i) i=zdJ p s (s.size-(i+1)) (i+1):=by
 rw[show s.size-i=(s.size-(i+1))+1 by omega,zdJ,Ip h]
theorem qbM(p:Int->Bool)(s:ByteArray):zdJ p s (s.size-s.size) s.size=s.size:=by rw[Nat.sub_self];rfl
theorem RdT.nil(w:World)(B:Nat)(A:OA):RdT w B A []:=⟨by simp,λt h=>by simp at h,λh=>absurd h (by simp)⟩
theorem qmG{s:ByteArray}{k a:Nat}{acc:List Tk}(h:s.size+1<=k+a)(ha:a<s.size)(he:(zfR s a).2.2≠0):zhP s k a acc=([],(a:Int),2):=by
 obtain⟨k,rfl⟩:∃j,k=j+1:=⟨k-1,by omega⟩;rw[zhP,Iq (by omega),Ip he]
theorem qmH{s:ByteArray}{k a:Nat}{acc:List Tk}(h:s.size+1<=k+a)(ha:a=s.size):zhP s k a acc=(acc,(s.size:Int),0):=by
 obtain⟨k,rfl⟩:∃j,k=j+1:=⟨k-1,by omega⟩;rw[zhP,Ip (by omega)]
theorem qiQ{s:ByteArray}{k a t:Nat}{acc:List Tk}{o:Option Tk}(h:s.size+1<=k+a)(ha:a<s.size)(hx:zfR s a=(t,o,0))(ht:a<t):∃k',zhP s k a acc=zhP s k' t (acc++o.toList)/\s.size+1<=k'+t:=by
 obtain⟨k,rfl⟩:∃j,k=j+1:=⟨k-1,by omega⟩;refine⟨k,?_,by omega⟩;rw[zhP,Iq (by omega),hx];exact Iq (by simp)
theorem qcE(s:ByteArray)(i:Nat)(hi:i<s.size):(zeZ s i).size<=s.size-i:=by
 have h:∀(l:List ByteArray) (b:ByteArray),b.size<=s.size-i->(l.foldl (zeC s i) b).size<=s.size-i:=by
  intro l;induction l with
  |nil=>intro b h;exact h
  |cons x r ih=>
   intro b h;refine ih _ ?_;unfold zeC;split
   ·rename_i q;exact q.1
   ·exact h
 exact h _ _ (Lq _)
theorem qeD(s:ByteArray)(hs:s.size<=70000)(w:World):
 Calls prog 97 #[.string s] w (zkJ s w):=by
 have hbt:=get_bt s;have HR0:Hid (zlO s w (.slice none 0 0) (.int .i64 0) w):=⟨[],s.size+1,0,none,0,rfl,rfl,by omega,by simp,⟨Bf _ _,World.ownsRow_nil _ _ _ _,λt h=>by simp at h⟩,rfl,by omega⟩;obtain⟨iT,zT,hiT,hT0,hT1,hT2,hTs⟩:=zV;have HIT:=Hd hiT;have HZT:=Hd hT0;clear hiT hT0;go_enter func97,ntmps97;go_wp2_with fail;go_loopw[5,6] (zlO s w) (λ_ i _=>s.size-(intOf i).toNat)
 case atStart=>exact HR0.o
 case round=>
  obtain⟨acc,k,a,O,cO,rfl,rfl,ha,hal,hS,htk,hk⟩:=hrel;obtain⟨WO,hWO⟩:∃WO,WO=wr:=⟨_,rfl⟩;subst hWO;have HS:=Hd hS;have HTK:=Hd htk;have hwsz:=hS.bel.size;have HOW:Hid (WO.ownsRow w.heap.size 157 4 (.slice O acc.length cO) acc.length (fT acc)):=hS.own;clear hS htk HR0;by_cases hlt:a<s.size
  ·have c0:=bt_nonneg s a;have c1:=bt_le s a;have HFAIL:Hid ((zfR s a).2.2≠0->zfV s=([],(a:Int),2)):=λhe=>by rw[HTK.o];exact qmG hk hlt he
   have HSTEP:Hid (∀(t:Nat) (o:Option Tk),zfR s a=(t,o,0)->a<t->∃k',zfV s=zhP s k' t (acc++o.toList)/\s.size+1<=k'+t):=λt o hx ht=>by rw[HTK.o];exact qiQ hk hlt hx ht
   have a0:(0:Int)<=(a:Int):=by omega
   have a1:(a:Int)<(s.size:Int):=by omega
   by_cases w1:bt s a=32\/bt s a=9\/bt s a=13
   ·have E:=Hd (HSTEP.o (a+1) none (by unfold zfR;dsimp only;rw[Ip w1]) (by omega));obtain⟨k',e1,e2⟩:=E.o;have HE1:=Hd e1;clear e1;have g0:((bt s a==32)||((bt s a==9)||(bt s a==13)))=true:=by simp;omega
    rcases w1 with q|q|q
    ·have q1:(bt s a==32)=true:=by simpa using q
     go_wp2_with fail;exact⟨⟨acc,k',a+1,O,cO,rfl,by go_num,by omega,by omega,HS.o,by simpa using HE1.o,e2⟩,by simp only[intOf];omega⟩
    ·have q1:(bt s a==9)=true:=by simpa using q
     have q2:(bt s a==32)=false:=by simp;omega
     go_wp2_with fail;exact⟨⟨acc,k',a+1,O,cO,rfl,by go_num,by omega,by omega,HS.o,by simpa using HE1.o,e2⟩,by simp only[intOf];omega⟩
    ·have q1:(bt s a==13)=true:=by simpa using q
     have q2:(bt s a==32)=false:=by simp;omega
     have q3:(bt s a==9)=false:=by simp;omega
     go_wp2_with fail;exact⟨⟨acc,k',a+1,O,cO,rfl,by go_num,by omega,by omega,HS.o,by simpa using HE1.o,e2⟩,by simp only[intOf];omega⟩
   have n32:(bt s a==32)=false:=by simp;omega
   have n9:(bt s a==9)=false:=by simp;omega
   have n13:(bt s a==13)=false:=by simp;omega
   by_cases w2:bt s a=59
   ·have q1:(bt s a==59)=true:=by simpa using w2
    have E:=Hd (HSTEP.o s.size none (by unfold zfR;dsimp only;rw[Iq w1,Ip w2]) (by omega));obtain⟨k',e1,e2⟩:=E.o;have HE1:=Hd e1;clear e1;go_wp2_with fail;exact⟨⟨acc,k',s.size,O,cO,rfl,by go_num,by omega,by omega,HS.o,by simpa using HE1.o,e2⟩,by simp only[intOf];omega⟩
   have n59:(bt s a==59)=false:=by simpa using w2
   by_cases w3:bt s a=40
   ·have q1:(bt s a==40)=true:=by simpa using w3
    have HL:Hid (zfR s a=if zdJ (λx=>x !=41) s (s.size-(a+1)) (a+1)=s.size then(zdJ (λx=>x !=41) s (s.size-(a+1)) (a+1),none,2)else(zdJ (λx=>x !=41) s (s.size-(a+1)) (a+1)+1,none,0)):=by unfold Hid zfR;dsimp only;rw[Iq w1,Iq w2,Ip w3]
    go_wp2_with fail;go_loopw[8] (λj W=>∃t:Nat,j=.int .i64 (t:Int)/\a+1<=t/\t<=s.size/\WO=W/\zdJ (λx=>x !=41) s (s.size-(a+1)) (a+1)=zdJ (λx=>x !=41) s (s.size-t) t) (λj _=>s.size-(intOf j).toNat)
    case atStart=>exact⟨a+1,by go_num,by omega,by omega,rfl,rfl⟩
    case round=>
     obtain⟨t,rfl,ht1,ht2,rfl,hsc⟩:=hrel;have HSC:=Hd hsc;clear hsc;by_cases htl:t<s.size
     ·have t0:(0:Int)<=(t:Int):=by omega
      have t1:(t:Int)<(s.size:Int):=by omega
      rcases h41:(bt s t !=41)with _|_
      ·have ET:Hid (zdJ (λx=>x !=41) s (s.size-(a+1)) (a+1)=t):=by unfold Hid;rw[HSC.o];exact wU htl h41
       have h41':(bt s t==41)=true:=by simpa using h41
       have E:=Hd (HSTEP.o (t+1) none (by rw[HL.o,ET.o,Iq (by omega)]) (by omega));obtain⟨k',e1,e2⟩:=E.o;have HE1:=Hd e1;have hne:((t:Int)==(s.size:Int))=false:=by simp;omega
       clear e1;go_wp2_with fail;exact⟨⟨acc,k',t+1,O,cO,rfl,by go_num,by omega,by omega,HS.o,by simpa using HE1.o,e2⟩,by simp only[intOf];omega⟩
      ·have h41':(bt s t==41)=false:=by simpa using h41
       go_wp2_with fail;exact⟨⟨t+1,by go_num,by omega,by omega,by first|rfl|trivial,by rw[HSC.o];exact qgT htl h41⟩,by simp only[intOf];omega⟩
     ·have hte:t=s.size:=by omega
      subst hte;have E:Hid (zfV s=([],(a:Int),2)):=HFAIL.o (by rw[HL.o,HSC.o,qbM,Ip rfl];simp);have hne:((s.size:Int)==(s.size:Int))=true:=by simp
      go_wp2_with fail;exact bodyPost_ret (fQ results97 _ _ _) rfl ⟨none,0,by rw[E.o];rfl,by rw[E.o];exact RdT.nil _ _ _,HS.o.bel⟩
   have n40:(bt s a==40)=false:=by simpa using w3
   rcases w4:zeN (bt s a)with _|_
   rotate_left
   ·have HP:Hid (zeN (bt s a)=true):=w4;have HL:Hid (zfR s a=if(zdF (zeM (s.extract a (zdJ zeN s (s.size-(a+1)) (a+1))))).2≠0 then(zdJ zeN s (s.size-(a+1)) (a+1),none,2)else(zdJ zeN s (s.size-(a+1)) (a+1),some ⟨2,(zdF (zeM (s.extract a (zdJ zeN s (s.size-(a+1)) (a+1))))).1,a,⟨#[]⟩⟩,0)):=by unfold Hid zfR;dsimp only;rw[Iq w1,Iq w2,Iq w3,Ip w4]
    go_wp2_with(go_at_call 128;refine(fC _ _).mono ?_;rw[HP.o];rintro e w2 ⟨rfl,rfl⟩);go_loopw[8] (λj W=>∃t:Nat,j=.int .i64 (t:Int)/\a+1<=t/\t<=s.size/\WO=W/\zdJ zeN s (s.size-(a+1)) (a+1)=zdJ zeN s (s.size-t) t) (λj _=>s.size-(intOf j).toNat)
    case atStart=>exact⟨a+1,by go_num,by omega,by omega,rfl,rfl⟩
    case round=>
     obtain⟨t,rfl,ht1,ht2,rfl,hsc⟩:=hrel;have HSC:=Hd hsc;clear hsc;have FIN:Hid (zdJ zeN s (s.size-(a+1)) (a+1)=t->zfR s a=if(zdF (zeM (s.extract a t))).2≠0 then(t,none,2)else(t,some ⟨2,(zdF (zeM (s.extract a t))).1,a,⟨#[]⟩⟩,0)):=λe=>by rw[HL.o,e]
     by_cases htl:t<s.size
     ·have t0:(0:Int)<=(t:Int):=by omega
      have t1:(t:Int)<(s.size:Int):=by omega
      rcases hpt:zeN (bt s t)with _|_
      ·have HPT:Hid (zeN (bt s t)=false):=hpt;have ET:Hid (zdJ zeN s (s.size-(a+1)) (a+1)=t):=by unfold Hid;rw[HSC.o];exact wU htl hpt
       have HLT:=Hd (FIN.o ET.o);clear hpt;have t2:(a:Int)<=(t:Int):=by omega
       have t3:(t:Int)<=(s.size:Int):=by omega
       have hxs:(s.extract a t).size<=maxLen:=by rw[ByteArray.size_extract];unfold maxLen;omega
       have HPR:=Hd (qJ (s.extract a t) hxs WO);have hbd:=xF (zeM (s.extract a t));generalize zdF (zeM (s.extract a t))=r at HPR HLT hbd;obtain⟨r1,r2⟩:=r;dsimp only at HPR HLT hbd;by_cases hr:r2=0
       ·subst hr;have E:=Hd (HSTEP.o t (some ⟨2,r1,a,⟨#[]⟩⟩) (by rw[HLT.o,Iq (by simp)]) (by omega));obtain⟨k',e1,e2⟩:=E.o;have HE1:=Hd e1;clear e1;go_wp2_with(first|(go_at_call 128;refine(fC _ _).mono ?_;rw[HPT.o];rintro e w2 ⟨rfl,rfl⟩)|(go_at_call 129;refine HPR.o.mono ?_;rintro e w3 ⟨rfl,rfl⟩)|(at_builtin;refine wpList_append_lies _ rfl (.tmp 86) (.tmp 90) 148 rfl w.heap.size 157 iT zT 4 40 underlying148 HIT.o HZT.o hT1 hT2 hTs (by omega) (.slice O acc.length cO) acc.length (fT acc) rfl (HOW.o.alloc _) ⟨WO.heap.size,0,none⟩ 1 1 [.int .i64 2,.int .i64 r1,.int .i64 (a:Int),.string ⟨#[]⟩] rfl rfl (Nk (Hn WO _)) (by intro u hu;simp only[List.mem_cons,List.not_mem_nil,or_false]at hu;rcases hu with rfl|rfl|rfl|rfl<;>rfl) (by omega) (by unfold maxLen;omega) (by omega) (by have:=HS.o.bel.size;simp;omega) _ rfl ?_;intro g9 c9 w9 ho9 hg9 hl9 hlt9;have HNX:=Hd (HS.o.push (t:=⟨2,r1,a,⟨#[]⟩⟩) (by unfold I64;dsimp only;omega) ((Bf WO.heap.size WO).alloc (Le _) _) (by simpa using ho9) (by simpa using hg9));clear ho9 hg9 hl9 hlt9));exact⟨⟨acc++[⟨2,r1,a,⟨#[]⟩⟩],k',t,some ⟨g9,0,none⟩,c9,by simp,rfl,by omega,by simp;omega,HNX.o,by simpa using HE1.o,e2⟩,by simp only[intOf];omega⟩
       ·have E:Hid (zfV s=([],(a:Int),2)):=HFAIL.o (by rw[HLT.o,Ip hr];simp);have hr1:(r2==0)=false:=by simpa using hr
        have hr2:(r2 !=0)=true:=by simpa using hr
        go_wp2_with(first|(go_at_call 128;refine(fC _ _).mono ?_;rw[HPT.o];rintro e w2 ⟨rfl,rfl⟩)|(go_at_call 129;refine HPR.o.mono ?_;rintro e w3 ⟨rfl,rfl⟩));exact bodyPost_ret (fQ results97 _ _ _) rfl ⟨none,0,by rw[E.o];rfl,by rw[E.o];exact RdT.nil _ _ _,HS.o.bel⟩
      ·have HPT:Hid (zeN (bt s t)=true):=hpt;go_wp2_with(go_at_call 128;refine(fC _ _).mono ?_;rw[HPT.o];rintro e w2 ⟨rfl,rfl⟩);exact⟨⟨t+1,by go_num,by omega,by omega,by first|rfl|trivial,by rw[HSC.o];exact qgT htl hpt⟩,by simp only[intOf];omega⟩
     ·have hte:t=s.size:=by omega
      subst hte;have HLT:=Hd (FIN.o (by rw[HSC.o,qbM]));have t2:(a:Int)<=(s.size:Int):=by omega
      have t3:(s.size:Int)<=(s.size:Int):=by omega
      have hxs:(s.extract a s.size).size<=maxLen:=by rw[ByteArray.size_extract];unfold maxLen;omega
      have HPR:=Hd (qJ (s.extract a s.size) hxs WO);have hbd:=xF (zeM (s.extract a s.size));generalize zdF (zeM (s.extract a s.size))=r at HPR HLT hbd;obtain⟨r1,r2⟩:=r;dsimp only at HPR HLT hbd;by_cases hr:r2=0
      ·subst hr;have E:=Hd (HSTEP.o s.size (some ⟨2,r1,a,⟨#[]⟩⟩) (by rw[HLT.o,Iq (by simp)]) (by omega));obtain⟨k',e1,e2⟩:=E.o;have HE1:=Hd e1;clear e1;go_wp2_with(first|(go_at_call 129;refine HPR.o.mono ?_;rintro e w3 ⟨rfl,rfl⟩)|(at_builtin;refine wpList_append_lies _ rfl (.tmp 86) (.tmp 90) 148 rfl w.heap.size 157 iT zT 4 40 underlying148 HIT.o HZT.o hT1 hT2 hTs (by omega) (.slice O acc.length cO) acc.length (fT acc) rfl (HOW.o.alloc _) ⟨WO.heap.size,0,none⟩ 1 1 [.int .i64 2,.int .i64 r1,.int .i64 (a:Int),.string ⟨#[]⟩] rfl rfl (Nk (Hn WO _)) (by intro u hu;simp only[List.mem_cons,List.not_mem_nil,or_false]at hu;rcases hu with rfl|rfl|rfl|rfl<;>rfl) (by omega) (by unfold maxLen;omega) (by omega) (by have:=HS.o.bel.size;simp;omega) _ rfl ?_;intro g9 c9 w9 ho9 hg9 hl9 hlt9;have HNX:=Hd (HS.o.push (t:=⟨2,r1,a,⟨#[]⟩⟩) (by unfold I64;dsimp only;omega) ((Bf WO.heap.size WO).alloc (Le _) _) (by simpa using ho9) (by simpa using hg9));clear ho9 hg9 hl9 hlt9));exact⟨⟨acc++[⟨2,r1,a,⟨#[]⟩⟩],k',s.size,some ⟨g9,0,none⟩,c9,by simp,rfl,by omega,by simp;omega,HNX.o,by simpa using HE1.o,e2⟩,by simp only[intOf];omega⟩
      ·have E:Hid (zfV s=([],(a:Int),2)):=HFAIL.o (by rw[HLT.o,Ip hr];simp);have hr1:(r2==0)=false:=by simpa using hr
       have hr2:(r2 !=0)=true:=by simpa using hr
       go_wp2_with(first|(go_at_call 129;refine HPR.o.mono ?_;rintro e w3 ⟨rfl,rfl⟩));exact bodyPost_ret (fQ results97 _ _ _) rfl ⟨none,0,by rw[E.o];rfl,by rw[E.o];exact RdT.nil _ _ _,HS.o.bel⟩
   by_cases w5:65<=bt s a/\bt s a<=90
   ·have w5a:=w5.1;have w5b:=w5.2;have h65:decide (bt s a≥65)=true:=Dt w5.1;have h90:decide (bt s a<=90)=true:=Dt w5.2;have HP4:=Hd w4;have HNM:=Hd (qjU s a (by omega) hlt WO);have HNS:=qcE s a hlt;have HL:Hid (zfR s a=if(zeZ s a).size=0 then(a+1,some ⟨1,bt s a,a,⟨#[]⟩⟩,0)else(a+(zeZ s a).size,some ⟨3,0,a,zeZ s a⟩,0)):=by unfold Hid zfR;dsimp only;rw[Iq w1,Iq w2,Iq w3,Iq (by rw[w4];simp),Ip w5]
    generalize zeZ s a=nm at HNM HNS HL;by_cases hz:nm.size=0
    ·have hnm:nm=⟨#[]⟩:=by
      obtain⟨⟨l⟩⟩:=nm;have:l.length=0:=hz;rw[Ez this]
     subst hnm;have E:=Hd (HSTEP.o (a+1) (some ⟨1,bt s a,a,⟨#[]⟩⟩) (by rw[HL.o,Ip hz]) (by omega));obtain⟨k',e1,e2⟩:=E.o;have HE1:=Hd e1;clear e1;go_wp2_with(first|(go_at_call 128;refine(fC _ _).mono ?_;rw[HP4.o];rintro e w2 ⟨rfl,rfl⟩)|(go_at_call 130;refine HNM.o.mono ?_;rintro e w3 ⟨rfl,hb⟩;have HSb:=Hd (HS.o.below hb);have HOWb:Hid (w3.ownsRow w.heap.size 157 4 (.slice O acc.length cO) acc.length (fT acc)):=HSb.o.own;clear hb)|(at_builtin;refine wpList_append_lies _ rfl (.tmp 104) (.tmp 109) 148 rfl w.heap.size 157 iT zT 4 40 underlying148 HIT.o HZT.o hT1 hT2 hTs (by omega) (.slice O acc.length cO) acc.length (fT acc) rfl (HOWb.o.alloc _) ⟨w3.heap.size,0,none⟩ 1 1 [.int .i64 1,.int .i64 (bt s a),.int .i64 (a:Int),.string ⟨#[]⟩] rfl rfl (Nk (Hn w3 _)) (by intro u hu;simp only[List.mem_cons,List.not_mem_nil,or_false]at hu;rcases hu with rfl|rfl|rfl|rfl<;>rfl) (by omega) (by unfold maxLen;omega) (by omega) (by have:=HSb.o.bel.size;simp;omega) _ rfl ?_;intro g9 c9 w9 ho9 hg9 hl9 hlt9;have HNX:=Hd (HSb.o.push (t:=⟨1,bt s a,a,⟨#[]⟩⟩) (by unfold I64;dsimp only;omega) ((Bf w3.heap.size w3).alloc (Le _) _) (by simpa using ho9) (by simpa using hg9));clear ho9 hg9 hl9 hlt9));exact⟨⟨acc++[⟨1,bt s a,a,⟨#[]⟩⟩],k',a+1,some ⟨g9,0,none⟩,c9,by simp,by go_num,by omega,by simp;omega,HNX.o,by simpa using HE1.o,e2⟩,by simp only[intOf];omega⟩
    ·have E:=Hd (HSTEP.o (a+nm.size) (some ⟨3,0,a,nm⟩) (by rw[HL.o,Iq hz]) (by omega));obtain⟨k',e1,e2⟩:=E.o;have HE1:=Hd e1;have hnl:decide (nm.toList=(⟨#[]⟩:ByteArray).toList)=false:=Df (λh=>hz (by have:=Eq.mp (mY _ _) h;rw[this];rfl));have hnl2:¬nm.toList=[]:=λh=>hz (by have:=Eq.mp (mY nm ⟨#[]⟩) (h.trans (by simp[ByteArray.toList_eq]));rw[this];rfl);have hnl4:nm.toList.isEmpty=false:=by rw[List.isEmpty_eq_false_iff];exact hnl2
     clear e1;go_wp2_with(first|(go_at_call 128;refine(fC _ _).mono ?_;rw[HP4.o];rintro e w2 ⟨rfl,rfl⟩)|(go_at_call 130;refine HNM.o.mono ?_;rintro e w3 ⟨rfl,hb⟩;have HSb:=Hd (HS.o.below hb);have HOWb:Hid (w3.ownsRow w.heap.size 157 4 (.slice O acc.length cO) acc.length (fT acc)):=HSb.o.own;clear hb)|(at_builtin;refine wpList_append_lies _ rfl (.tmp 115) (.tmp 119) 148 rfl w.heap.size 157 iT zT 4 40 underlying148 HIT.o HZT.o hT1 hT2 hTs (by omega) (.slice O acc.length cO) acc.length (fT acc) rfl (HOWb.o.alloc _) ⟨w3.heap.size,0,none⟩ 1 1 [.int .i64 3,.int .i64 0,.int .i64 (a:Int),.string nm] rfl rfl (Nk (Hn w3 _)) (by intro u hu;simp only[List.mem_cons,List.not_mem_nil,or_false]at hu;rcases hu with rfl|rfl|rfl|rfl<;>rfl) (by omega) (by unfold maxLen;omega) (by omega) (by have:=HSb.o.bel.size;simp;omega) _ rfl ?_;intro g9 c9 w9 ho9 hg9 hl9 hlt9;have HNX:=Hd (HSb.o.push (t:=⟨3,0,a,nm⟩) (by unfold I64;dsimp only;omega) ((Bf w3.heap.size w3).alloc (Le _) _) (by simpa using ho9) (by simpa using hg9));clear ho9 hg9 hl9 hlt9));exact⟨⟨acc++[⟨3,0,a,nm⟩],k',a+nm.size,some ⟨g9,0,none⟩,c9,by simp,by go_num,by omega,by simp;omega,HNX.o,by simpa using HE1.o,e2⟩,by simp only[intOf];omega⟩
   have g65:decide (bt s a≥65/\bt s a<=90)=false:=Df w5;rcases w6:ziL (bt s a)with _|_
   ·have E:Hid (zfV s=([],(a:Int),2)):=HFAIL.o (by unfold zfR;dsimp only;rw[Iq w1,Iq w2,Iq w3,Iq (by rw[w4];simp),Iq w5,Iq (by rw[w6];simp)];simp);have HP4:=Hd w4;have HP6:=Hd w6;have g1:decide (bt s a≥65)=true->decide (bt s a<=90)=false:=λh=>Df (λh2=>w5 ⟨of_decide_eq_true h,h2⟩);by_cases h65:65<=bt s a
    ·have h90:decide (bt s a<=90)=false:=Df (λh2=>w5 ⟨h65,h2⟩);have h65':decide (bt s a≥65)=true:=Dt h65;go_wp2_with(first|(go_at_call 128;refine(fC _ _).mono ?_;rw[HP4.o];rintro e w2 ⟨rfl,rfl⟩)|(go_at_call 131;refine(qE _ _).mono ?_;rw[HP6.o];rintro e w2 ⟨rfl,rfl⟩));exact bodyPost_ret (fQ results97 _ _ _) rfl ⟨none,0,by rw[E.o];rfl,by rw[E.o];exact RdT.nil _ _ _,HS.o.bel⟩
    ·have h65':decide (bt s a≥65)=false:=Df h65;go_wp2_with(first|(go_at_call 128;refine(fC _ _).mono ?_;rw[HP4.o];rintro e w2 ⟨rfl,rfl⟩)|(go_at_call 131;refine(qE _ _).mono ?_;rw[HP6.o];rintro e w2 ⟨rfl,rfl⟩));exact bodyPost_ret (fQ results97 _ _ _) rfl ⟨none,0,by rw[E.o];rfl,by rw[E.o];exact RdT.nil _ _ _,HS.o.bel⟩
   ·have HP4:=Hd w4;have HP6:=Hd w6;have a2:(a:Int)<=(a:Int)+1:=by omega
    have a3:(a:Int)+1<=(s.size:Int):=by omega
    have a4:((a:Int)+1).toNat=a+1:=by omega
    have E:=Hd (HSTEP.o (a+1) (some ⟨4,0,a,s.extract a (a+1)⟩) (by unfold zfR;dsimp only;rw[Iq w1,Iq w2,Iq w3,Iq (by rw[w4];simp),Iq w5,Ip w6]) (by omega));obtain⟨k',e1,e2⟩:=E.o;have HE1:=Hd e1;clear e1;rcases h65:decide (bt s a≥65)with _|_
    all_goals
     have h90:decide (bt s a≥65)=true->decide (bt s a<=90)=false:=λh=>Df (λh2=>w5 ⟨of_decide_eq_true h,h2⟩);try(have h90':=h90 h65)
     go_wp2_with(first|(go_at_call 128;refine(fC _ _).mono ?_;rw[HP4.o];rintro e w2 ⟨rfl,rfl⟩)|(go_at_call 131;refine(qE _ _).mono ?_;rw[HP6.o];rintro e w2 ⟨rfl,rfl⟩)|(at_builtin;refine wpList_append_lies _ rfl (.tmp 124) (.tmp 131) 148 rfl w.heap.size 157 iT zT 4 40 underlying148 HIT.o HZT.o hT1 hT2 hTs (by omega) (.slice O acc.length cO) acc.length (fT acc) rfl (HOW.o.alloc _) ⟨WO.heap.size,0,none⟩ 1 1 [.int .i64 4,.int .i64 0,.int .i64 (a:Int),.string (s.extract a (a+1))] rfl rfl (Nk (Hn WO _)) (by intro u hu;simp only[List.mem_cons,List.not_mem_nil,or_false]at hu;rcases hu with rfl|rfl|rfl|rfl<;>rfl) (by omega) (by unfold maxLen;omega) (by omega) (by have:=HS.o.bel.size;simp;omega) _ rfl ?_;intro g9 c9 w9 ho9 hg9 hl9 hlt9;have HNX:=Hd (HS.o.push (t:=⟨4,0,a,s.extract a (a+1)⟩) (by unfold I64;dsimp only;omega) ((Bf WO.heap.size WO).alloc (Le _) _) (by simpa using ho9) (by simpa using hg9));clear ho9 hg9 hl9 hlt9));exact⟨⟨acc++[⟨4,0,a,s.extract a (a+1)⟩],k',a+1,some ⟨g9,0,none⟩,c9,by simp,by go_num,by omega,by simp;omega,HNX.o,by simpa using HE1.o,e2⟩,by simp only[intOf];omega⟩
  ·have hae:a=s.size:=by omega
   have E:Hid (zfV s=(acc,(s.size:Int),0)):=by unfold Hid;rw[HTK.o];exact qmH hk hae
   have g0:decide ((a:Int)<(s.size:Int))=false:=Df (by omega);go_wp2_with fail;exact bodyPost_ret (fQ results97 _ _ _) rfl ⟨O,cO,by rw[E.o];rfl,by rw[E.o];exact HS.o.rd (by omega),HS.o.bel⟩
