/- Plain words. -/
import Derived.Test.YtdcjbhdfphcefaaGreatDoorBc
import Derived.Deep.Light
namespace Go.Proofs.YtdcjbhdfphcefaaGreatDoor
set_option linter.all false
set_option maxHeartbeats 4000000
open Go.Proofs.Tryz
def tb:List Int:=[45000000000,26565051177,14036243468,7125016349,3576334375,1789910608,895173710,447614171,223810500,111905677,55952892,27976453,13988227,6994114,3497057,1748528,874264,437132,218566,109283,54642,27321,13660,6830,3415,1708]
def tbl(i:Nat):Int:=tb.getD i 0
abbrev P3:=Int×Int×Int
def stS(i:Nat)(p:P3):P3:=if 0<=p.2.2 then(p.1-p.2.1/2^i,p.2.1+p.1/2^i,p.2.2-tbl i)else(p.1+p.2.1/2^i,p.2.1-p.1/2^i,p.2.2+tbl i)
def stA(i:Nat)(p:P3):P3:=if 0<=p.2.1 then(p.1+p.2.1/2^i,p.2.1-p.1/2^i,p.2.2+tbl i)else(p.1-p.2.1/2^i,p.2.1+p.1/2^i,p.2.2-tbl i)
def itS(p:P3):Nat->P3
 |0=>p
 |k+1=>stS k (itS p k)
def itA(p:P3):Nat->P3
 |0=>p
 |k+1=>stA k (itA p k)
def gr:Nat->Int
 |0=>1152921504606846976
 |k+1=>gr k+gr k/2^k+1
theorem qhU:gr 26<=9223372036854775000:=by decide+kernel
theorem xR:∀k,0<=gr k
 |0=>by decide
 |k+1=>by
  have h:=xR k;have h2:0<=gr k/2^k:=Int.ediv_nonneg h (Int.le_of_lt (Int.pow_pos (by decide)));simp only[gr];omega
theorem quY(k:Nat):gr k<=gr (k+1):=by
 have h2:0<=gr k/2^k:=Int.ediv_nonneg (xR k) (Int.le_of_lt (Int.pow_pos (by decide)));simp only[gr];omega
theorem quZ{j k:Nat}(h:j<=k):gr j<=gr k:=by
 induction h with
 |refl=>exact Int.le_refl _
 |step _ ih=>exact Int.le_trans ih (quY _)
theorem qzM{k:Nat}(h:k<=26):gr k<=9223372036854775000:=Int.le_trans (quZ h) qhU
theorem tI{b m:Int}(i:Nat)(h1: -m<=b)(h2:b<=m): -(m/2^i+1)<=b/2^i/\b/2^i<=m/2^i:=by
 have hp:(0:Int)<2^i:=Int.pow_pos (by decide);refine⟨?_,Int.ediv_le_ediv hp h2⟩;have h3:(-m)/2^i<=b/2^i:=Int.ediv_le_ediv hp h1;have h4: -(m/2^i+1)<=(-m)/2^i:=by
  rw[Int.le_ediv_iff_mul_le hp];have h5:=Int.emod_add_mul_ediv m (2^i);have h6:=Ie m hp;have h7: -(m/2^i+1)*2^i= -(2^i*(m/2^i))-2^i:=by rw[Int.neg_mul,Int.add_mul,Int.one_mul,Int.mul_comm];omega
  rw[h7];omega
 omega
theorem mX(i:Nat):0<=tbl i/\tbl i<=45000000000:=by
 have h:∀x∈tb,(0:Int)<=x/\x<=45000000000:=by decide
 unfold tbl;rw[Gd];rcases hx:tb[i]? with _|x
 ·simp
 ·exact h x (Mg hx)
def Bd(k:Nat)(p:P3):Prop:=(-gr k<=p.1/\p.1<=gr k)/\(-gr k<=p.2.1/\p.2.1<=gr k)/\-(100000000000+45000000000*k)<=p.2.2/\p.2.2<=100000000000+45000000000*k
theorem Bd.stS{k:Nat}{p:P3}(h:Bd k p):Bd (k+1) (stS k p):=by
 obtain⟨⟨a1,a2⟩,⟨b1,b2⟩,c1,c2⟩:=h;have h1:=tI k a1 a2;have h2:=tI k b1 b2;have h3:=mX k;have e:gr (k+1)=gr k+gr k/2^k+1:=rfl;unfold Proofs.YtdcjbhdfphcefaaGreatDoor.stS Bd;split;all_goals
  dsimp only;rw[e];refine⟨⟨?_,?_⟩,⟨?_,?_⟩,?_,?_⟩<;>omega
theorem Bd.stA{k:Nat}{p:P3}(h:Bd k p):Bd (k+1) (stA k p):=by
 obtain⟨⟨a1,a2⟩,⟨b1,b2⟩,c1,c2⟩:=h;have h1:=tI k a1 a2;have h2:=tI k b1 b2;have h3:=mX k;have e:gr (k+1)=gr k+gr k/2^k+1:=rfl;unfold Proofs.YtdcjbhdfphcefaaGreatDoor.stA Bd;split;all_goals
  dsimp only;rw[e];refine⟨⟨?_,?_⟩,⟨?_,?_⟩,?_,?_⟩<;>omega
theorem Bd.itS{p:P3}(h:Bd 0 p):∀k,Bd k (itS p k)
 |0=>h
 |k+1=>(Bd.itS h k).stS
theorem Bd.itA{p:P3}(h:Bd 0 p):∀k,Bd k (itA p k)
 |0=>h
 |k+1=>(Bd.itA h k).stA
theorem Bd.nums{k:Nat}{x y z:Int}(hk:k<26)(h:Bd k (x,y,z)):
 (-9223372036854775000<=x-y/2^k/\x-y/2^k<=9223372036854775000)/\(-9223372036854775000<=x+y/2^k/\x+y/2^k<=9223372036854775000)/\
 (-9223372036854775000<=y-x/2^k/\y-x/2^k<=9223372036854775000)/\(-9223372036854775000<=y+x/2^k/\y+x/2^k<=9223372036854775000)/\
 -2000000000000<=z/\z<=2000000000000:=by
 obtain⟨⟨a1,a2⟩,⟨b1,b2⟩,c1,c2⟩:=h;have h1:=tI k a1 a2;have h2:=tI k b1 b2;have e:gr (k+1)=gr k+gr k/2^k+1:=rfl;have g:=qzM (show k+1<=26 by omega);dsimp only at*
 omega
def trn(p:Int×Int):Nat->Int×Int
 |0=>p
 |k+1=>(-(trn p k).2,(trn p k).1)
theorem yE{p:Int×Int}{M:Int}(h1: -M<=p.1/\p.1<=M)(h2: -M<=p.2/\p.2<=M):∀k,(-M<=(trn p k).1/\(trn p k).1<=M)/\(-M<=(trn p k).2/\(trn p k).2<=M)
 |0=>⟨h1,h2⟩
 |k+1=>by
  have h:=yE h1 h2 k;simp only[trn];omega
def scR(angle:Int):Int:=angle%360000000
def scK(angle:Int):Int:=(scR angle+45000000)/90000000
def scZ(angle:Int):Int:=scR angle-scK angle*90000000
def zhQ(angle:Int):Int×Int:=if scZ angle=0 then(1073741824,0)else((itS (652032874,0,scZ angle*1000) 26).1,(itS (652032874,0,scZ angle*1000) 26).2.1)
def zcQ(angle:Int):Int×Int:=((trn (zhQ angle) (scK angle).toNat).2,(trn (zhQ angle) (scK angle).toNat).1)
inductive Tr where
 |none_
 |mk (op n:Int) (k:Nat) (kid:Nat->Tr)
def zbD(op:Int):Int:=
 if op=0 then 0
 else if(3<=op/\op<=7)\/op=11\/(17<=op/\op<=25)then 2
 else if 1<=op/\op<=25 then 1
 else-1
theorem jV(op:Int): -1<=zbD op/\zbD op<=2:=by unfold zbD;repeat' split<;>omega
def zfQ(op n:Int):Bool:=if op=0 then decide (0<=n/\n<1000000000000000)else decide (n=0)
def zaV:Nat->Tr->Bool
 |0,_=>false
 |_+1,.none_=>false
 |m+1,.mk op n k kid=>decide ((k:Int)=zbD op)&&zfQ op n&&(List.range k).all λi=>zaV m (kid i)
theorem cH{m:Nat}{op n:Int}{k:Nat}{kid:Nat->Tr}(h:zaV (m+1) (.mk op n k kid)=true):(k:Int)=zbD op/\zfQ op n=true/\∀i,i<k->zaV m (kid i)=true:=by
 simp only[zaV,Ba1,Du,List.all_eq_true,List.mem_range]at h;exact⟨h.1.1,h.1.2,h.2⟩
theorem bV{m:Nat}{op n:Int}{k:Nat}{kid:Nat->Tr}(h1:(k:Int)=zbD op)(h2:zfQ op n=true)(h3:∀i,i<k->zaV m (kid i)=true):zaV (m+1) (.mk op n k kid)=true:=by
 simp only[zaV,Ba1,Du,List.all_eq_true,List.mem_range];exact⟨⟨h1,h2⟩,h3⟩
theorem kN{m:Nat}{op n:Int}{k:Nat}{kid:Nat->Tr}(h:(k:Int)≠zbD op):zaV (m+1) (.mk op n k kid)=false:=by
 rcases e:zaV (m+1) (.mk op n k kid)
 ·rfl
 ·exact absurd (cH e).1 h
theorem tT{m:Nat}{op n:Int}{k:Nat}{kid:Nat->Tr}(h:zfQ op n=false):zaV (m+1) (.mk op n k kid)=false:=by
 rcases e:zaV (m+1) (.mk op n k kid)
 ·rfl
 ·have:=(cH e).2.1;rw[h]at this;cases this
theorem tS{m:Nat}{op n:Int}{k:Nat}{kid:Nat->Tr}{i:Nat}(hi:i<k)(h:zaV m (kid i)=false):zaV (m+1) (.mk op n k kid)=false:=by
 rcases e:zaV (m+1) (.mk op n k kid)
 ·rfl
 ·have:=(cH e).2.2 i hi;rw[h]at this;cases this
def qp(p:Int×Int):Nat->Int×Int
 |0=>p
 |j+1=>((qp p j).2,-(qp p j).1)
def Sec(p:Int×Int):Prop:=0<p.1/\-p.1<=p.2/\p.2<p.1
instance (p:Int×Int):Decidable (Sec p):=by unfold Sec;infer_instance
def kq(p:Int×Int):Nat:=if Sec p then 0 else if Sec (qp p 1)then 1 else if Sec (qp p 2)then 2 else 3
theorem qoZ(p:Int×Int):kq p<=3:=by
 unfold kq;by_cases h0:Sec p
 ·rw[Ip h0];omega
 rw[Iq h0];by_cases h1:Sec (qp p 1)
 ·rw[Ip h1];omega
 rw[Iq h1];by_cases h2:Sec (qp p 2)
 ·rw[Ip h2];omega
 ·rw[Iq h2];omega
theorem qpA(p:Int×Int)(h:p.1≠0\/p.2≠0):Sec (qp p (kq p)):=by
 unfold kq;by_cases h0:Sec p
 ·rw[Ip h0];exact h0
 rw[Iq h0];by_cases h1:Sec (qp p 1)
 ·rw[Ip h1];exact h1
 rw[Iq h1];by_cases h2:Sec (qp p 2)
 ·rw[Ip h2];exact h2
 rw[Iq h2];unfold Sec at*
 simp only[qp]at*
 omega
theorem qoY(p:Int×Int)(j:Nat)(h:j<kq p):¬Sec (qp p j):=by
 unfold kq at h;by_cases h0:Sec p
 ·rw[Ip h0]at h;omega
 rw[Iq h0]at h;by_cases h1:Sec (qp p 1)
 ·rw[Ip h1]at h;rw[show j=0 by omega];exact h0
 rw[Iq h1]at h;by_cases h2:Sec (qp p 2)
 ·rw[Ip h2]at h;have:j=0\/j=1:=by omega
  rcases this with rfl|rfl
  ·exact h0
  ·exact h1
 ·rw[Iq h2]at h;have:j=0\/j=1\/j=2:=by omega
  rcases this with rfl|rfl|rfl
  ·exact h0
  ·exact h1
  ·exact h2
theorem qnU{p:Int×Int}{M:Int}(h1: -M<=p.1/\p.1<=M)(h2: -M<=p.2/\p.2<=M):∀k,(-M<=(qp p k).1/\(qp p k).1<=M)/\(-M<=(qp p k).2/\(qp p k).2<=M)
 |0=>⟨h1,h2⟩
 |k+1=>by
  have h:=qnU h1 h2 k;simp only[qp];omega
def zkH(p:Int×Int):Int:=if p.2=0 then 0 else((itA (p.1*1048576,p.2*1048576,0) 26).2.2+500)/1000
def zgQ(x y:Int):Int:=((kq (x,y):Int)*90000000+zkH (qp (x,y) (kq (x,y))))%360000000
theorem qiF(x y:Int):0<=zgQ x y/\zgQ x y<360000000:=⟨Io _ (by omega),Ie _ (by omega)⟩
theorem tP(w:Int):(w-w%1000).tdiv 1000=w/1000:=by
 have h:=Int.emod_add_mul_ediv w 1000;rw[show w-w%1000=1000*(w/1000)by omega];exact Int.mul_tdiv_cancel_left _ (by omega)
theorem eB(a:Int):(-9223372036854775000<=(zcQ a).1/\(zcQ a).1<=9223372036854775000)/\(-9223372036854775000<=(zcQ a).2/\(zcQ a).2<=9223372036854775000):=by
 have h1:(-9223372036854775000<=(zhQ a).1/\(zhQ a).1<=9223372036854775000)/\(-9223372036854775000<=(zhQ a).2/\(zhQ a).2<=9223372036854775000):=by
  unfold zhQ;by_cases h:scZ a=0
  ·rw[Ip h];exact⟨⟨by omega,by omega⟩,by omega,by omega⟩
  ·rw[Iq h];have hz: -45000000<=scZ a/\scZ a<=45000000:=by unfold scZ scK scR;omega
   have hb:=Bd.itS (p:=(652032874,0,scZ a*1000)) (by refine⟨?_,?_,?_⟩<;>simp[gr]<;>omega) 26;obtain⟨⟨a1,a2⟩,⟨b1,b2⟩,_⟩:=hb;have g:=qhU;dsimp only;omega
 have h2:=yE h1.1 h1.2 (scK a).toNat;unfold zcQ;dsimp only;omega
def big(p:Int×Int):Prop:=p.1< -1099511627776\/(-1099511627776<=p.1/\1099511627776<p.1)\/(-1099511627776<=p.1/\p.1<=1099511627776/\p.2< -1099511627776)\/(-1099511627776<=p.1/\p.1<=1099511627776/\-1099511627776<=p.2/\1099511627776<p.2)
instance (p:Int×Int):Decidable (big p):=by unfold big;infer_instance
theorem small{x y:Int}(h:¬big (x,y)):(-1099511627776<=x/\x<=1099511627776)/\(-1099511627776<=y/\y<=1099511627776):=by unfold big at h;dsimp only at h;omega
def hvF:Nat->Int×Int->Int×Int
 |0,p=>p
 |f+1,p=>if big p then hvF f (p.1/2,p.2/2)else p
theorem qfK(f:Nat){p:Int×Int}(h:¬big p):hvF f p=p:=by
 cases f with
 |zero=>rfl
 |succ f=>simp only[hvF];rw[Iq h]
theorem qqL{f:Nat}{x:Int}(hf:f<=64)(h: -2^f<=x/\x<2^f): -18446744073709551616<=x/\x<18446744073709551616:=by
 have:(2:Int)^f<=2^64:=by
  have h1:(2:Nat)^f<=2^64:=Nat.pow_le_pow_right (by decide) hf;have h2:(((2:Nat)^f:Nat):Int)=(2:Int)^f:=by simp
  rw[<-h2];omega
 have e:(2:Int)^64=18446744073709551616:=by decide
 omega
theorem qhS{f:Nat}{x y:Int}{q:Int×Int}(h:hvF f (x,y)=q)(hb:(-2^f<=x/\x<2^f)/\(-2^f<=y/\y<2^f))(hg:big (x,y)):
 ∃f',hvF f' (x/2,y/2)=q/\(-2^f'<=x/2/\x/2<2^f')/\(-2^f'<=y/2/\y/2<2^f')/\f'<f/\(x/2≠0\/y/2≠0):=by
 have hc:=hg;unfold big at hc;dsimp only at hc;cases f with
 |zero=>simp at hb;omega
 |succ f=>
  have e:(2:Int)^(f+1)=2*2^f:=by rw[Int.pow_succ,Int.mul_comm]
  rw[e]at hb;simp only[hvF]at h;rw[Ip hg]at h;exact⟨f,h,by omega,by omega,by omega,by omega⟩
def zgP(y x:Int):Int×Int:=if x=0/\y=0 then(0,4)else(zgQ (hvF 64 (x,y)).1 (hvF 64 (x,y)).2,0)
def zhB(s c:Int):Int×Int:=if c=0 then(0,4)else if(mdS s 1000000 c 2).2&&vld (mdS s 1000000 c 2).1 then((mdS s 1000000 c 2).1,0)else(0,3)
def unS(op a:Int):Int×Int:=
 if op=2 then(-a,0)
 else if op=13 then(max a (-a),0)
 else if op=12 then zdR a
 else if op=14 then zdK a
 else if op=15 then zfM a
 else if op=16 then zfL a
 else if op=8 then((mdS (zcQ a).1 1000000 1073741824 2).1,0)
 else if op=9 then((mdS (zcQ a).2 1000000 1073741824 2).1,0)
 else zhB (zcQ a).1 (zcQ a).2
def zbS(op a b:Int):Bool:=
 if op=17 then a==b
 else if op=18 then a !=b
 else if op=19 then decide (b<a)
 else if op=20 then decide (b<=a)
 else if op=21 then decide (a<b)
 else if op=22 then decide (a<=b)
 else if op=23 then(a !=0)&&(b !=0)
 else if op=24 then(a !=0)||(b !=0)
 else(a !=0) !=(b !=0)
def arS(op a b:Int):Int×Int:=
 if op=3 then zhE a b else if op=4 then zhC a b else if op=5 then zhD a b else if op=6 then zgO a b else zgV a b
theorem qcR{op:Int}(h:zbD op=1)(h1:op≠1):op=2\/op=8\/op=9\/op=10\/op=12\/op=13\/op=14\/op=15\/op=16:=by
 unfold zbD at h;by_cases c0:op=0
 ·rw[Ip c0]at h;omega
 rw[Iq c0]at h;by_cases c2:(3<=op/\op<=7)\/op=11\/(17<=op/\op<=25)
 ·rw[Ip c2]at h;omega
 rw[Iq c2]at h;by_cases c1:1<=op/\op<=25
 ·omega
 ·rw[Iq c1]at h;omega
def zdT(V:Int->Int×Int)(op n a b:Int):Int×Int:=
 if op=0 then(n,0)
 else if op=1 then(if(zaY a).2 then V (zaY a).1 else(0,6))
 else if op=11 then zgP a b
 else if zbD op=1 then unS op a
 else if 17<=op then(if zbS op a b then 1000000 else 0,0)
 else arS op a b
def zbV(V:Int->Int×Int):Tr->Int×Int
 | .none_=>(0,0)
 | .mk op n k kid=>
  if k=0 then zdT V op n 0 0
  else if(zbV V (kid 0)).2≠0 then(0,(zbV V (kid 0)).2)
  else if k=1 then zdT V op n (zbV V (kid 0)).1 0
  else if(zbV V (kid 1)).2≠0 then(0,(zbV V (kid 1)).2)
  else zdT V op n (zbV V (kid 0)).1 (zbV V (kid 1)).1
theorem qcX{V:Int->Int×Int}{op n:Int}{k:Nat}{kid:Nat->Tr}(hk:k<=2)(h:∀x,x<k->(zbV V (kid x)).2=0):
 zbV V (.mk op n k kid)=zdT V op n (if 0<k then(zbV V (kid 0)).1 else 0) (if 1<k then(zbV V (kid 1)).1 else 0):=by
 have c:k=0\/k=1\/k=2:=by omega
 rcases c with rfl|rfl|rfl
 ·simp[zbV]
 ·have h0:=h 0 (by omega);simp[zbV,h0]
 ·have h0:=h 0 (by omega);have h1:=h 1 (by omega);simp[zbV,h0,h1]
theorem xV{V:Int->Int×Int}{op n:Int}{k j:Nat}{kid:Nat->Tr}(hk:k<=2)(hj:j<k)(h:∀x,x<j->(zbV V (kid x)).2=0)(he:(zbV V (kid j)).2≠0):
 zbV V (.mk op n k kid)=(0,(zbV V (kid j)).2):=by
 have c:j=0\/j=1:=by omega
 rcases c with rfl|rfl
 ·have hk0:k≠0:=by omega
  simp[zbV,he,hk0]
 ·have h0:=h 0 (by omega);have hk2:k=2:=by omega
  subst hk2;simp[zbV,h0,he]
theorem qkG{op:Int}{k:Nat}(h:(k:Int)=zbD op)(h0:op≠0)(h1:zbD op≠1):(3<=op/\op<=7)\/op=11\/(17<=op/\op<=25):=by
 unfold zbD at h h1;rw[Iq h0]at h h1;by_cases c2:(3<=op/\op<=7)\/op=11\/(17<=op/\op<=25)
 ·exact c2
 rw[Iq c2]at h h1;by_cases c1:1<=op/\op<=25
 ·rw[Ip c1]at h1;omega
 ·rw[Iq c1]at h;omega
def Sml(z:Int):Prop:= -10000000000000000<=z/\z<=10000000000000000
theorem qaP(z:Int):Sml (chk z).1:=by
 rcases h:vld z
 ·rw[rC h];unfold Sml;omega
 ·rw[kR h];have:=aP h;unfold Sml;dsimp only;omega
theorem qmX(z:Int)(b:Bool)(h0:0<=z)(h1:z<=10000000000000000):Sml (zbE z b).1:=by
 unfold zbE Sml;rcases b with _|_
 ·rw[Iq (by decide)];split<;>dsimp only<;>omega
 ·rw[Ip rfl];split<;>dsimp only<;>omega
theorem qnB(s:Int)(h1: -9223372036854775000<=s)(h2:s<=9223372036854775000):Sml (mdS s 1000000 1073741824 2).1:=by
 unfold mdS;have e1:mg s<=9223372036854775000:=by unfold mg;omega
 have e0:0<=mg s:=by unfold mg;omega
 have e2:mg 1000000=1000000:=rfl;have e3:mg 1073741824=1073741824:=rfl;have hA:0<=mdA s 1000000 1073741824 2/\mdA s 1000000 1073741824 2<=10000000000000000:=by
  unfold mdA;rw[e2,e3];split<;>omega
 exact qmX _ _ hA.1 hA.2
theorem qvX(a b:Int):Sml (zhE a b).1:=by unfold zhE;split<;>first|exact qaP _|(unfold Sml;dsimp only;omega)
theorem qtD(a b:Int):Sml (zhC a b).1:=by unfold zhC;split<;>first|exact qaP _|(unfold Sml;dsimp only;omega)
theorem qgU(a b c:Int):Sml (zgT a b c).1:=by unfold zgT;split<;>first|exact qaP _|(unfold Sml;dsimp only;omega)
theorem quI(a b:Int):Sml (zhD a b).1:=by unfold zhD;split<;>first|exact qgU _ _ _|(unfold Sml;dsimp only;omega)
theorem qvL(a b:Int):Sml (zgO a b).1:=by
 unfold zgO;split
 ·split<;>first|exact qgU _ _ _|(unfold Sml;dsimp only;omega)
 ·unfold Sml;dsimp only;omega
theorem quK(a b:Int):Sml (zgV a b).1:=by
 rcases h:(vld a&&vld b)
 ·rw[sD h];unfold Sml;dsimp only;omega
 ·simp only[Ba1]at h;by_cases hb:b=0
  ·subst hb;rw[mP h.1];unfold Sml;dsimp only;omega
  ·rw[oX h.1 h.2 hb];have h1:=Io a hb;have h2:=Int.emod_lt a hb;have h3:=aP h.2;unfold Sml;dsimp only;omega
theorem zaO(op a b:Int):Sml (arS op a b).1:=by
 unfold arS
 repeat' split
 ·exact qvX a b
 ·exact qtD a b
 ·exact quI a b
 ·exact qvL a b
 ·exact quK a b
theorem bQ:Sml 0:=by unfold Sml;omega
theorem qmN(a:Int):Sml (zdR a).1:=by
 unfold zdR;rcases h:vld a
 ·exact bQ
 ·have hv:=aP h;rw[Ip rfl];by_cases h0:a<0
  ·rw[Ip h0];exact bQ
  ·rw[Iq h0];have h1:=mQ (x:=a*1000000) (by omega) (by omega);have h2:=(jW (a*1000000) (by omega)).1;have h3:=yI (a*1000000) 2 (isq (a*1000000));unfold Sml;dsimp only;omega
theorem qjG(a:Int):Sml (zdK a).1:=by
 unfold zdK;rcases h:vld a
 ·exact bQ
 ·have hv:=aP h;rw[Ip rfl];unfold Sml rnd;dsimp only;rw[Iq (by omega),Iq (by omega)];omega
theorem qvD(a:Int):Sml (zfM a).1:=by
 unfold zfM;rcases h:vld a
 ·exact bQ
 ·have hv:=aP h;rw[Ip rfl];unfold Sml rnd;dsimp only;split
  ·rw[Iq (by omega),Ip rfl];omega
  ·rw[Ip rfl];omega
theorem qvA(a:Int):Sml (zfL a).1:=by
 unfold zfL;rcases h:vld a
 ·exact bQ
 ·have hv:=aP h;rw[Ip rfl];unfold Sml rnd;dsimp only;split
  ·rw[Ip rfl];omega
  ·rw[Iq (by omega),Ip rfl];omega
theorem qtB(s c:Int):Sml (zhB s c).1:=by
 unfold zhB;split
 ·exact bQ
 ·split
  ·rename_i h;simp only[Ba1]at h;have:=aP h.2;unfold Sml;dsimp only;omega
  ·exact bQ
theorem qwN(op a:Int)(h:Sml a):Sml (unS op a).1:=by
 have hs:=eB a;unfold unS
 repeat' split
 ·unfold Sml at*;dsimp only;omega
 ·unfold Sml at*;dsimp only;omega
 ·exact qmN a
 ·exact qjG a
 ·exact qvD a
 ·exact qvA a
 ·exact qnB _ hs.1.1 hs.1.2
 ·exact qnB _ hs.2.1 hs.2.2
 ·exact qtB _ _
theorem qvM(y x:Int):Sml (zgP y x).1:=by
 unfold zgP;split
 ·exact bQ
 ·have:=qiF (hvF 64 (x,y)).1 (hvF 64 (x,y)).2;unfold Sml;dsimp only;omega
theorem qaG{V:Int->Int×Int}(hV:∀n,Sml (V n).1){op n a b:Int}(hn:zfQ op n=true)(ha:Sml a):Sml (zdT V op n a b).1:=by
 unfold zdT;by_cases c0:op=0
 ·rw[Ip c0];unfold zfQ at hn;rw[Ip c0]at hn;have:=of_decide_eq_true hn;unfold Sml;dsimp only;omega
 rw[Iq c0];by_cases c1:op=1
 ·rw[Ip c1];split
  ·exact hV _
  ·exact bQ
 rw[Iq c1];by_cases c2:op=11
 ·rw[Ip c2];exact qvM _ _
 rw[Iq c2];by_cases c3:zbD op=1
 ·rw[Ip c3];exact qwN _ _ ha
 rw[Iq c3];by_cases c4:17<=op
 ·rw[Ip c4];dsimp only;split<;>(unfold Sml;omega)
 ·rw[Iq c4];exact zaO _ _ _
theorem jX{V:Int->Int×Int}(hV:∀n,Sml (V n).1):∀(t:Tr) (m:Nat),zaV m t=true->Sml (zbV V t).1:=by
 intro t;induction t with
 |none_=>intro m h;cases m<;>cases h
 |mk op n k kid ih=>
  intro m h;rcases m with _|m
  ·cases h
  obtain⟨h1,h2,h3⟩:=cH h;have hb:=jV op;simp only[zbV];by_cases k0:k=0
  ·rw[Ip k0];exact qaG hV h2 bQ
  rw[Iq k0];have s0:=ih 0 m (h3 0 (by omega));split
  ·exact bQ
  split
  ·exact qaG hV h2 s0
  split
  ·exact bQ
  ·exact qaG hV h2 s0
open Go.RowKit
def I64(z:Int):Prop:= -9223372036854775808<=z/\z<=9223372036854775807
def Rd(w:World)(B:Nat):Tr->Value->Prop
 | .none_,_=>False
 | .mk op n k kid,v=>∃(A:OA) (c:Nat),v=.agg #[.int .i64 op,.int .i64 n,.slice A k c]/\I64 op/\I64 n/\k<=maxLen/\
  (0<k->∃ab off:Nat,A=some ⟨ab,off,none⟩/\ab<B/\∀i,i<k->∃x y z:Value,w.cell? ⟨ab,off+i*3,none⟩=some x/\w.cell? ⟨ab,off+i*3+1,none⟩=some y/\w.cell? ⟨ab,off+i*3+2,none⟩=some z/\Rd w B (kid i) (.agg #[x,y,z]))
theorem Rd.keep{w w':World}{B B':Nat}{t:Tr}(hk:∀p:Addr,p.block<B->w'.cell? p=w.cell? p)(hB:B<=B'):∀{v:Value},Rd w B t v->Rd w' B' t v:=by
 induction t with
 |none_=>intro v h;exact h.elim
 |mk op n k kid ih=>
  intro v ⟨A,c,h1,h2,h3,h4,h5⟩;refine⟨A,c,h1,h2,h3,h4,λh=> ?_⟩;obtain⟨ab,off,e,hl,hr⟩:=h5 h;refine⟨ab,off,e,by omega,λi hi=> ?_⟩;obtain⟨x,y,z,c1,c2,c3,c4⟩:=hr i hi;exact⟨x,y,z,(hk _ hl).trans c1,(hk _ hl).trans c2,(hk _ hl).trans c3,ih i c4⟩
theorem Rd.below{w w':World}{B B':Nat}{t:Tr}{v:Value}(h:Rd w B t v)(hb:Below B w w')(hB:B<=B'):Rd w' B' t v:=h.keep (λ_ hp=>hb.cell hp) hB
def Kids(w:World)(B:Nat)(kid:Nat->Tr)(A:OA)(k:Nat):Prop:=
 ∃ab off:Nat,A=some ⟨ab,off,none⟩/\ab<B/\∀i,i<k->∃(o n:Int) (A':OA) (k' c':Nat),w.cell? ⟨ab,off+i*3,none⟩=some (.int .i64 o)/\w.cell? ⟨ab,off+i*3+1,none⟩=some (.int .i64 n)/\w.cell? ⟨ab,off+i*3+2,none⟩=some (.slice A' k' c')/\Rd w B (kid i) (.agg #[.int .i64 o,.int .i64 n,.slice A' k' c'])
theorem Rd.form{w:World}{B:Nat}{t:Tr}{x y z:Value}(h:Rd w B t (.agg #[x,y,z])):∃(o n:Int) (A':OA) (k' c':Nat),x=.int .i64 o/\y=.int .i64 n/\z=.slice A' k' c':=by
 rcases t with _|⟨op,n,k,kid⟩
 ·exact h.elim
 obtain⟨A,c,h1,_⟩:=h;simp only[Value.agg.injEq,Array.mk.injEq,List.cons.injEq,and_true]at h1;exact⟨_,_,_,_,_,h1.1,h1.2.1,h1.2.2⟩
theorem Rd.open_{w:World}{B:Nat}{op n:Int}{k:Nat}{kid:Nat->Tr}{v:Value}(h:Rd w B (.mk op n k kid) v):
 ∃(A:OA) (c:Nat),v=.agg #[.int .i64 op,.int .i64 n,.slice A k c]/\I64 op/\I64 n/\k<=maxLen/\(0<k->Kids w B kid A k):=by
 obtain⟨A,c,h1,h2,h3,h4,h5⟩:=h;refine⟨A,c,h1,h2,h3,h4,λhk=> ?_⟩;obtain⟨ab,off,e,hl,hr⟩:=h5 hk;refine⟨ab,off,e,hl,λi hi=> ?_⟩;obtain⟨x,y,z,c1,c2,c3,c4⟩:=hr i hi;obtain⟨o,n',A',k',c',rfl,rfl,rfl⟩:=c4.form;exact⟨o,n',A',k',c',c1,c2,c3,c4⟩
theorem Rd.shut{w:World}{B:Nat}{op n:Int}{k:Nat}{kid:Nat->Tr}{A:OA}{c:Nat}(h2:I64 op)(h3:I64 n)(h4:k<=maxLen)(h5:0<k->Kids w B kid A k):Rd w B (.mk op n k kid) (.agg #[.int .i64 op,.int .i64 n,.slice A k c]):=by
 refine⟨A,c,rfl,h2,h3,h4,λhk=> ?_⟩;obtain⟨ab,off,e,hl,hr⟩:=h5 hk;refine⟨ab,off,e,hl,λi hi=> ?_⟩;obtain⟨o,n',A',k',c',c1,c2,c3,c4⟩:=hr i hi;exact⟨_,_,_,c1,c2,c3,c4⟩
theorem pB(op:Int)(w:World):
 Calls prog 153 #[.int .i64 op] w λe w'=>e=.returned (.int .i64 (zbD op))/\w=w':=by
 go_enter func153,ntmps153;go_wp2;all_goals
  go_ret;refine⟨aO ?_,rfl⟩;go_light
  (try simp only[beq_iff_eq,beq_eq_false_iff_ne,ne_eq]at*)
  unfold zbD
  repeat' split
  all_goals omega
theorem bD{P:Program}{f:FuncId}{args:Array Value}{w:World}{n:Nat}{v:Value}(h:Calls P f args (w.drewN n) λe w'=>e=.returned v/\w.drewN n=w'):
 Calls P f args (w.drewN n) λe w''=>e=.returned v/\∃n,w''=w.drewN n:=h.mono λ_ _ ⟨he,hm⟩=>⟨he,n,hm.symm⟩
theorem aE{B:Nat}{w:World}(o:Obj)(hB:B<=w.heap.size):Below B w (w.alloc o):=(Bf _ _).alloc hB _
theorem cJ{w:World}(o:Obj)(n:Nat):Bw w ((w.alloc o).drewN n):=aA (nB _ _) n
def RRel(m k:Nat)(kid:Nat->Tr)(n:Int)(w0:World)(i:Value)(w:World):Prop:=
 ∃j:Nat,j<=k/\i=.int .i64 (j:Int)/\(∀x,x<j->zaV m (kid x)=true)/\Bw w0 w/\w.cell? ⟨w0.heap.size,1,none⟩=some (.int .i64 n)/\w0.heap.size<w.heap.size
theorem qjJ(m:Nat):∀(t:Tr) (v:Value) (w:World),m<=16->Rd w w.heap.size t v->
 Calls prog 121 #[v,.int .i64 m] w λe w'=>e=.returned (.bool (zaV m t))/\Bw w w':=by
 induction m with
 |zero=>
  intro t v w hm hr;rcases t with _|⟨op,n,k,kid⟩
  ·exact hr.elim
  obtain⟨A,c,rfl,hop,hn,hk,hkids⟩:=hr.open_;clear hr;clear hkids;go_enter func121,ntmps121;go_wp2;go_quiet((go_at_call 153;exact bD (pB _ _)));go_wp2;go_ret;exact⟨rfl,cJ _ _⟩
 |succ m ih=>
  intro t v w hm hr;rcases t with _|⟨op,n,k,kid⟩
  ·exact hr.elim
  obtain⟨A,c,rfl,hop,hn,hk,hkids⟩:=hr.open_;clear hr;obtain⟨q,hq⟩:∃q:Int,q=((m+1:Nat):Int):=⟨_,rfl⟩;have hq1:q-1=(m:Int):=by omega
  have hq2:1<=q:=by omega
  have hq3:q<=16:=by omega
  have hq0:(q==0)=false:=by simp;omega
  rw[<-hq];have HQ1:=Hd hq1;clear hq hq1;by_cases hkk:(k:Int)=zbD op
  case neg=>
   rw[kN hkk];have hkk':((k:Int)==zbD op)=false:=by simpa using hkk
   have hkk'':((k:Int) !=zbD op)=true:=by simpa using hkk
   clear hkids hkk;go_enter func121,ntmps121;go_wp2;go_quiet((go_at_call 153;exact bD (pB _ _)));go_wp2;go_ret;exact⟨rfl,cJ _ _⟩
  have hkk':((k:Int)==zbD op)=true:=by simpa using hkk
  have hkk'':((k:Int) !=zbD op)=false:=by simpa using hkk
  by_cases h0:op=0
  ·subst h0;have hk0:k=0:=by have:zbD 0=0:=rfl;omega
   subst hk0;have HL:Hid (zaV (m+1) (.mk 0 n 0 kid)=zfQ 0 n):=by show zaV _ _=_;simp[zaV,zbD]
   have HN:Hid (zfQ 0 n=decide (0<=n/\n<1000000000000000)):=rfl;clear hkids hkk;go_enter func121,ntmps121;go_wp2;go_quiet((go_at_call 153;exact bD (pB _ _)));go_wp2;all_goals
    go_ret;refine⟨?_,cJ _ _⟩;rw[HL.o,HN.o];go_light;simp;omega
  have h0':(op==0)=false:=by simpa using h0
  have hk2:k<=2:=by have:=jV op;omega
  have HK:=Hd hkk;have HKI:=Hd hkids;clear hkids hkk;go_enter func121,ntmps121;go_wp2;go_quiet((go_at_call 153;exact bD (pB _ _)));go_wp2;go_loopw[32] (RRel m k kid n w) (λi _=>k-(intOf i).toNat)
  case atStart=>exact⟨0,by omega,rfl,λx hx=>absurd hx (by omega),cJ _ _,by simp[World.cell?_alloc_new],by simp⟩
  case round=>
   obtain⟨j,hj,rfl,hjr,hb,hbox,hsz⟩:=hrel;have HJ:=Hd hjr;have HB:=Hd hb;clear hjr hb;by_cases hlt:j<k
   ·obtain⟨ab,off,rfl,hab,hc⟩:=HKI.o (by omega);obtain⟨o,n',A',k',c',c0,c1,c2,hr⟩:=hc j hlt;have HR:=Hd hr;have d0:=HB.o.ct hab c0;have d1:=HB.o.ct hab c1;have d2:=HB.o.ct hab c2;clear hc c0 c1 c2 hr;have hc0:∀W:World,Bw w W->Calls prog 121 #[.agg #[.int .i64 o,.int .i64 n',.slice A' k' c'],.int .i64 (q-1)] W λe w'=>e=.returned (.bool (zaV m (kid j)))/\Bw W w':=λW hb=>by
     rw[HQ1.o];exact ih (kid j) _ W (by omega) (HR.o.below hb hb.size)
    have HC:=Hd hc0;clear hc0;rcases hrj:zaV m (kid j)with _|_
    ·have HJ2:=Hd hrj;clear hrj;rw[HJ2.o]at HC;go_wp2_with(go_at_call 121;refine(HC.o _ (HB.o.trans (aE _ (Ll hsz)))).mono ?_;rintro e w1 ⟨rfl,hb⟩;have HN:=Hd hb;clear hb);go_ret;rw[tS hlt HJ2.o];exact⟨rfl,(HB.o.trans (aE _ (Ll hsz))).trans (HN.o.mono (by simp;omega))⟩
    ·have HJ2:=Hd hrj;clear hrj;rw[HJ2.o]at HC;go_wp2_with(go_at_call 121;refine(HC.o _ (HB.o.trans (aE _ (Ll hsz)))).mono ?_;rintro e w1 ⟨rfl,hb⟩;have HN:=Hd hb;clear hb);refine⟨⟨j+1,by omega,by go_num,λx hx=> ?_,(HB.o.trans (aE _ (Ll hsz))).trans (HN.o.mono (by simp;omega)),?_,?_⟩,by simp[intOf];omega⟩
     ·rcases Nat.lt_or_ge x j with h|h
      ·exact HJ.o x h
      ·rw[show x=j by omega];exact HJ2.o
     ·refine(HN.o.cell (by simp;omega)).trans ((Wl _ _ _ hsz).trans hbox)
     ·have:=HN.o.size;simp at this;omega
   ·have hje:j=k:=by omega
    have HA:Hid (∀x,x<k->zaV m (kid x)=true):=by rw[<-hje];exact HJ.o
    by_cases hn0:n=0
    ·have hn1:(n==0)=true:=by simpa using hn0
     go_wp2_with fail;go_ret;rw[bV HK.o (by unfold zfQ;rw[Iq h0];exact Dt hn0) HA.o];exact⟨by first|rfl|simp,HB.o⟩
    ·have hn1:(n==0)=false:=by simpa using hn0
     go_wp2_with fail;go_ret;rw[tT (by unfold zfQ;rw[Iq h0];exact Df hn0)];exact⟨by first|rfl|simp,HB.o⟩
theorem qlP(t:Tr)(v:Value)(w:World)(h:Rd w w.heap.size t v):
 Calls prog 93 #[v] w λe w'=>e=.returned (.bool (zaV 16 t))/\Bw w w':=by
 have HR:=Hd h;rcases t with _|⟨op,n,k,kid⟩
 ·exact h.elim
 obtain⟨A,c,rfl,hop,hn,hk,hkids⟩:=h.open_;clear h hkids;have hc0:∀W:World,Bw w W->Calls prog 121 #[.agg #[.int .i64 op,.int .i64 n,.slice A k c],.int .i64 16] W λe w'=>e=.returned (.bool (zaV 16 (.mk op n k kid)))/\Bw W w':=λW hb=>
  qjJ 16 _ _ W (by omega) (HR.o.below hb hb.size)
 have HC:=Hd hc0;clear hc0;generalize zaV 16 (.mk op n k kid)=r at HC⊢
 go_enter func93,ntmps93;go_wp2_with(go_at_call 121;refine(HC.o _ (aE _ (Le _))).mono ?_;rintro e w1 ⟨rfl,hb⟩;have HN:=Hd hb;clear hb);go_ret;exact⟨rfl,(aE _ (Le _)).trans (HN.o.mono (by simp))⟩
def zjL(op:Int):Int:=if op=0 then 0 else if(3<=op/\op<=7)\/op=11\/(17<=op/\op<=25)then 2 else 1
theorem qpD{op:Int}(h0:0<=op)(h1:op<=25):zjL op=zbD op:=by
 unfold zjL zbD
 repeat' split
 all_goals omega
theorem qpC(op:Int)(w:World):
 Calls prog 150 #[.int .i64 op] w λe w'=>e=.returned (.int .i64 (zjL op))/\w=w':=by
 go_enter func150,ntmps150;go_wp2;all_goals
  go_ret;refine⟨aO ?_,rfl⟩;go_light
  (try simp only[beq_iff_eq,beq_eq_false_iff_ne,ne_eq]at*)
  unfold zjL
  repeat' split
  all_goals omega
theorem xO{op:Int}(h:op<0\/25<op):zbD op= -1:=by
 unfold zbD
 repeat' split
 all_goals omega
def zoG(m k c:Nat)(A:OA)(kid:Nat->Tr)(w0:World)(i:Value)(w:World):Prop:=
 ∃j:Nat,j<=k/\i=.int .i64 (j:Int)/\(∀x,x<j->zaV m (kid x)=true)/\Bw w0 w/\w.cell? ⟨w0.heap.size,2,none⟩=some (.slice A k c)/\w0.heap.size<w.heap.size
theorem qeU(m:Nat):∀(t:Tr) (v:Value) (w:World),m<=16->Rd w w.heap.size t v->
 Calls prog 119 #[v,.int .i64 m] w λe w'=>e=.returned (.bool (zaV m t))/\Bw w w':=by
 induction m with
 |zero=>
  intro t v w hm hr;rcases t with _|⟨op,n,k,kid⟩
  ·exact hr.elim
  obtain⟨A,c,rfl,hop,hn,hk,hkids⟩:=hr.open_;clear hr;clear hkids;go_enter func119,ntmps119;go_wp2;go_quiet(fail);go_wp2;go_ret;exact⟨rfl,cJ _ _⟩
 |succ m ih=>
  intro t v w hm hr;rcases t with _|⟨op,n,k,kid⟩
  ·exact hr.elim
  obtain⟨A,c,rfl,hop,hn,hk,hkids⟩:=hr.open_;clear hr;obtain⟨q,hq⟩:∃q:Int,q=((m+1:Nat):Int):=⟨_,rfl⟩;have hq1:q-1=(m:Int):=by omega
  have hq2:1<=q:=by omega
  have hq3:q<=16:=by omega
  rw[<-hq];have HQ1:=Hd hq1;have dq:decide (q<1)=false:=Df (by omega);clear hq hq1;rcases Il op 0 with ho1|ho3
  ·rw[kN (by rw[xO (.inl ho1)];omega)];have d0:decide (op<0)=true:=Dt ho1;clear hkids;go_enter func119,ntmps119;go_wp2;go_quiet(fail);go_wp2;go_ret;exact⟨rfl,cJ _ _⟩
  have d0:decide (op<0)=false:=Df (by omega);rcases Il 25 op with ho2|ho4
  ·rw[kN (by rw[xO (.inr ho2)];omega)];have d1:decide (25<op)=true:=Dt ho2;clear hkids;go_enter func119,ntmps119;go_wp2;go_quiet(fail);go_wp2;go_ret;exact⟨rfl,cJ _ _⟩
  have d1:decide (25<op)=false:=Df (by omega);have hkr:∀W,Calls prog 150 #[.int .i64 op] W λe w'=>e=.returned (.int .i64 (zbD op))/\W=w':=λW=>by
   have:=qpC op W;rw[qpD ho3 ho4]at this;exact this
  have HKR:=Hd hkr;clear hkr;by_cases hkk:(k:Int)=zbD op
  case neg=>
   rw[kN hkk];have hkk':((k:Int)==zbD op)=false:=by simpa using hkk
   have hkk'':((k:Int) !=zbD op)=true:=by simpa using hkk
   clear hkids hkk;go_enter func119,ntmps119;go_wp2;go_quiet((go_at_call 150;exact bD (HKR.o _)));go_wp2;go_ret;exact⟨rfl,cJ _ _⟩
  have hkk':((k:Int)==zbD op)=true:=by simpa using hkk
  have hkk'':((k:Int) !=zbD op)=false:=by simpa using hkk
  by_cases h0:op=0
  ·subst h0;have hk0:k=0:=by have:zbD 0=0:=rfl;omega
   subst hk0;have HL:Hid (zaV (m+1) (.mk 0 n 0 kid)=zfQ 0 n):=by show zaV _ _=_;simp[zaV,zbD]
   have HN:Hid (zfQ 0 n=decide (0<=n/\n<1000000000000000)):=rfl;clear hkids hkk;rcases Il n 0 with hn1|hn3
   ·rw[HL.o,HN.o,Df (by omega)];have d2:decide (n<0)=true:=Dt hn1;go_enter func119,ntmps119;go_wp2;go_quiet((go_at_call 150;exact bD (HKR.o _)));go_wp2;go_ret;exact⟨rfl,cJ _ _⟩
   have d2:decide (n<0)=false:=Df (by omega);rcases Il n 1000000000000000 with hn4|hn2
   case inr=>
    rw[HL.o,HN.o,Df (by omega)];have d3:decide (1000000000000000<=n)=true:=Dt hn2;go_enter func119,ntmps119;go_wp2;go_quiet((go_at_call 150;exact bD (HKR.o _)));go_wp2;go_ret;exact⟨rfl,cJ _ _⟩
   rw[HL.o,HN.o,Dt (by omega)];have d3:decide (1000000000000000<=n)=false:=Df (by omega);go_enter func119,ntmps119;go_wp2;go_quiet((go_at_call 150;exact bD (HKR.o _)));go_wp2;go_loopw[5] (λi W=>i=.int .i64 0/\Bw w W/\W.cell? ⟨w.heap.size,2,none⟩=some (.slice A 0 c)) (λi _=>0)
   case atStart=>exact⟨rfl,cJ _ _,by simp[World.cell?_alloc_new]⟩
   case round=>
    obtain⟨rfl,hb,hbox⟩:=hrel;have HB:=Hd hb;clear hb;go_wp2_with fail;go_ret;exact⟨rfl,HB.o⟩
  have h0':(op==0)=false:=by simpa using h0
  have h0'':(op !=0)=true:=by simpa using h0
  by_cases hn0:n=0
  case neg=>
   have hn1:(n==0)=false:=by simpa using hn0
   have hn2:(n !=0)=true:=by simpa using hn0
   rw[tT (by unfold zfQ;rw[Iq h0];exact Df hn0)];clear hkids hkk;go_enter func119,ntmps119;go_wp2;go_quiet((go_at_call 150;exact bD (HKR.o _)));go_wp2;go_ret;exact⟨rfl,cJ _ _⟩
  subst hn0;have hk2:k<=2:=by have:=jV op;omega
  have HK:=Hd hkk;have HKI:=Hd hkids;clear hkids hkk;go_enter func119,ntmps119;go_wp2;go_quiet((go_at_call 150;exact bD (HKR.o _)));go_wp2;go_loopw[5] (zoG m k c A kid w) (λi _=>k-(intOf i).toNat)
  case atStart=>exact⟨0,by omega,rfl,λx hx=>absurd hx (by omega),cJ _ _,by simp[World.cell?_alloc_new],by simp⟩
  case round=>
   obtain⟨j,hj,rfl,hjr,hb,hbox,hsz⟩:=hrel;have HJ:=Hd hjr;have HB:=Hd hb;clear hjr hb;by_cases hlt:j<k
   ·obtain⟨ab,off,rfl,hab,hc⟩:=HKI.o (by omega);obtain⟨o,n',A',k',c',c0,c1,c2,hr⟩:=hc j hlt;have HR:=Hd hr;have d0:=HB.o.ct hab c0;have d1:=HB.o.ct hab c1;have d2:=HB.o.ct hab c2;clear hc c0 c1 c2 hr;have hc0:∀W:World,Bw w W->Calls prog 119 #[.agg #[.int .i64 o,.int .i64 n',.slice A' k' c'],.int .i64 (q-1)] W λe w'=>e=.returned (.bool (zaV m (kid j)))/\Bw W w':=λW hb=>by
     rw[HQ1.o];exact ih (kid j) _ W (by omega) (HR.o.below hb hb.size)
    have HC:=Hd hc0;clear hc0;rcases hrj:zaV m (kid j)with _|_
    ·have HJ2:=Hd hrj;clear hrj;rw[HJ2.o]at HC;go_wp2_with(go_at_call 119;refine(HC.o _ HB.o).mono ?_;rintro e w1 ⟨rfl,hb⟩;have HN:=Hd hb;clear hb);go_ret;rw[tS hlt HJ2.o];exact⟨rfl,HB.o.trans (HN.o.mono (Ll hsz))⟩
    ·have HJ2:=Hd hrj;clear hrj;rw[HJ2.o]at HC;go_wp2_with(go_at_call 119;refine(HC.o _ HB.o).mono ?_;rintro e w1 ⟨rfl,hb⟩;have HN:=Hd hb;clear hb);refine⟨⟨j+1,by omega,by go_num,λx hx=> ?_,HB.o.trans (HN.o.mono (Ll hsz)),?_,?_⟩,by simp[intOf];omega⟩
     ·rcases Nat.lt_or_ge x j with h|h
      ·exact HJ.o x h
      ·rw[show x=j by omega];exact HJ2.o
     ·exact(HN.o.cell hsz).trans hbox
     ·have:=HN.o.size;omega
   ·have hje:j=k:=by omega
    have HA:Hid (∀x,x<k->zaV m (kid x)=true):=by rw[<-hje];exact HJ.o
    go_wp2_with fail;go_ret;rw[bV HK.o (by unfold zfQ;rw[Iq h0];exact Dt rfl) HA.o];exact⟨by first|rfl|simp,HB.o⟩
theorem rG(t:Tr)(v:Value)(w:World)(h:Rd w w.heap.size t v):
 Calls prog 83 #[v] w λe w'=>e=.returned (.bool (zaV 16 t))/\Bw w w':=by
 have HR:=Hd h;rcases t with _|⟨op,n,k,kid⟩
 ·exact h.elim
 obtain⟨A,c,rfl,hop,hn,hk,hkids⟩:=h.open_;clear h hkids;have hc0:∀W:World,Bw w W->Calls prog 119 #[.agg #[.int .i64 op,.int .i64 n,.slice A k c],.int .i64 16] W λe w'=>e=.returned (.bool (zaV 16 (.mk op n k kid)))/\Bw W w':=λW hb=>
  qeU 16 _ _ W (by omega) (HR.o.below hb hb.size)
 have HC:=Hd hc0;clear hc0;generalize zaV 16 (.mk op n k kid)=r at HC⊢
 go_enter func83,ntmps83;go_wp2_with(go_at_call 119;refine(HC.o _ (aE _ (Le _))).mono ?_;rintro e w1 ⟨rfl,hb⟩;have HN:=Hd hb;clear hb);go_ret;exact⟨rfl,(aE _ (Le _)).trans (HN.o.mono (by simp))⟩
