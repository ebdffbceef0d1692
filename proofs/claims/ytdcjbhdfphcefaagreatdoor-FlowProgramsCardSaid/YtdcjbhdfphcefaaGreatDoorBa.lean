/- Plain words. -/
import Derived.Test.YtdcjbhdfphcefaaGreatDoorRows
import Derived.WalkKit
import Derived.WalkSpells
import Derived.WalkLawsBesides
import Derived.Handy
import Derived.Lib.Hide
import Derived.PlainAid
import Derived.Lib.BitFns
import Derived.Shelf.Bits.Mul64
import Derived.Deep.QuietTactic
import Derived.BigQuiet
import Derived.Test.YtdcjbhdfphcefaaGreatDoorSh
namespace Go.Proofs.YtdcjbhdfphcefaaGreatDoor
set_option linter.all false
set_option maxHeartbeats 400000
open Go.Proofs.Tryz
theorem fV(v n:Int)(h:1<=n):(v.tmod n<0->v.tmod n+n=v%n)/\(0<=v.tmod n->v.tmod n=v%n):=by
 have e:=Int.tmod_eq_emod (a:=v) (b:=n);have h0:=Io v (b:=n) (by omega);have h1:=Ie v (b:=n) (by omega);by_cases c:0<=v\/n∣v
 ·rw[Ip c]at e;constructor<;>intro<;>omega
 ·rw[Iq c]at e;constructor<;>intro<;>omega
theorem sM(v n:Int)(h:1<=n):0<=v%n/\v%n<=n-1:=⟨Io v (by omega),by have:=Ie v (b:=n) (by omega);omega⟩
theorem mH(v n:Int)(h:1<=n): -n<v.tmod n/\v.tmod n<n:=by
 have e:=Int.tmod_eq_emod (a:=v) (b:=n);have h0:=Io v (b:=n) (by omega);have h1:=Ie v (b:=n) (by omega);by_cases c:0<=v\/n∣v
 ·rw[Ip c]at e;constructor<;>omega
 ·rw[Iq c]at e;have hne:v%n≠0:=λh=>c (Or.inr (Int.dvd_of_emod_eq_zero h));constructor<;>omega
def vld(n:Int):Bool:=decide (-1000000000000000<=n/\n<=1000000000000000)
theorem aP{n:Int}(h:vld n=true): -1000000000000000<=n/\n<=1000000000000000:=of_decide_eq_true h
theorem bO{n:Int}(h: -1000000000000000<=n)(h':n<=1000000000000000):vld n=true:=Dt ⟨h,h'⟩
theorem kB{n:Int}(h:n< -1000000000000000\/1000000000000000<n):vld n=false:=Df (by omega)
def btw(v low high:Int):Int:=low+v%(high-low+1)
def num(v:Int):Int:=btw v (-1000000000000000) 1000000000000000
def chk(n:Int):Int×Int:=if vld n then(n,0)else(0,3)
theorem kR{n:Int}(h:vld n=true):chk n=(n,0):=by unfold chk;rw[Ip h]
theorem rC{n:Int}(h:vld n=false):chk n=(0,3):=by unfold chk;rw[h];rfl
def zhE(a b:Int):Int×Int:=if vld a&&vld b then chk (a+b)else(0,1)
def zhC(a b:Int):Int×Int:=if vld a&&vld b then chk (a-b)else(0,1)
theorem pY{a b:Int}(ha:vld a=true)(hb:vld b=true):zhE a b=chk (a+b):=by unfold zhE;simp[ha,hb]
theorem oI{a b:Int}(ha:vld a=true)(hb:vld b=true):zhC a b=chk (a-b):=by unfold zhC;simp[ha,hb]
theorem qaV{a b:Int}(h:(vld a&&vld b)=false):zhE a b=(0,1):=by unfold zhE;simp[h]
theorem yG{a b:Int}(h:(vld a&&vld b)=false):zhC a b=(0,1):=by unfold zhC;simp[h]
def zgV(a b:Int):Int×Int:=if vld a&&vld b then(if b==0 then(0,4)else(a%b,0))else(0,1)
theorem sD{a b:Int}(h:(vld a&&vld b)=false):zgV a b=(0,1):=by unfold zgV;simp[h]
theorem mP{a:Int}(h:vld a=true):zgV a 0=(0,4):=by unfold zgV;rw[h,bO (by omega) (by omega)];rfl
theorem oX{a b:Int}(ha:vld a=true)(hb:vld b=true)(h:b≠0):zgV a b=(a%b,0):=by unfold zgV;simp[ha,hb,h]
theorem tD(a b:Int)(h:b≠0):(a.tmod b<0->a.tmod b+max b (-b)=a%b)/\(0<=a.tmod b->a.tmod b=a%b):=by
 rcases Il b 0 with hb|hb
 ·have h2:=fV a (-b) (by omega);rw[Int.tmod_neg,Int.emod_neg]at h2;have e:max b (-b)= -b:=by omega
  rw[e];exact h2
 ·have h2:=fV a b (by omega);have e:max b (-b)=b:=by omega
  rw[e];exact h2
theorem lE(a b:Int)(h:b≠0): -max b (-b)<a.tmod b/\a.tmod b<max b (-b):=by
 rcases Il b 0 with hb|hb
 ·have h2:=mH a (-b) (by omega);rw[Int.tmod_neg]at h2;have e:max b (-b)= -b:=by omega
  rw[e];exact h2
 ·have h2:=mH a b (by omega);have e:max b (-b)=b:=by omega
  rw[e];exact h2
open Go.RowKit
theorem aO{k:IntKind}{a b:Int}(h:a=b):Ending.returned (.int k a)=.returned (.int k b):=by rw[h]
theorem dG{k l:IntKind}{a b c d:Int}(h:a=c)(h':b=d):Ending.returned (.tuple #[.int k a,.int l b])=.returned (.tuple #[.int k c,.int l d]):=by rw[h,h']
theorem bY(v n:Int)(h1:1<=n)(h2:n<=9223372036854775807)(hv1: -9223372036854775808<=v)(hv2:v<=9223372036854775807)(w:World):
 Calls prog 22 #[.int .i64 v,.int .i64 n] w λe w'=>e=.returned (.int .i64 (v%n))/\w=w':=by
 have hb:=mH v n h1;have hf:=Hd (fV v n h1);go_enter func22,ntmps22;go_wp2
 ·have hlt:v.tmod n<0:=by assumption
  go_ret;exact⟨aO (hf.o.1 hlt),rfl⟩
 ·have hlt:0<=v.tmod n:=by assumption
  go_ret;exact⟨aO (hf.o.2 hlt),rfl⟩
theorem aK(n:Int)(w:World):
 Calls prog 87 #[.int .i64 n] w λe w'=>e=.returned (.bool (vld n))/\w=w':=by
 by_cases h1: -1000000000000000<=n
 ·by_cases h2:n<=1000000000000000
  ·rw[bO h1 h2];go_enter func87,ntmps87;go_wp2;go_ret;exact⟨rfl,rfl⟩
  ·rw[kB (by omega)];go_enter func87,ntmps87;go_wp2;go_ret;exact⟨rfl,rfl⟩
 ·rw[kB (by omega)];go_enter func87,ntmps87;go_wp2;go_ret;exact⟨rfl,rfl⟩
theorem aF(n:Int)(w:World):
 Calls prog 168 #[.int .i64 n] w λe w'=>e=.returned (.bool (vld n))/\w=w':=by
 by_cases h1: -1000000000000000<=n
 ·by_cases h2:n<=1000000000000000
  ·rw[bO h1 h2];go_enter func168,ntmps168;go_wp2;go_ret;exact⟨rfl,rfl⟩
  ·rw[kB (by omega)];go_enter func168,ntmps168;go_wp2;go_ret;exact⟨rfl,rfl⟩
 ·rw[kB (by omega)];go_enter func168,ntmps168;go_wp2;go_ret;exact⟨rfl,rfl⟩
theorem dT(a b:Int)(w:World):
 Calls prog 194 #[.int .i64 a,.int .i64 b] w λe w'=>e=.returned (.bool (vld a&&vld b))/\w=w':=by
 rcases ha:vld a with _|_
 all_goals
  go_enter func194,ntmps194;go_wp2_with(go_at_call 87;refine mo0 (aK _ _) ?_);go_ret;exact⟨by simp,rfl⟩
theorem lX(n:Int)(w:World):
 Calls prog 195 #[.int .i64 n] w λe w'=>e=.returned (.tuple #[.int .i64 (chk n).1,.int .i64 (chk n).2])/\w=w':=by
 rcases ha:vld n with _|_
 ·rw[rC ha];go_enter func195,ntmps195;go_wp2_with(go_at_call 87;refine mo0 (aK _ _) ?_);go_ret2;exact⟨rfl,rfl⟩
 ·rw[kR ha];go_enter func195,ntmps195;go_wp2_with(go_at_call 87;refine mo0 (aK _ _) ?_);go_ret2;exact⟨rfl,rfl⟩
theorem pX(a b:Int)(ha1: -9223372036854775808<=a)(ha2:a<=9223372036854775807)(hb1: -9223372036854775808<=b)(hb2:b<=9223372036854775807)(w:World):
 Calls prog 161 #[.int .i64 a,.int .i64 b] w λe w'=>e=.returned (.tuple #[.int .i64 (zhE a b).1,.int .i64 (zhE a b).2])/\w=w':=by
 rcases h:(vld a&&vld b)with _|_
 ·rw[qaV h];go_enter func161,ntmps161;go_wp2_with(go_at_call 194;refine mo0 (dT _ _ _) ?_);go_ret2;exact⟨rfl,rfl⟩
 ·have h':vld a=true/\vld b=true:=by simpa using h
  have k1:=aP h'.1;have k2:=aP h'.2;rw[pY h'.1 h'.2];clear h';go_enter func161,ntmps161;go_wp2_with(first|(go_at_call 194;refine mo0 (dT _ _ _) ?_)|(go_at_call 195;refine mo0 (lX _ _) ?_));go_ret2;exact⟨rfl,rfl⟩
theorem oH(a b:Int)(ha1: -9223372036854775808<=a)(ha2:a<=9223372036854775807)(hb1: -9223372036854775808<=b)(hb2:b<=9223372036854775807)(w:World):
 Calls prog 162 #[.int .i64 a,.int .i64 b] w λe w'=>e=.returned (.tuple #[.int .i64 (zhC a b).1,.int .i64 (zhC a b).2])/\w=w':=by
 rcases h:(vld a&&vld b)with _|_
 ·rw[yG h];go_enter func162,ntmps162;go_wp2_with(go_at_call 194;refine mo0 (dT _ _ _) ?_);go_ret2;exact⟨rfl,rfl⟩
 ·have h':vld a=true/\vld b=true:=by simpa using h
  have k1:=aP h'.1;have k2:=aP h'.2;rw[oI h'.1 h'.2];clear h';go_enter func162,ntmps162;go_wp2_with(first|(go_at_call 194;refine mo0 (dT _ _ _) ?_)|(go_at_call 195;refine mo0 (lX _ _) ?_));go_ret2;exact⟨rfl,rfl⟩
theorem lO(a b:Int)(ha1: -9223372036854775808<=a)(ha2:a<=9223372036854775807)(hb1: -9223372036854775808<=b)(hb2:b<=9223372036854775807)(w:World):
 Calls prog 165 #[.int .i64 a,.int .i64 b] w λe w'=>e=.returned (.tuple #[.int .i64 (zgV a b).1,.int .i64 (zgV a b).2])/\w=w':=by
 rcases h:(vld a&&vld b)with _|_
 ·rw[sD h];go_enter func165,ntmps165;go_wp2_with(go_at_call 194;refine mo0 (dT _ _ _) ?_);go_ret2;exact⟨rfl,rfl⟩
 ·have h':vld a=true/\vld b=true:=by simpa using h
  have k1:=aP h'.1;have k2:=aP h'.2;by_cases hb0:b=0
  ·subst hb0;rw[mP h'.1];clear h';go_enter func165,ntmps165;go_wp2_with(go_at_call 194;refine mo0 (dT _ _ _) ?_);go_ret2;exact⟨rfl,rfl⟩
  ·rw[oX h'.1 h'.2 hb0];have hf:=Hd (tD a b hb0);have hbd:=lE a b hb0;have hb0':(b==0)=false:=by simpa using hb0
   clear h';go_enter func165,ntmps165;go_wp2_with(go_at_call 194;refine mo0 (dT _ _ _) ?_);all_goals
    go_ret2;exact⟨dG (by have:=hf.o;omega) rfl,rfl⟩
theorem below2{w w1 w2:World}(h1:Bw w w1)(h2:Bw w1 w2):Bw w w2:=h1.tm h2
def mg(n:Int):Int:=(n.natAbs:Int)
theorem eE(n:Int):0<=mg n:=by unfold mg;omega
theorem uE(n:Int)(h1: -9223372036854775808<=n)(h2:n<=9223372036854775807):mg n<=9223372036854775808:=by unfold mg;omega
theorem qoN{n:Int}(h:n<0):mg n= -n:=by unfold mg;omega
theorem zG{n:Int}(h:0<=n):mg n=n:=by unfold mg;omega
theorem qfD(a b:Int):mg a*mg b=mg (a*b):=by unfold mg;rw[Int.natAbs_mul];push_cast;rfl
def hiW(x:Int):Int:=x/18446744073709551616
def loW(x:Int):Int:=x%18446744073709551616
theorem qC(x:Int):hiW x*18446744073709551616+loW x=x:=by unfold hiW loW;omega
theorem eT(x:Int):0<=loW x:=by unfold loW;omega
theorem nK(x:Int):loW x<=18446744073709551615:=by unfold loW;omega
theorem eU{x:Int}(h:0<=x):0<=hiW x:=by unfold hiW;omega
theorem qS{x:Int}(h:x<340282366920938463463374607431768211456):hiW x<=18446744073709551615:=by unfold hiW;omega
theorem iH{a b:Int}(h1:0<=a)(h2:0<=b):0<=a*b:=Im h1 h2
theorem rZ{a b:Int}(h1:0<=a)(h2:0<=b)(h3:a<=18446744073709551615)(h4:b<=18446744073709551615):a*b<340282366920938463463374607431768211456:=by
 have:=Int.mul_le_mul h3 h4 h2 (by omega);omega
def sg(a b:Int):Int:=if a=0\/b=0 then 0 else if(a<0↔b<0)then 1 else-1
theorem mK{a b:Int}(h:a=0\/b=0):sg a b=0:=by unfold sg;rw[Ip h]
theorem qF{a b:Int}(ha:a≠0)(hb:b≠0)(h:a<0↔b<0):sg a b=1:=by unfold sg;rw[Iq (by omega),Ip h]
theorem qG{a b:Int}(ha:a≠0)(hb:b≠0)(h:¬(a<0↔b<0)):sg a b= -1:=by unfold sg;rw[Iq (by omega),Iq h]
def zbE(n:Int)(neg:Bool):Int×Bool:=if neg then(if n<=9223372036854775808 then(-n,true)else(0,false))else if n<9223372036854775808 then(n,true)else(0,false)
def grw(mode more:Int)(some neg:Bool):Bool:=if mode=0 then some&&neg else if mode=1 then some&& !neg else decide (0<more)||(decide (more=0)&& !neg)
def zfD(r d:Int):Int:=if d-r<r then 1 else if r<d-r then-1 else 0
theorem sJ{r d:Int}(h:d-r<r):zfD r d=1:=by unfold zfD;rw[Ip h]
theorem pH{r d:Int}(h:r<d-r):zfD r d= -1:=by unfold zfD;rw[Iq (by omega),Ip h]
theorem qaB{r d:Int}(h:r=d-r):zfD r d=0:=by unfold zfD;rw[Iq (by omega),Iq (by omega)]
def ngt(a b c:Int):Bool:=decide (sg a b≠0)&&decide (¬(sg a b<0↔c<0))
def mdA(a b c mode:Int):Int:=mg a*mg b/mg c+(if grw mode (zfD (mg a*mg b%mg c) (mg c)) (decide (0<mg a*mg b%mg c)) (ngt a b c)then 1 else 0)
def mdS(a b c mode:Int):Int×Bool:=zbE (mdA a b c mode) (ngt a b c)
def zgT(a b c:Int):Int×Int:=if(mdS a b c 2).2 then chk (mdS a b c 2).1 else(0,3)
def zhD(a b:Int):Int×Int:=if vld a&&vld b then zgT a b 1000000 else(0,1)
def zgO(a b:Int):Int×Int:=if vld a&&vld b then(if b=0 then(0,4)else zgT a 1000000 b)else(0,1)
theorem oW{a b:Int}(ha:vld a=true)(hb:vld b=true):zhD a b=zgT a b 1000000:=by unfold zhD;simp[ha,hb]
theorem zD{a b:Int}(h:(vld a&&vld b)=false):zhD a b=(0,1):=by unfold zhD;simp[h]
theorem vC{a b:Int}(ha:vld a=true)(hb:vld b=true)(h:b≠0):zgO a b=zgT a 1000000 b:=by unfold zgO;simp[ha,hb,h]
theorem qaH{a b:Int}(h:(vld a&&vld b)=false):zgO a b=(0,1):=by unfold zgO;simp[h]
theorem qZ{a:Int}(h:vld a=true):zgO a 0=(0,4):=by unfold zgO;rw[h,bO (by omega) (by omega)];rfl
def rnd(mode p c:Int):Int:=if mode=0 then p/c else if mode=1 then-(-p/c)else(2*p+c)/(2*c)
theorem fH{p c q r:Int}(hc:0<c)(h:r+c*q=p)(h0:0<=r)(h1:r<c):p/c=q:=((Int.ediv_emod_unique hc).2 ⟨h,h0,h1⟩).1
theorem zH(a b c mode:Int)(hc:0<c)(hm0:0<=mode)(hm1:mode<=2)(hs:mg a*mg b/c<9223372036854775807):mdS a b c mode=(rnd mode (a*b) c,true):=by
 unfold mdS mdA;rw[zG (Int.le_of_lt hc)];have hx:mg a*mg b=mg (a*b):=qfD a b;rw[hx]at hs⊢
 have hd:=Int.mul_ediv_add_emod (mg (a*b)) c;have h0:=Io (mg (a*b)) (b:=c) (by omega);have h1:=Ie (mg (a*b)) hc;have hq:=Int.ediv_nonneg (eE (a*b)) (Int.le_of_lt hc);have hng:ngt a b c=decide (a*b<0):=by
  unfold ngt sg;by_cases ha:a=0
  ·subst ha;simp
  by_cases hb:b=0
  ·subst hb;simp
  rw[Iq (by omega)];by_cases h:(a<0↔b<0)
  ·rw[Ip h];have:¬a*b<0:=by
    rcases Il a 0 with ha'|ha'
    ·have:=Int.mul_nonneg_of_nonpos_of_nonpos (show a<=0 by omega) (show b<=0 by omega);omega
    ·have:=Im ha' (show 0<=b by omega);omega
   simp[this];omega
  ·rw[Iq h];have:a*b<0:=by
    rcases Il a 0 with ha'|ha'
    ·exact Int.mul_neg_of_neg_of_pos ha' (by omega)
    ·exact Int.mul_neg_of_pos_of_neg (by omega) (by omega)
   simp[this];omega
 rw[hng];generalize mg (a*b)/c=q at*
 generalize mg (a*b)%c=r at*
 generalize hp:a*b=p at*
 have hmg:mg p=if p<0 then-p else p:=by unfold mg;split<;>omega
 have hmode:mode=0\/mode=1\/mode=2:=by omega
 by_cases hneg:p<0
 ·rw[Ip hneg]at hmg;rw[hmg]at hd;have e1:c* -q= -(c*q):=by rw[Int.mul_neg]
  have e2:c*(-q-1)= -(c*q)-c:=by rw[Int.mul_sub,Int.mul_neg];omega
  have e3:2*c* -q= -(2*(c*q)):=by rw[Int.mul_neg,Int.mul_assoc]
  have e4:2*c*(-q-1)= -(2*(c*q))-2*c:=by rw[Int.mul_sub,Int.mul_neg,Int.mul_assoc];omega
  rcases hmode with rfl|rfl|rfl
  ·by_cases hr:0<r
   ·have hr2:p/c= -q-1:=fH (r:=c-r) hc (by rw[e2];omega) (by omega) (by omega);simp[grw,zbE,rnd,hneg,hr,hr2];(first|omega|(rw[Ip (by omega)];exact Prod.ext (by dsimp only;omega) rfl))
   ·have hr2:p/c= -q:=fH (r:= -r) hc (by rw[e1];omega) (by omega) (by omega);simp[grw,zbE,rnd,hneg,hr,hr2];(first|omega|(rw[Ip (by omega)];exact Prod.ext (by dsimp only;omega) rfl))
  ·have hr2: -p/c=q:=fH (r:=r) hc (by omega) (by omega) (by omega);simp[grw,zbE,rnd,hneg,hr2];(first|omega|(rw[Ip (by omega)];exact Prod.ext (by dsimp only;omega) rfl))
  ·by_cases hr:c-r<r
   ·have hr2:(2*p+c)/(2*c)= -q-1:=fH (r:=3*c-2*r) (by omega) (by rw[e4];omega) (by omega) (by omega);simp[grw,zbE,rnd,hneg,sJ hr,hr2];(first|omega|(rw[Ip (by omega)];exact Prod.ext (by dsimp only;omega) rfl))
   ·have hr2:(2*p+c)/(2*c)= -q:=fH (r:=c-2*r) (by omega) (by rw[e3];omega) (by omega) (by omega);have hh:zfD r c= -1\/zfD r c=0:=by unfold zfD;rw[Iq hr];split<;>simp
    rcases hh with hh|hh<;>simp[grw,zbE,rnd,hneg,hh,hr2]<;>(first|omega|(rw[Ip (by omega)];exact Prod.ext (by dsimp only;omega) rfl))
 ·rw[Iq hneg]at hmg;rw[hmg]at hd;have e1:c* -q= -(c*q):=by rw[Int.mul_neg]
  have e2:c*(-q-1)= -(c*q)-c:=by rw[Int.mul_sub,Int.mul_neg];omega
  have e3:2*c*q=2*(c*q):=by rw[Int.mul_assoc]
  have e4:2*c*(q+1)=2*(c*q)+2*c:=by rw[Int.mul_add,Int.mul_assoc];omega
  rcases hmode with rfl|rfl|rfl
  ·have hr2:p/c=q:=fH (r:=r) hc (by omega) (by omega) (by omega);simp[grw,zbE,rnd,hneg,hr2];(first|omega|(rw[Ip (by omega)];exact Prod.ext (by dsimp only;omega) rfl))
  ·by_cases hr:0<r
   ·have hr2: -p/c= -q-1:=fH (r:=c-r) hc (by rw[e2];omega) (by omega) (by omega);simp[grw,zbE,rnd,hneg,hr,hr2];(first|omega|(rw[Ip (by omega)];exact Prod.ext (by dsimp only;omega) rfl))
   ·have hr2: -p/c= -q:=fH (r:= -r) hc (by rw[e1];omega) (by omega) (by omega);simp[grw,zbE,rnd,hneg,hr,hr2];(first|omega|(rw[Ip (by omega)];exact Prod.ext (by dsimp only;omega) rfl))
  ·by_cases hr:r<c-r
   ·have hr2:(2*p+c)/(2*c)=q:=fH (r:=2*r+c) (by omega) (by rw[e3];omega) (by omega) (by omega);simp[grw,zbE,rnd,hneg,pH hr,hr2];(first|omega|(rw[Ip (by omega)];exact Prod.ext (by dsimp only;omega) rfl))
   ·have hr2:(2*p+c)/(2*c)=q+1:=fH (r:=2*r-c) (by omega) (by rw[e4];omega) (by omega) (by omega);have hh:zfD r c=1\/zfD r c=0:=by unfold zfD;rw[Iq hr];split<;>simp
    rcases hh with hh|hh<;>simp[grw,zbE,rnd,hneg,hh,hr2]<;>(first|omega|(rw[Ip (by omega)];exact Prod.ext (by dsimp only;omega) rfl))
theorem qN{a:Int}(h:vld a=true)(c:Int)(hc:0<c)(b:Int)(hb0:0<=b)(hb:b<=1000000):mg a*mg b/c<9223372036854775807\/1000<b:=by
 by_cases hb2:b<=1000
 ·left;have k:=aP h;have h1:mg a<=1000000000000000:=by unfold mg;omega
  rw[zG hb0];have h2:=Int.mul_le_mul h1 hb2 hb0 (by omega);have h3:mg a*b/c<=mg a*b:=Int.ediv_le_self _ (Im (eE a) hb0);omega
 ·right;omega
theorem quL{a mode:Int}(h:vld a=true)(hm0:0<=mode)(hm1:mode<=2):mdS a 1 1000000 mode=(rnd mode a 1000000,true):=by
 have:=zH a 1 1000000 mode (by omega) hm0 hm1 (by have:=qN h 1000000 (by omega) 1 (by omega) (by omega);omega)
 rwa [Int.mul_one]at this
theorem qxC{a mode:Int}(h:vld a=true)(hm0:0<=mode)(hm1:mode<=2): -1000000001<=rnd mode a 1000000/\rnd mode a 1000000<=1000000001:=by
 have k:=aP h;have hmode:mode=0\/mode=1\/mode=2:=by omega
 rcases hmode with rfl|rfl|rfl<;>simp[rnd]<;>omega
def zdK(a:Int):Int×Int:=if vld a then(rnd 2 a 1000000*1000000,0)else(0,1)
def zfM(a:Int):Int×Int:=if vld a then((if a<0 then rnd 1 a 1000000 else rnd 0 a 1000000)*1000000,0)else(0,1)
def zfL(a:Int):Int×Int:=if vld a then((if a<0 then rnd 0 a 1000000 else rnd 1 a 1000000)*1000000,0)else(0,1)
def zaY(a:Int):Int×Bool:=if vld a=true/\a%1000000=0 then(a/1000000,true)else(0,false)
section
variable {u v y y1 y0 q r:Int}
theorem qcQ(hy:0<y)(hu:u<y)(hv:v<4294967296):(u*4294967296+v)/y<4294967296:=by
 rw[Int.ediv_lt_iff_lt_mul hy];omega
theorem qcP(hy:y=y1*4294967296+y0)(h1:2147483648<=y1)(h2:0<=y0)(h3:y0<4294967296)(hu0:0<=u)(hu:u<y)(hv0:0<=v)(hv:v<4294967296):
 (u*4294967296+v)/y<=u/y1/\u/y1<=4294967297:=by
 have hyp:0<y:=by omega
 constructor
 ·rw[Int.le_ediv_iff_mul_le (by omega)];have hm:=Int.ediv_mul_le (u*4294967296+v) (b:=y) (by omega);generalize(u*4294967296+v)/y=Q at*
  have hQ:0<=Q\/Q<0:=by omega
  rcases hQ with hQ|hQ
  ·have e:Q*y=Q*y1*4294967296+Q*y0:=by rw[hy,Int.mul_add,Int.mul_assoc]
   have:0<=Q*y0:=Im hQ h2;omega
  ·have:=Im (show 0<=-Q by omega) (show 0<=y1 by omega);rw[Int.neg_mul]at this;omega
 ·have:u/y1<4294967298:=by
   rw[Int.ediv_lt_iff_lt_mul (by omega)];omega
  omega
theorem sH(hy:y=y1*4294967296+y0)(hyp:0<y)(hr:r=u-q*y1)(h:4294967296*r+v<q*y0):(u*4294967296+v)/y<=q-1:=by
 have:(u*4294967296+v)/y<q:=by
  rw[Int.ediv_lt_iff_lt_mul hyp];have e:q*y=q*y1*4294967296+q*y0:=by rw[hy,Int.mul_add,Int.mul_assoc]
  omega
 omega
theorem oZ(hy:y=y1*4294967296+y0)(hyp:0<y)(hr:r=u-q*y1)(h:q*y0<=4294967296*r+v)(hQ:(u*4294967296+v)/y<=q):q=(u*4294967296+v)/y:=by
 have:q<=(u*4294967296+v)/y:=by
  rw[Int.le_ediv_iff_mul_le hyp];have e:q*y=q*y1*4294967296+q*y0:=by rw[hy,Int.mul_add,Int.mul_assoc]
  omega
 omega
theorem fZ(hy:y=y1*4294967296+y0)(hyp:0<y)(h2:0<=y0)(h3:y0<4294967296)(hv0:0<=v)(hr:r=u-q*y1)(hb:4294967296<=r)(hq0:0<=q)(hq:q<=4294967296)(hQ:(u*4294967296+v)/y<=q):q=(u*4294967296+v)/y:=by
 refine oZ hy hyp hr ?_ hQ;have:=Int.mul_le_mul hq (show y0<=4294967295 by omega) h2 (by omega);omega
theorem qhP(hyp:0<y)(hy:y<18446744073709551616):(((u*4294967296)%18446744073709551616+v)%18446744073709551616-((u*4294967296+v)/y*y)%18446744073709551616)%18446744073709551616=(u*4294967296+v)%y:=by
 have h0:=Io (u*4294967296+v) (b:=y) (by omega);have h1:=Ie (u*4294967296+v) hyp;have h2:=Int.ediv_mul_add_emod (u*4294967296+v) y;generalize(u*4294967296+v)/y*y=t at*
 omega
end
theorem qyS(U y v1 v0:Int)(hy:0<y):((U*4294967296+v1)/y*4294967296+((U*4294967296+v1)%y*4294967296+v0)/y=((U*4294967296+v1)*4294967296+v0)/y)/\((U*4294967296+v1)%y*4294967296+v0)%y=((U*4294967296+v1)*4294967296+v0)%y:=by
 have h:=Int.ediv_mul_add_emod (U*4294967296+v1) y;generalize ha:(U*4294967296+v1)/y=a at*
 generalize hb:(U*4294967296+v1)%y=b at*
 have e:(U*4294967296+v1)*4294967296+v0=(b*4294967296+v0)+a*4294967296*y:=by
  rw[<-h,Int.add_mul,Int.mul_assoc a y,Int.mul_comm y,<-Int.mul_assoc];omega
 rw[e,Int.add_mul_ediv_right _ _ (by omega),Int.add_mul_emod_self_right];exact⟨by omega,rfl⟩
theorem qpB(N y:Int)(s:Nat)(hy:0<y):N*2^s/(y*2^s)=N/y/\N*2^s%(y*2^s)/2^s=N%y:=by
 have hp:(0:Int)<2^s:=Int.pow_pos (by decide);constructor
 ·exact Int.mul_ediv_mul_of_pos_left N y hp
 ·rw[Int.mul_comm N,Int.mul_comm y,Int.mul_emod_mul_of_pos _ _ hp,Int.mul_comm];exact Int.mul_ediv_cancel _ (by omega)
theorem qmW(y:Int)(h0:0<y)(h1:y<=18446744073709551615):∃s:Nat,s<=63/\64-(Lib.bitLen y.toNat:Int)=(s:Int)/\2^(63-s)<=y/\y<2^(64-s):=by
 obtain⟨n,rfl⟩:=Ij (show 0<=y by omega);have hne:n≠0:=by omega
 have a:=Nat.log2_self_le hne;have b:=Nat.lt_log2_self (n:=n);have hk:n.log2<64:=by
  rw[Nat.log2_lt hne];omega
 generalize n.log2=k at*
 have hd:n/2^k=1:=by
  have hp:0<2^k:=Nat.pos_of_ne_zero (by simp);rw[Nat.pow_succ]at b;have c1:1<=n/2^k:=(Nat.le_div_iff_mul_le hp).2 (by omega);have c2:n/2^k<2:=Nat.div_lt_of_lt_mul (by omega);omega
 have e:=Lib.bitLen_shift k n a (by omega);rw[hd,show Lib.bitLen 1=1 from rfl]at e;refine⟨63-k,by omega,by simp only[It];omega,?_,?_⟩
 ·rw[show 63-(63-k)=k by omega];have:((2^k:Nat):Int)=(2:Int)^k:=by push_cast;rfl
  omega
 ·rw[show 64-(63-k)=k+1 by omega];have:((2^(k+1):Nat):Int)=(2:Int)^(k+1):=by push_cast;rfl
  omega
theorem qbI(hi lo y P R:Int)(hP:0<P)(hR:0<R)(hPR:P*R=18446744073709551616)(h0:0<=hi)(h1:hi<y)(h2:0<=lo)(h3:lo<18446744073709551616)(h4:R<=2*y)(h5:y<R):
 (9223372036854775808<=y*P/\y*P<18446744073709551616)/\(0<=hi*P/\hi*P<18446744073709551616)/\(0<=lo/R/\lo/R<P)/\hi*P+lo/R<y*P/\
 (hi*P+lo/R)*18446744073709551616+lo*P%18446744073709551616=(hi*18446744073709551616+lo)*P:=by
 have a1:y*P<18446744073709551616:=by
  have:=Int.mul_lt_mul_of_pos_right h5 hP;rw[Int.mul_comm R]at this;omega
 have a2:9223372036854775808<=y*P:=by
  have:=Int.mul_le_mul_of_nonneg_right h4 (Int.le_of_lt hP);rw[Int.mul_comm R,hPR,Int.mul_assoc]at this;omega
 have b1:(hi+1)*P<=y*P:=Int.mul_le_mul_of_nonneg_right (by omega) (Int.le_of_lt hP);rw[Int.add_mul]at b1;have b2:0<=hi*P:=Im h0 (Int.le_of_lt hP);have c1:0<=lo/R:=Int.ediv_nonneg h2 (Int.le_of_lt hR);have c2:lo/R<P:=Int.ediv_lt_of_lt_mul hR (by omega);have d1:=Int.ediv_mul_add_emod lo R;have d2:=Io lo (b:=R) (by omega);have d3:=Ie lo hR;have e1:lo*P=lo/R*18446744073709551616+lo%R*P:=by
  calc lo*P=(lo/R*R+lo%R)*P:=by rw[d1]
   _=lo/R*(P*R)+lo%R*P:=by rw[Int.add_mul,Int.mul_assoc,Int.mul_comm R]
   _=_:=by rw[hPR]
 have e2:0<=lo%R*P:=Im d2 (Int.le_of_lt hP);have e3:lo%R*P<18446744073709551616:=by
  have:=Int.mul_lt_mul_of_pos_right d3 hP;rw[Int.mul_comm R]at this;omega
 refine⟨⟨a2,a1⟩,⟨b2,by omega⟩,⟨c1,c2⟩,by omega,?_⟩;have f:hi*18446744073709551616*P=hi*P*18446744073709551616:=by rw[Int.mul_assoc,Int.mul_comm _ P,<-Int.mul_assoc]
 rw[Int.add_mul (hi*18446744073709551616) lo P,f];omega
theorem yU(x y:Int)(s:Nat)(hx:0<=x)(hx1:x<18446744073709551616)(hxs:x%2^s=0)(hy:0<=y)(hy1:y<2^s)(hs:s<=64):bits .or .u64 x y=x+y:=by
 obtain⟨a,rfl⟩:=Ij hx;obtain⟨b,rfl⟩:=Ij hy;have hp:((2^s:Nat):Int)=(2:Int)^s:=by push_cast;rfl
 have hb:b<2^s:=by omega
 have hb64:2^s<=2^64:=Nat.pow_le_pow_right (by decide) hs;have ha:a%2^s=0:=by
  rw[<-hp,<-Int.natCast_emod]at hxs;omega
 rw[u64_or_nat a b (by omega) (by omega),nat_join s a b ha hb];omega
theorem qdQ(x:Int)(hx:0<=x)(hx1:x<18446744073709551616):bits .and .u64 x 4294967295=x%4294967296:=by
 obtain⟨a,rfl⟩:=Ij hx;have h:=u64_and_nat a 4294967295 (by omega) (by omega);have e:a&&&4294967295=a%4294967296:=Nat.and_two_pow_sub_one_eq_mod a 32;rw[e]at h;exact h.trans (by omega)
theorem fB{P:Program}{f:FuncId}{args:Array Value}{w:World}{a n:Nat}{v:Value}
 (h:Calls P f args (w.drewN (a+n)) λe w'=>e=.returned v/\w.drewN (a+n)=w'):
 Calls P f args (w.drewN (a+n)) λe w''=>e=.returned v/\∃m,w''=w.drewN (a+m):=
 h.mono λ_ _ ⟨he,hm⟩=>⟨he,n,hm.symm⟩
theorem kO{P:Program}{f:FuncId}{args:Array Value}{w:World}{n:Nat}{v:Value}
 (h:Calls P f args (w.drewN n) λe w'=>e=.returned v/\w.drewN n=w'):Calls P f args (w.drewN n) λe w''=>e=.returned v/\∃m,w''=w.drewN m:=
 h.mono λ_ _ ⟨he,hm⟩=>⟨he,n,hm.symm⟩
def LOK(w:World)(B:Nat)(A:OA)(n:Nat):Prop:=
 n<=maxLen/\(0<n->∃ab off:Nat,A=some ⟨ab,off,none⟩/\ab<B/\∀k,k<n->∃z:Int,w.cell? ⟨ab,off+k,none⟩=some (.int .i64 z)/\-9223372036854775808<=z/\z<=9223372036854775807)
def zbO(w:World)(B b:Nat)(A:OA)(n c:Nat):Prop:=
 B<=b/\∃k:Nat,k<=n/\w.heap[b]? =some (.cells #[.slice A n c,.int .i64 (k:Int)] 87 (0,0))
theorem LOK.below{w w':World}{B:Nat}{A:OA}{n:Nat}(h:LOK w B A n)(hb:Below B w w'):LOK w' B A n:=
 ⟨h.1,λhn=>by
  obtain⟨ab,off,e,hl,hc⟩:=h.2 hn
  exact⟨ab,off,e,hl,λk hk=>by
   obtain⟨z,h1,h2⟩:=hc k hk
   exact⟨z,hb.ct hl h1,h2⟩⟩⟩
theorem cX(w:World)(B:Nat)(hB:B<=w.heap.size)(A:OA)(n c:Nat):
 Calls prog 17 #[.slice A n c] w λe w'=>e=.returned (.pointer (some ⟨w.heap.size,0,none⟩))/\w'=w.alloc (.cells #[.slice A n c,.int .i64 0] 87):=by
 go_enter func17,ntmps17;go_wp2;go_ret;exact⟨rfl,rfl⟩
theorem zbO.new(w:World)(B:Nat)(hB:B<=w.heap.size)(A:OA)(n c:Nat):zbO (w.alloc (.cells #[.slice A n c,.int .i64 0] 87)) B w.heap.size A n c:=
 ⟨hB,0,Lq _,Hn w _⟩
theorem aZ(A:OA)(n c:Nat)(h:n<=120)(w:World):
 Calls prog 12 #[.slice A n c] w λe w'=>e=.returned (.bool true)/\w=w':=by
 go_enter func12,ntmps12;go_wp2;go_ret;exact⟨congrArg (λq=>Ending.returned (.bool q)) (Dt (by omega)),rfl⟩
theorem cA(A:OA)(n c:Nat)(h:¬n<=120)(w:World):
 Calls prog 12 #[.slice A n c] w λe w'=>e=.returned (.bool false)/\w=w':=by
 go_enter func12,ntmps12;go_wp2;go_ret;exact⟨congrArg (λq=>Ending.returned (.bool q)) (Df (by omega)),rfl⟩
theorem qbE(w:World)(b:Nat)(x y v:Value){q q':Nat}(h:w.heap[b]? =some (.cells #[x,y] 87 (0,0))):
 (((w.drewN q).setCell ⟨b,1,none⟩ v).drewN q').heap[b]? =some (.cells #[x,v] 87 (0,0)):=by
 show((w.setCell ⟨b,1,none⟩ v)).heap[b]? =_;simp[World.setCell,Array.getElem?_modify,h]
def zaZ(b:Nat)(w w':World):Prop:=w'.os=w.os/\w'.tape=w.tape/\w'.output=w.output/\w.heap.size<=w'.heap.size/\∀g,g<w.heap.size->g≠b->w'.heap[g]? =w.heap[g]?
theorem zaZ.refl(b:Nat)(w:World):zaZ b w w:=⟨rfl,rfl,rfl,Le _,λ_ _ _=>rfl⟩
theorem zaZ.trans{b:Nat}{w w1 w2:World}(h:zaZ b w w1)(k:zaZ b w1 w2):zaZ b w w2:=
 ⟨k.1.trans h.1,k.2.1.trans h.2.1,k.2.2.1.trans h.2.2.1,Ly h.2.2.2.1 k.2.2.2.1,λg hg hb=>(k.2.2.2.2 g (Lt hg h.2.2.2.1) hb).trans (h.2.2.2.2 g hg hb)⟩
theorem zaZ.below{b B:Nat}{w w':World}(h:zaZ b w w')(hB:B<=b)(hw:B<=w.heap.size):Below B w w':=⟨h.1,h.2.1,h.2.2.1,h.2.2.2.1,λg hg=>h.2.2.2.2 g (by omega) (by omega)⟩
theorem zaZ.of_below{b:Nat}{w w':World}(h:Bw w w'):zaZ b w w':=⟨h.os,h.tape,h.output,h.size,λg hg _=>h.block g hg⟩
theorem zaZ.drewN{b:Nat}{w w':World}(h:zaZ b w w')(n:Nat):zaZ b w (w'.drewN n):=⟨h.1,h.2.1,h.2.2.1,h.2.2.2.1,h.2.2.2.2⟩
theorem zaZ.size{b:Nat}{w w':World}(h:zaZ b w w'):w.heap.size<=w'.heap.size:=h.2.2.2.1
def ziW(B b:Nat)(A:OA)(n c:Nat)(lo hi:Int)(w:World)(e:Ending)(w':World):Prop:=
 ∃r:Int,e=.returned (.int .i64 r)/\lo<=r/\r<=hi/\zbO w' B b A n c/\zaZ b w w'
theorem zbO.lt{w:World}{B b:Nat}{A:OA}{n c:Nat}(h:zbO w B b A n c):b<w.heap.size:=by
 obtain⟨_,k,_,hh⟩:=h;exact(Ag.1 hh).1
theorem zbO.keep{w w':World}{B b:Nat}{A:OA}{n c:Nat}(h:zbO w B b A n c)(hk:w'.heap[b]? =w.heap[b]?):zbO w' B b A n c:=by
 obtain⟨h1,k,h2,h3⟩:=h;exact⟨h1,k,h2,hk.trans h3⟩
theorem zbO.below{w w':World}{B b:Nat}{A:OA}{n c:Nat}(h:zbO w B b A n c)(hb:Bw w w'):zbO w' B b A n c:=h.keep (hb.block b h.lt)
theorem aW(B b:Nat)(A:OA)(n c:Nat)(m:Int)(w:World)(hl:LOK w B A n)(ht:zbO w B b A n c)(hm1:1<=m)(hm2:m<=9223372036854775807):
 Calls prog 25 #[.pointer (some ⟨b,0,none⟩),.int .i64 m] w (ziW B b A n c 0 (m-1) w):=by
 obtain⟨hB,k,hk,hh⟩:=ht;have c0:w.cell? ⟨b,0,none⟩=some (.slice A n c):=Ro w b 0 _ _ _ hh;have c1:w.cell? ⟨b,1,none⟩=some (.int .i64 (k:Int)):=Ro w b 1 _ _ _ hh;have cf:w.frozen? ⟨b,1,none⟩=false:=by simp[World.frozen?,hh]
 have hn:=hl.1;unfold maxLen at hn;have HH:=Hd hh;clear hh;have HL:=Hd hl;clear hl;by_cases hlt:k<n
 ·obtain⟨ab,off,rfl,hab,hc⟩:=HL.o.2 (by omega);obtain⟨z,hz,z0,z1⟩:=hc k hlt;clear hc;have hne:¬ab=b:=by omega
  go_enter func25,ntmps25;go_wp2;go_quiet(fail);go_wp2;have i1:(0:Int)<=(k:Int):=by omega
  have i2:(k:Int)<(n:Int):=by omega
  have i3:IntKind.i64.wrap (k:Int)=(k:Int):=IntWalk.i64_in _ (by omega);have i4:IntKind.i64.wrap ((k:Int)+1-1)=(k:Int):=by rw[show(k:Int)+1-1=k by omega];exact i3
  go_quiet((go_at_call 22;first|exact fB (bY _ _ hm1 hm2 z0 z1 _)|exact kO (bY _ _ hm1 hm2 z0 z1 _)));go_wp2;go_ret;have eb:=sM z m hm1;refine⟨z%m,rfl,eb.1,eb.2,⟨hB,k+1,by omega,?_⟩,?_⟩
  ·have e:((k+1:Nat):Int)=(k:Int)+1:=by omega
   rw[e];exact qbE w b _ _ _ HH.o
  ·exact⟨rfl,rfl,rfl,by simp[World.setCell],λj _ hj=>Bj _ _ _ j hj⟩
 ·have hge:(n:Int)<=(k:Int):=by omega
  go_enter func25,ntmps25;go_wp2;go_quiet(fail);go_wp2;go_ret;exact⟨0,rfl,by omega,by omega,⟨hB,k,hk,HH.o⟩,⟨rfl,rfl,rfl,Le _,λ_ _ _=>rfl⟩⟩
theorem LOK.only{w w':World}{B b:Nat}{A:OA}{n:Nat}(h:LOK w B A n)(ho:zaZ b w w')(hB:B<=b)(hw:B<=w.heap.size):LOK w' B A n:=h.below (ho.below hB hw)
theorem cC(B b:Nat)(A:OA)(n c:Nat)(lo hi:Int)(w:World)(hl:LOK w B A n)(ht:zbO w B b A n c)(h1:lo<=hi)(h2: -1000000<=lo)(h3:hi<=1000000):
 Calls prog 28 #[.pointer (some ⟨b,0,none⟩),.int .i64 lo,.int .i64 hi] w (ziW B b A n c lo hi w):=by
 have HC:=Hd (aW B b A n c (hi-lo+1) w hl ht (by omega) (by omega));clear hl ht;go_enter func28,ntmps28;go_wp2_with(go_at_call 25;refine HC.o.mono ?_;rintro e w1 ⟨r,rfl,r0,r1,htp,ho⟩;have HT2:=Hd htp;have HO:=Hd ho;clear htp ho);go_ret;exact⟨_,rfl,by omega,by omega,HT2.o,HO.o⟩
theorem eX(B b:Nat)(A:OA)(n c:Nat)(w:World)(hl:LOK w B A n)(ht:zbO w B b A n c)(hw:B<=w.heap.size):
 Calls prog 29 #[.pointer (some ⟨b,0,none⟩)] w (ziW B b A n c 0 999999999999999 w):=by
 have HL:=Hd hl;clear hl;have HTP:=Hd ht;have hBb:=ht.1;clear ht;have HO:Hid (zaZ b w w):=zaZ.refl b w;go_enter func29,ntmps29;go_wp2_with(go_at_call 25;refine(aW B b A n c _ _ (HL.o.only HO.o hBb hw) HTP.o (by omega) (by omega)).mono ?_;rintro e w1 ⟨r,rfl,hr0,hr1,htp,ho⟩;have HN:=Hd (HO.o.trans ho);have HT2:=Hd htp;clear HO ho HTP htp;have HO:=Hd HN.o;have HTP:=Hd HT2.o;clear HN HT2);all_goals go_ret
 all_goals exact⟨_,rfl,by omega,by omega,HTP.o,HO.o⟩
open Go.PlainAid
def dgt(c:Int):Bool:=decide (48<=c/\c<=57)
theorem iO{c:Int}(h:dgt c=true):48<=c/\c<=57:=of_decide_eq_true h
theorem qzW{c:Int}(h:dgt c=false):¬(48<=c/\c<=57):=of_decide_eq_false h
theorem rB{c:Int}(h:48<=c)(h':c<=57):dgt c=true:=Dt ⟨h,h'⟩
theorem pP{c:Int}(h:c<48\/57<c):dgt c=false:=Df (by omega)
def zeM(s:ByteArray):List Int:=s.data.toList.map λc=>(c.toNat:Int)
theorem rI(s:ByteArray):(zeM s).length=s.size:=by unfold zeM;rw[List.length_map,Array.length_toList];rfl
theorem mI(s:ByteArray)(k:Nat)(h:k<s.size):(zeM s).drop k=bt s k::(zeM s).drop (k+1):=by
 have hl:k<(zeM s).length:=by rw[rI];exact h
 rw[List.drop_eq_getElem_cons hl];congr 1;unfold bt;rw[dif_pos h];simp[zeM];rfl
theorem oJ(s:ByteArray)(k:Nat)(h:s.size<=k):(zeM s).drop k=[]:=List.drop_eq_nil_of_le (by rw[rI];exact h)
def prs:List Int->Nat->Nat->Bool->Int->Option (Nat×Nat×Int)
 |[],w,p,_,n=>some (w,p,n)
 |c::cs,w,p,pt,n=>
  if c==46&& !pt then prs cs w p true n
  else if !dgt c then none
  else if pt then(if p+1>6 then none else prs cs w (p+1) true (10*n+(c-48)))
  else(if w+1>9 then none else prs cs (w+1) p false (10*n+(c-48)))
def fin(r:Option (Nat×Nat×Int)):Int×Int:=
 match r with
 |none=>(0,2)
 |some (w,p,n)=>if w+p=0 then(0,2)else(n*10^(6-p),0)
def zdF(l:List Int):Int×Int:=fin (prs l 0 0 false 0)
theorem jH{c:Int}{cs:List Int}{w p:Nat}{n:Int}(h:c=46):prs (c::cs) w p false n=prs cs w p true n:=by
 rw[prs];simp[h]
theorem mM{c:Int}{cs:List Int}{w p:Nat}{pt:Bool}{n:Int}(h:dgt c=false)(h':c≠46\/pt=true):prs (c::cs) w p pt n=none:=by
 rw[prs];have:(c==46&& !pt)=false:=by rcases h' with h'|h'<;>simp[h']
 simp[this,h]
theorem fR{c:Int}{cs:List Int}{w p:Nat}{n:Int}(h:dgt c=true)(hw:w<9):prs (c::cs) w p false n=prs cs (w+1) p false (10*n+(c-48)):=by
 have:=iO h;rw[prs];have e:(c==46&& !false)=false:=by simp;omega
 rw[e,h];simp;omega
theorem kP{c:Int}{cs:List Int}{w p:Nat}{n:Int}(h:dgt c=true)(hw:9<=w):prs (c::cs) w p false n=none:=by
 have:=iO h;rw[prs];have e:(c==46&& !false)=false:=by simp;omega
 rw[e,h];simp;omega
theorem lL{c:Int}{cs:List Int}{w p:Nat}{n:Int}(h:dgt c=true)(hw:p<6):prs (c::cs) w p true n=prs cs w (p+1) true (10*n+(c-48)):=by
 rw[prs];simp[h];omega
theorem lK{c:Int}{cs:List Int}{w p:Nat}{n:Int}(h:dgt c=true)(hw:6<=p):prs (c::cs) w p true n=none:=by
 rw[prs];simp[h];omega
theorem qL{k:Nat}(h:k<=17):(10:Int)^k<=100000000000000000:=by
 have:=Nat.pow_le_pow_right (n:=10) (by decide) h;have h2:(((10:Nat)^k:Nat):Int)=(10:Int)^k:=by push_cast;rfl
 omega
theorem jJ{k:Nat}{m c:Int}(h:m<10^k)(h1:48<=c)(h2:c<=57):10*m+(c-48)<10^(k+1):=by
 have:(10:Int)^(k+1)=10^k*10:=Int.pow_succ 10 k;omega
open Go.RowKit Go.PlainAid
theorem eJ(c:Int)(w:World):
 Calls prog 166 #[.int .u8 c] w λe w'=>e=.returned (.bool (dgt c))/\w=w':=by
 by_cases h1:48<=c
 ·by_cases h2:c<=57
  ·rw[rB h1 h2];go_enter func166,ntmps166;go_wp2;go_ret;exact⟨rfl,rfl⟩
  ·rw[pP (by omega)];go_enter func166,ntmps166;go_wp2;go_ret;exact⟨rfl,rfl⟩
 ·rw[pP (by omega)];go_enter func166,ntmps166;go_wp2;go_ret;exact⟨rfl,rfl⟩
def zmW(s:ByteArray)(R:Option (Nat×Nat×Int))(wh pa po n i:Value):Prop:=
 ∃(w p:Nat) (pt:Bool) (m:Int) (k:Nat),wh=.int .i64 w/\pa=.int .i64 p/\po=.bool pt/\n=.int .i64 m/\i=.int .i64 k/\k<=s.size/\w<=9/\p<=6/\0<=m/\m<10^(w+p)/\prs ((zeM s).drop k) w p pt m=R
theorem qJ(s:ByteArray)(hs:s.size<=maxLen)(w:World):
 Calls prog 129 #[.string s] w λe w'=>e=.returned (.tuple #[.int .i64 (zdF (zeM s)).1,.int .i64 (zdF (zeM s)).2])/\w=w':=by
 unfold maxLen at hs;have hbt:=get_bt s;go_enter func129,ntmps129;go_wp2;go_loop[4,5,6,7,8] (zmW s (prs (zeM s) 0 0 false 0)) (λ_ _ _ _ i=>s.size-(intOf i).toNat)
 case atStart=>exact⟨0,0,false,0,0,rfl,rfl,rfl,rfl,rfl,by omega,by omega,by omega,by omega,by decide,rfl⟩
 case round=>
  obtain⟨wh,pa,pt,m,k,rfl,rfl,rfl,rfl,rfl,hk,hw,hp,hm0,hm1,hR⟩:=hrel;have hm2:m<100000000000000000:=by have:=qL (k:=wh+pa) (by omega);omega
  have HR:=Hd hR;clear hR;have HM:=Hd hm1;clear hm1;by_cases hlt:k<s.size
  ·have hdr:=Hd (mI s k hlt);have b0:=bt_nonneg s k;have b1:=bt_le s k;rcases hd:dgt (bt s k)with _|_
   ·by_cases h46:bt s k=46
    ·have h46':(bt s k==46)=true:=by simpa using h46
     have H46:=Hd h46;clear h46;cases pt
     ·go_wp2_with(go_at_call 166;refine mo0 (eJ _ _) ?_);go_round
      case rel=>exact⟨wh,pa,true,m,k+1,rfl,rfl,rfl,rfl,by go_num,by omega,hw,hp,hm0,HM.o,by rw[<-HR.o,hdr.o,jH H46.o]⟩
      case measure=>simp[intOf];omega
     ·have hR:Hid (prs (zeM s) 0 0 false 0=none):=by have h:=HR.o;rw[hdr.o,mM hd (Or.inr rfl)]at h;exact h.symm
      go_wp2_with(go_at_call 166;refine mo0 (eJ _ _) ?_);go_ret2;exact⟨by unfold zdF;rw[hR.o];rfl,rfl⟩
    ·have h46':(bt s k==46)=false:=by simpa using h46
     have hR:Hid (prs (zeM s) 0 0 false 0=none):=by have h:=HR.o;rw[hdr.o,mM hd (Or.inl h46)]at h;exact h.symm
     clear h46;go_wp2_with(go_at_call 166;refine mo0 (eJ _ _) ?_);go_ret2;exact⟨by unfold zdF;rw[hR.o];rfl,rfl⟩
   ·have c0:=iO hd;have h46':(bt s k==46)=false:=by simp;omega
    cases pt
    ·by_cases h9:wh<9
     ·go_wp2_with(go_at_call 166;refine mo0 (eJ _ _) ?_);go_round
      case rel=>exact⟨wh+1,pa,false,10*m+(bt s k-48),k+1,by go_num,rfl,rfl,rfl,by go_num,by omega,by omega,hp,by omega,by rw[show wh+1+pa=wh+pa+1 from by omega];exact jJ HM.o c0.1 c0.2,by rw[<-HR.o,hdr.o,fR hd h9]⟩
      case measure=>simp[intOf];omega
     ·have hR:Hid (prs (zeM s) 0 0 false 0=none):=by have h:=HR.o;rw[hdr.o,kP hd (by omega)]at h;exact h.symm
      obtain rfl:wh=9:=by omega
      go_wp2_with(go_at_call 166;refine mo0 (eJ _ _) ?_);go_ret2;exact⟨by unfold zdF;rw[hR.o];rfl,rfl⟩
    ·by_cases h9:pa<6
     ·go_wp2_with(go_at_call 166;refine mo0 (eJ _ _) ?_);go_round
      case rel=>exact⟨wh,pa+1,true,10*m+(bt s k-48),k+1,rfl,by go_num,rfl,rfl,by go_num,by omega,hw,by omega,by omega,by rw[show wh+(pa+1)=wh+pa+1 from by omega];exact jJ HM.o c0.1 c0.2,by rw[<-HR.o,hdr.o,lL hd h9]⟩
      case measure=>simp[intOf];omega
     ·have hR:Hid (prs (zeM s) 0 0 false 0=none):=by have h:=HR.o;rw[hdr.o,lK hd (by omega)]at h;exact h.symm
      obtain rfl:pa=6:=by omega
      go_wp2_with(go_at_call 166;refine mo0 (eJ _ _) ?_);go_ret2;exact⟨by unfold zdF;rw[hR.o];rfl,rfl⟩
  ·have hR:Hid (prs (zeM s) 0 0 false 0=some (wh,pa,m)):=by have h:=HR.o;rw[oJ s k (by omega)]at h;exact h.symm
   clear HR;by_cases h0:wh+pa=0
   ·obtain rfl:wh=0:=by omega
    obtain rfl:pa=0:=by omega
    go_wp2_with(go_at_call 166;refine mo0 (eJ _ _) ?_);go_ret2;exact⟨by unfold zdF;rw[hR.o];rfl,rfl⟩
   ·have hF:Hid (zdF (zeM s)=(m*10^(6-pa),0)):=by unfold Hid zdF;rw[hR.o];unfold fin;simp only[h0,if_false]
    clear hR;have h0':((wh:Int)+pa==0)=false:=by simp;omega
    go_wp2_with(go_at_call 166;refine mo0 (eJ _ _) ?_);go_loop[5,7] (λpa' n=>∃(q:Nat) (m':Int),pa'=.int .i64 q/\n=.int .i64 m'/\q<=6/\0<=m'/\m'<10^(wh+q)/\m'*10^(6-q)=m*10^(6-pa)) (λpa' _=>6-(intOf pa').toNat)
    case atStart=>exact⟨pa,m,rfl,rfl,hp,hm0,HM.o,rfl⟩
    case round=>
     obtain⟨q,m',rfl,rfl,hq,hm0',hm1',hE⟩:=hrel;have hm2':m'<100000000000000000:=by have:=qL (k:=wh+q) (by omega);omega
     have HE:=Hd hE;clear hE;have HM':=Hd hm1';clear hm1';by_cases hq6:q<6
     ·go_wp2;go_round
      case rel=>exact⟨q+1,10*m',by go_num,rfl,by omega,by omega,by have:=Int.pow_succ 10 (wh+q);have:=HM'.o;rw[show wh+(q+1)=wh+q+1 from by omega];omega,by rw[<-HE.o,show 6-q=6-(q+1)+1 from by omega,Int.pow_succ,Int.mul_comm 10 m',Int.mul_assoc,Int.mul_comm 10]⟩
      case measure=>simp[intOf];omega
     ·obtain rfl:q=6:=by omega
      go_wp2;go_ret2;exact⟨by rw[hF.o];exact dG (by have:=HE.o;simpa using this) rfl,rfl⟩
def Rel1(s:ByteArray)(R:Option (Nat×Nat×Int))(a n:Value):Prop:=
 ∃(k:Nat) (m:Int),a=.int .i64 k/\n=.int .i64 m/\k<=s.size/\k<=10/\0<=m/\m<10^k/\(k<=9->prs ((zeM s).drop k) k 0 false m=R)/\(k=10->R=none)
def Rel2(s:ByteArray)(R:Option (Nat×Nat×Int))(f:Nat)(a n b:Value):Prop:=
 ∃(k q:Nat) (m:Int),a=.int .i64 k/\n=.int .i64 m/\b=.int .i64 q/\k<=s.size/\q<=7/\k<=f+1+q/\0<=m/\m<10^(f+q)/\(q<=6->prs ((zeM s).drop k) f q true m=R)/\(q=7->R=none)
def Rel3(f q:Nat)(m:Int)(n b:Value):Prop:=
 ∃(q':Nat) (m':Int),b=.int .i64 q'/\n=.int .i64 m'/\q'<=6/\0<=m'/\m'<10^(f+q')/\m'*10^(6-q')=m*10^(6-q)
theorem wZ{f q q':Nat}{m m':Int}(h:q'<6)(h0:0<=m')(h1:m'<10^(f+q'))(hE:m'*10^(6-q')=m*10^(6-q)):Rel3 f q m (.int .i64 (m'*10)) (.int .i64 ((q':Int)+1)):=
 ⟨q'+1,m'*10,by go_num,rfl,by omega,by omega,by have:=Int.pow_succ 10 (f+q');rw[show f+(q'+1)=f+q'+1 from by omega];omega,by rw[<-hE,show 6-q'=6-(q'+1)+1 from by omega,Int.pow_succ,Int.mul_assoc,Int.mul_comm 10]⟩
theorem qcV{w p:Nat}{n:Int}(h:w+p≠0):fin (some (w,p,n))=(n*10^(6-p),0):=by unfold fin;simp only[h,if_false]
