/- Plain words. -/
import Derived.Test.YtdcjbhdfphcefaaGreatDoorRows
import Derived.WalkKit
import Derived.WalkSpells
import Derived.WalkLawsBesides
import Derived.Handy
import Derived.Lib.Hide
import Derived.PlainAid
import Derived.Lib.BitFns
import Derived.Shelf.Bits.Mul64
import Derived.Deep.QuietTactic
import Derived.BigQuiet
import Derived.Test.YtdcjbhdfphcefaaGreatDoorSh
namespace Go.Proofs.YtdcjbhdfphcefaaGreatDoor
set_option linter.all false
open Go.Proofs.Tryz
theorem fV(v n:Int)(h:1≤n):(v.tmod n<0→v.tmod n+n=v%n)∧(0≤v.tmod n→v.tmod n=v%n):=by
 have e:=Int.tmod_eq_emod (a:=v) (b:=n);have h0:=Io v (b:=n) (by omega);have h1:=Ie v (b:=n) (by omega);by_cases c:0≤v∨n∣v
 ·rw[Ip c]at e;constructor<;>intro<;>omega
 ·rw[Iq c]at e;constructor<;>intro<;>omega
theorem sM(v n:Int)(h:1≤n):0≤v%n∧v%n≤n-1:=⟨Io v (by omega),by have:=Ie v (b:=n) (by omega);omega⟩
theorem mH(v n:Int)(h:1≤n): -n<v.tmod n∧v.tmod n<n:=by
 have e:=Int.tmod_eq_emod (a:=v) (b:=n);have h0:=Io v (b:=n) (by omega);have h1:=Ie v (b:=n) (by omega);by_cases c:0≤v∨n∣v
 ·rw[Ip c]at e;constructor<;>omega
 ·rw[Iq c]at e;have hne:v%n≠0:=fun h=>c (Or.inr (Int.dvd_of_emod_eq_zero h));constructor<;>omega
def vld(n:Int):Bool:=decide (-1000000000000000≤n∧n≤1000000000000000)
theorem aP{n:Int}(h:vld n=true): -1000000000000000≤n∧n≤1000000000000000:=of_decide_eq_true h
theorem bO{n:Int}(h: -1000000000000000≤n)(h':n≤1000000000000000):vld n=true:=Dt ⟨h,h'⟩
theorem kB{n:Int}(h:n< -1000000000000000∨1000000000000000<n):vld n=false:=Df (by omega)
def btw(v low high:Int):Int:=low+v%(high-low+1)
def num(v:Int):Int:=btw v (-1000000000000000) 1000000000000000
def chk(n:Int):Int×Int:=if vld n then(n,0)else(0,3)
theorem kR{n:Int}(h:vld n=true):chk n=(n,0):=by unfold chk;rw[Ip h]
theorem rC{n:Int}(h:vld n=false):chk n=(0,3):=by unfold chk;rw[h];rfl
def addS(a b:Int):Int×Int:=if vld a&&vld b then chk (a+b)else(0,1)
def subS(a b:Int):Int×Int:=if vld a&&vld b then chk (a-b)else(0,1)
theorem pY{a b:Int}(ha:vld a=true)(hb:vld b=true):addS a b=chk (a+b):=by unfold addS;simp[ha,hb]
theorem oI{a b:Int}(ha:vld a=true)(hb:vld b=true):subS a b=chk (a-b):=by unfold subS;simp[ha,hb]
theorem qaV{a b:Int}(h:(vld a&&vld b)=false):addS a b=(0,1):=by unfold addS;simp[h]
theorem yG{a b:Int}(h:(vld a&&vld b)=false):subS a b=(0,1):=by unfold subS;simp[h]
def modS(a b:Int):Int×Int:=if vld a&&vld b then(if b==0 then(0,4)else(a%b,0))else(0,1)
theorem sD{a b:Int}(h:(vld a&&vld b)=false):modS a b=(0,1):=by unfold modS;simp[h]
theorem mP{a:Int}(h:vld a=true):modS a 0=(0,4):=by unfold modS;rw[h,bO (by omega) (by omega)];rfl
theorem oX{a b:Int}(ha:vld a=true)(hb:vld b=true)(h:b≠0):modS a b=(a%b,0):=by unfold modS;simp[ha,hb,h]
theorem tD(a b:Int)(h:b≠0):(a.tmod b<0→a.tmod b+max b (-b)=a%b)∧(0≤a.tmod b→a.tmod b=a%b):=by
 rcases Il b 0 with hb|hb
 ·have h2:=fV a (-b) (by omega);rw[Int.tmod_neg,Int.emod_neg]at h2;have e:max b (-b)= -b:=by omega
  rw[e];exact h2
 ·have h2:=fV a b (by omega);have e:max b (-b)=b:=by omega
  rw[e];exact h2
theorem lE(a b:Int)(h:b≠0): -max b (-b)<a.tmod b∧a.tmod b<max b (-b):=by
 rcases Il b 0 with hb|hb
 ·have h2:=mH a (-b) (by omega);rw[Int.tmod_neg]at h2;have e:max b (-b)= -b:=by omega
  rw[e];exact h2
 ·have h2:=mH a b (by omega);have e:max b (-b)=b:=by omega
  rw[e];exact h2
open Go.RowKit
theorem aO{k:IntKind}{a b:Int}(h:a=b):Ending.returned (.int k a)=.returned (.int k b):=by rw[h]
theorem dG{k l:IntKind}{a b c d:Int}(h:a=c)(h':b=d):Ending.returned (.tuple #[.int k a,.int l b])=.returned (.tuple #[.int k c,.int l d]):=by rw[h,h']
theorem bY(v n:Int)(h1:1≤n)(h2:n≤9223372036854775807)(hv1: -9223372036854775808≤v)(hv2:v≤9223372036854775807)(w:World):
 Calls prog 22 #[.int .i64 v,.int .i64 n] w fun e w'=>e=.returned (.int .i64 (v%n))∧w=w':=by
 have hb:=mH v n h1;have hf:=Hd (fV v n h1);go_enter func22,ntmps22;go_wp2
 ·have hlt:v.tmod n<0:=by assumption
  go_ret;exact⟨aO (hf.o.1 hlt),rfl⟩
 ·have hlt:0≤v.tmod n:=by assumption
  go_ret;exact⟨aO (hf.o.2 hlt),rfl⟩
theorem aK(n:Int)(w:World):
 Calls prog 87 #[.int .i64 n] w fun e w'=>e=.returned (.bool (vld n))∧w=w':=by
 by_cases h1: -1000000000000000≤n
 ·by_cases h2:n≤1000000000000000
  ·rw[bO h1 h2];go_enter func87,ntmps87;go_wp2;go_ret;exact⟨rfl,rfl⟩
  ·rw[kB (by omega)];go_enter func87,ntmps87;go_wp2;go_ret;exact⟨rfl,rfl⟩
 ·rw[kB (by omega)];go_enter func87,ntmps87;go_wp2;go_ret;exact⟨rfl,rfl⟩
theorem aF(n:Int)(w:World):
 Calls prog 168 #[.int .i64 n] w fun e w'=>e=.returned (.bool (vld n))∧w=w':=by
 by_cases h1: -1000000000000000≤n
 ·by_cases h2:n≤1000000000000000
  ·rw[bO h1 h2];go_enter func168,ntmps168;go_wp2;go_ret;exact⟨rfl,rfl⟩
  ·rw[kB (by omega)];go_enter func168,ntmps168;go_wp2;go_ret;exact⟨rfl,rfl⟩
 ·rw[kB (by omega)];go_enter func168,ntmps168;go_wp2;go_ret;exact⟨rfl,rfl⟩
theorem dT(a b:Int)(w:World):
 Calls prog 194 #[.int .i64 a,.int .i64 b] w fun e w'=>e=.returned (.bool (vld a&&vld b))∧w=w':=by
 rcases ha:vld a with _|_
 all_goals
  go_enter func194,ntmps194;go_wp2_with(go_at_call 87;refine mo0 (aK _ _) ?_);go_ret;exact⟨by simp,rfl⟩
theorem lX(n:Int)(w:World):
 Calls prog 195 #[.int .i64 n] w fun e w'=>e=.returned (.tuple #[.int .i64 (chk n).1,.int .i64 (chk n).2])∧w=w':=by
 rcases ha:vld n with _|_
 ·rw[rC ha];go_enter func195,ntmps195;go_wp2_with(go_at_call 87;refine mo0 (aK _ _) ?_);go_ret2;exact⟨rfl,rfl⟩
 ·rw[kR ha];go_enter func195,ntmps195;go_wp2_with(go_at_call 87;refine mo0 (aK _ _) ?_);go_ret2;exact⟨rfl,rfl⟩
theorem pX(a b:Int)(ha1: -9223372036854775808≤a)(ha2:a≤9223372036854775807)(hb1: -9223372036854775808≤b)(hb2:b≤9223372036854775807)(w:World):
 Calls prog 161 #[.int .i64 a,.int .i64 b] w fun e w'=>e=.returned (.tuple #[.int .i64 (addS a b).1,.int .i64 (addS a b).2])∧w=w':=by
 rcases h:(vld a&&vld b)with _|_
 ·rw[qaV h];go_enter func161,ntmps161;go_wp2_with(go_at_call 194;refine mo0 (dT _ _ _) ?_);go_ret2;exact⟨rfl,rfl⟩
 ·have h':vld a=true∧vld b=true:=by simpa using h
  have k1:=aP h'.1;have k2:=aP h'.2;rw[pY h'.1 h'.2];clear h';go_enter func161,ntmps161;go_wp2_with(first|(go_at_call 194;refine mo0 (dT _ _ _) ?_)|(go_at_call 195;refine mo0 (lX _ _) ?_));go_ret2;exact⟨rfl,rfl⟩
theorem oH(a b:Int)(ha1: -9223372036854775808≤a)(ha2:a≤9223372036854775807)(hb1: -9223372036854775808≤b)(hb2:b≤9223372036854775807)(w:World):
 Calls prog 162 #[.int .i64 a,.int .i64 b] w fun e w'=>e=.returned (.tuple #[.int .i64 (subS a b).1,.int .i64 (subS a b).2])∧w=w':=by
 rcases h:(vld a&&vld b)with _|_
 ·rw[yG h];go_enter func162,ntmps162;go_wp2_with(go_at_call 194;refine mo0 (dT _ _ _) ?_);go_ret2;exact⟨rfl,rfl⟩
 ·have h':vld a=true∧vld b=true:=by simpa using h
  have k1:=aP h'.1;have k2:=aP h'.2;rw[oI h'.1 h'.2];clear h';go_enter func162,ntmps162;go_wp2_with(first|(go_at_call 194;refine mo0 (dT _ _ _) ?_)|(go_at_call 195;refine mo0 (lX _ _) ?_));go_ret2;exact⟨rfl,rfl⟩
theorem lO(a b:Int)(ha1: -9223372036854775808≤a)(ha2:a≤9223372036854775807)(hb1: -9223372036854775808≤b)(hb2:b≤9223372036854775807)(w:World):
 Calls prog 165 #[.int .i64 a,.int .i64 b] w fun e w'=>e=.returned (.tuple #[.int .i64 (modS a b).1,.int .i64 (modS a b).2])∧w=w':=by
 rcases h:(vld a&&vld b)with _|_
 ·rw[sD h];go_enter func165,ntmps165;go_wp2_with(go_at_call 194;refine mo0 (dT _ _ _) ?_);go_ret2;exact⟨rfl,rfl⟩
 ·have h':vld a=true∧vld b=true:=by simpa using h
  have k1:=aP h'.1;have k2:=aP h'.2;by_cases hb0:b=0
  ·subst hb0;rw[mP h'.1];clear h';go_enter func165,ntmps165;go_wp2_with(go_at_call 194;refine mo0 (dT _ _ _) ?_);go_ret2;exact⟨rfl,rfl⟩
  ·rw[oX h'.1 h'.2 hb0];have hf:=Hd (tD a b hb0);have hbd:=lE a b hb0;have hb0':(b==0)=false:=by simpa using hb0
   clear h';go_enter func165,ntmps165;go_wp2_with(go_at_call 194;refine mo0 (dT _ _ _) ?_);all_goals
    go_ret2;exact⟨dG (by have:=hf.o;omega) rfl,rfl⟩
theorem below2{w w1 w2:World}(h1:Bw w w1)(h2:Bw w1 w2):Bw w w2:=h1.tm h2
def mg(n:Int):Int:=(n.natAbs:Int)
theorem eE(n:Int):0≤mg n:=by unfold mg;omega
theorem uE(n:Int)(h1: -9223372036854775808≤n)(h2:n≤9223372036854775807):mg n≤9223372036854775808:=by unfold mg;omega
theorem qoN{n:Int}(h:n<0):mg n= -n:=by unfold mg;omega
theorem zG{n:Int}(h:0≤n):mg n=n:=by unfold mg;omega
theorem qfD(a b:Int):mg a*mg b=mg (a*b):=by unfold mg;rw[Int.natAbs_mul];push_cast;rfl
def hiW(x:Int):Int:=x/18446744073709551616
def loW(x:Int):Int:=x%18446744073709551616
theorem qC(x:Int):hiW x*18446744073709551616+loW x=x:=by unfold hiW loW;omega
theorem eT(x:Int):0≤loW x:=by unfold loW;omega
theorem nK(x:Int):loW x≤18446744073709551615:=by unfold loW;omega
theorem eU{x:Int}(h:0≤x):0≤hiW x:=by unfold hiW;omega
theorem qS{x:Int}(h:x<340282366920938463463374607431768211456):hiW x≤18446744073709551615:=by unfold hiW;omega
theorem iH{a b:Int}(h1:0≤a)(h2:0≤b):0≤a*b:=Im h1 h2
theorem rZ{a b:Int}(h1:0≤a)(h2:0≤b)(h3:a≤18446744073709551615)(h4:b≤18446744073709551615):a*b<340282366920938463463374607431768211456:=by
 have:=Int.mul_le_mul h3 h4 h2 (by omega);omega
def sg(a b:Int):Int:=if a=0∨b=0 then 0 else if(a<0↔b<0)then 1 else-1
theorem mK{a b:Int}(h:a=0∨b=0):sg a b=0:=by unfold sg;rw[Ip h]
theorem qF{a b:Int}(ha:a≠0)(hb:b≠0)(h:a<0↔b<0):sg a b=1:=by unfold sg;rw[Iq (by omega),Ip h]
theorem qG{a b:Int}(ha:a≠0)(hb:b≠0)(h:¬(a<0↔b<0)):sg a b= -1:=by unfold sg;rw[Iq (by omega),Iq h]
def sgnd(n:Int)(neg:Bool):Int×Bool:=if neg then(if n≤9223372036854775808 then(-n,true)else(0,false))else if n<9223372036854775808 then(n,true)else(0,false)
def grw(mode more:Int)(some neg:Bool):Bool:=if mode=0 then some&&neg else if mode=1 then some&& !neg else decide (0<more)||(decide (more=0)&& !neg)
def half(r d:Int):Int:=if d-r<r then 1 else if r<d-r then-1 else 0
theorem sJ{r d:Int}(h:d-r<r):half r d=1:=by unfold half;rw[Ip h]
theorem pH{r d:Int}(h:r<d-r):half r d= -1:=by unfold half;rw[Iq (by omega),Ip h]
theorem qaB{r d:Int}(h:r=d-r):half r d=0:=by unfold half;rw[Iq (by omega),Iq (by omega)]
def ngt(a b c:Int):Bool:=decide (sg a b≠0)&&decide (¬(sg a b<0↔c<0))
def mdA(a b c mode:Int):Int:=mg a*mg b/mg c+(if grw mode (half (mg a*mg b%mg c) (mg c)) (decide (0<mg a*mg b%mg c)) (ngt a b c)then 1 else 0)
def mdS(a b c mode:Int):Int×Bool:=sgnd (mdA a b c mode) (ngt a b c)
def scaS(a b c:Int):Int×Int:=if(mdS a b c 2).2 then chk (mdS a b c 2).1 else(0,3)
def mulS(a b:Int):Int×Int:=if vld a&&vld b then scaS a b 1000000 else(0,1)
def divS(a b:Int):Int×Int:=if vld a&&vld b then(if b=0 then(0,4)else scaS a 1000000 b)else(0,1)
theorem oW{a b:Int}(ha:vld a=true)(hb:vld b=true):mulS a b=scaS a b 1000000:=by unfold mulS;simp[ha,hb]
theorem zD{a b:Int}(h:(vld a&&vld b)=false):mulS a b=(0,1):=by unfold mulS;simp[h]
theorem vC{a b:Int}(ha:vld a=true)(hb:vld b=true)(h:b≠0):divS a b=scaS a 1000000 b:=by unfold divS;simp[ha,hb,h]
theorem qaH{a b:Int}(h:(vld a&&vld b)=false):divS a b=(0,1):=by unfold divS;simp[h]
theorem qZ{a:Int}(h:vld a=true):divS a 0=(0,4):=by unfold divS;rw[h,bO (by omega) (by omega)];rfl
def rnd(mode p c:Int):Int:=if mode=0 then p/c else if mode=1 then-(-p/c)else(2*p+c)/(2*c)
theorem fH{p c q r:Int}(hc:0<c)(h:r+c*q=p)(h0:0≤r)(h1:r<c):p/c=q:=((Int.ediv_emod_unique hc).2 ⟨h,h0,h1⟩).1
theorem zH(a b c mode:Int)(hc:0<c)(hm0:0≤mode)(hm1:mode≤2)(hs:mg a*mg b/c<9223372036854775807):mdS a b c mode=(rnd mode (a*b) c,true):=by
 unfold mdS mdA;rw[zG (Int.le_of_lt hc)];have hx:mg a*mg b=mg (a*b):=qfD a b;rw[hx]at hs⊢
 have hd:=Int.mul_ediv_add_emod (mg (a*b)) c;have h0:=Io (mg (a*b)) (b:=c) (by omega);have h1:=Ie (mg (a*b)) hc;have hq:=Int.ediv_nonneg (eE (a*b)) (Int.le_of_lt hc);have hng:ngt a b c=decide (a*b<0):=by
  unfold ngt sg;by_cases ha:a=0
  ·subst ha;simp
  by_cases hb:b=0
  ·subst hb;simp
  rw[Iq (by omega)];by_cases h:(a<0↔b<0)
  ·rw[Ip h];have:¬a*b<0:=by
    rcases Il a 0 with ha'|ha'
    ·have:=Int.mul_nonneg_of_nonpos_of_nonpos (show a≤0 by omega) (show b≤0 by omega);omega
    ·have:=Im ha' (show 0≤b by omega);omega
   simp[this];omega
  ·rw[Iq h];have:a*b<0:=by
    rcases Il a 0 with ha'|ha'
    ·exact Int.mul_neg_of_neg_of_pos ha' (by omega)
    ·exact Int.mul_neg_of_pos_of_neg (by omega) (by omega)
   simp[this];omega
 rw[hng];generalize mg (a*b)/c=q at*
 generalize mg (a*b)%c=r at*
 generalize hp:a*b=p at*
 have hmg:mg p=if p<0 then-p else p:=by unfold mg;split<;>omega
 have hmode:mode=0∨mode=1∨mode=2:=by omega
 by_cases hneg:p<0
 ·rw[Ip hneg]at hmg;rw[hmg]at hd;have e1:c* -q= -(c*q):=by rw[Int.mul_neg]
  have e2:c*(-q-1)= -(c*q)-c:=by rw[Int.mul_sub,Int.mul_neg];omega
  have e3:2*c* -q= -(2*(c*q)):=by rw[Int.mul_neg,Int.mul_assoc]
  have e4:2*c*(-q-1)= -(2*(c*q))-2*c:=by rw[Int.mul_sub,Int.mul_neg,Int.mul_assoc];omega
  rcases hmode with rfl|rfl|rfl
  ·by_cases hr:0<r
   ·have hr2:p/c= -q-1:=fH (r:=c-r) hc (by rw[e2];omega) (by omega) (by omega);simp[grw,sgnd,rnd,hneg,hr,hr2];(first|omega|(rw[Ip (by omega)];exact Prod.ext (by dsimp only;omega) rfl))
   ·have hr2:p/c= -q:=fH (r:= -r) hc (by rw[e1];omega) (by omega) (by omega);simp[grw,sgnd,rnd,hneg,hr,hr2];(first|omega|(rw[Ip (by omega)];exact Prod.ext (by dsimp only;omega) rfl))
  ·have hr2: -p/c=q:=fH (r:=r) hc (by omega) (by omega) (by omega);simp[grw,sgnd,rnd,hneg,hr2];(first|omega|(rw[Ip (by omega)];exact Prod.ext (by dsimp only;omega) rfl))
  ·by_cases hr:c-r<r
   ·have hr2:(2*p+c)/(2*c)= -q-1:=fH (r:=3*c-2*r) (by omega) (by rw[e4];omega) (by omega) (by omega);simp[grw,sgnd,rnd,hneg,sJ hr,hr2];(first|omega|(rw[Ip (by omega)];exact Prod.ext (by dsimp only;omega) rfl))
   ·have hr2:(2*p+c)/(2*c)= -q:=fH (r:=c-2*r) (by omega) (by rw[e3];omega) (by omega) (by omega);have hh:half r c= -1∨half r c=0:=by unfold half;rw[Iq hr];split<;>simp
    rcases hh with hh|hh<;>simp[grw,sgnd,rnd,hneg,hh,hr2]<;>(first|omega|(rw[Ip (by omega)];exact Prod.ext (by dsimp only;omega) rfl))
 ·rw[Iq hneg]at hmg;rw[hmg]at hd;have e1:c* -q= -(c*q):=by rw[Int.mul_neg]
  have e2:c*(-q-1)= -(c*q)-c:=by rw[Int.mul_sub,Int.mul_neg];omega
  have e3:2*c*q=2*(c*q):=by rw[Int.mul_assoc]
  have e4:2*c*(q+1)=2*(c*q)+2*c:=by rw[Int.mul_add,Int.mul_assoc];omega
  rcases hmode with rfl|rfl|rfl
  ·have hr2:p/c=q:=fH (r:=r) hc (by omega) (by omega) (by omega);simp[grw,sgnd,rnd,hneg,hr2];(first|omega|(rw[Ip (by omega)];exact Prod.ext (by dsimp only;omega) rfl))
  ·by_cases hr:0<r
   ·have hr2: -p/c= -q-1:=fH (r:=c-r) hc (by rw[e2];omega) (by omega) (by omega);simp[grw,sgnd,rnd,hneg,hr,hr2];(first|omega|(rw[Ip (by omega)];exact Prod.ext (by dsimp only;omega) rfl))
   ·have hr2: -p/c= -q:=fH (r:= -r) hc (by rw[e1];omega) (by omega) (by omega);simp[grw,sgnd,rnd,hneg,hr,hr2];(first|omega|(rw[Ip (by omega)];exact Prod.ext (by dsimp only;omega) rfl))
  ·by_cases hr:r<c-r
   ·have hr2:(2*p+c)/(2*c)=q:=fH (r:=2*r+c) (by omega) (by rw[e3];omega) (by omega) (by omega);simp[grw,sgnd,rnd,hneg,pH hr,hr2];(first|omega|(rw[Ip (by omega)];exact Prod.ext (by dsimp only;omega) rfl))
   ·have hr2:(2*p+c)/(2*c)=q+1:=fH (r:=2*r-c) (by omega) (by rw[e4];omega) (by omega) (by omega);have hh:half r c=1∨half r c=0:=by unfold half;rw[Iq hr];split<;>simp
    rcases hh with hh|hh<;>simp[grw,sgnd,rnd,hneg,hh,hr2]<;>(first|omega|(rw[Ip (by omega)];exact Prod.ext (by dsimp only;omega) rfl))
theorem qN{a:Int}(h:vld a=true)(c:Int)(hc:0<c)(b:Int)(hb0:0≤b)(hb:b≤1000000):mg a*mg b/c<9223372036854775807∨1000<b:=by
 by_cases hb2:b≤1000
 ·left;have k:=aP h;have h1:mg a≤1000000000000000:=by unfold mg;omega
  rw[zG hb0];have h2:=Int.mul_le_mul h1 hb2 hb0 (by omega);have h3:mg a*b/c≤mg a*b:=Int.ediv_le_self _ (Im (eE a) hb0);omega
 ·right;omega
theorem quL{a mode:Int}(h:vld a=true)(hm0:0≤mode)(hm1:mode≤2):mdS a 1 1000000 mode=(rnd mode a 1000000,true):=by
 have:=zH a 1 1000000 mode (by omega) hm0 hm1 (by have:=qN h 1000000 (by omega) 1 (by omega) (by omega);omega)
 rwa [Int.mul_one]at this
theorem qxC{a mode:Int}(h:vld a=true)(hm0:0≤mode)(hm1:mode≤2): -1000000001≤rnd mode a 1000000∧rnd mode a 1000000≤1000000001:=by
 have k:=aP h;have hmode:mode=0∨mode=1∨mode=2:=by omega
 rcases hmode with rfl|rfl|rfl<;>simp[rnd]<;>omega
def roundS(a:Int):Int×Int:=if vld a then(rnd 2 a 1000000*1000000,0)else(0,1)
def fixS(a:Int):Int×Int:=if vld a then((if a<0 then rnd 1 a 1000000 else rnd 0 a 1000000)*1000000,0)else(0,1)
def fupS(a:Int):Int×Int:=if vld a then((if a<0 then rnd 0 a 1000000 else rnd 1 a 1000000)*1000000,0)else(0,1)
def wholeS(a:Int):Int×Bool:=if vld a=true∧a%1000000=0 then(a/1000000,true)else(0,false)
section
variable {u v y y1 y0 q r:Int}
theorem qcQ(hy:0<y)(hu:u<y)(hv:v<4294967296):(u*4294967296+v)/y<4294967296:=by
 rw[Int.ediv_lt_iff_lt_mul hy];omega
theorem qcP(hy:y=y1*4294967296+y0)(h1:2147483648≤y1)(h2:0≤y0)(h3:y0<4294967296)(hu0:0≤u)(hu:u<y)(hv0:0≤v)(hv:v<4294967296):
 (u*4294967296+v)/y≤u/y1∧u/y1≤4294967297:=by
 have hyp:0<y:=by omega
 constructor
 ·rw[Int.le_ediv_iff_mul_le (by omega)];have hm:=Int.ediv_mul_le (u*4294967296+v) (b:=y) (by omega);generalize(u*4294967296+v)/y=Q at*
  have hQ:0≤Q∨Q<0:=by omega
  rcases hQ with hQ|hQ
  ·have e:Q*y=Q*y1*4294967296+Q*y0:=by rw[hy,Int.mul_add,Int.mul_assoc]
   have:0≤Q*y0:=Im hQ h2;omega
  ·have:=Im (show 0≤-Q by omega) (show 0≤y1 by omega);rw[Int.neg_mul]at this;omega
 ·have:u/y1<4294967298:=by
   rw[Int.ediv_lt_iff_lt_mul (by omega)];omega
  omega
theorem sH(hy:y=y1*4294967296+y0)(hyp:0<y)(hr:r=u-q*y1)(h:4294967296*r+v<q*y0):(u*4294967296+v)/y≤q-1:=by
 have:(u*4294967296+v)/y<q:=by
  rw[Int.ediv_lt_iff_lt_mul hyp];have e:q*y=q*y1*4294967296+q*y0:=by rw[hy,Int.mul_add,Int.mul_assoc]
  omega
 omega
theorem oZ(hy:y=y1*4294967296+y0)(hyp:0<y)(hr:r=u-q*y1)(h:q*y0≤4294967296*r+v)(hQ:(u*4294967296+v)/y≤q):q=(u*4294967296+v)/y:=by
 have:q≤(u*4294967296+v)/y:=by
  rw[Int.le_ediv_iff_mul_le hyp];have e:q*y=q*y1*4294967296+q*y0:=by rw[hy,Int.mul_add,Int.mul_assoc]
  omega
 omega
theorem fZ(hy:y=y1*4294967296+y0)(hyp:0<y)(h2:0≤y0)(h3:y0<4294967296)(hv0:0≤v)(hr:r=u-q*y1)(hb:4294967296≤r)(hq0:0≤q)(hq:q≤4294967296)(hQ:(u*4294967296+v)/y≤q):q=(u*4294967296+v)/y:=by
 refine oZ hy hyp hr ?_ hQ;have:=Int.mul_le_mul hq (show y0≤4294967295 by omega) h2 (by omega);omega
theorem qhP(hyp:0<y)(hy:y<18446744073709551616):(((u*4294967296)%18446744073709551616+v)%18446744073709551616-((u*4294967296+v)/y*y)%18446744073709551616)%18446744073709551616=(u*4294967296+v)%y:=by
 have h0:=Io (u*4294967296+v) (b:=y) (by omega);have h1:=Ie (u*4294967296+v) hyp;have h2:=Int.ediv_mul_add_emod (u*4294967296+v) y;generalize(u*4294967296+v)/y*y=t at*
 omega
end
theorem qyS(U y v1 v0:Int)(hy:0<y):((U*4294967296+v1)/y*4294967296+((U*4294967296+v1)%y*4294967296+v0)/y=((U*4294967296+v1)*4294967296+v0)/y)∧((U*4294967296+v1)%y*4294967296+v0)%y=((U*4294967296+v1)*4294967296+v0)%y:=by
 have h:=Int.ediv_mul_add_emod (U*4294967296+v1) y;generalize ha:(U*4294967296+v1)/y=a at*
 generalize hb:(U*4294967296+v1)%y=b at*
 have e:(U*4294967296+v1)*4294967296+v0=(b*4294967296+v0)+a*4294967296*y:=by
  rw[←h,Int.add_mul,Int.mul_assoc a y,Int.mul_comm y,←Int.mul_assoc];omega
 rw[e,Int.add_mul_ediv_right _ _ (by omega),Int.add_mul_emod_self_right];exact⟨by omega,rfl⟩
theorem qpB(N y:Int)(s:Nat)(hy:0<y):N*2^s/(y*2^s)=N/y∧N*2^s%(y*2^s)/2^s=N%y:=by
 have hp:(0:Int)<2^s:=Int.pow_pos (by decide);constructor
 ·exact Int.mul_ediv_mul_of_pos_left N y hp
 ·rw[Int.mul_comm N,Int.mul_comm y,Int.mul_emod_mul_of_pos _ _ hp,Int.mul_comm];exact Int.mul_ediv_cancel _ (by omega)
theorem qmW(y:Int)(h0:0<y)(h1:y≤18446744073709551615):∃s:Nat,s≤63∧64-(Lib.bitLen y.toNat:Int)=(s:Int)∧2^(63-s)≤y∧y<2^(64-s):=by
 obtain⟨n,rfl⟩:=Ij (show 0≤y by omega);have hne:n≠0:=by omega
 have a:=Nat.log2_self_le hne;have b:=Nat.lt_log2_self (n:=n);have hk:n.log2<64:=by
  rw[Nat.log2_lt hne];omega
 generalize n.log2=k at*
 have hd:n/2^k=1:=by
  have hp:0<2^k:=Nat.pos_of_ne_zero (by simp);rw[Nat.pow_succ]at b;have c1:1≤n/2^k:=(Nat.le_div_iff_mul_le hp).2 (by omega);have c2:n/2^k<2:=Nat.div_lt_of_lt_mul (by omega);omega
 have e:=Lib.bitLen_shift k n a (by omega);rw[hd,show Lib.bitLen 1=1 from rfl]at e;refine⟨63-k,by omega,by simp only[It];omega,?_,?_⟩
 ·rw[show 63-(63-k)=k by omega];have:((2^k:Nat):Int)=(2:Int)^k:=by push_cast;rfl
  omega
 ·rw[show 64-(63-k)=k+1 by omega];have:((2^(k+1):Nat):Int)=(2:Int)^(k+1):=by push_cast;rfl
  omega
theorem qbI(hi lo y P R:Int)(hP:0<P)(hR:0<R)(hPR:P*R=18446744073709551616)(h0:0≤hi)(h1:hi<y)(h2:0≤lo)(h3:lo<18446744073709551616)(h4:R≤2*y)(h5:y<R):
 (9223372036854775808≤y*P∧y*P<18446744073709551616)∧(0≤hi*P∧hi*P<18446744073709551616)∧(0≤lo/R∧lo/R<P)∧hi*P+lo/R<y*P∧
 (hi*P+lo/R)*18446744073709551616+lo*P%18446744073709551616=(hi*18446744073709551616+lo)*P:=by
 have a1:y*P<18446744073709551616:=by
  have:=Int.mul_lt_mul_of_pos_right h5 hP;rw[Int.mul_comm R]at this;omega
 have a2:9223372036854775808≤y*P:=by
  have:=Int.mul_le_mul_of_nonneg_right h4 (Int.le_of_lt hP);rw[Int.mul_comm R,hPR,Int.mul_assoc]at this;omega
 have b1:(hi+1)*P≤y*P:=Int.mul_le_mul_of_nonneg_right (by omega) (Int.le_of_lt hP);rw[Int.add_mul]at b1;have b2:0≤hi*P:=Im h0 (Int.le_of_lt hP);have c1:0≤lo/R:=Int.ediv_nonneg h2 (Int.le_of_lt hR);have c2:lo/R<P:=Int.ediv_lt_of_lt_mul hR (by omega);have d1:=Int.ediv_mul_add_emod lo R;have d2:=Io lo (b:=R) (by omega);have d3:=Ie lo hR;have e1:lo*P=lo/R*18446744073709551616+lo%R*P:=by
  calc lo*P=(lo/R*R+lo%R)*P:=by rw[d1]
   _=lo/R*(P*R)+lo%R*P:=by rw[Int.add_mul,Int.mul_assoc,Int.mul_comm R]
   _=_:=by rw[hPR]
 have e2:0≤lo%R*P:=Im d2 (Int.le_of_lt hP);have e3:lo%R*P<18446744073709551616:=by
  have:=Int.mul_lt_mul_of_pos_right d3 hP;rw[Int.mul_comm R]at this;omega
 refine⟨⟨a2,a1⟩,⟨b2,by omega⟩,⟨c1,c2⟩,by omega,?_⟩;have f:hi*18446744073709551616*P=hi*P*18446744073709551616:=by rw[Int.mul_assoc,Int.mul_comm _ P,←Int.mul_assoc]
 rw[Int.add_mul (hi*18446744073709551616) lo P,f];omega
theorem yU(x y:Int)(s:Nat)(hx:0≤x)(hx1:x<18446744073709551616)(hxs:x%2^s=0)(hy:0≤y)(hy1:y<2^s)(hs:s≤64):bits .or .u64 x y=x+y:=by
 obtain⟨a,rfl⟩:=Ij hx;obtain⟨b,rfl⟩:=Ij hy;have hp:((2^s:Nat):Int)=(2:Int)^s:=by push_cast;rfl
 have hb:b<2^s:=by omega
 have hb64:2^s≤2^64:=Nat.pow_le_pow_right (by decide) hs;have ha:a%2^s=0:=by
  rw[←hp,←Int.natCast_emod]at hxs;omega
 rw[u64_or_nat a b (by omega) (by omega),nat_join s a b ha hb];omega
theorem qdQ(x:Int)(hx:0≤x)(hx1:x<18446744073709551616):bits .and .u64 x 4294967295=x%4294967296:=by
 obtain⟨a,rfl⟩:=Ij hx;have h:=u64_and_nat a 4294967295 (by omega) (by omega);have e:a&&&4294967295=a%4294967296:=Nat.and_two_pow_sub_one_eq_mod a 32;rw[e]at h;exact h.trans (by omega)
theorem fB{P:Program}{f:FuncId}{args:Array Value}{w:World}{a n:Nat}{v:Value}
 (h:Calls P f args (w.drewN (a+n)) fun e w'=>e=.returned v∧w.drewN (a+n)=w'):
 Calls P f args (w.drewN (a+n)) fun e w''=>e=.returned v∧∃m,w''=w.drewN (a+m):=
 h.mono fun _ _ ⟨he,hm⟩=>⟨he,n,hm.symm⟩
theorem kO{P:Program}{f:FuncId}{args:Array Value}{w:World}{n:Nat}{v:Value}
 (h:Calls P f args (w.drewN n) fun e w'=>e=.returned v∧w.drewN n=w'):Calls P f args (w.drewN n) fun e w''=>e=.returned v∧∃m,w''=w.drewN m:=
 h.mono fun _ _ ⟨he,hm⟩=>⟨he,n,hm.symm⟩
def LOK(w:World)(B:Nat)(A:OA)(n:Nat):Prop:=
 n≤maxLen∧(0<n→∃ab off:Nat,A=some ⟨ab,off,none⟩∧ab<B∧∀k,k<n→∃z:Int,w.cell? ⟨ab,off+k,none⟩=some (.int .i64 z)∧-9223372036854775808≤z∧z≤9223372036854775807)
def TapeOK(w:World)(B b:Nat)(A:OA)(n c:Nat):Prop:=
 B≤b∧∃k:Nat,k≤n∧w.heap[b]? =some (.cells #[.slice A n c,.int .i64 (k:Int)] 87 (0,0))
theorem LOK.below{w w':World}{B:Nat}{A:OA}{n:Nat}(h:LOK w B A n)(hb:Below B w w'):LOK w' B A n:=
 ⟨h.1,fun hn=>by
  obtain⟨ab,off,e,hl,hc⟩:=h.2 hn
  exact⟨ab,off,e,hl,fun k hk=>by
   obtain⟨z,h1,h2⟩:=hc k hk
   exact⟨z,hb.ct hl h1,h2⟩⟩⟩
theorem cX(w:World)(B:Nat)(hB:B≤w.heap.size)(A:OA)(n c:Nat):
 Calls prog 17 #[.slice A n c] w fun e w'=>e=.returned (.pointer (some ⟨w.heap.size,0,none⟩))∧w'=w.alloc (.cells #[.slice A n c,.int .i64 0] 87):=by
 go_enter func17,ntmps17;go_wp2;go_ret;exact⟨rfl,rfl⟩
theorem TapeOK.new(w:World)(B:Nat)(hB:B≤w.heap.size)(A:OA)(n c:Nat):TapeOK (w.alloc (.cells #[.slice A n c,.int .i64 0] 87)) B w.heap.size A n c:=
 ⟨hB,0,Lq _,Hn w _⟩
theorem aZ(A:OA)(n c:Nat)(h:n≤120)(w:World):
 Calls prog 12 #[.slice A n c] w fun e w'=>e=.returned (.bool true)∧w=w':=by
 go_enter func12,ntmps12;go_wp2;go_ret;exact⟨congrArg (fun q=>Ending.returned (.bool q)) (Dt (by omega)),rfl⟩
theorem cA(A:OA)(n c:Nat)(h:¬n≤120)(w:World):
 Calls prog 12 #[.slice A n c] w fun e w'=>e=.returned (.bool false)∧w=w':=by
 go_enter func12,ntmps12;go_wp2;go_ret;exact⟨congrArg (fun q=>Ending.returned (.bool q)) (Df (by omega)),rfl⟩
theorem qbE(w:World)(b:Nat)(x y v:Value){q q':Nat}(h:w.heap[b]? =some (.cells #[x,y] 87 (0,0))):
 (((w.drewN q).setCell ⟨b,1,none⟩ v).drewN q').heap[b]? =some (.cells #[x,v] 87 (0,0)):=by
 show((w.setCell ⟨b,1,none⟩ v)).heap[b]? =_;simp[World.setCell,Array.getElem?_modify,h]
def Only(b:Nat)(w w':World):Prop:=w'.os=w.os∧w'.tape=w.tape∧w'.output=w.output∧w.heap.size≤w'.heap.size∧∀g,g<w.heap.size→g≠b→w'.heap[g]? =w.heap[g]?
theorem Only.refl(b:Nat)(w:World):Only b w w:=⟨rfl,rfl,rfl,Le _,fun _ _ _=>rfl⟩
theorem Only.trans{b:Nat}{w w1 w2:World}(h:Only b w w1)(k:Only b w1 w2):Only b w w2:=
 ⟨k.1.trans h.1,k.2.1.trans h.2.1,k.2.2.1.trans h.2.2.1,Ly h.2.2.2.1 k.2.2.2.1,fun g hg hb=>(k.2.2.2.2 g (Lt hg h.2.2.2.1) hb).trans (h.2.2.2.2 g hg hb)⟩
theorem Only.below{b B:Nat}{w w':World}(h:Only b w w')(hB:B≤b)(hw:B≤w.heap.size):Below B w w':=⟨h.1,h.2.1,h.2.2.1,h.2.2.2.1,fun g hg=>h.2.2.2.2 g (by omega) (by omega)⟩
theorem Only.of_below{b:Nat}{w w':World}(h:Bw w w'):Only b w w':=⟨h.os,h.tape,h.output,h.size,fun g hg _=>h.block g hg⟩
theorem Only.drewN{b:Nat}{w w':World}(h:Only b w w')(n:Nat):Only b w (w'.drewN n):=⟨h.1,h.2.1,h.2.2.1,h.2.2.2.1,h.2.2.2.2⟩
theorem Only.size{b:Nat}{w w':World}(h:Only b w w'):w.heap.size≤w'.heap.size:=h.2.2.2.1
def NextO(B b:Nat)(A:OA)(n c:Nat)(lo hi:Int)(w:World)(e:Ending)(w':World):Prop:=
 ∃r:Int,e=.returned (.int .i64 r)∧lo≤r∧r≤hi∧TapeOK w' B b A n c∧Only b w w'
theorem TapeOK.lt{w:World}{B b:Nat}{A:OA}{n c:Nat}(h:TapeOK w B b A n c):b<w.heap.size:=by
 obtain⟨_,k,_,hh⟩:=h;exact(Ag.1 hh).1
theorem TapeOK.keep{w w':World}{B b:Nat}{A:OA}{n c:Nat}(h:TapeOK w B b A n c)(hk:w'.heap[b]? =w.heap[b]?):TapeOK w' B b A n c:=by
 obtain⟨h1,k,h2,h3⟩:=h;exact⟨h1,k,h2,hk.trans h3⟩
theorem TapeOK.below{w w':World}{B b:Nat}{A:OA}{n c:Nat}(h:TapeOK w B b A n c)(hb:Bw w w'):TapeOK w' B b A n c:=h.keep (hb.block b h.lt)
theorem aW(B b:Nat)(A:OA)(n c:Nat)(m:Int)(w:World)(hl:LOK w B A n)(ht:TapeOK w B b A n c)(hm1:1≤m)(hm2:m≤9223372036854775807):
 Calls prog 25 #[.pointer (some ⟨b,0,none⟩),.int .i64 m] w (NextO B b A n c 0 (m-1) w):=by
 obtain⟨hB,k,hk,hh⟩:=ht;have c0:w.cell? ⟨b,0,none⟩=some (.slice A n c):=Ro w b 0 _ _ _ hh;have c1:w.cell? ⟨b,1,none⟩=some (.int .i64 (k:Int)):=Ro w b 1 _ _ _ hh;have cf:w.frozen? ⟨b,1,none⟩=false:=by simp[World.frozen?,hh]
 have hn:=hl.1;unfold maxLen at hn;have HH:=Hd hh;clear hh;have HL:=Hd hl;clear hl;by_cases hlt:k<n
 ·obtain⟨ab,off,rfl,hab,hc⟩:=HL.o.2 (by omega);obtain⟨z,hz,z0,z1⟩:=hc k hlt;clear hc;have hne:¬ab=b:=by omega
  go_enter func25,ntmps25;go_wp2;go_quiet(fail);go_wp2;have i1:(0:Int)≤(k:Int):=by omega
  have i2:(k:Int)<(n:Int):=by omega
  have i3:IntKind.i64.wrap (k:Int)=(k:Int):=IntWalk.i64_in _ (by omega);have i4:IntKind.i64.wrap ((k:Int)+1-1)=(k:Int):=by rw[show(k:Int)+1-1=k by omega];exact i3
  go_quiet((go_at_call 22;first|exact fB (bY _ _ hm1 hm2 z0 z1 _)|exact kO (bY _ _ hm1 hm2 z0 z1 _)));go_wp2;go_ret;have eb:=sM z m hm1;refine⟨z%m,rfl,eb.1,eb.2,⟨hB,k+1,by omega,?_⟩,?_⟩
  ·have e:((k+1:Nat):Int)=(k:Int)+1:=by omega
   rw[e];exact qbE w b _ _ _ HH.o
  ·exact⟨rfl,rfl,rfl,by simp[World.setCell],fun j _ hj=>Bj _ _ _ j hj⟩
 ·have hge:(n:Int)≤(k:Int):=by omega
  go_enter func25,ntmps25;go_wp2;go_quiet(fail);go_wp2;go_ret;exact⟨0,rfl,by omega,by omega,⟨hB,k,hk,HH.o⟩,⟨rfl,rfl,rfl,Le _,fun _ _ _=>rfl⟩⟩
theorem LOK.only{w w':World}{B b:Nat}{A:OA}{n:Nat}(h:LOK w B A n)(ho:Only b w w')(hB:B≤b)(hw:B≤w.heap.size):LOK w' B A n:=h.below (ho.below hB hw)
theorem cC(B b:Nat)(A:OA)(n c:Nat)(lo hi:Int)(w:World)(hl:LOK w B A n)(ht:TapeOK w B b A n c)(h1:lo≤hi)(h2: -1000000≤lo)(h3:hi≤1000000):
 Calls prog 28 #[.pointer (some ⟨b,0,none⟩),.int .i64 lo,.int .i64 hi] w (NextO B b A n c lo hi w):=by
 have HC:=Hd (aW B b A n c (hi-lo+1) w hl ht (by omega) (by omega));clear hl ht;go_enter func28,ntmps28;go_wp2_with(go_at_call 25;refine HC.o.mono ?_;rintro e w1 ⟨r,rfl,r0,r1,htp,ho⟩;have HT2:=Hd htp;have HO:=Hd ho;clear htp ho);go_ret;exact⟨_,rfl,by omega,by omega,HT2.o,HO.o⟩
theorem eX(B b:Nat)(A:OA)(n c:Nat)(w:World)(hl:LOK w B A n)(ht:TapeOK w B b A n c)(hw:B≤w.heap.size):
 Calls prog 29 #[.pointer (some ⟨b,0,none⟩)] w (NextO B b A n c 0 999999999999999 w):=by
 have HL:=Hd hl;clear hl;have HTP:=Hd ht;have hBb:=ht.1;clear ht;have HO:Hid (Only b w w):=Only.refl b w;go_enter func29,ntmps29;go_wp2_with(go_at_call 25;refine(aW B b A n c _ _ (HL.o.only HO.o hBb hw) HTP.o (by omega) (by omega)).mono ?_;rintro e w1 ⟨r,rfl,hr0,hr1,htp,ho⟩;have HN:=Hd (HO.o.trans ho);have HT2:=Hd htp;clear HO ho HTP htp;have HO:=Hd HN.o;have HTP:=Hd HT2.o;clear HN HT2);all_goals go_ret
 all_goals exact⟨_,rfl,by omega,by omega,HTP.o,HO.o⟩
