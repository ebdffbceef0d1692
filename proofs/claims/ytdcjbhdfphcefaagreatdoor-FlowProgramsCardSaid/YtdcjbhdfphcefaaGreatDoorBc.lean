/- The contract. -/
import Derived.Test.YtdcjbhdfphcefaaGreatDoorBb
import Derived.Deep.RegionHeld3
import Derived.Shelf.Spec.BitsCarry
namespace Go.Proofs.YtdcjbhdfphcefaaGreatDoor
set_option linter.all false
set_option maxHeartbeats 1000000
open Go.Proofs.Tryz
open Go.RowKit
theorem gA(a mode:Int)(h:vld a=true)(hm0:0<=mode)(hm1:mode<=2)(w:World):
 Calls prog 185 #[.int .i64 a,.int .i64 mode] w λe w'=>e=.returned (.int .i64 (rnd mode a 1000000*1000000))/\Bw w w':=by
 have k:=aP h;have e0:=quL h hm0 hm1;have b0:=qxC h hm0 hm1;go_enter func185,ntmps185;go_wp2_with(go_at_call 160;refine(bL _ _ _ _ (by omega) (by omega) (by omega) (by omega) (by omega) (by omega) (by omega) (by omega) (by omega) _).mono ?_;rintro e w1 ⟨rfl,hb⟩;have HB:=Hd hb;clear hb);go_ret;exact⟨rfl,HB.o⟩
theorem eW(a:Int)(w:World):
 Calls prog 156 #[.int .i64 a] w λe w'=>e=.returned (.tuple #[.int .i64 (zdK a).1,.int .i64 (zdK a).2])/\Bw w w':=by
 rcases h:vld a with _|_
 ·have e0:zdK a=(0,1):=by unfold zdK;rw[h];rfl
  rw[e0];go_enter func156,ntmps156;go_wp2_with(go_at_call 87;refine mo0 (aK _ _) ?_);go_ret2;exact⟨rfl,Bf _ _⟩
 ·have e0:zdK a=(rnd 2 a 1000000*1000000,0):=by unfold zdK;rw[h];rfl
  rw[e0];go_enter func156,ntmps156;go_wp2_with(first|(go_at_call 87;refine mo0 (aK _ _) ?_)|(go_at_call 185;refine(gA _ _ h (by omega) (by omega) _).mono ?_;rintro e w1 ⟨rfl,hb⟩;have HB:=Hd hb;clear hb));go_ret2;exact⟨rfl,HB.o⟩
theorem iN(a:Int)(w:World):
 Calls prog 157 #[.int .i64 a] w λe w'=>e=.returned (.tuple #[.int .i64 (zfM a).1,.int .i64 (zfM a).2])/\Bw w w':=by
 rcases h:vld a with _|_
 ·have e0:zfM a=(0,1):=by unfold zfM;rw[h];rfl
  rw[e0];go_enter func157,ntmps157;go_wp2_with(go_at_call 87;refine mo0 (aK _ _) ?_);go_ret2;exact⟨rfl,Bf _ _⟩
 ·by_cases hn:a<0
  ·have e0:zfM a=(rnd 1 a 1000000*1000000,0):=by unfold zfM;rw[h];simp[hn]
   rw[e0];go_enter func157,ntmps157;go_wp2_with(first|(go_at_call 87;refine mo0 (aK _ _) ?_)|(go_at_call 185;refine(gA _ _ h (by omega) (by omega) _).mono ?_;rintro e w1 ⟨rfl,hb⟩;have HB:=Hd hb;clear hb));go_ret2;exact⟨rfl,HB.o⟩
  ·have e0:zfM a=(rnd 0 a 1000000*1000000,0):=by unfold zfM;rw[h];simp[hn]
   rw[e0];go_enter func157,ntmps157;go_wp2_with(first|(go_at_call 87;refine mo0 (aK _ _) ?_)|(go_at_call 185;refine(gA _ _ h (by omega) (by omega) _).mono ?_;rintro e w1 ⟨rfl,hb⟩;have HB:=Hd hb;clear hb));go_ret2;exact⟨rfl,HB.o⟩
theorem iM(a:Int)(w:World):
 Calls prog 158 #[.int .i64 a] w λe w'=>e=.returned (.tuple #[.int .i64 (zfL a).1,.int .i64 (zfL a).2])/\Bw w w':=by
 rcases h:vld a with _|_
 ·have e0:zfL a=(0,1):=by unfold zfL;rw[h];rfl
  rw[e0];go_enter func158,ntmps158;go_wp2_with(go_at_call 87;refine mo0 (aK _ _) ?_);go_ret2;exact⟨rfl,Bf _ _⟩
 ·by_cases hn:a<0
  ·have e0:zfL a=(rnd 0 a 1000000*1000000,0):=by unfold zfL;rw[h];simp[hn]
   rw[e0];go_enter func158,ntmps158;go_wp2_with(first|(go_at_call 87;refine mo0 (aK _ _) ?_)|(go_at_call 185;refine(gA _ _ h (by omega) (by omega) _).mono ?_;rintro e w1 ⟨rfl,hb⟩;have HB:=Hd hb;clear hb));go_ret2;exact⟨rfl,HB.o⟩
  ·have e0:zfL a=(rnd 1 a 1000000*1000000,0):=by unfold zfL;rw[h];simp[hn]
   rw[e0];go_enter func158,ntmps158;go_wp2_with(first|(go_at_call 87;refine mo0 (aK _ _) ?_)|(go_at_call 185;refine(gA _ _ h (by omega) (by omega) _).mono ?_;rintro e w1 ⟨rfl,hb⟩;have HB:=Hd hb;clear hb));go_ret2;exact⟨rfl,HB.o⟩
theorem cT(a:Int)(w:World):
 Calls prog 88 #[.int .i64 a] w λe w'=>e=.returned (.tuple #[.int .i64 (zaY a).1,.bool (zaY a).2])/\w=w':=by
 rcases h:vld a with _|_
 ·have e0:zaY a=(0,false):=by unfold zaY;simp[h]
  rw[e0];go_enter func88,ntmps88;go_wp2_with(go_at_call 87;refine mo0 (aK _ _) ?_);go_ret2;exact⟨rfl,rfl⟩
 ·have k:=aP h;by_cases hr:a%1000000=0
  ·have e0:zaY a=(a/1000000,true):=by unfold zaY;simp[h,hr]
   rw[e0];have hf:=fV a 1000000 (by omega);have hf2:=mH a 1000000 (by omega);have ht:(a.tmod 1000000==0)=true:=by simp;omega
   have hd:a.tdiv 1000000=a/1000000:=by rw[Int.tdiv_eq_ediv,Ip (Or.inr (Int.dvd_of_emod_eq_zero hr))];omega
   have HR:=Hd hr;clear hr hf hf2;by_cases hn:a<0
   ·have hd0:a/1000000<=0:=by omega
    have hd1: -1000000000<=a/1000000:=by omega
    go_enter func88,ntmps88;go_wp2_with(go_at_call 87;refine mo0 (aK _ _) ?_);go_ret2;exact⟨rfl,rfl⟩
   ·have hr':(a%1000000==0)=true:=by simpa using HR.o
    clear ht hd;go_enter func88,ntmps88;go_wp2_with(go_at_call 87;refine mo0 (aK _ _) ?_);go_ret2;exact⟨rfl,rfl⟩
  ·have e0:zaY a=(0,false):=by unfold zaY;simp[hr]
   rw[e0];have hf:=fV a 1000000 (by omega);have ht:(a.tmod 1000000==0)=false:=by simp;omega
   have hr':(a%1000000==0)=false:=by simpa using hr
   clear hr hf;by_cases hn:a<0;all_goals
    go_enter func88,ntmps88;go_wp2_with(go_at_call 87;refine mo0 (aK _ _) ?_);go_ret2;exact⟨rfl,rfl⟩
theorem eV(a:Int)(w:World):
 Calls prog 134 #[.int .i64 a] w λe w'=>e=.returned (.tuple #[.int .i64 (zaY a).1,.bool (zaY a).2])/\w=w':=by
 rcases h:vld a with _|_
 ·have e0:zaY a=(0,false):=by unfold zaY;simp[h]
  rw[e0];go_enter func134,ntmps134;go_wp2_with(go_at_call 168;refine mo0 (aF _ _) ?_);go_ret2;exact⟨rfl,rfl⟩
 ·have k:=aP h;by_cases hr:a%1000000=0
  ·have e0:zaY a=(a/1000000,true):=by unfold zaY;simp[h,hr]
   rw[e0];have hf:=fV a 1000000 (by omega);have hf2:=mH a 1000000 (by omega);have ht:(a.tmod 1000000==0)=true:=by simp;omega
   have hd:a.tdiv 1000000=a/1000000:=by rw[Int.tdiv_eq_ediv,Ip (Or.inr (Int.dvd_of_emod_eq_zero hr))];omega
   have HR:=Hd hr;clear hr hf hf2;by_cases hn:a<0
   ·have hd0:a/1000000<=0:=by omega
    have hd1: -1000000000<=a/1000000:=by omega
    go_enter func134,ntmps134;go_wp2_with(go_at_call 168;refine mo0 (aF _ _) ?_);go_ret2;exact⟨rfl,rfl⟩
   ·have hr':(a%1000000==0)=true:=by simpa using HR.o
    clear ht hd;go_enter func134,ntmps134;go_wp2_with(go_at_call 168;refine mo0 (aF _ _) ?_);go_ret2;exact⟨rfl,rfl⟩
  ·have e0:zaY a=(0,false):=by unfold zaY;simp[hr]
   rw[e0];have hf:=fV a 1000000 (by omega);have ht:(a.tmod 1000000==0)=false:=by simp;omega
   have hr':(a%1000000==0)=false:=by simpa using hr
   clear hr hf;by_cases hn:a<0;all_goals
    go_enter func134,ntmps134;go_wp2_with(go_at_call 168;refine mo0 (aF _ _) ?_);go_ret2;exact⟨rfl,rfl⟩
theorem tO(a b c:Int)(ha1: -9223372036854775808<=a)(ha2:a<=9223372036854775807)(hb1: -9223372036854775808<=b)(hb2:b<=9223372036854775807)(hc1: -9223372036854775808<=c)(hc2:c<=9223372036854775807)(hc0:c≠0)(w:World):
 Calls prog 196 #[.int .i64 a,.int .i64 b,.int .i64 c] w λe w'=>e=.returned (.tuple #[.int .i64 (zgT a b c).1,.int .i64 (zgT a b c).2])/\Bw w w':=by
 rcases hm:mdS a b c 2 with⟨n,ok⟩
 have E0:Hid (zgT a b c=if ok then chk n else(0,3)):=by unfold Hid zgT;rw[hm]
 cases ok
 ·rw[E0.o];clear E0;go_enter func196,ntmps196;go_wp2_with(first|(go_at_call 160;refine(bL _ _ _ _ (by omega) (by omega) (by omega) (by omega) (by omega) (by omega) (by omega) (by omega) (by omega) _).mono ?_;rintro e w1A ⟨rfl,hb⟩;have HA:=Hd hb;clear hb));go_ret2;exact⟨rfl,HA.o⟩
 ·rw[E0.o];clear E0;go_enter func196,ntmps196;go_wp2_with(first|(go_at_call 160;refine(bL _ _ _ _ (by omega) (by omega) (by omega) (by omega) (by omega) (by omega) (by omega) (by omega) (by omega) _).mono ?_;rintro e w1A ⟨rfl,hb⟩;have HA:=Hd hb;clear hb)|(go_at_call 195;refine mo0 (lX _ _) ?_));go_ret2;exact⟨rfl,HA.o⟩
theorem fY(a b:Int)(ha1: -9223372036854775808<=a)(ha2:a<=9223372036854775807)(hb1: -9223372036854775808<=b)(hb2:b<=9223372036854775807)(w:World):
 Calls prog 163 #[.int .i64 a,.int .i64 b] w λe w'=>e=.returned (.tuple #[.int .i64 (zhD a b).1,.int .i64 (zhD a b).2])/\Bw w w':=by
 rcases h:(vld a&&vld b)with _|_
 ·rw[zD h];go_enter func163,ntmps163;go_wp2_with(go_at_call 194;refine mo0 (dT _ _ _) ?_);go_ret2;exact⟨rfl,Bf _ _⟩
 ·have h':vld a=true/\vld b=true:=by simpa using h
  rw[oW h'.1 h'.2];clear h';go_enter func163,ntmps163;go_wp2_with(first|(go_at_call 194;refine mo0 (dT _ _ _) ?_)|(go_at_call 196;refine(tO _ _ _ (by omega) (by omega) (by omega) (by omega) (by omega) (by omega) (by omega) _).mono ?_;rintro e w1 ⟨rfl,hb⟩;have HA:=Hd hb;clear hb));go_ret2;exact⟨rfl,HA.o⟩
theorem gB(a b:Int)(ha1: -9223372036854775808<=a)(ha2:a<=9223372036854775807)(hb1: -9223372036854775808<=b)(hb2:b<=9223372036854775807)(w:World):
 Calls prog 164 #[.int .i64 a,.int .i64 b] w λe w'=>e=.returned (.tuple #[.int .i64 (zgO a b).1,.int .i64 (zgO a b).2])/\Bw w w':=by
 rcases h:(vld a&&vld b)with _|_
 ·rw[qaH h];go_enter func164,ntmps164;go_wp2_with(go_at_call 194;refine mo0 (dT _ _ _) ?_);go_ret2;exact⟨rfl,Bf _ _⟩
 ·have h':vld a=true/\vld b=true:=by simpa using h
  by_cases hb0:b=0
  ·subst hb0;rw[qZ h'.1];clear h';go_enter func164,ntmps164;go_wp2_with(go_at_call 194;refine mo0 (dT _ _ _) ?_);go_ret2;exact⟨rfl,Bf _ _⟩
  ·rw[vC h'.1 h'.2 hb0];clear h';have hb0':(b==0)=false:=by simpa using hb0
   go_enter func164,ntmps164;go_wp2_with(first|(go_at_call 194;refine mo0 (dT _ _ _) ?_)|(go_at_call 196;refine(tO _ _ _ (by omega) (by omega) (by omega) (by omega) (by omega) (by omega) (by omega) _).mono ?_;rintro e w1 ⟨rfl,hb⟩;have HA:=Hd hb;clear hb));go_ret2;exact⟨rfl,HA.o⟩
def cm(x y:Int):Int:=if x<y then-1 else if x=y then 0 else 1
theorem qdN{x y:Int}(h:x<y):cm x y= -1:=by unfold cm;rw[Ip h]
theorem qrZ(x:Int):cm x x=0:=by unfold cm;simp
theorem vD{x y:Int}(h:y<x):cm x y=1:=by unfold cm;rw[Iq (by omega),Iq (by omega)]
theorem qfW(a b c d:Int)(a0:0<=a)(a1:a<=18446744073709551615)(b0:0<=b)(b1:b<=18446744073709551615)(c0:0<=c)(c1:c<=18446744073709551615)(d0:0<=d)(d1:d<=18446744073709551615)(h:a<c)(w:World):
 Calls prog 229 #[.agg #[.int .u64 a,.int .u64 b],.agg #[.int .u64 c,.int .u64 d]] w λe w'=>e=.returned (.int .i64 (-1))/\w'=(w.alloc (.cells #[.int .u64 a,.int .u64 b] 202)).alloc (.cells #[.int .u64 c,.int .u64 d] 202):=by
 go_enter func229,ntmps229;go_wp2;go_ret;exact⟨rfl,rfl⟩
theorem qfX(a b c d:Int)(a0:0<=a)(a1:a<=18446744073709551615)(b0:0<=b)(b1:b<=18446744073709551615)(c0:0<=c)(c1:c<=18446744073709551615)(d0:0<=d)(d1:d<=18446744073709551615)(h:c<a)(w:World):
 Calls prog 229 #[.agg #[.int .u64 a,.int .u64 b],.agg #[.int .u64 c,.int .u64 d]] w λe w'=>e=.returned (.int .i64 1)/\w'=(w.alloc (.cells #[.int .u64 a,.int .u64 b] 202)).alloc (.cells #[.int .u64 c,.int .u64 d] 202):=by
 have h2:(a==c)=false:=by simp;omega
 go_enter func229,ntmps229;go_wp2;go_ret;exact⟨rfl,rfl⟩
theorem vS(a b d:Int)(a0:0<=a)(a1:a<=18446744073709551615)(b0:0<=b)(b1:b<=18446744073709551615)(d0:0<=d)(d1:d<=18446744073709551615)(h:b<d)(w:World):
 Calls prog 229 #[.agg #[.int .u64 a,.int .u64 b],.agg #[.int .u64 a,.int .u64 d]] w λe w'=>e=.returned (.int .i64 (-1))/\w'=(w.alloc (.cells #[.int .u64 a,.int .u64 b] 202)).alloc (.cells #[.int .u64 a,.int .u64 d] 202):=by
 go_enter func229,ntmps229;go_wp2;go_ret;exact⟨rfl,rfl⟩
theorem vU(a b d:Int)(a0:0<=a)(a1:a<=18446744073709551615)(b0:0<=b)(b1:b<=18446744073709551615)(d0:0<=d)(d1:d<=18446744073709551615)(h:d<b)(w:World):
 Calls prog 229 #[.agg #[.int .u64 a,.int .u64 b],.agg #[.int .u64 a,.int .u64 d]] w λe w'=>e=.returned (.int .i64 1)/\w'=(w.alloc (.cells #[.int .u64 a,.int .u64 b] 202)).alloc (.cells #[.int .u64 a,.int .u64 d] 202):=by
 have h2:(b==d)=false:=by simp;omega
 go_enter func229,ntmps229;go_wp2;go_ret;exact⟨rfl,rfl⟩
theorem qfY(a b:Int)(a0:0<=a)(a1:a<=18446744073709551615)(b0:0<=b)(b1:b<=18446744073709551615)(w:World):
 Calls prog 229 #[.agg #[.int .u64 a,.int .u64 b],.agg #[.int .u64 a,.int .u64 b]] w λe w'=>e=.returned (.int .i64 0)/\w'=(w.alloc (.cells #[.int .u64 a,.int .u64 b] 202)).alloc (.cells #[.int .u64 a,.int .u64 b] 202):=by
 go_enter func229,ntmps229;go_wp2;go_ret;exact⟨rfl,rfl⟩
theorem qhT{x y:Int}(h:x<y):hiW x<hiW y\/(hiW x=hiW y/\loW x<loW y):=by unfold hiW loW;omega
theorem gC(x y:Int)(x0:0<=x)(x1:x<340282366920938463463374607431768211456)(y0:0<=y)(y1:y<340282366920938463463374607431768211456)(w:World):
 Calls prog 229 #[.agg #[.int .u64 (hiW x),.int .u64 (loW x)],.agg #[.int .u64 (hiW y),.int .u64 (loW y)]] w λe w'=>e=.returned (.int .i64 (cm x y))/\w'=(w.alloc (.cells #[.int .u64 (hiW x),.int .u64 (loW x)] 202)).alloc (.cells #[.int .u64 (hiW y),.int .u64 (loW y)] 202):=by
 have p1:=eU x0;have p2:=qS x1;have p3:=eT x;have p4:=nK x;have q1:=eU y0;have q2:=qS y1;have q3:=eT y;have q4:=nK y;rcases Int.lt_trichotomy x y with h|h|h
 ·rw[qdN h];rcases qhT h with h1|⟨h1,h2⟩
  ·exact qfW _ _ _ _ p1 p2 p3 p4 q1 q2 q3 q4 h1 w
  ·rw[<-h1];exact vS _ _ _ p1 p2 p3 p4 q3 q4 h2 w
 ·subst h;rw[qrZ];exact qfY _ _ p1 p2 p3 p4 w
 ·rw[vD h];rcases qhT h with h1|⟨h1,h2⟩
  ·exact qfX _ _ _ _ p1 p2 p3 p4 q1 q2 q3 q4 h1 w
  ·rw[h1];exact vU _ _ _ p1 p2 p3 p4 q3 q4 h2 w
theorem zhH{w:World}{p:Addr}{v:Value}(h:w.cell? p=some v)(hp:p.block<w.heap.size)(o:Obj):(w.alloc o).cell? p=some v:=(Wl w o p hp).trans h
theorem ziP{w:World}{p:Addr}{v:Value}(h:w.cell? p=some v)(hp:p.block<w.heap.size)(o1 o2 o3:Obj):(((w.alloc o1).alloc o2).alloc o3).cell? p=some v:=
 zhH (zhH (zhH h hp o1) (by rw[World.size_alloc];omega) o2) (by rw[World.size_alloc,World.size_alloc];omega) o3
theorem ziB{w:World}{p:Addr}{v:Value}(h:w.cell? p=some v)(hp:p.block<w.heap.size)(o:Obj):(w.alloc o).drew.cell? p=some v:=zhH h hp o
theorem zfY{w:World}{p:Addr}{v:Value}(h:w.cell? p=some v)(hp:p.block<w.heap.size)(o1 o2 o3:Obj):(((w.alloc o1).alloc o2).alloc o3).drew.cell? p=some v:=ziP h hp o1 o2 o3
theorem qwJ{y x:Int}(h:y<=x):cm y x<=0:=by
 unfold cm;split
 ·omega
 ·split<;>omega
def SRel(x:Int)(B:Nat)(w0:World)(r b:Value)(w:World):Prop:=
 ∃(k:Nat) (n:Int),r=.int .u64 n/\b=.int .u64 (2^k/2)/\k<=64/\0<=n/\n+2^k<=18446744073709551616/\n%2^k=0/\n*n<=x/\x<(n+2^k)*(n+2^k)/\
  w.cell? ⟨B,0,none⟩=some (.int .u64 (hiW x))/\w.cell? ⟨B,1,none⟩=some (.int .u64 (loW x))/\Below B w0 w/\B<w.heap.size
theorem vQ(x:Int)(x0:0<=x)(x1:x<340282366920938463463374607431768211456)(w:World):
 Calls prog 224 #[.agg #[.int .u64 (hiW x),.int .u64 (loW x)]] w λe w'=>(∃r:Int,e=.returned (.int .u64 r)/\0<=r/\r<=18446744073709551615/\r*r<=x/\x<(r+1)*(r+1))/\Bw w w':=by
 have p1:=eU x0;have p2:=qS x1;have p3:=eT x;have p4:=nK x;go_enter func224,ntmps224;go_wp2;go_loopw[3,4] (SRel x w.heap.size w) (λ_ b _=>(intOf b).toNat)
 case atStart=>
  refine⟨64,0,rfl,rfl,by omega,by omega,by omega,by omega,by omega,?_,?_,?_,?_,?_⟩
  ·have:((0:Int)+2^64)*(0+2^64)=340282366920938463463374607431768211456:=by decide
   omega
  ·simp[World.cell?_alloc_new]
  ·simp[World.cell?_alloc_new]
  ·exact nB _ _
  ·simp
 case round=>
  obtain⟨k,n,rfl,rfl,hk,hn0,hn1,hn2,hn3,hn4,hc0,hc1,hb3,hsz⟩:=hrel;have HB3:=Hd hb3;clear hb3;have HL:=Hd hn3;clear hn3;have HU:=Hd hn4;clear hn4;have HM:=Hd hn2;clear hn2;rcases k with _|j
  ·go_wp2;go_ret;refine⟨⟨n,rfl,hn0,by omega,HL.o,?_⟩,HB3.o⟩;have:=HU.o;simpa using this
  ·have hpow:(2:Int)^(j+1)=2^j*2:=Int.pow_succ 2 j;have hp:(0:Int)<2^j:=Int.pow_pos (by decide);have hor:=yU n (2^j) (j+1) hn0 (by omega) HM.o (by omega) (by omega) (by omega);have hnb:Hid ((n+2^j)%2^j=0/\n%2^j=0):=by
    have h1:=Int.emod_emod_of_dvd n (show(2:Int)^j∣2^(j+1)from⟨2,hpow⟩);rw[HM.o]at h1;simp at h1;exact⟨by simp[<-h1],h1.symm⟩
   obtain⟨b,hb⟩:∃b,b=(2:Int)^j:=⟨_,rfl⟩;rw[<-hb]at hor hp hnb hpow;have HU2:Hid (x<(n+b*2)*(n+b*2)):=by have:=HU.o;rw[hpow]at this;exact this
   rw[hpow]at hn1;have ed:(2:Int)^(j+1)/2=b:=by rw[hpow];omega
   have HBB:=Hd hb;clear hb hpow HU HM;have hs0:=iH (show 0<=n+b by omega) (show 0<=n+b by omega);have hs1:=rZ (show 0<=n+b by omega) (show 0<=n+b by omega) (by omega) (by omega);obtain⟨y,hy⟩:∃y,(n+b)*(n+b)=y:=⟨_,rfl⟩;rw[hy]at hs0 hs1;have HY2:=Hd hy;by_cases hle:y<=x
   ·have hcm:=qwJ hle;go_wp2;go_region_held3(λw'=>w'.cell? ⟨w.heap.size,0,none⟩=some (.int .u64 (hiW x))/\w'.cell? ⟨w.heap.size,1,none⟩=some (.int .u64 (loW x))) (first|exact⟨hc0,hc1⟩|exact⟨zhH hc0 hsz _,zhH hc1 hsz _⟩|exact⟨ziB hc0 hsz _,ziB hc1 hsz _⟩|exact⟨zfY hc0 hsz _ _ _,zfY hc1 hsz _ _ _⟩|exact⟨ziP hc0 hsz _ _ _,ziP hc1 hsz _ _ _⟩)
     (first
      |(go_at_call 188;refine(dL _ _ (by omega) (by omega) (by omega) (by omega) _).mono ?_;rintro e w' ⟨rfl,rfl⟩)
      |(go_at_call 229;refine(gC _ _ (by omega) (by omega) (by omega) (by omega) _).mono ?_;rintro e w' ⟨rfl,rfl⟩))
    go_wp2;refine⟨⟨j,n+b,rfl,by rw[HBB.o],by omega,by omega,by rw[<-HBB.o];omega,by rw[<-HBB.o];exact hnb.o.1,by rw[HY2.o];exact hle,by rw[<-HBB.o];exact by have:=HU2.o;rw[show n+b+b=n+b*2 by omega];exact this,zfY hc0 hsz _ _ _,zfY hc1 hsz _ _ _,HB3.o.trans ((((Bf _ _).alloc (Ll (Nat.lt_of_le_of_lt (Le _) hsz)) _).alloc (by rw[World.size_alloc];omega) _).alloc (by rw[World.size_alloc,World.size_alloc];omega) _).drew,by simp;omega⟩,?_⟩;simp[intOf,ed];omega
   ·have hcm:0<cm y x:=by rw[vD (by omega)];omega
    go_wp2;go_region_held3(λw'=>w'.cell? ⟨w.heap.size,0,none⟩=some (.int .u64 (hiW x))/\w'.cell? ⟨w.heap.size,1,none⟩=some (.int .u64 (loW x))) (first|exact⟨hc0,hc1⟩|exact⟨zhH hc0 hsz _,zhH hc1 hsz _⟩|exact⟨ziB hc0 hsz _,ziB hc1 hsz _⟩|exact⟨zfY hc0 hsz _ _ _,zfY hc1 hsz _ _ _⟩|exact⟨ziP hc0 hsz _ _ _,ziP hc1 hsz _ _ _⟩)
     (first
      |(go_at_call 188;refine(dL _ _ (by omega) (by omega) (by omega) (by omega) _).mono ?_;rintro e w' ⟨rfl,rfl⟩)
      |(go_at_call 229;refine(gC _ _ (by omega) (by omega) (by omega) (by omega) _).mono ?_;rintro e w' ⟨rfl,rfl⟩))
    go_wp2;refine⟨⟨j,n,rfl,by rw[HBB.o],by omega,by omega,by rw[<-HBB.o];omega,by rw[<-HBB.o];exact hnb.o.2,HL.o,by rw[<-HBB.o];exact by rw[HY2.o];omega,zfY hc0 hsz _ _ _,zfY hc1 hsz _ _ _,HB3.o.trans ((((Bf _ _).alloc (Ll (Nat.lt_of_le_of_lt (Le _) hsz)) _).alloc (by rw[World.size_alloc];omega) _).alloc (by rw[World.size_alloc,World.size_alloc];omega) _).drew,by simp;omega⟩,?_⟩;simp[intOf,ed];omega
def bor(x y:Int):Int:=if x<y then 1 else 0
theorem qsG(x y:Int):0<=bor x y/\bor x y<=1:=by unfold bor;split<;>omega
theorem zlG(x y b:Int)(hx:0<=x)(hy:0<=y)(hy':y<=18446744073709551615)(hb0:0<=b)(hb:b<=1)(w:World):(callFunc 225 #[.int .u64 x,.int .u64 y,.int .u64 b]).run prog w=
 .ok (.value (.tuple #[.int .u64 (loW (x-y-b)),.int .u64 (bor x (y+b))])) w:=by
 obtain⟨x,rfl⟩:=Ij hx;obtain⟨y,rfl⟩:=Ij hy;obtain⟨b,rfl⟩:=Ij hb0;have e1:(((x+18446744073709551616-y-b)%18446744073709551616:Nat):Int)=loW ((x:Int)-y-b):=by unfold loW;omega
 have e2:((if x<y+b then 1 else 0:Nat):Int)=bor (x:Int) ((y:Int)+b):=by unfold bor;split<;>split<;>omega
 rw[<-e1,<-e2];rw[run_callFunc_extern func225 (by kernel_rfl) (by kernel_rfl) (by kernel_rfl) (e:=sub64Entry) (by kernel_rfl),run_sub64 x y b (by omega)];rfl
theorem qtE(x y:Int)(hx:0<=x)(hy:0<=y)(hy':y<=18446744073709551615)(w:World):(callFunc 225 #[.int .u64 x,.int .u64 y,.int .u64 0]).run prog w=
 .ok (.value (.tuple #[.int .u64 (loW (x-y)),.int .u64 (bor x y)])) w:=by
 have h:=zlG x y 0 hx hy hy' (Int.le_refl 0) (by decide) w
 rwa [Int.sub_zero,Int.add_zero]at h
theorem qmK(x y:Int)(h:y<=x)(hy:0<=y)(hx:x<340282366920938463463374607431768211456):loW (loW x-loW y)=loW (x-y)/\loW (hiW x-hiW y-bor (loW x) (loW y))=hiW (x-y):=by
 unfold bor;split<;>(unfold loW hiW at*;constructor<;>omega)
def upS(mode D r:Int):Bool:=if mode=1 then decide (0<D)else decide (mode=2)&&decide (r<D)
def rup(x mode r:Int):Int:=r+if upS mode (x-r*r) r then 1 else 0
theorem qnJ(x mode:Int)(x0:0<=x)(x1:x<85070591730234615865843651857942052864)(hm0:0<=mode)(hm1:mode<=2)(w:World):
 Calls prog 207 #[.agg #[.int .u64 (hiW x),.int .u64 (loW x)],.int .i64 mode] w λe w'=>(∃r:Int,0<=r/\r<=9223372036854775807/\r*r<=x/\x<(r+1)*(r+1)/\e=.returned (.tuple #[.int .i64 (zbE (rup x mode r) false).1,.bool (zbE (rup x mode r) false).2]))/\Bw w w':=by
 have p1:=eU x0;have p2:=qS (show x<340282366920938463463374607431768211456 by omega);have p3:=eT x;have p4:=nK x;go_enter func207,ntmps207;go_wp2_with(first|(go_at_call 224;refine(vQ x x0 (by omega) _).mono ?_;rintro e w1 ⟨⟨r,rfl,hr0,hr1,hr2,hr3⟩,hb⟩;have HB:=Hd hb;clear hb;have HR2:=Hd hr2;clear hr2;have HR3:=Hd hr3;clear hr3)|(go_at_call 208;fail));have hc0:w1.cell? ⟨w.heap.size,0,none⟩=some (.int .u64 (hiW x)):=(HB.o.cel w.heap.size 0 (by simp)).trans (by simp[World.cell?_alloc_new]);have hc1:w1.cell? ⟨w.heap.size,1,none⟩=some (.int .u64 (loW x)):=(HB.o.cel w.heap.size 1 (by simp)).trans (by simp[World.cell?_alloc_new]);have hrb:r<=9223372036854775807:=by
  rcases Il r 9223372036854775808 with h|h
  ·omega
  ·have:=Int.mul_le_mul h h (by decide) (by omega);have h2:=HR2.o;omega
 obtain⟨y,hy⟩:∃y,r*r=y:=⟨_,rfl⟩;have hy0:0<=y:=by rw[<-hy];exact Im hr0 hr0
 have hyx:y<=x:=by rw[<-hy];exact HR2.o
 have hD2:x-y<=2*r:=by
  have h3:=HR3.o;have e:(r+1)*(r+1)=r*r+r+r+1:=by rw[Int.mul_add,Int.add_mul];omega
  rw[e,hy]at h3;omega
 obtain⟨t1,t2⟩:=qmK x y hyx hy0 (by omega);have q1:=eU hy0;have q2:=qS (show y<340282366920938463463374607431768211456 by omega);have q3:=eT y;have q4:=nK y;obtain⟨D,hD⟩:∃D,x-y=D:=⟨_,rfl⟩;rw[hD]at t1 t2 hD2;have hD0:0<=D:=by omega
 have t3:loW D=D:=by unfold loW;omega
 have t4:hiW D=0:=by unfold hiW;omega
 rw[t3]at t1;rw[t4]at t2;have HF:Hid (∀u:Int,zbE (r+u) false=zbE (r+u) false):=λ_=>rfl;have HD:=Hd hD;have HX:=Hd hyx;clear hD hyx t3 t4;have hUp:Hid (upS mode (x-r*r) r=upS mode D r):=by unfold Hid;rw[hy,HD.o]
 have hmode:mode=0\/mode=1\/mode=2:=by omega
 have hcase:(0<D/\r<D)\/(0<D/\D<=r)\/(D<=0/\D<=r):=by omega
 rcases hmode with rfl|rfl|rfl
 all_goals
  rcases hcase with⟨d1,d2⟩|⟨d1,d2⟩|⟨d1,d2⟩
  all_goals
   go_wp2_with(first|(go_at_call 208;refine mo0 (xJ _ _ (by omega) (by omega) (by omega) (by omega) _) ?_)|simp only[qtE (loW x) (loW y) p3 q3 q4]|simp only[zlG (hiW x) (hiW y) (bor (loW x) (loW y)) p1 q1 q2 (qsG _ _).1 (qsG _ _).2]|(go_at_call 193;refine mo0 (kJ _ _ (by omega) (by omega) _) ?_));go_ret2;refine⟨⟨r,hr0,hrb,HR2.o,HR3.o,?_⟩,(nB _ _).trans (HB.o.mono (by simp))⟩;unfold rup;rw[hUp.o];first
    |(rw[show upS _ D r=true from by unfold upS;simp;omega];rfl)
    |(rw[show upS _ D r=false from by unfold upS;simp;try omega];simp only[Bool.false_eq_true,if_false,Int.add_zero];rfl)
theorem qsO(a b mode:Int)(a0:0<=a)(a1:a<=9223372036854775807)(b0:0<=b)(b1:b<=9223372036854775807)(hm0:0<=mode)(hm1:mode<=2)(w:World):
 Calls prog 184 #[.int .i64 a,.int .i64 b,.int .i64 mode] w λe w'=>(∃r:Int,0<=r/\r<=9223372036854775807/\r*r<=a*b/\a*b<(r+1)*(r+1)/\e=.returned (.tuple #[.int .i64 (zbE (rup (a*b) mode r) false).1,.bool (zbE (rup (a*b) mode r) false).2]))/\Bw w w':=by
 have x0:=Im a0 b0;have x1:a*b<85070591730234615865843651857942052864:=by have:=Int.mul_le_mul a1 b1 b0 (by decide);omega
 go_enter func184,ntmps184;go_wp2_with(first|(go_at_call 187;refine mo0 (qQ _ hm0 hm1 _) ?_)|(go_at_call 188;refine(dL _ _ (by omega) (by omega) (by omega) (by omega) _).mono ?_;rintro e w' ⟨rfl,rfl⟩)|(go_at_call 207;refine(qnJ _ _ x0 x1 hm0 hm1 _).mono ?_;rintro e w1 ⟨⟨r,hr0,hr1,hr2,hr3,rfl⟩,hb⟩;have HB:=Hd hb;clear hb;have HR2:=Hd hr2;clear hr2;have HR3:=Hd hr3;clear hr3));go_ret2;exact⟨⟨r,hr0,hr1,HR2.o,HR3.o,rfl⟩,(nB _ _).trans (HB.o.mono (by simp))⟩
def zeW:Nat->Nat
 |0=>0
 |n+1=>if(zeW n+1)*(zeW n+1)<=n+1 then zeW n+1 else zeW n
theorem xP:∀n,zeW n*zeW n<=n/\n<(zeW n+1)*(zeW n+1)
 |0=>by simp[zeW]
 |n+1=>by
  obtain⟨h1,h2⟩:=xP n;rw[zeW];by_cases h:(zeW n+1)*(zeW n+1)<=n+1
  ·rw[Ip h];refine⟨h,?_⟩;have e:(zeW n+1+1)*(zeW n+1+1)=(zeW n+1)*(zeW n+1)+2*(zeW n+1)+1:=by
    rw[Nat.add_mul,Nat.mul_add];omega
   omega
  ·rw[Iq h];exact⟨by omega,by omega⟩
def isq(x:Int):Int:=(zeW x.toNat:Int)
theorem jW(x:Int)(h:0<=x):0<=isq x/\isq x*isq x<=x/\x<(isq x+1)*(isq x+1):=by
 obtain⟨h1,h2⟩:=xP x.toNat;have e1:isq x*isq x=((zeW x.toNat*zeW x.toNat:Nat):Int):=by unfold isq;rw[Int.natCast_mul]
 have e2:(isq x+1)*(isq x+1)=(((zeW x.toNat+1)*(zeW x.toNat+1):Nat):Int):=by unfold isq;rw[Int.natCast_mul,Int.natCast_add];rfl
 refine⟨by unfold isq;omega,?_,?_⟩
 ·rw[e1];omega
 ·rw[e2];omega
theorem uP{x r:Int}(h0:0<=r)(h1:r*r<=x)(h2:x<(r+1)*(r+1)):r=isq x:=by
 have hx:0<=x:=by have:=Im h0 h0;omega
 obtain⟨s0,s1,s2⟩:=jW x hx;generalize isq x=s at*
 rcases Int.lt_trichotomy r s with h|h|h
 ·have:=Int.mul_le_mul (show r+1<=s by omega) (show r+1<=s by omega) (by omega) s0;omega
 ·exact h
 ·have:=Int.mul_le_mul (show s+1<=r by omega) (show s+1<=r by omega) (by omega) h0;omega
def zdR(a:Int):Int×Int:=if vld a then(if a<0 then(0,5)else(rup (a*1000000) 2 (isq (a*1000000)),0))else(0,1)
theorem mQ{x:Int}(h0:0<=x)(h:x<=1000000000000000000000):isq x<=31622776602:=by
 obtain⟨s0,s1,s2⟩:=jW x h0;rcases Il 31622776602 (isq x)with h'|h'
 ·have:=Int.mul_le_mul (show 31622776603<=isq x by omega) (show 31622776603<=isq x by omega) (by omega) s0;omega
 ·exact h'
theorem yI(x mode r:Int):r<=rup x mode r/\rup x mode r<=r+1:=by unfold rup;split<;>omega
theorem lG(a:Int)(ha1: -9223372036854775808<=a)(ha2:a<=9223372036854775807)(w:World):
 Calls prog 155 #[.int .i64 a] w λe w'=>e=.returned (.tuple #[.int .i64 (zdR a).1,.int .i64 (zdR a).2])/\Bw w w':=by
 rcases h:vld a with _|_
 ·have e0:zdR a=(0,1):=by unfold zdR;rw[h];rfl
  rw[e0];go_enter func155,ntmps155;go_wp2_with(go_at_call 87;refine mo0 (aK _ _) ?_);go_ret2;exact⟨rfl,Bf _ _⟩
 by_cases hn:a<0
 ·have e0:zdR a=(0,5):=by unfold zdR;rw[h];simp[hn]
  rw[e0];go_enter func155,ntmps155;go_wp2_with(go_at_call 87;refine mo0 (aK _ _) ?_);go_ret2;exact⟨rfl,Bf _ _⟩
 ·have k:=aP h;have HE:Hid (zdR a=(rup (a*1000000) 2 (isq (a*1000000)),0)):=by unfold Hid zdR;rw[h];simp[hn]
  go_enter func155,ntmps155;go_wp2_with(first|(go_at_call 87;refine mo0 (aK _ _) ?_)|(go_at_call 184;refine(qsO _ _ _ (by omega) (by omega) (by omega) (by omega) (by omega) (by omega) _).mono ?_;rintro e w1 ⟨⟨r,hr0,hr1,hr2,hr3,rfl⟩,hb⟩;have HB:=Hd hb;clear hb;have HR:=Hd (uP hr0 hr2 hr3);clear hr2 hr3));go_ret2;have hs:=mQ (x:=a*1000000) (by omega) (by omega);have hu:=yI (a*1000000) 2 r;have hr:=HR.o;have e1:zbE (rup (a*1000000) 2 r) false=(rup (a*1000000) 2 r,true):=by unfold zbE;simp;omega
  refine⟨?_,HB.o⟩;rw[HE.o,<-hr,e1];rfl
