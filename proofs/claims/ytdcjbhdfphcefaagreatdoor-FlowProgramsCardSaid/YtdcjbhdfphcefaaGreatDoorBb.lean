/- The contract. -/
import Derived.Test.YtdcjbhdfphcefaaGreatDoorBa
import Derived.Test.YtdcjbhdfphcefaaGreatDoorShelf
import Derived.Deep.DeepCutAuto
namespace Go.Proofs.YtdcjbhdfphcefaaGreatDoor
set_option linter.all false
set_option maxRecDepth 100000
set_option maxHeartbeats 4000000
open Go.Proofs.Tryz
open Go.RowKit
theorem lH(n:Int)(h1: -9223372036854775808<=n)(h2:n<=9223372036854775807)(w:World):
 Calls prog 189 #[.int .i64 n] w λe w'=>e=.returned (.int .u64 (mg n))/\w=w':=by
 by_cases h:n<0
 ·have H:=Hd (qoN h);go_enter func189,ntmps189;go_wp2;go_ret;exact⟨aO (by have:=H.o;omega),rfl⟩
 ·have H:=Hd (zG (show 0<=n by omega));go_enter func189,ntmps189;go_wp2;go_ret;exact⟨aO (by have:=H.o;omega),rfl⟩
theorem qQ(m:Int)(h0:0<=m)(h1:m<=2)(w:World):
 Calls prog 187 #[.int .i64 m] w λe w'=>e=.returned (.bool true)/\w=w':=by
 have hm:m=0\/m=1\/m=2:=by omega
 rcases hm with rfl|rfl|rfl
 all_goals
  go_enter func187,ntmps187;go_wp2;go_ret;exact⟨rfl,rfl⟩
theorem eK(a b:Int)(w:World):
 Calls prog 191 #[.int .i64 a,.int .i64 b] w λe w'=>e=.returned (.int .i64 (sg a b))/\w=w':=by
 by_cases ha:a=0
 ·subst ha;rw[mK (Or.inl rfl)];go_enter func191,ntmps191;go_wp2;go_ret;exact⟨rfl,rfl⟩
 by_cases hb:b=0
 ·subst hb;have ha':(a==0)=false:=by simpa using ha
  rw[mK (Or.inr rfl)];go_enter func191,ntmps191;go_wp2;go_ret;exact⟨rfl,rfl⟩
 have ha':(a==0)=false:=by simpa using ha
 have hb':(b==0)=false:=by simpa using hb
 by_cases h1:a<0
 ·by_cases h2:b<0
  ·rw[qF ha hb (by omega)];go_enter func191,ntmps191;go_wp2;go_ret;exact⟨rfl,rfl⟩
  ·rw[qG ha hb (by omega)];go_enter func191,ntmps191;go_wp2;go_ret;exact⟨rfl,rfl⟩
 ·by_cases h2:b<0
  ·rw[qG ha hb (by omega)];go_enter func191,ntmps191;go_wp2;go_ret;exact⟨rfl,rfl⟩
  ·rw[qF ha hb (by omega)];go_enter func191,ntmps191;go_wp2;go_ret;exact⟨rfl,rfl⟩
theorem qdT(n:Int)(h0:0<=n)(h:n<=9223372036854775808):wrap64 (IntKind.u64.wrap (-n))= -n:=by
 rw[IntKind.wrap_u64];unfold wrap64;omega
theorem kJ(n:Int)(neg:Bool)(h0:0<=n)(h1:n<=18446744073709551615)(w:World):
 Calls prog 193 #[.int .u64 n,.bool neg] w λe w'=>e=.returned (.tuple #[.int .i64 (zbE n neg).1,.bool (zbE n neg).2])/\w=w':=by
 cases neg
 ·by_cases h:n<9223372036854775808
  ·have e0:zbE n false=(n,true):=by unfold zbE;simp[h]
   rw[e0];go_enter func193,ntmps193;go_wp2;go_ret2;exact⟨rfl,rfl⟩
  ·have e0:zbE n false=(0,false):=by unfold zbE;simp[h]
   rw[e0];go_enter func193,ntmps193;go_wp2;go_ret2;exact⟨rfl,rfl⟩
 ·by_cases h:n<=9223372036854775808
  ·have e0:zbE n true=(-n,true):=by unfold zbE;simp[h]
   rw[e0];go_enter func193,ntmps193;go_wp2;go_ret2;exact⟨congrArg (λq=>Ending.returned (.tuple #[.int .i64 q,.bool true])) (qdT n h0 h),rfl⟩
  ·have e0:zbE n true=(0,false):=by unfold zbE;simp[h]
   rw[e0];go_enter func193,ntmps193;go_wp2;go_ret2;exact⟨rfl,rfl⟩
theorem qT(mode more:Int)(some neg:Bool)(h0:0<=mode)(h1:mode<=2)(w:World):
 Calls prog 192 #[.int .i64 mode,.int .i64 more,.bool some,.bool neg] w λe w'=>e=.returned (.bool (grw mode more some neg))/\w=w':=by
 have hm:mode=0\/mode=1\/mode=2:=by omega
 have hc:more=0\/0<more\/more<0:=by omega
 rcases hm with rfl|rfl|rfl
 ·cases some<;>cases neg;all_goals
   go_enter func192,ntmps192;go_wp2;go_ret;exact⟨rfl,rfl⟩
 ·cases some<;>cases neg;all_goals
   go_enter func192,ntmps192;go_wp2;go_ret;exact⟨rfl,rfl⟩
 ·rcases hc with rfl|h|h
  ·cases neg;all_goals
    go_enter func192,ntmps192;go_wp2;go_ret;exact⟨rfl,rfl⟩
  ·have e0:grw 2 more some neg=true:=by unfold grw;simp[h]
   rw[e0];go_enter func192,ntmps192;go_wp2;go_ret;exact⟨rfl,rfl⟩
  ·have e0:grw 2 more some neg=false:=by unfold grw;simp;omega
   have e1:(more==0)=false:=by simp;omega
   have e2:decide (0<more)=false:=by simp;omega
   rw[e0];go_enter func192,ntmps192;go_wp2;go_ret;exact⟨rfl,rfl⟩
theorem xJ(a b:Int)(h1:0<=a)(h2:0<=b)(h3:a<=18446744073709551615)(h4:b<=18446744073709551615)(w:World):
 Calls prog 208 #[.int .u64 a,.int .u64 b] w λe w'=>e=.returned (.tuple #[.int .u64 (hiW (a*b)),.int .u64 (loW (a*b))])/\w=w':=by
 obtain⟨x,rfl⟩:=Ij h1;obtain⟨y,rfl⟩:=Ij h2;refine(Tryz.bits_Mul64 x y (by omega) (by omega) w).mono ?_;rintro e w' ⟨he,hw⟩;refine⟨?_,hw.symm⟩;rw[he];unfold hiW loW;have e1:((x*y/18446744073709551616:Nat):Int)=(x:Int)*(y:Int)/18446744073709551616:=by rw[<-Int.natCast_mul];omega
 have e2:((x*y%18446744073709551616:Nat):Int)=(x:Int)*(y:Int)%18446744073709551616:=by rw[<-Int.natCast_mul];omega
 rw[e1,e2]
theorem dL(a b:Int)(h1:0<=a)(h2:0<=b)(h3:a<=18446744073709551615)(h4:b<=18446744073709551615)(w:World):
 Calls prog 188 #[.int .u64 a,.int .u64 b] w λe w'=>e=.returned (.agg #[.int .u64 (hiW (a*b)),.int .u64 (loW (a*b))])/\w'=w.alloc (.cells #[.int .u64 (hiW (a*b)),.int .u64 (loW (a*b))] 202):=by
 go_enter func188,ntmps188;go_wp2_with(go_at_call 208;refine mo0 (xJ a b h1 h2 h3 h4 _) ?_);generalize hiW (a*b)=p,loW (a*b)=q;exact bodyPost_ret (v:=.agg #[.int .u64 p,.int .u64 q]) (by simp[results,results188,go_sem]) rfl ⟨rfl,rfl⟩
theorem qyB(y:Int)(s:Nat)(hs:s<=63)(h2:0<y)(h3:y<=18446744073709551615)(hlz:64-(Lib.bitLen y.toNat:Int)=(s:Int))(w:World):
 Calls prog 209 #[.int .u64 y] w λe w'=>e=.returned (.int .i64 (s:Int))/\w=w':=by
 refine(Tryz.bits_LeadingZeros64 y w (by omega) h3).mono ?_;rintro e w' ⟨he,hw⟩;exact⟨by rw[he,hlz],hw.symm⟩
theorem qrM(lo y:Int)(h0:0<=lo)(h1:lo<=18446744073709551615)(h2:0<y)(h3:y<=18446744073709551615)(w:World):
 Calls prog 190 #[.int .u64 0,.int .u64 lo,.int .u64 y] w λe w'=>e=.returned (.tuple #[.int .u64 (lo/y),.int .u64 (lo%y)])/\∃n,w'=w.drewN n:=by
 have hy:(y==0)=false:=by simp;omega
 have d0:0<=lo/y:=Int.ediv_nonneg h0 (by omega);have d1:lo/y<=lo:=Int.ediv_le_self _ h0;have r0:=Io lo (b:=y) (by omega);have r1:=Ie lo h2;go_enter func190,ntmps190;go_wp2;go_quiet(fail);go_wp2;go_ret2;exact⟨rfl,_,rfl⟩
def zlE(U Y1 Q:Int)(a b:Value):Prop:=
 ∃q r:Int,a=.int .u64 q/\b=.int .u64 r/\r=U-q*Y1/\0<=r/\r<=4294967295/\Q<=q/\q<=4294967297
theorem qrN(hi lo y:Int)(h0:0<=lo)(h1:lo<=18446744073709551615)(h2':0<hi)(h3:y<=18446744073709551615)(h4:hi<y)(w:World):
 Calls prog 190 #[.int .u64 hi,.int .u64 lo,.int .u64 y] w λe w'=>e=.returned (.tuple #[.int .u64 ((hi*18446744073709551616+lo)/y),.int .u64 ((hi*18446744073709551616+lo)%y)])/\w=w':=by
 have h2:0<y:=by omega
 obtain⟨s,h5,hlz,hya,hyb⟩:=qmW y h2 h3;have hP:(0:Int)<2^s:=Int.pow_pos (by decide);have hR:(0:Int)<2^(64-s):=Int.pow_pos (by decide);have hPR:(2:Int)^s*2^(64-s)=18446744073709551616:=by rw[<-Int.pow_add,show s+(64-s)=64 by omega];rfl
 have hR2:(2:Int)^(64-s)<=2*y:=by rw[show 64-s=63-s+1 by omega,Int.pow_succ];omega
 obtain⟨⟨f1,f2⟩,⟨f3,f4⟩,⟨f5,f6⟩,f7,f8⟩:=qbI hi lo y (2^s) (2^(64-s)) hP hR hPR (by omega) h4 h0 (by omega) hR2 hyb;have f9:0<=lo*2^s:=Im h0 (Int.le_of_lt hP);obtain⟨Y,hY⟩:∃Y,Y=y*2^s:=⟨_,rfl⟩;obtain⟨H,hH⟩:∃H,H=hi*2^s:=⟨_,rfl⟩;obtain⟨L,hL⟩:∃L,L=lo/2^(64-s):=⟨_,rfl⟩;obtain⟨T,hT⟩:∃T,T=lo*2^s%18446744073709551616:=⟨_,rfl⟩;have E1:IntKind.u64.wrap (y*2^s)=Y:=by rw[hY];exact IntWalk.u64_in _ ⟨by omega,by omega⟩
 have E4:IntKind.u64.wrap (hi*2^s)=H:=by rw[hH];exact IntWalk.u64_in _ ⟨by omega,by omega⟩
 have E6:IntKind.u64.wrap (lo*2^s)=T:=by rw[hT,IntKind.wrap_u64]
 have E5a:lo/2^(64-s)=L:=hL.symm;have E5:bits .or .u64 H L=H+L:=yU H L s (by omega) (by omega) (by rw[hH];exact Int.mul_emod_left _ _) (by omega) (by omega) (by omega);rw[<-hH,<-hL,<-hT]at f8;rw[<-hY]at f1 f2 f7;rw[<-hH]at f3 f4 f7;rw[<-hL]at f5 f6 f7;have hT0:0<=T/\T<=18446744073709551615:=by omega
 obtain⟨U,hU⟩:∃U,U=H+L:=⟨_,rfl⟩;obtain⟨Y1,hY1⟩:∃Y1,Y1=Y/4294967296:=⟨_,rfl⟩;obtain⟨Y0,hY0⟩:∃Y0,Y0=Y%4294967296:=⟨_,rfl⟩;obtain⟨V1,hV1⟩:∃V1,V1=T/4294967296:=⟨_,rfl⟩;obtain⟨V0,hV0⟩:∃V0,V0=T%4294967296:=⟨_,rfl⟩;have E5b:bits .or .u64 H L=U:=by rw[E5,hU]
 have E2:Y/4294967296=Y1:=hY1.symm;have E3:bits .and .u64 Y 4294967295=Y0:=by rw[hY0];exact qdQ Y (by omega) (by omega)
 have E7:T/4294967296=V1:=hV1.symm;have E8:bits .and .u64 T 4294967295=V0:=by rw[hV0];exact qdQ T (by omega) (by omega)
 have hYY:Y=Y1*4294967296+Y0:=by omega
 have hTT:T=V1*4294967296+V0:=by omega
 have hYp:0<Y:=by omega
 have hY1a:2147483648<=Y1/\Y1<=4294967295:=by omega
 have hY0a:0<=Y0:=by omega
 have hY0b:Y0<=4294967295:=by omega
 have hV1a:0<=V1/\V1<=4294967295:=by omega
 have hV0a:0<=V0/\V0<=4294967295:=by omega
 have hU0:0<=U/\U<Y:=by omega
 have FN:(U*4294967296+V1)*4294967296+V0=(hi*18446744073709551616+lo)*2^s:=by rw[<-f8];omega
 obtain⟨Q1,hQ1⟩:∃Q1,Q1=(U*4294967296+V1)/Y:=⟨_,rfl⟩;obtain⟨W,hW⟩:∃W,W=(U*4294967296+V1)%Y:=⟨_,rfl⟩;obtain⟨qa,hqa⟩:∃q,q=U/Y1:=⟨_,rfl⟩;obtain⟨ta,hta⟩:∃t,t=qa*Y1:=⟨_,rfl⟩;have E9:U/Y1=qa:=hqa.symm;have k1:=qcP (v:=V1) hYY hY1a.1 hY0a (by omega) hU0.1 hU0.2 hV1a.1 (by omega);rw[<-hQ1,<-hqa]at k1;obtain⟨hqa0,hqa1⟩:=k1;have m1:=Int.ediv_mul_add_emod U Y1;have m2:=Io U (b:=Y1) (by omega);have m3:=Ie U (show 0<Y1 by omega);rw[<-hqa,<-hta]at m1;have hta0:0<=ta:=by rw[hta,hqa];exact Im (Int.ediv_nonneg hU0.1 (by omega)) (by omega)
 have E10:IntKind.u64.wrap (qa*Y1)=ta:=by rw[<-hta];exact IntWalk.u64_in _ ⟨hta0,by omega⟩
 have ms:=qcQ (v:=V1) hYp hU0.2 (by omega);rw[<-hQ1]at ms;have hQ10:0<=Q1:=by rw[hQ1];exact Int.ediv_nonneg (by omega) (by omega)
 have n1:=Io (U*4294967296+V1) (b:=Y) (by omega);have n2:=Ie (U*4294967296+V1) hYp;rw[<-hW]at n1 n2;have E12:IntKind.u64.wrap (IntKind.u64.wrap (IntKind.u64.wrap (U*4294967296)+V1)-IntKind.u64.wrap (Q1*Y))=W:=by
  simp only[IntKind.wrap_u64];rw[hW,hQ1];exact qhP hYp (by omega)
 obtain⟨Q2,hQ2⟩:∃Q2,Q2=(W*4294967296+V0)/Y:=⟨_,rfl⟩;obtain⟨X,hX⟩:∃X,X=(W*4294967296+V0)%Y:=⟨_,rfl⟩;obtain⟨qb,hqb⟩:∃q,q=W/Y1:=⟨_,rfl⟩;obtain⟨tb,htb⟩:∃t,t=qb*Y1:=⟨_,rfl⟩;have E13:W/Y1=qb:=hqb.symm;have k2:=qcP (v:=V0) hYY hY1a.1 hY0a (by omega) n1 n2 hV0a.1 (by omega);rw[<-hQ2,<-hqb]at k2;obtain⟨hqb0,hqb1⟩:=k2;have m4:=Int.ediv_mul_add_emod W Y1;have m5:=Io W (b:=Y1) (by omega);have m6:=Ie W (show 0<Y1 by omega);rw[<-hqb,<-htb]at m4;have htb0:0<=tb:=by rw[htb,hqb];exact Im (Int.ediv_nonneg n1 (by omega)) (by omega)
 have E14:IntKind.u64.wrap (qb*Y1)=tb:=by rw[<-htb];exact IntWalk.u64_in _ ⟨htb0,by omega⟩
 have mt:=qcQ (v:=V0) hYp n2 (by omega);rw[<-hQ2]at mt;have hQ20:0<=Q2:=by rw[hQ2];exact Int.ediv_nonneg (by omega) (by omega)
 have E15:IntKind.u64.wrap (IntKind.u64.wrap (IntKind.u64.wrap (W*4294967296)+V0)-IntKind.u64.wrap (Q2*Y))=X:=by
  simp only[IntKind.wrap_u64];rw[hX,hQ2];exact qhP hYp (by omega)
 have n3:=Io (W*4294967296+V0) (b:=Y) (by omega);have n4:=Ie (W*4294967296+V0) hYp;rw[<-hX]at n3 n4;have kt:=qyS U Y V1 V0 hYp;rw[FN,<-hQ1,<-hW,<-hQ2,<-hX,hY]at kt;have ks:=qpB (hi*18446744073709551616+lo) y s h2;have FQ:Hid (Q1*4294967296+Q2=(hi*18446744073709551616+lo)/y):=by unfold Hid;rw[kt.1,ks.1]
 have FR:Hid (X/2^s=(hi*18446744073709551616+lo)%y):=by unfold Hid;rw[kt.2,ks.2]
 have hqa2:ta<=U:=by omega
 have hta2:U-ta<=4294967295:=by omega
 have htb2:tb<=W:=by omega
 have htb3:W-tb<=4294967295:=by omega
 have HY:=Hd hYY;have HQ1:=Hd hQ1;have HQ2:=Hd hQ2;have HTA:=Hd hta;have HTB:=Hd htb;clear hY hH hL hT hU hY1 hY0 hV1 hV0 hYY hTT hQ1 hQ2 hW hX hqa hqb hta htb E5 f8 FN kt ks m1 m2 m3 m4 m5 m6 hPR hR2 hya hyb f9;have hy:(y==0)=false:=by simp;omega
 have hy2:(hi==0)=false:=by simp;omega
 have hY1z:(Y1==0)=false:=by simp;omega
 go_enter func190,ntmps190;go_wp2_with(go_at_call 209;refine mo0 (qyB y s h5 h2 h3 hlz _) ?_);go_loop[15,16] (zlE U Y1 Q1) (λq _=>(intOf q).toNat)
 case atStart=>exact⟨qa,U-ta,congrArg (Value.int .u64) E9,rfl,by rw[HTA.o],by omega,by omega,hqa0,hqa1⟩
 case round=>
  obtain⟨q,r,rfl,rfl,hr,hr0,hr1,hq0,hq1⟩:=hrel;have HRR:=Hd hr;clear hr;by_cases hq:q<4294967296
  ·have hz0:0<=q*Y0:=Im (by omega) hY0a;have hz1:q*Y0<=18446744073709551615:=by have:=Int.mul_le_mul (show q<=4294967295 by omega) (show Y0<=4294967295 by omega) hY0a (by omega);omega
   obtain⟨z,hz⟩:∃z,z=q*Y0:=⟨_,rfl⟩;have EZ:IntKind.u64.wrap (q*Y0)=z:=by rw[<-hz]at hz0 hz1⊢;exact IntWalk.u64_in _ ⟨hz0,hz1⟩
   rw[<-hz]at hz0 hz1;have HZ:=Hd hz;clear hz;by_cases hc:4294967296*r+V1<z
   ·have hm:=sH HY.o hYp HRR.o (by rw[<-HZ.o];exact hc);rw[<-HQ1.o]at hm;by_cases hb:4294967296<=r+Y1
    ·have hqq:=Hd (fZ (u:=U) (v:=V1) (q:=q-1) (r:=r+Y1) HY.o hYp hY0a (by omega) (by omega) (by rw[HRR.o,Int.sub_mul];omega) hb (by omega) (by omega) (by rw[<-HQ1.o];exact hm));have hqe:Hid (q=Q1+1):=by have:=hqq.o;rw[<-HQ1.o]at this;unfold Hid;omega
     obtain rfl:q=Q1+1:=hqe;clear hqq HZ;go_wp2;go_loop[18,16] (zlE W Y1 Q2) (λq _=>(intOf q).toNat)
     case atStart=>exact⟨qb,W-tb,by first|rfl|exact congrArg (Value.int .u64) E13,rfl,by rw[HTB.o],by omega,by omega,hqb0,hqb1⟩
     case round=>
      obtain⟨q,r,rfl,rfl,hr,hr0,hr1,hq0,hq1⟩:=hrel;have HRR:=Hd hr;clear hr;by_cases hq:q<4294967296
      ·have hz0:0<=q*Y0:=Im (by omega) hY0a;have hz1:q*Y0<=18446744073709551615:=by have:=Int.mul_le_mul (show q<=4294967295 by omega) (show Y0<=4294967295 by omega) hY0a (by omega);omega
       obtain⟨z,hz⟩:∃z,z=q*Y0:=⟨_,rfl⟩;have EZ:IntKind.u64.wrap (q*Y0)=z:=by rw[<-hz]at hz0 hz1⊢;exact IntWalk.u64_in _ ⟨hz0,hz1⟩
       rw[<-hz]at hz0 hz1;have HZ:=Hd hz;clear hz;by_cases hc:4294967296*r+V0<z
       ·have hm:=sH HY.o hYp HRR.o (by rw[<-HZ.o];exact hc);rw[<-HQ2.o]at hm;by_cases hb:4294967296<=r+Y1
        ·have hqq:=Hd (fZ (u:=W) (v:=V0) (q:=q-1) (r:=r+Y1) HY.o hYp hY0a (by omega) (by omega) (by rw[HRR.o,Int.sub_mul];omega) hb (by omega) (by omega) (by rw[<-HQ2.o];exact hm));have hqe:Hid (q=Q2+1):=by have:=hqq.o;rw[<-HQ2.o]at this;unfold Hid;omega
         obtain rfl:q=Q2+1:=hqe;clear hqq HZ;go_wp2;go_ret2;exact⟨dG FQ.o FR.o,rfl⟩
        ·go_wp2;go_round
         case rel=>exact⟨q-1,r+Y1,rfl,rfl,by rw[HRR.o,Int.sub_mul];omega,by omega,by omega,hm,by omega⟩
         case measure=>simp[intOf];omega
       ·have hqe:Hid (Q2=q):=by
         unfold Hid;rw[HQ2.o];symm;exact oZ (u:=W) (v:=V0) HY.o hYp HRR.o (by rw[<-HZ.o];omega) (by rw[<-HQ2.o];exact hq0)
        obtain rfl:Q2=q:=hqe;go_wp2;go_ret2;exact⟨dG FQ.o FR.o,rfl⟩
      ·have hm:Q2<=q-1:=by omega
       by_cases hb:4294967296<=r+Y1
       ·have hqq:=Hd (fZ (u:=W) (v:=V0) (q:=q-1) (r:=r+Y1) HY.o hYp hY0a (by omega) (by omega) (by rw[HRR.o,Int.sub_mul];omega) hb (by omega) (by omega) (by rw[<-HQ2.o];exact hm));have hqe:Hid (q=Q2+1):=by have:=hqq.o;rw[<-HQ2.o]at this;unfold Hid;omega
        obtain rfl:q=Q2+1:=hqe;clear hqq;go_wp2;go_ret2;exact⟨dG FQ.o FR.o,rfl⟩
       ·go_wp2;go_round
        case rel=>exact⟨q-1,r+Y1,rfl,rfl,by rw[HRR.o,Int.sub_mul];omega,by omega,by omega,hm,by omega⟩
        case measure=>simp[intOf];omega
    ·go_wp2;go_round
     case rel=>exact⟨q-1,r+Y1,rfl,rfl,by rw[HRR.o,Int.sub_mul];omega,by omega,by omega,hm,by omega⟩
     case measure=>simp[intOf];omega
   ·have hqe:Hid (Q1=q):=by
     unfold Hid;rw[HQ1.o];symm;exact oZ (u:=U) (v:=V1) HY.o hYp HRR.o (by rw[<-HZ.o];omega) (by rw[<-HQ1.o];exact hq0)
    obtain rfl:Q1=q:=hqe;go_wp2;go_loop[18,16] (zlE W Y1 Q2) (λq _=>(intOf q).toNat)
    case atStart=>exact⟨qb,W-tb,by first|rfl|exact congrArg (Value.int .u64) E13,rfl,by rw[HTB.o],by omega,by omega,hqb0,hqb1⟩
    case round=>
     obtain⟨q,r,rfl,rfl,hr,hr0,hr1,hq0,hq1⟩:=hrel;have HRR:=Hd hr;clear hr;by_cases hq:q<4294967296
     ·have hz0:0<=q*Y0:=Im (by omega) hY0a;have hz1:q*Y0<=18446744073709551615:=by have:=Int.mul_le_mul (show q<=4294967295 by omega) (show Y0<=4294967295 by omega) hY0a (by omega);omega
      obtain⟨z,hz⟩:∃z,z=q*Y0:=⟨_,rfl⟩;have EZ:IntKind.u64.wrap (q*Y0)=z:=by rw[<-hz]at hz0 hz1⊢;exact IntWalk.u64_in _ ⟨hz0,hz1⟩
      rw[<-hz]at hz0 hz1;have HZ:=Hd hz;clear hz;by_cases hc:4294967296*r+V0<z
      ·have hm:=sH HY.o hYp HRR.o (by rw[<-HZ.o];exact hc);rw[<-HQ2.o]at hm;by_cases hb:4294967296<=r+Y1
       ·have hqq:=Hd (fZ (u:=W) (v:=V0) (q:=q-1) (r:=r+Y1) HY.o hYp hY0a (by omega) (by omega) (by rw[HRR.o,Int.sub_mul];omega) hb (by omega) (by omega) (by rw[<-HQ2.o];exact hm));have hqe:Hid (q=Q2+1):=by have:=hqq.o;rw[<-HQ2.o]at this;unfold Hid;omega
        obtain rfl:q=Q2+1:=hqe;clear hqq HZ;go_wp2;go_ret2;exact⟨dG FQ.o FR.o,rfl⟩
       ·go_wp2;go_round
        case rel=>exact⟨q-1,r+Y1,rfl,rfl,by rw[HRR.o,Int.sub_mul];omega,by omega,by omega,hm,by omega⟩
        case measure=>simp[intOf];omega
      ·have hqe:Hid (Q2=q):=by
        unfold Hid;rw[HQ2.o];symm;exact oZ (u:=W) (v:=V0) HY.o hYp HRR.o (by rw[<-HZ.o];omega) (by rw[<-HQ2.o];exact hq0)
       obtain rfl:Q2=q:=hqe;go_wp2;go_ret2;exact⟨dG FQ.o FR.o,rfl⟩
     ·have hm:Q2<=q-1:=by omega
      by_cases hb:4294967296<=r+Y1
      ·have hqq:=Hd (fZ (u:=W) (v:=V0) (q:=q-1) (r:=r+Y1) HY.o hYp hY0a (by omega) (by omega) (by rw[HRR.o,Int.sub_mul];omega) hb (by omega) (by omega) (by rw[<-HQ2.o];exact hm));have hqe:Hid (q=Q2+1):=by have:=hqq.o;rw[<-HQ2.o]at this;unfold Hid;omega
       obtain rfl:q=Q2+1:=hqe;clear hqq;go_wp2;go_ret2;exact⟨dG FQ.o FR.o,rfl⟩
      ·go_wp2;go_round
       case rel=>exact⟨q-1,r+Y1,rfl,rfl,by rw[HRR.o,Int.sub_mul];omega,by omega,by omega,hm,by omega⟩
       case measure=>simp[intOf];omega
  ·have hm:Q1<=q-1:=by omega
   by_cases hb:4294967296<=r+Y1
   ·have hqq:=Hd (fZ (u:=U) (v:=V1) (q:=q-1) (r:=r+Y1) HY.o hYp hY0a (by omega) (by omega) (by rw[HRR.o,Int.sub_mul];omega) hb (by omega) (by omega) (by rw[<-HQ1.o];exact hm));have hqe:Hid (q=Q1+1):=by have:=hqq.o;rw[<-HQ1.o]at this;unfold Hid;omega
    obtain rfl:q=Q1+1:=hqe;clear hqq;go_wp2;go_loop[18,16] (zlE W Y1 Q2) (λq _=>(intOf q).toNat)
    case atStart=>exact⟨qb,W-tb,by first|rfl|exact congrArg (Value.int .u64) E13,rfl,by rw[HTB.o],by omega,by omega,hqb0,hqb1⟩
    case round=>
     obtain⟨q,r,rfl,rfl,hr,hr0,hr1,hq0,hq1⟩:=hrel;have HRR:=Hd hr;clear hr;by_cases hq:q<4294967296
     ·have hz0:0<=q*Y0:=Im (by omega) hY0a;have hz1:q*Y0<=18446744073709551615:=by have:=Int.mul_le_mul (show q<=4294967295 by omega) (show Y0<=4294967295 by omega) hY0a (by omega);omega
      obtain⟨z,hz⟩:∃z,z=q*Y0:=⟨_,rfl⟩;have EZ:IntKind.u64.wrap (q*Y0)=z:=by rw[<-hz]at hz0 hz1⊢;exact IntWalk.u64_in _ ⟨hz0,hz1⟩
      rw[<-hz]at hz0 hz1;have HZ:=Hd hz;clear hz;by_cases hc:4294967296*r+V0<z
      ·have hm:=sH HY.o hYp HRR.o (by rw[<-HZ.o];exact hc);rw[<-HQ2.o]at hm;by_cases hb:4294967296<=r+Y1
       ·have hqq:=Hd (fZ (u:=W) (v:=V0) (q:=q-1) (r:=r+Y1) HY.o hYp hY0a (by omega) (by omega) (by rw[HRR.o,Int.sub_mul];omega) hb (by omega) (by omega) (by rw[<-HQ2.o];exact hm));have hqe:Hid (q=Q2+1):=by have:=hqq.o;rw[<-HQ2.o]at this;unfold Hid;omega
        obtain rfl:q=Q2+1:=hqe;clear hqq HZ;go_wp2;go_ret2;exact⟨dG FQ.o FR.o,rfl⟩
       ·go_wp2;go_round
        case rel=>exact⟨q-1,r+Y1,rfl,rfl,by rw[HRR.o,Int.sub_mul];omega,by omega,by omega,hm,by omega⟩
        case measure=>simp[intOf];omega
      ·have hqe:Hid (Q2=q):=by
        unfold Hid;rw[HQ2.o];symm;exact oZ (u:=W) (v:=V0) HY.o hYp HRR.o (by rw[<-HZ.o];omega) (by rw[<-HQ2.o];exact hq0)
       obtain rfl:Q2=q:=hqe;go_wp2;go_ret2;exact⟨dG FQ.o FR.o,rfl⟩
     ·have hm:Q2<=q-1:=by omega
      by_cases hb:4294967296<=r+Y1
      ·have hqq:=Hd (fZ (u:=W) (v:=V0) (q:=q-1) (r:=r+Y1) HY.o hYp hY0a (by omega) (by omega) (by rw[HRR.o,Int.sub_mul];omega) hb (by omega) (by omega) (by rw[<-HQ2.o];exact hm));have hqe:Hid (q=Q2+1):=by have:=hqq.o;rw[<-HQ2.o]at this;unfold Hid;omega
       obtain rfl:q=Q2+1:=hqe;clear hqq;go_wp2;go_ret2;exact⟨dG FQ.o FR.o,rfl⟩
      ·go_wp2;go_round
       case rel=>exact⟨q-1,r+Y1,rfl,rfl,by rw[HRR.o,Int.sub_mul];omega,by omega,by omega,hm,by omega⟩
       case measure=>simp[intOf];omega
   ·go_wp2;go_round
    case rel=>exact⟨q-1,r+Y1,rfl,rfl,by rw[HRR.o,Int.sub_mul];omega,by omega,by omega,hm,by omega⟩
    case measure=>simp[intOf];omega
theorem qkV(hi lo y:Int)(h0:0<=lo)(h1:lo<=18446744073709551615)(h2:0<=hi)(h3:y<=18446744073709551615)(h4:hi<y)(w:World):
 Calls prog 190 #[.int .u64 hi,.int .u64 lo,.int .u64 y] w λe w'=>e=.returned (.tuple #[.int .u64 ((hi*18446744073709551616+lo)/y),.int .u64 ((hi*18446744073709551616+lo)%y)])/\∃n,w'=w.drewN n:=by
 by_cases h:hi=0
 ·subst h;rw[Int.zero_mul,Int.zero_add];exact qrM lo y h0 h1 h4 h3 w
 ·exact(qrN hi lo y h0 h1 (by omega) h3 h4 w).mono λe w' ⟨he,hw⟩=>⟨he,0,hw.symm⟩
theorem aA{B:Nat}{a w:World}(h:Below B a w)(n:Nat):Below B a (w.drewN n):=⟨h.os,h.tape,h.output,h.size,h.block⟩
theorem qbJ{n:Int}{neg:Bool}(h:9223372036854775808<n):zbE n neg=(0,false):=by
 unfold zbE;cases neg<;>simp<;>omega
theorem qrO(X D:Int)(h0:0<=X)(h3:D<=18446744073709551615)(h4:hiW X<D)(w:World):
 Calls prog 190 #[.int .u64 (hiW X),.int .u64 (loW X),.int .u64 D] w λe w'=>e=.returned (.tuple #[.int .u64 (X/D),.int .u64 (X%D)])/\∃n,w'=w.drewN n:=by
 have h:=qkV (hiW X) (loW X) D (eT X) (nK X) (eU h0) h3 h4 w;rw[qC]at h;exact h
theorem bL(a b c mode:Int)(ha1: -9223372036854775808<=a)(ha2:a<=9223372036854775807)(hb1: -9223372036854775808<=b)(hb2:b<=9223372036854775807)
 (hc1: -9223372036854775808<=c) (hc2:c<=9223372036854775807) (hc0:c≠0) (hm0:0<=mode) (hm1:mode<=2) (w:World):
 Calls prog 160 #[.int .i64 a,.int .i64 b,.int .i64 c,.int .i64 mode] w λe w'=>e=.returned (.tuple #[.int .i64 (mdS a b c mode).1,.bool (mdS a b c mode).2])/\Bw w w':=by
 have hc0':(c==0)=false:=by simpa using hc0
 have na:=eE a;have la:=uE a ha1 ha2;have nb:=eE b;have lb:=uE b hb1 hb2;have lc:=uE c hc1 hc2;have nc:0<mg c:=by unfold mg;omega
 obtain⟨A,hA⟩:∃A,A=mg a:=⟨_,rfl⟩;obtain⟨B,hB⟩:∃B,B=mg b:=⟨_,rfl⟩;obtain⟨D,hD⟩:∃D,D=mg c:=⟨_,rfl⟩;have x0:=iH na nb;have x1:=rZ na nb (by omega) (by omega);have hS:Hid (mdS a b c mode=zbE (A*B/D+(if grw mode (zfD (A*B%D) D) (decide (0<A*B%D)) (ngt a b c)then 1 else 0)) (ngt a b c)):=by
  unfold Hid mdS mdA;rw[hA,hB,hD]
 rw[<-hA,<-hB]at x0 x1;rw[<-hA]at na la;rw[<-hB]at nb lb;rw[<-hD]at nc lc;have E1:mg a=A:=hA.symm;have E2:mg b=B:=hB.symm;have E3:mg c=D:=hD.symm;clear hA hB hD;obtain⟨X,hX⟩:∃X,X=A*B:=⟨_,rfl⟩;rw[<-hX]at x0 x1 hS;have EX:A*B=X:=hX.symm;have w0:=eU x0;have w1:=qS x1;have v0:=eT X;have v1:=nK X;have q0:0<=X/D:=Int.ediv_nonneg x0 (by omega);have r0:=Io X (b:=D) (by omega);have r1:=Ie X nc;by_cases hov:D<=hiW X
 ·have hq:18446744073709551616<=X/D:=by
   rw[Int.le_ediv_iff_mul_le nc];have:=qC X;have h2:=Int.mul_le_mul_of_nonneg_right hov (show(0:Int)<=18446744073709551616 by decide);rw[Int.mul_comm];omega
  have hS2:Hid (mdS a b c mode=(0,false)):=by
   have h:=hS.o;unfold Hid;rw[h];apply qbJ;split<;>omega
  clear hS hX;go_enter func160,ntmps160;go_wp2_with(first|(go_at_call 187;refine mo0 (qQ _ hm0 hm1 _) ?_)|(go_at_call 189;refine mo0 (lH _ (by omega) (by omega) _) ?_)|(go_at_call 188;refine(dL _ _ (by omega) (by omega) (by omega) (by omega) _).mono ?_;rintro e w' ⟨rfl,rfl⟩));go_ret2;exact⟨by rw[hS2.o];rfl,(nB _ _).alloc (by simp) _⟩
 ·have hq:X/D<18446744073709551616:=by
   rw[Int.ediv_lt_iff_lt_mul nc];have:=qC X;have h2:=Int.mul_le_mul_of_nonneg_right (show hiW X+1<=D by omega) (show(0:Int)<=18446744073709551616 by decide);rw[Int.add_mul]at h2;rw[Int.mul_comm];omega
  obtain⟨q,hqe⟩:∃q,q=X/D:=⟨_,rfl⟩;obtain⟨r,hre⟩:∃r,r=X%D:=⟨_,rfl⟩;rw[<-hqe]at q0 hq;rw[<-hre]at r0 r1;rw[<-hqe,<-hre]at hS;have EQ:X/D=q:=hqe.symm;have ER:X%D=r:=hre.symm;clear hqe hre hX;go_enter func160,ntmps160;go_upto_region 7 with(first|(go_at_call 187;refine mo0 (qQ _ hm0 hm1 _) ?_)|(go_at_call 189;refine mo0 (lH _ (by omega) (by omega) _) ?_)|(go_at_call 188;refine(dL _ _ (by omega) (by omega) (by omega) (by omega) _).mono ?_;rintro e w' ⟨rfl,rfl⟩)|(go_at_call 190;refine(qrO X D x0 (by omega) (by omega) _).mono ?_;rintro e w' ⟨rfl,nd,rfl⟩))
  go_cut[14] (λs14 wx=>s14=.bool (ngt a b c)/\Bw w wx)
  case first=>
   have hsg:sg a b=0\/sg a b=1\/sg a b= -1:=by
    by_cases g1:a=0\/b=0
    ·exact Or.inl (mK g1)
    ·by_cases g2:(a<0↔b<0)
     ·exact Or.inr (Or.inl (qF (by omega) (by omega) g2))
     ·exact Or.inr (Or.inr (qG (by omega) (by omega) g2))
   have HS:=Hd hS;clear hS;by_cases hcn:c<0;all_goals
    rcases hsg with g|g|g
    all_goals
     have hng:Hid (ngt a b c=(decide (sg a b≠0)&&decide (¬(sg a b<0↔c<0)))):=rfl;rw[g]at hng;go_wp2_with(go_at_call 191;refine mo0 (eK _ _ _) ?_);go_meet;exact⟨by rw[hng.o];simp[hcn],aA ((nB _ _).alloc (by simp) _) _⟩
  case rest=>
   obtain⟨rfl,hbl⟩:=hcut;have HB:=Hd hbl;clear hbl;generalize ngt a b c=N at*
   cases N;all_goals
    have hM:(D-r<r/\zfD r D=1)\/(r<D-r/\zfD r D= -1)\/((D-r<=r/\r<=D-r)/\zfD r D=0):=by
     rcases Int.lt_trichotomy (D-r) r with h|h|h
     ·exact Or.inl ⟨h,sJ h⟩
     ·exact Or.inr (Or.inr ⟨by omega,qaB h.symm⟩)
     ·exact Or.inr (Or.inl ⟨h,pH h⟩)
    rcases hM with⟨m1,m2⟩|⟨m1,m2⟩|⟨m1,m2⟩
    all_goals
     rw[m2]at hS;clear m2;generalize hg:grw mode _ (decide (0<r)) _=g at hS;cases g
     ·simp only[Bool.false_eq_true,if_false,Int.add_zero]at hS;go_wp2_with(first|(go_at_call 192;refine mo0 (qT _ _ _ _ hm0 hm1 _) ?_)|(go_at_call 193;refine mo0 (kJ _ _ (by omega) (by omega) _) ?_));go_ret2;exact⟨by rw[hS.o];rfl,HB.o⟩
     ·simp only[if_true]at hS;by_cases hq1:q=18446744073709551615
      ·have hS2:Hid (mdS a b c mode=(0,false)):=by have h:=hS.o;unfold Hid;rw[h];apply qbJ;omega
       have hqz:IntKind.u64.wrap (q+1)=0:=by rw[hq1];rfl
       clear hS hq1;go_wp2_with(first|(go_at_call 192;refine mo0 (qT _ _ _ _ hm0 hm1 _) ?_)|(go_at_call 193;refine mo0 (kJ _ _ (by omega) (by omega) _) ?_));go_ret2;exact⟨by rw[hS2.o];rfl,HB.o⟩
      ·have hqz:(q+1==0)=false:=by simp;omega
       have hq2:q<18446744073709551615:=by omega
       clear hq1;go_wp2_with(first|(go_at_call 192;refine mo0 (qT _ _ _ _ hm0 hm1 _) ?_)|(go_at_call 193;refine mo0 (kJ _ _ (by omega) (by omega) _) ?_));go_ret2;exact⟨by rw[hS.o];rfl,HB.o⟩
