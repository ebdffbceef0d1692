/- The contract. -/
import Derived.Test.YtdcjbhdfphcefaaGreatDoorBe
import Derived.Test.YtdcjbhdfphcefaaGreatDoorBi
namespace Go.Proofs.YtdcjbhdfphcefaaGreatDoor
set_option linter.all false
set_option maxRecDepth 100000
set_option maxHeartbeats 4000000
open Go.Proofs.Tryz
open Go.RowKit
theorem lD(n:Int)(w:World):
 Calls prog 198 #[.int .i64 n,.bool true] w λe w'=>e=.returned (.tuple #[.int .i64 (chk n).1,.int .i64 (chk n).2])/\w=w':=by
 rcases ha:vld n with _|_
 ·rw[rC ha];go_enter func198,ntmps198;go_wp2_with(go_at_call 168;refine mo0 (aF _ _) ?_);go_ret2;exact⟨rfl,rfl⟩
 ·rw[kR ha];go_enter func198,ntmps198;go_wp2_with(go_at_call 168;refine mo0 (aF _ _) ?_);go_ret2;exact⟨rfl,rfl⟩
theorem qgP(n:Int)(w:World):
 Calls prog 198 #[.int .i64 n,.bool false] w λe w'=>e=.returned (.tuple #[.int .i64 0,.int .i64 3])/\w=w':=by
 go_enter func198,ntmps198;go_wp2_with(go_at_call 168;refine mo0 (aF _ _) ?_);go_ret2;exact⟨rfl,rfl⟩
theorem qcH(a b:Int)(ha1: -9223372036854775808<=a)(ha2:a<=9223372036854775807)(hb1: -9223372036854775808<=b)(hb2:b<=9223372036854775807)(w:World):
 Calls prog 175 #[.int .i64 a,.int .i64 b] w λe w'=>e=.returned (.tuple #[.int .i64 (zhD a b).1,.int .i64 (zhD a b).2])/\Bw w w':=by
 by_cases hva:vld a=true
 case neg=>
  have hva':vld a=false:=by simpa using hva
  rw[zD (by rw[hva'];rfl)];go_enter func175,ntmps175;go_wp2_with(go_at_call 168;refine mo0 (aF _ _) ?_);go_ret2;exact⟨rfl,Bf _ _⟩
 by_cases hvb:vld b=true
 case neg=>
  have hvb':vld b=false:=by simpa using hvb
  rw[zD (by rw[hva,hvb'];rfl)];go_enter func175,ntmps175;go_wp2_with(go_at_call 168;refine mo0 (aF _ _) ?_);go_ret2;exact⟨rfl,Bf _ _⟩
 rw[oW hva hvb];rcases hm:mdS a b 1000000 2 with⟨n,ok⟩
 have E0:Hid (zgT a b 1000000=if ok then chk n else(0,3)):=by unfold Hid zgT;rw[hm]
 cases ok
 ·rw[E0.o];clear E0;go_enter func175,ntmps175;go_wp2_with(first|(go_at_call 168;refine mo0 (aF _ _) ?_)|(go_at_call 199;refine(bH _ _ _ _ (by omega) (by omega) (by omega) (by omega) (by omega) (by omega) (by omega) (by omega) (by omega) _).mono ?_;rw[hm];rintro e w1A ⟨rfl,hb⟩;have HA:=Hd hb;clear hb)|(go_at_call 198;refine mo0 (qgP _ _) ?_));go_ret2;exact⟨rfl,HA.o⟩
 ·rw[E0.o];clear E0;go_enter func175,ntmps175;go_wp2_with(first|(go_at_call 168;refine mo0 (aF _ _) ?_)|(go_at_call 199;refine(bH _ _ _ _ (by omega) (by omega) (by omega) (by omega) (by omega) (by omega) (by omega) (by omega) (by omega) _).mono ?_;rw[hm];rintro e w1A ⟨rfl,hb⟩;have HA:=Hd hb;clear hb)|(go_at_call 198;refine mo0 (lD _ _) ?_));go_ret2;exact⟨rfl,HA.o⟩
theorem qdB(a b:Int)(ha1: -9223372036854775808<=a)(ha2:a<=9223372036854775807)(hb1: -9223372036854775808<=b)(hb2:b<=9223372036854775807)(w:World):
 Calls prog 176 #[.int .i64 a,.int .i64 b] w λe w'=>e=.returned (.tuple #[.int .i64 (zgO a b).1,.int .i64 (zgO a b).2])/\Bw w w':=by
 by_cases hva:vld a=true
 case neg=>
  have hva':vld a=false:=by simpa using hva
  rw[qaH (by rw[hva'];rfl)];go_enter func176,ntmps176;go_wp2_with(go_at_call 168;refine mo0 (aF _ _) ?_);go_ret2;exact⟨rfl,Bf _ _⟩
 by_cases hvb:vld b=true
 case neg=>
  have hvb':vld b=false:=by simpa using hvb
  rw[qaH (by rw[hva,hvb'];rfl)];go_enter func176,ntmps176;go_wp2_with(go_at_call 168;refine mo0 (aF _ _) ?_);go_ret2;exact⟨rfl,Bf _ _⟩
 by_cases hb0:b=0
 ·subst hb0;rw[qZ hva];go_enter func176,ntmps176;go_wp2_with(go_at_call 168;refine mo0 (aF _ _) ?_);go_ret2;exact⟨rfl,Bf _ _⟩
 ·rw[vC hva hvb hb0];have hb0':(b==0)=false:=by simpa using hb0
  rcases hm:mdS a 1000000 b 2 with⟨n,ok⟩
  have E0:Hid (zgT a 1000000 b=if ok then chk n else(0,3)):=by unfold Hid zgT;rw[hm]
  cases ok
  ·rw[E0.o];clear E0;go_enter func176,ntmps176;go_wp2_with(first|(go_at_call 168;refine mo0 (aF _ _) ?_)|(go_at_call 199;refine(bH _ _ _ _ (by omega) (by omega) (by omega) (by omega) (by omega) (by omega) (by omega) (by omega) (by omega) _).mono ?_;rw[hm];rintro e w1A ⟨rfl,hb⟩;have HA:=Hd hb;clear hb)|(go_at_call 198;refine mo0 (qgP _ _) ?_));go_ret2;exact⟨rfl,HA.o⟩
  ·rw[E0.o];clear E0;go_enter func176,ntmps176;go_wp2_with(first|(go_at_call 168;refine mo0 (aF _ _) ?_)|(go_at_call 199;refine(bH _ _ _ _ (by omega) (by omega) (by omega) (by omega) (by omega) (by omega) (by omega) (by omega) (by omega) _).mono ?_;rw[hm];rintro e w1A ⟨rfl,hb⟩;have HA:=Hd hb;clear hb)|(go_at_call 198;refine mo0 (lD _ _) ?_));go_ret2;exact⟨rfl,HA.o⟩
def hfR(X q:Nat):Int:=if X<=q*(q+1)then-1 else 1
def zkK(X:Nat)(w:World)(e:Ending)(w':World):Prop:=
 ∃q:Nat,Bit (λt=>t*t<=X) 9223372036854775808 q 0/\e=.returned (.tuple #[.int .u64 (q:Nat),.bool (zfG (q*q) X==0),.int .i64 (hfR X q)])/\Bw w w'
theorem qnH(X:Nat)(A:OA)(n c:Nat)(w:World)(hs:zfC w [(A,n,X,8)]):
 Calls prog 228 #[.slice A n c] w (zkK X w):=by
 have HS:=Hd hs;clear hs;have HB:Hid (Bw w w):=Bf _ _;go_enter func228,ntmps228;go_wp2;go_loopw[5,6] (λqv iv wr=>∃(q j:Nat) (z:Int),qv=.int .u64 (q:Nat)/\iv=.int .i64 z/\z+1=j/\j<=63/\Bit (λt=>t*t<=X) 9223372036854775808 q j/\zfC wr [(A,n,X,8)]/\Bw w wr) (λ_ iv _=>(intOf iv+1).toNat)
 case atStart=>exact⟨0,63,62,rfl,rfl,rfl,Le _,⟨rfl,Le _,by simp,Or.inr rfl⟩,HS.o,HB.o⟩
 case round=>
  clear HS HB;obtain⟨q,j,z,rfl,rfl,hz,hj,hbit,hs,hb⟩:=hrel;have HBit:=Hd hbit;clear hbit;have HS:=Hd hs;clear hs;have HB:=Hd hb;clear hb;by_cases hj0:j=0
  ·subst hj0;obtain rfl:z= -1:=by omega
   have hq1:q+1<=9223372036854775808:=HBit.o.2.1;have hq2:q<18446744073709551616:=by omega
   have hq3:q+1<18446744073709551616:=by omega
   by_cases hh:X<=q*(q+1)
   ·have HF:Hid (hfR X q= -1):=Ip hh;have hc:¬0<zfG X (q*(q+1)):=by have:=qaO hh;omega
    clear hh;have tok1:=trivial;have tok2:=trivial;have tok3:=trivial;have tok4:=trivial;have tok5:=trivial;have tok6:=trivial;have tok7:=trivial;have tok8:=trivial;go_wp2_with(first|(go_at_call 213;clear tok1;refine(bI q hq2 _ _ HS.o).mono ?_;rintro e w2 ⟨A1,n1,c1,rfl,hs,hb⟩;have HN:=Hd (zbP HB.o hb);clear HB hb HS;have HB:=Hd HN.o;have HS:=Hd hs;clear HN hs)|(go_at_call 213;clear tok2;refine(bI (q+1) hq3 _ _ HS.o).mono ?_;rintro e w3 ⟨A2,n2,c2,rfl,hs,hb⟩;have HN:=Hd (zbP HB.o hb);clear HB hb HS;have HB:=Hd HN.o;have HS:=Hd hs;clear HN hs)|(go_at_call 216;clear tok3;refine(eN _ _ HS.o (.tail _ (.head _)) (.head _) (by decide) (by decide)).mono ?_;rintro e w4 ⟨A3,n3,c3,rfl,hs,hb⟩;have HN:=Hd (zbP HB.o hb);clear HB hb HS;have HB:=Hd HN.o;have HS:=Hd hs;clear HN hs)|(go_at_call 215;clear tok4;refine(eO _ _ HS.o (.tail _ (.tail _ (.tail _ (.head _)))) (.head _) (by decide) (by decide)).mono ?_;rintro e w5 ⟨rfl,hs,hb⟩;have HN:=Hd (zbP HB.o hb);clear HB hb HS;have HB:=Hd HN.o;have HS:=Hd hs;clear HN hs)|(go_at_call 213;clear tok5;refine(bI q hq2 _ _ HS.o).mono ?_;rintro e w6 ⟨A4,n4,c4,rfl,hs,hb⟩;have HN:=Hd (zbP HB.o hb);clear HB hb HS;have HB:=Hd HN.o;have HS:=Hd hs;clear HN hs)|(go_at_call 213;clear tok6;refine(bI q hq2 _ _ HS.o).mono ?_;rintro e w7 ⟨A5,n5,c5,rfl,hs,hb⟩;have HN:=Hd (zbP HB.o hb);clear HB hb HS;have HB:=Hd HN.o;have HS:=Hd hs;clear HN hs)|(go_at_call 216;clear tok7;refine(eN _ _ HS.o (.tail _ (.head _)) (.head _) (by decide) (by decide)).mono ?_;rintro e w8 ⟨A6,n6,c6,rfl,hs,hb⟩;have HN:=Hd (zbP HB.o hb);clear HB hb HS;have HB:=Hd HN.o;have HS:=Hd hs;clear HN hs)|(go_at_call 215;clear tok8;refine(eO _ _ HS.o (.head _) (.tail _ (.tail _ (.tail _ (.tail _ (.tail _ (.tail _ (.head _))))))) (by decide) (by decide)).mono ?_;rintro e w9 ⟨rfl,hs,hb⟩;have HN:=Hd (zbP HB.o hb);clear HB hb HS;have HB:=Hd HN.o;have HS:=Hd hs;clear HN hs));go_ret3;exact⟨q,HBit.o,by rw[HF.o];rfl,HB.o⟩
   ·have HF:Hid (hfR X q=1):=Iq hh;have hc:0<zfG X (q*(q+1)):=by rw[mU (by omega)];decide
    clear hh;have tok1:=trivial;have tok2:=trivial;have tok3:=trivial;have tok4:=trivial;have tok5:=trivial;have tok6:=trivial;have tok7:=trivial;have tok8:=trivial;go_wp2_with(first|(go_at_call 213;clear tok1;refine(bI q hq2 _ _ HS.o).mono ?_;rintro e w2 ⟨A1,n1,c1,rfl,hs,hb⟩;have HN:=Hd (zbP HB.o hb);clear HB hb HS;have HB:=Hd HN.o;have HS:=Hd hs;clear HN hs)|(go_at_call 213;clear tok2;refine(bI (q+1) hq3 _ _ HS.o).mono ?_;rintro e w3 ⟨A2,n2,c2,rfl,hs,hb⟩;have HN:=Hd (zbP HB.o hb);clear HB hb HS;have HB:=Hd HN.o;have HS:=Hd hs;clear HN hs)|(go_at_call 216;clear tok3;refine(eN _ _ HS.o (.tail _ (.head _)) (.head _) (by decide) (by decide)).mono ?_;rintro e w4 ⟨A3,n3,c3,rfl,hs,hb⟩;have HN:=Hd (zbP HB.o hb);clear HB hb HS;have HB:=Hd HN.o;have HS:=Hd hs;clear HN hs)|(go_at_call 215;clear tok4;refine(eO _ _ HS.o (.tail _ (.tail _ (.tail _ (.head _)))) (.head _) (by decide) (by decide)).mono ?_;rintro e w5 ⟨rfl,hs,hb⟩;have HN:=Hd (zbP HB.o hb);clear HB hb HS;have HB:=Hd HN.o;have HS:=Hd hs;clear HN hs)|(go_at_call 213;clear tok5;refine(bI q hq2 _ _ HS.o).mono ?_;rintro e w6 ⟨A4,n4,c4,rfl,hs,hb⟩;have HN:=Hd (zbP HB.o hb);clear HB hb HS;have HB:=Hd HN.o;have HS:=Hd hs;clear HN hs)|(go_at_call 213;clear tok6;refine(bI q hq2 _ _ HS.o).mono ?_;rintro e w7 ⟨A5,n5,c5,rfl,hs,hb⟩;have HN:=Hd (zbP HB.o hb);clear HB hb HS;have HB:=Hd HN.o;have HS:=Hd hs;clear HN hs)|(go_at_call 216;clear tok7;refine(eN _ _ HS.o (.tail _ (.head _)) (.head _) (by decide) (by decide)).mono ?_;rintro e w8 ⟨A6,n6,c6,rfl,hs,hb⟩;have HN:=Hd (zbP HB.o hb);clear HB hb HS;have HB:=Hd HN.o;have HS:=Hd hs;clear HN hs)|(go_at_call 215;clear tok8;refine(eO _ _ HS.o (.head _) (.tail _ (.tail _ (.tail _ (.tail _ (.tail _ (.tail _ (.head _))))))) (by decide) (by decide)).mono ?_;rintro e w9 ⟨rfl,hs,hb⟩;have HN:=Hd (zbP HB.o hb);clear HB hb HS;have HB:=Hd HN.o;have HS:=Hd hs;clear HN hs));go_ret3;exact⟨q,HBit.o,by rw[HF.o];rfl,HB.o⟩
  ·obtain⟨k,rfl⟩:∃k,j=k+1:=⟨j-1,by omega⟩;obtain rfl:z=(k:Int):=by omega
   obtain⟨t,ht⟩:∃t,q+2^k=t:=⟨_,rfl⟩;have hor:=qiE q k t HBit.o.1 (by omega) (by have:=HBit.o.2.1;omega) ht;have ht1:t<18446744073709551616:=by
    have hle:=HBit.o.2.1;have hp:2^(k+1)=2^k+2^k:=by rw[Nat.pow_succ];omega
    have hk0:0<2^k:=Nat.pow_pos (by decide);omega
   by_cases hT:t*t<=X
   ·have HB2:=Hd (HBit.o.yes (by rw[ht];exact hT));rw[ht]at HB2;have hc:=qaO hT;clear hT ht;have tok1:=trivial;have tok2:=trivial;have tok3:=trivial;go_wp2_with(first|(go_at_call 213;clear tok1;refine(bI t ht1 _ _ HS.o).mono ?_;rintro e w2 ⟨A1,n1,c1,rfl,hs,hb⟩;have HN:=Hd (zbP HB.o hb);clear HB hb HS;have HB:=Hd HN.o;have HS:=Hd hs;clear HN hs)|(go_at_call 216;clear tok2;refine(eN _ _ HS.o (.head _) (.head _) (by decide) (by decide)).mono ?_;rintro e w3 ⟨A2,n2,c2,rfl,hs,hb⟩;have HN:=Hd (zbP HB.o hb);clear HB hb HS;have HB:=Hd HN.o;have HS:=Hd hs;clear HN hs)|(go_at_call 215;clear tok3;refine(eO _ _ HS.o (.head _) (.tail _ (.tail _ (.head _))) (by decide) (by decide)).mono ?_;rintro e w4 ⟨rfl,hs,hb⟩;have HN:=Hd (zbP HB.o hb);clear HB hb HS;have HB:=Hd HN.o;have HS:=Hd hs.tail.tail;clear HN hs));go_roundw
    case rel=>exact⟨t,k,(k:Int)-1,rfl,by go_num,by omega,by omega,HB2.o,HS.o,HB.o⟩
    case measure=>simp[intOf]
   ·have HB2:=Hd (HBit.o.no (by rw[ht];exact hT));have hc:=qiC hT;clear hT ht;have tok1:=trivial;have tok2:=trivial;have tok3:=trivial;go_wp2_with(first|(go_at_call 213;clear tok1;refine(bI t ht1 _ _ HS.o).mono ?_;rintro e w2 ⟨A1,n1,c1,rfl,hs,hb⟩;have HN:=Hd (zbP HB.o hb);clear HB hb HS;have HB:=Hd HN.o;have HS:=Hd hs;clear HN hs)|(go_at_call 216;clear tok2;refine(eN _ _ HS.o (.head _) (.head _) (by decide) (by decide)).mono ?_;rintro e w3 ⟨A2,n2,c2,rfl,hs,hb⟩;have HN:=Hd (zbP HB.o hb);clear HB hb HS;have HB:=Hd HN.o;have HS:=Hd hs;clear HN hs)|(go_at_call 215;clear tok3;refine(eO _ _ HS.o (.head _) (.tail _ (.tail _ (.head _))) (by decide) (by decide)).mono ?_;rintro e w4 ⟨rfl,hs,hb⟩;have HN:=Hd (zbP HB.o hb);clear HB hb HS;have HB:=Hd HN.o;have HS:=Hd hs.tail.tail;clear HN hs));go_roundw
    case rel=>exact⟨q,k,(k:Int)-1,rfl,by go_num,by omega,by omega,HB2.o,HS.o,HB.o⟩
    case measure=>simp[intOf]
theorem qnI(X q:Nat)(mode:Int)(hm0:0<=mode)(hm1:mode<=2)(hX:X<85070591730234615865843651857942052864)(hB:Bit (λt=>t*t<=X) 9223372036854775808 q 0):
 zeP q (grw mode (hfR X q) (!(zfG (q*q) X==0)) false) false=zbE (rup (X:Int) mode (isq (X:Int))) false:=by
 obtain⟨_,hq1,hq2,hq3⟩:=hB;simp only[Nat.pow_zero]at hq1 hq2 hq3;have hlt:X<(q+1)*(q+1):=by
  rcases hq3 with h|h
  ·omega
  ·rw[h];omega
 have hi:(q:Int)=isq (X:Int):=uP (by omega) (by exact_mod_cast hq2) (by exact_mod_cast hlt);rw[<-hi];obtain⟨Y,hY⟩:∃Y,q*q=Y:=⟨_,rfl⟩;have hYi:(q:Int)*(q:Int)=(Y:Int):=by rw[<-hY];push_cast;rfl
 have hq:q*(q+1)=Y+q:=by rw[Nat.mul_add,hY,Nat.mul_one]
 rw[hY]at hq2⊢
 have e:grw mode (hfR X q) (!(zfG Y X==0)) false=upS mode ((X:Int)-(q:Int)*(q:Int)) (q:Int):=by
  rw[hYi];have e4:(!(zfG Y X==0))=decide (0<(X:Int)-(Y:Int)):=by
   by_cases k1:X=Y
   ·rw[sP k1.symm];simp[k1]
   ·rw[sO (by omega)];simp;omega
  rw[e4];unfold hfR grw upS;rw[hq];have hm:mode=0\/mode=1\/mode=2:=by omega
  rcases hm with rfl|rfl|rfl
  ·simp
  ·simp
  ·by_cases k1:X<=Y+q
   ·simp[k1];omega
   ·simp[k1];omega
 unfold zeP rup;rw[e]
theorem qsN(a b mode:Int)(a0:0<=a)(a1:a<=9223372036854775807)(b0:0<=b)(b1:b<=9223372036854775807)(hm0:0<=mode)(hm1:mode<=2)(w:World):
 Calls prog 222 #[.int .i64 a,.int .i64 b,.int .i64 mode] w λe w'=>e=.returned (.tuple #[.int .i64 (zbE (rup (a*b) mode (isq (a*b))) false).1,.bool (zbE (rup (a*b) mode (isq (a*b))) false).2])/\Bw w w':=by
 have x1:a*b<85070591730234615865843651857942052864:=by have:=Int.mul_le_mul a1 b1 b0 (by decide);omega
 obtain⟨X,hX⟩:∃X,a.natAbs*b.natAbs=X:=⟨_,rfl⟩;have hXi:a*b=(X:Int):=by
  rw[<-hX];push_cast;rw[Int.natAbs_of_nonneg a0,Int.natAbs_of_nonneg b0]
 have hL:∀q:Nat,_->_:=λq hb=>qnI X q mode hm0 hm1 (by omega) hb;rw[hXi];clear x1 hXi;have HS:Hid (zfC w []):=λt ht=>by cases ht
 have HB:Hid (Bw w w):=Bf _ _;go_enter func222,ntmps222;go_wp2_with(first
  |(go_at_call 211;refine mo0 (wW _ hm0 hm1 _) ?_)
  |(go_at_call 212;refine(oT a b (by omega) a1 (by omega) b1 _ _ HS.o).mono ?_;rw[hX];rintro e w1 ⟨Ax,nx,cx,rfl,hs,hb⟩;have HN:=Hd (zbP HB.o hb);clear HB hb HS;have HB:=Hd HN.o;have HS:=Hd hs;clear HN hs)
  |(go_at_call 228;refine(qnH X _ _ _ _ HS.o).mono ?_;rintro e w2 ⟨q,hbit,rfl,hb⟩;have HBit:=Hd hbit;have HN:=Hd (zbP HB.o hb);have hq1:q+1<=9223372036854775808:=hbit.2.1;clear HB hb hbit;have HB:=Hd HN.o;clear HN)
  |(go_at_call 218;refine(rK _ _ _ _ _ (by omega) (by omega) hm0 hm1 _).mono ?_;rintro e w' ⟨rfl,rfl⟩))
 go_ret2;exact⟨qnN (hL q HBit.o),HB.o⟩
theorem tF(a:Int)(ha1: -9223372036854775808<=a)(ha2:a<=9223372036854775807)(w:World):
 Calls prog 203 #[.int .i64 a] w λe w'=>e=.returned (.tuple #[.int .i64 (zdR a).1,.int .i64 (zdR a).2])/\Bw w w':=by
 rcases h:vld a with _|_
 ·have e0:zdR a=(0,1):=by unfold zdR;rw[h];rfl
  rw[e0];go_enter func203,ntmps203;go_wp2_with(go_at_call 168;refine mo0 (aF _ _) ?_);go_ret2;exact⟨rfl,Bf _ _⟩
 by_cases hn:a<0
 ·have e0:zdR a=(0,5):=by unfold zdR;rw[h];simp[hn]
  rw[e0];go_enter func203,ntmps203;go_wp2_with(go_at_call 168;refine mo0 (aF _ _) ?_);go_ret2;exact⟨rfl,Bf _ _⟩
 ·have k:=aP h;have hs:=mQ (x:=a*1000000) (by omega) (by omega);have hs0:=(jW (a*1000000) (by omega)).1;have hu:=yI (a*1000000) 2 (isq (a*1000000));obtain⟨R,hR⟩:∃R,rup (a*1000000) 2 (isq (a*1000000))=R:=⟨_,rfl⟩;have HE:zdR a=(R,0):=by unfold zdR;rw[h,hR];simp[hn]
  rw[hR]at hu;have e1:Hid (zbE (rup (a*1000000) 2 (isq (a*1000000))) false=(R,true)):=by unfold Hid zbE;rw[hR];simp;omega
  have ec:Hid (chk R=(R,0)):=kR (bO (by omega) (by omega));rw[HE];clear HE hR hs hs0 hu;go_enter func203,ntmps203;go_wp2_with(first|(go_at_call 168;refine mo0 (aF _ _) ?_)|(go_at_call 222;refine(qsN _ _ _ (by omega) (by omega) (by omega) (by omega) (by omega) (by omega) _).mono ?_;rw[e1.o];rintro e w1 ⟨rfl,hb⟩;have HB:=Hd hb;clear hb)|(go_at_call 198;refine(lD _ _).mono ?_;rw[ec.o];rintro e w' ⟨rfl,rfl⟩));go_ret2;exact⟨rfl,HB.o⟩
theorem qeE(a:Int):(0<=a->a.tmod 1000000=a%1000000)/\(a<0->a.tmod 1000000= -((-a)%1000000)):=by
 refine⟨λh=>Int.tmod_eq_emod_of_nonneg h,λh=> ?_⟩;have h1:(-a).tmod 1000000=(-a)%1000000:=Int.tmod_eq_emod_of_nonneg (by omega);rw[Int.neg_tmod]at h1;omega
theorem qkL(a:Int)(h1: -2000000000000000<=a)(h2:a<=2000000000000000)(w:World):
 Calls prog 223 #[.int .i64 a] w λe w'=>e=.returned (.int .i64 (a-a%1000000))/\w=w':=by
 have ht:=qeE a;obtain⟨T,hT⟩:∃T,a.tmod 1000000=T:=⟨_,rfl⟩;rw[hT]at ht;have hr:(T<0/\a%1000000=T+1000000)\/(0<=T/\a%1000000=T):=by omega
 have hb: -1000000<T/\T<1000000:=by omega
 clear ht;rcases hr with⟨k1,k2⟩|⟨k1,k2⟩
 all_goals
  rw[k2];clear k2;go_enter func223,ntmps223;go_wp2;go_ret;exact⟨rfl,rfl⟩
theorem qH(a:Int)(w:World):
 Calls prog 204 #[.int .i64 a] w λe w'=>e=.returned (.tuple #[.int .i64 (zdK a).1,.int .i64 (zdK a).2])/\w=w':=by
 rcases h:vld a with _|_
 ·have e0:zdK a=(0,1):=by unfold zdK;rw[h];rfl
  rw[e0];go_enter func204,ntmps204;go_wp2_with(go_at_call 168;refine mo0 (aF _ _) ?_);go_ret2;exact⟨rfl,rfl⟩
 ·have k:=aP h;have e0:zdK a=(a+500000-(a+500000)%1000000,0):=by unfold zdK rnd;rw[h];simp;omega
  rw[e0];generalize hG:a+500000-(a+500000)%1000000=G;go_enter func204,ntmps204;go_wp2_with(first|(go_at_call 168;refine mo0 (aF _ _) ?_)|(go_at_call 223;refine(qkL _ (by omega) (by omega) _).mono ?_;rw[hG];rintro e w' ⟨rfl,rfl⟩));go_ret2;exact⟨rfl,rfl⟩
theorem qaF(a:Int)(w:World):
 Calls prog 205 #[.int .i64 a] w λe w'=>e=.returned (.tuple #[.int .i64 (zfM a).1,.int .i64 (zfM a).2])/\w=w':=by
 rcases h:vld a with _|_
 ·have e0:zfM a=(0,1):=by unfold zfM;rw[h];rfl
  rw[e0];go_enter func205,ntmps205;go_wp2_with(go_at_call 168;refine mo0 (aF _ _) ?_);go_ret2;exact⟨rfl,rfl⟩
 ·have k:=aP h;have ht:=qeE a;obtain⟨T,hT⟩:∃T,a.tmod 1000000=T:=⟨_,rfl⟩;rw[hT]at ht;have e0:zfM a=(a-T,0):=by unfold zfM rnd;rw[h];by_cases hn:a<0<;>simp[hn]<;>omega
  have hb: -1000000<T/\T<1000000:=by omega
  clear ht;rw[e0];go_enter func205,ntmps205;go_wp2_with(go_at_call 168;refine mo0 (aF _ _) ?_);go_ret2;exact⟨rfl,rfl⟩
theorem qaC(a:Int)(w:World):
 Calls prog 206 #[.int .i64 a] w λe w'=>e=.returned (.tuple #[.int .i64 (zfL a).1,.int .i64 (zfL a).2])/\w=w':=by
 rcases h:vld a with _|_
 ·have e0:zfL a=(0,1):=by unfold zfL;rw[h];rfl
  rw[e0];go_enter func206,ntmps206;go_wp2_with(go_at_call 168;refine mo0 (aF _ _) ?_);go_ret2;exact⟨rfl,rfl⟩
 ·have k:=aP h;have ht:=qeE a;obtain⟨T,hT⟩:∃T,a.tmod 1000000=T:=⟨_,rfl⟩;rw[hT]at ht;have e0:zfL a=(if 0<T then a-T+1000000 else if T<0 then a-T-1000000 else a-T,0):=by unfold zfL rnd;rw[h];by_cases hn:a<0<;>simp[hn]<;>split<;>(try split)<;>omega
  have hb: -1000000<T/\T<1000000:=by omega
  clear ht;rw[e0];by_cases h1:0<T
  ·rw[Ip h1];go_enter func206,ntmps206;go_wp2_with(go_at_call 168;refine mo0 (aF _ _) ?_);go_ret2;exact⟨rfl,rfl⟩
  ·rw[Iq h1];by_cases h2:T<0
   ·rw[Ip h2];go_enter func206,ntmps206;go_wp2_with(go_at_call 168;refine mo0 (aF _ _) ?_);go_ret2;exact⟨rfl,rfl⟩
   ·rw[Iq h2];go_enter func206,ntmps206;go_wp2_with(go_at_call 168;refine mo0 (aF _ _) ?_);go_ret2;exact⟨rfl,rfl⟩
theorem qwS{j:Nat}(h:j<26):tbC[j]? =some (.int .i64 (tbl j)):=by
 have e:(List.range 26).map (λj=>tbC[j]?)=(List.range 26).map (λj=>some (.int .i64 (tbl j))):=by kernel_rfl
 have e:=congrArg (λl=>l[j]?) e;simpa[h]using e
def zlC(w:World)(e:Ending)(w':World):Prop:=
 e=.returned (.slice (some ⟨w.heap.size,0,none⟩) 26 26)/\(∀j:Nat,j<26->w'.cell? ⟨w.heap.size,j,none⟩=some (.int .i64 (tbl j)))/\Bw w w'
theorem wI(w:World):Calls prog 220 #[] w (zlC w):=by
 go_enter func220,ntmps220;go_wp2;go_ret;exact⟨rfl,λj hj=>(Ro _ _ _ _ _ _ (Hn w (.cells tbC 3))).trans (qwS hj),aE _ (Le _)⟩
def zmT(p:Int×Int)(k:Nat)(vx vy vi:Value):Prop:=
 ∃(j:Nat) (x y:Int),j<=k/\(x,y)=trn p j/\vx=.int .i64 x/\vy=.int .i64 y/\vi=.int .i64 (j:Int)
theorem tB(x y:Int)(k:Nat)(hx1: -9223372036854775807<=x)(hx2:x<=9223372036854775807)(hy1: -9223372036854775807<=y)(hy2:y<=9223372036854775807)(hk:k<=1000)(w:World):
 Calls prog 221 #[.int .i64 x,.int .i64 y,.int .i64 (k:Int)] w λe w'=>e=.returned (.tuple #[.int .i64 (trn (x,y) k).1,.int .i64 (trn (x,y) k).2])/\w=w':=by
 go_enter func221,ntmps221;go_wp2;go_loop[0,1,8] (zmT (x,y) k) (λ_ _ i=>k-(intOf i).toNat)
 case atStart=>exact⟨0,x,y,by omega,rfl,rfl,rfl,rfl⟩
 case round=>
  obtain⟨j,x',y',hj,hp,rfl,rfl,rfl⟩:=hrel;have hb:=yE (p:=(x,y)) (M:=9223372036854775807) ⟨hx1,hx2⟩ ⟨hy1,hy2⟩ j;rw[<-hp]at hb;obtain⟨⟨b1,b2⟩,b3,b4⟩:=hb;dsimp only at b1 b2 b3 b4;have HP:=Hd hp;clear hp;by_cases hlt:j<k
  ·go_wp2;go_round
   case rel=>exact⟨j+1,_,_,by omega,by show _=(-(trn (x,y) j).2,(trn (x,y) j).1);rw[<-HP.o],rfl,rfl,by go_num⟩
   case measure=>simp[intOf];omega
  ·have HE:Hid ((x',y')=trn (x,y) k):=by rw[show k=j by omega];exact HP.o
   go_wp2;go_ret2;rw[<-HE.o];exact⟨rfl,rfl⟩
theorem qwC{k:Nat}(h:k<=26):IntKind.u64.wrap (k:Int)=(k:Int):=by
 unfold IntKind.wrap;simp[IntKind.bits,IntKind.signed];omega
def zmV(z0:Int)(g:Nat)(w:World)(vx vy vz i:Value)(W:World):Prop:=
 ∃(k:Nat) (x y z:Int),k<=26/\(x,y,z)=itS (652032874,0,z0) k/\vx=.int .i64 x/\vy=.int .i64 y/\vz=.int .i64 z/\i=.int .i64 (k:Int)/\(∀j:Nat,j<26->W.cell? ⟨g,j,none⟩=some (.int .i64 (tbl j)))/\Bw w W
theorem gH(a:Int)(ha1: -9223372036854775808<=a)(ha2:a<=9223372036854775807)(w:World):
 Calls prog 202 #[.int .i64 a] w λe w'=>e=.returned (.tuple #[.int .i64 (zcQ a).1,.int .i64 (zcQ a).2])/\Bw w w':=by
 have hr0:=Io a (b:=360000000) (by omega);have hr1:=Ie a (b:=360000000) (by omega);obtain⟨r,hr⟩:∃r,r=a%360000000:=⟨_,rfl⟩;rw[<-hr]at hr0 hr1;have HR:=Hd hr;by_cases hz:r-(r+45000000)/90000000*90000000=0
 ·have hz':(r-(r+45000000)/90000000*90000000==0)=true:=by simpa using hz
  have hz'':(r-(r+45000000)/90000000*90000000 !=0)=false:=by simpa using hz
  have hq:0<=(r+45000000)/90000000/\(r+45000000)/90000000<=4:=by omega
  have hqn:(((r+45000000)/90000000).toNat:Int)=(r+45000000)/90000000:=by omega
  have HT:=tB 1073741824 0 ((r+45000000)/90000000).toNat (by omega) (by omega) (by omega) (by omega) (by omega) w;rw[hqn]at HT;have HT:=Hd HT;have HF:Hid (zcQ a=((trn (1073741824,0) ((r+45000000)/90000000).toNat).2,(trn (1073741824,0) ((r+45000000)/90000000).toNat).1)):=by
   show zcQ a=_;unfold zcQ zhQ scZ scK scR;rw[<-HR.o,Ip hz]
  clear hz hqn hr;go_enter func202,ntmps202;go_wp2_with(first|(go_at_call 22;refine(bY _ _ (by omega) (by omega) (by omega) (by omega) _).mono ?_;rw[<-HR.o];rintro e w' ⟨rfl,rfl⟩)|(go_at_call 221;refine HT.o.mono ?_;rintro e w' ⟨rfl,rfl⟩));go_ret2;rw[HF.o];exact⟨rfl,Bf _ _⟩
 ·have hz':(r-(r+45000000)/90000000*90000000==0)=false:=by simpa using hz
  have hz'':(r-(r+45000000)/90000000*90000000 !=0)=true:=by simpa using hz
  have HNZ:=Hd hz;clear hz hr;go_enter func202,ntmps202;go_wp2_with(first|(go_at_call 22;refine(bY _ _ (by omega) (by omega) (by omega) (by omega) _).mono ?_;rw[<-HR.o];rintro e w' ⟨rfl,rfl⟩)|(go_at_call 220;refine(wI _).mono ?_;rintro e w1 ⟨rfl,hc,hb⟩;have HC:=Hd hc;have HB:=Hd hb;clear hc hb));generalize hzz:(r-(r+45000000)/90000000*90000000)*1000=z0;have hz0: -100000000000<=z0/\z0<=100000000000:=by omega
  have HZ0:=Hd hzz;clear hzz;go_loopw[7,8,9,11] (zmV z0 w.heap.size w) (λ_ _ _ i _=>26-(intOf i).toNat)
  case atStart=>exact⟨0,_,_,_,by omega,rfl,rfl,rfl,rfl,rfl,HC.o,HB.o⟩
  case round=>
   obtain⟨k,x,y,z,hk,hp,rfl,rfl,rfl,rfl,hc,hbw⟩:=hrel;have hb:=Bd.itS (p:=(652032874,0,z0)) (by refine⟨?_,?_,?_⟩<;>simp[gr]<;>omega) k;rw[<-hp]at hb;have HP:=Hd hp;have HCW:=Hd hc;have HBW:=Hd hbw;clear hp hc hbw;by_cases hlt:k<26
   ·have hnu:=Bd.nums hlt hb;obtain⟨⟨n1,n2⟩,⟨n3,n4⟩,⟨n5,n6⟩,⟨n7,n8⟩,n9,n10⟩:=hnu;clear hb;have hix:=HCW.o k hlt;have hku:=qwC hk;have htb:=mX k;by_cases hzz:0<=z
    ·have HE:Hid ((x-y/2^k,y+x/2^k,z-tbl k)=itS (652032874,0,z0) (k+1)):=by
      show _=stS k (itS _ k);rw[<-HP.o];unfold stS;rw[Ip hzz]
     go_wp2_with fail;go_quiet(fail);go_wp2_with fail;exact⟨⟨k+1,_,_,_,by omega,HE.o,rfl,rfl,rfl,by go_num,HCW.o,aA HBW.o _⟩,by simp[intOf];omega⟩
    ·have HE:Hid ((x+y/2^k,y-x/2^k,z+tbl k)=itS (652032874,0,z0) (k+1)):=by
      show _=stS k (itS _ k);rw[<-HP.o];unfold stS;rw[Iq hzz]
     go_wp2_with fail;go_quiet(fail);go_wp2_with fail;exact⟨⟨k+1,_,_,_,by omega,HE.o,rfl,rfl,rfl,by go_num,HCW.o,aA HBW.o _⟩,by simp[intOf];omega⟩
   ·have hk26:k=26:=by omega
    subst hk26;obtain⟨⟨b1,b2⟩,⟨b3,b4⟩,b5,b6⟩:=hb;dsimp only at b1 b2 b3 b4;have g:=qhU;have hq:0<=(r+45000000)/90000000/\(r+45000000)/90000000<=4:=by omega
    have hqn:(((r+45000000)/90000000).toNat:Int)=(r+45000000)/90000000:=by omega
    have HT:=tB x y ((r+45000000)/90000000).toNat (by omega) (by omega) (by omega) (by omega) (by omega) wr;rw[hqn]at HT;have HT:=Hd HT;have HF:Hid (zcQ a=((trn (x,y) ((r+45000000)/90000000).toNat).2,(trn (x,y) ((r+45000000)/90000000).toNat).1)):=by
     show zcQ a=_;unfold zcQ zhQ scZ scK scR;rw[<-HR.o,Iq HNZ.o,HZ0.o,<-HP.o]
    clear hqn b5 b6;go_wp2_with(go_at_call 221;refine HT.o.mono ?_;rintro e w' ⟨rfl,rfl⟩);go_ret2;rw[HF.o];exact⟨rfl,HBW.o⟩
def znC(p0:P3)(g:Nat)(w:World)(va vb vz i:Value)(W:World):Prop:=
 ∃(k:Nat) (x y z:Int),k<=26/\(x,y,z)=itA p0 k/\va=.int .i64 x/\vb=.int .i64 y/\vz=.int .i64 z/\i=.int .i64 (k:Int)/\(∀j:Nat,j<26->W.cell? ⟨g,j,none⟩=some (.int .i64 (tbl j)))/\Bw w W
def zmX(p:Int×Int)(vu vv vk:Value):Prop:=
 ∃(j:Nat) (u v:Int),j<=kq p/\(u,v)=qp p j/\vk=.int .i64 (j:Int)/\vu=.int .i64 u/\vv=.int .i64 v
theorem qlL(x y:Int)(hx1: -1099511627776<=x)(hx2:x<=1099511627776)(hy1: -1099511627776<=y)(hy2:y<=1099511627776)(h0:x≠0\/y≠0)(w:World):
 Calls prog 200 #[.int .i64 x,.int .i64 y] w λe w'=>e=.returned (.tuple #[.int .i64 (zgQ x y),.bool true])/\Bw w w':=by
 have HS:Hid (Sec (qp (x,y) (kq (x,y)))):=qpA _ h0;have HNS:Hid (∀j,j<kq (x,y)->¬Sec (qp (x,y) j)):=qoY _;have hk3:=qoZ (x,y);have hqb:=qnU (p:=(x,y)) (M:=1099511627776) ⟨hx1,hx2⟩ ⟨hy1,hy2⟩;have HQB:=Hd hqb;clear hqb;have hxy:(x==0)=false\/((x==0)=true/\(y==0)=false):=by
  rcases h0 with h|h
  ·exact .inl (by simpa using h)
  ·rcases hx0:(x==0)
   ·exact .inl rfl
   ·exact .inr ⟨rfl,by simpa using h⟩
 clear h0;rcases hxy with hx0|⟨hx0,hy0⟩
 all_goals
  go_enter func200,ntmps200;go_wp2;go_loop[6,7,8] (zmX (x,y)) (λ_ _ j=>kq (x,y)-(intOf j).toNat)
  case atStart=>exact⟨0,x,y,by omega,rfl,rfl,rfl,rfl⟩
  case round=>
   obtain⟨j,u,v,hj,hp,rfl,rfl,rfl⟩:=hrel;have hb:=HQB.o j;rw[<-hp]at hb;obtain⟨⟨u1,u2⟩,v1,v2⟩:=hb;dsimp only at u1 u2 v1 v2;by_cases hlt:j<kq (x,y)
   ·have hns:=HNS.o j hlt;rw[<-hp]at hns;have hc:u<=0\/(0<u/\v< -u)\/(0<u/\-u<=v/\u<=v):=by unfold Sec at hns;dsimp only at hns;omega
    have HP:Hid ((v,-u)=qp (x,y) (j+1)):=by show _=((qp (x,y) j).2,-(qp (x,y) j).1);rw[<-hp]
    clear hp hns;rcases hc with c|⟨c,c'⟩|⟨c,c',c''⟩
    all_goals
     (try have dd:decide (v<u)=false:=Df (by omega))
     go_wp2;go_round
     case rel=>exact⟨j+1,v,-u,by omega,HP.o,by go_num,rfl,rfl⟩
     case measure=>simp[intOf];omega
   ·have hje:j=kq (x,y):=by omega
    have hs:=HS.o;rw[<-hje,<-hp]at hs;obtain⟨c1,c2,c3⟩:=hs;dsimp only at c1 c2 c3;have HP:Hid (qp (x,y) (kq (x,y))=(u,v)):=by rw[<-hje];exact hp.symm
    have HJ:Hid (((kq (x,y):Nat):Int)=(j:Int)):=by rw[hje];rfl
    clear hp hje;by_cases hv:v=0
    ·have HF:Hid (zgQ x y=((j:Int)*90000000)%360000000):=by
      unfold Hid zgQ zkH;rw[HJ.o,HP.o,Ip hv,Int.add_zero]
     have hv':(v==0)=true:=by simpa using hv
     have hv'':(v !=0)=false:=by simpa using hv
     clear hv;go_wp2_with(go_at_call 22;refine(bY _ _ (by omega) (by omega) (by omega) (by omega) _).mono ?_;rintro e w' ⟨rfl,rfl⟩);go_ret2;rw[HF.o];exact⟨rfl,Bf _ _⟩
    ·have hv':(v==0)=false:=by simpa using hv
     have hv'':(v !=0)=true:=by simpa using hv
     have HNV:=Hd hv;clear hv;go_wp2_with(go_at_call 220;refine(wI _).mono ?_;rintro e w1 ⟨rfl,hc,hb⟩;have HC:=Hd hc;have HB:=Hd hb;clear hc hb);have hB0:Bd 0 (u*1048576,v*1048576,0):=by refine⟨?_,?_,?_⟩<;>simp[gr]<;>omega
     have HB0:=Hd hB0;clear hB0;obtain⟨p0,hp0⟩:∃p0:P3,p0=(u*1048576,v*1048576,0):=⟨_,rfl⟩;rw[<-hp0]at HB0;have HP0:=Hd hp0;go_loopw[10,11,12,14] (znC p0 w.heap.size w) (λ_ _ _ i _=>26-(intOf i).toNat)
     case atStart=>exact⟨0,_,_,_,by omega,hp0.symm,rfl,rfl,rfl,rfl,HC.o,HB.o⟩
     case round=>
      obtain⟨k,a,b,z,hk,hp,rfl,rfl,rfl,rfl,hc,hbw⟩:=hrel;have hb:=HB0.o.itA k;rw[<-hp]at hb;have HPA:=Hd hp;have HCW:=Hd hc;have HBW:=Hd hbw;clear hp hp0 hc hbw;by_cases hlt:k<26
      ·have hnu:=Bd.nums hlt hb;obtain⟨⟨n1,n2⟩,⟨n3,n4⟩,⟨n5,n6⟩,⟨n7,n8⟩,n9,n10⟩:=hnu;clear hb;have hix:=HCW.o k hlt;have hku:=qwC hk;have htb:=mX k;by_cases hzz:0<=b
       ·have HE:Hid ((a+b/2^k,b-a/2^k,z+tbl k)=itA p0 (k+1)):=by
         show _=stA k (itA _ k);rw[<-HPA.o];unfold stA;rw[Ip hzz]
        go_wp2_with fail;go_quiet(fail);go_wp2_with fail;exact⟨⟨k+1,_,_,_,by omega,HE.o,rfl,rfl,rfl,by go_num,HCW.o,aA HBW.o _⟩,by simp[intOf];omega⟩
       ·have HE:Hid ((a-b/2^k,b+a/2^k,z-tbl k)=itA p0 (k+1)):=by
         show _=stA k (itA _ k);rw[<-HPA.o];unfold stA;rw[Iq hzz]
        go_wp2_with fail;go_quiet(fail);go_wp2_with fail;exact⟨⟨k+1,_,_,_,by omega,HE.o,rfl,rfl,rfl,by go_num,HCW.o,aA HBW.o _⟩,by simp[intOf];omega⟩
      ·have hk26:k=26:=by omega
       subst hk26;obtain⟨_,_,b5,b6⟩:=hb;dsimp only at b5 b6;have HF:Hid (zgQ x y=((j:Int)*90000000+(z+500)/1000)%360000000):=by
        unfold Hid zgQ zkH;rw[HJ.o,HP.o,Iq HNV.o,<-HP0.o,<-HPA.o]
       have hm:=tP (z+500);have hm1: -2000000000<=(z+500)/1000/\(z+500)/1000<=2000000000:=by omega
       obtain⟨hm2,hm3⟩:=hm1;go_wp2_with(go_at_call 22;refine(bY _ _ (by omega) (by omega) (by omega) (by omega) _).mono ?_;rintro e w' ⟨rfl,rfl⟩);go_ret2;rw[HF.o];exact⟨rfl,HBW.o⟩
theorem fN(n:Int)(w:World):
 Calls prog 108 #[.int .i64 n] w λe w'=>e=.returned (.bool (n !=0))/\w=w':=by
 go_enter func108,ntmps108;go_wp2;go_ret;exact⟨rfl,rfl⟩
theorem fG(ok:Bool)(w:World):
 Calls prog 201 #[.bool ok] w λe w'=>e=.returned (.tuple #[.int .i64 (if ok then 1000000 else 0),.int .i64 0])/\w=w':=by
 rcases ok with _|_
 all_goals
  go_enter func201,ntmps201;go_wp2;go_ret2;exact⟨rfl,rfl⟩
theorem qdM(a b:Int)(w:World):
 Calls prog 179 #[.int .i64 17,.int .i64 a,.int .i64 b] w λe w'=>e=.returned (.tuple #[.int .i64 (if zbS 17 a b then 1000000 else 0),.int .i64 0])/\w=w':=by
 have HH:Hid (zbS 17 a b=(a==b)):=rfl;rcases hd:(a==b)with _|_
 all_goals
  rw[hd]at HH;rw[HH.o];go_enter func179,ntmps179;go_wp2_with(go_at_call 201;refine mo0 (fG _ _) ?_);go_ret2;exact⟨rfl,rfl⟩
theorem qdL(a b:Int)(w:World):
 Calls prog 179 #[.int .i64 18,.int .i64 a,.int .i64 b] w λe w'=>e=.returned (.tuple #[.int .i64 (if zbS 18 a b then 1000000 else 0),.int .i64 0])/\w=w':=by
 have HH:Hid (zbS 18 a b=(a !=b)):=rfl;rcases hd:(a !=b)with _|_
 all_goals
  rw[hd]at HH;rw[HH.o];go_enter func179,ntmps179;go_wp2_with(go_at_call 201;refine mo0 (fG _ _) ?_);go_ret2;exact⟨rfl,rfl⟩
theorem qdK(a b:Int)(w:World):
 Calls prog 179 #[.int .i64 19,.int .i64 a,.int .i64 b] w λe w'=>e=.returned (.tuple #[.int .i64 (if zbS 19 a b then 1000000 else 0),.int .i64 0])/\w=w':=by
 have HH:Hid (zbS 19 a b=decide (b<a)):=rfl;rcases hd:decide (b<a)with _|_
 all_goals
  rw[hd]at HH;rw[HH.o];go_enter func179,ntmps179;go_wp2_with(go_at_call 201;refine mo0 (fG _ _) ?_);go_ret2;exact⟨rfl,rfl⟩
theorem qdJ(a b:Int)(w:World):
 Calls prog 179 #[.int .i64 20,.int .i64 a,.int .i64 b] w λe w'=>e=.returned (.tuple #[.int .i64 (if zbS 20 a b then 1000000 else 0),.int .i64 0])/\w=w':=by
 have HH:Hid (zbS 20 a b=decide (b<=a)):=rfl;rcases hd:decide (b<=a)with _|_
 all_goals
  rw[hd]at HH;rw[HH.o];go_enter func179,ntmps179;go_wp2_with(go_at_call 201;refine mo0 (fG _ _) ?_);go_ret2;exact⟨rfl,rfl⟩
theorem qdI(a b:Int)(w:World):
 Calls prog 179 #[.int .i64 21,.int .i64 a,.int .i64 b] w λe w'=>e=.returned (.tuple #[.int .i64 (if zbS 21 a b then 1000000 else 0),.int .i64 0])/\w=w':=by
 have HH:Hid (zbS 21 a b=decide (a<b)):=rfl;rcases hd:decide (a<b)with _|_
 all_goals
  rw[hd]at HH;rw[HH.o];go_enter func179,ntmps179;go_wp2_with(go_at_call 201;refine mo0 (fG _ _) ?_);go_ret2;exact⟨rfl,rfl⟩
theorem qdH(a b:Int)(w:World):
 Calls prog 179 #[.int .i64 22,.int .i64 a,.int .i64 b] w λe w'=>e=.returned (.tuple #[.int .i64 (if zbS 22 a b then 1000000 else 0),.int .i64 0])/\w=w':=by
 have HH:Hid (zbS 22 a b=decide (a<=b)):=rfl;rcases hd:decide (a<=b)with _|_
 all_goals
  rw[hd]at HH;rw[HH.o];go_enter func179,ntmps179;go_wp2_with(go_at_call 201;refine mo0 (fG _ _) ?_);go_ret2;exact⟨rfl,rfl⟩
theorem qdG(a b:Int)(w:World):
 Calls prog 179 #[.int .i64 23,.int .i64 a,.int .i64 b] w λe w'=>e=.returned (.tuple #[.int .i64 (if zbS 23 a b then 1000000 else 0),.int .i64 0])/\w=w':=by
 have HH:Hid (zbS 23 a b=((a !=0)&&(b !=0))):=rfl;rcases ha:(a !=0)with _|_<;>rcases hb:(b !=0)with _|_
 all_goals
  have HA:=Hd ha;have HB:=Hd hb;rw[HA.o,HB.o]at HH;rw[HH.o];clear ha hb;go_enter func179,ntmps179;go_wp2_with(first|(go_at_call 108;with_reducible refine(fN a _).mono ?_;rw[HA.o];rintro e w' ⟨rfl,rfl⟩)|(go_at_call 108;with_reducible refine(fN b _).mono ?_;rw[HB.o];rintro e w' ⟨rfl,rfl⟩)|(go_at_call 201;refine mo0 (fG _ _) ?_));go_ret2;exact⟨rfl,rfl⟩
theorem qdF(a b:Int)(w:World):
 Calls prog 179 #[.int .i64 24,.int .i64 a,.int .i64 b] w λe w'=>e=.returned (.tuple #[.int .i64 (if zbS 24 a b then 1000000 else 0),.int .i64 0])/\w=w':=by
 have HH:Hid (zbS 24 a b=((a !=0)||(b !=0))):=rfl;rcases ha:(a !=0)with _|_<;>rcases hb:(b !=0)with _|_
 all_goals
  have HA:=Hd ha;have HB:=Hd hb;rw[HA.o,HB.o]at HH;rw[HH.o];clear ha hb;go_enter func179,ntmps179;go_wp2_with(first|(go_at_call 108;with_reducible refine(fN a _).mono ?_;rw[HA.o];rintro e w' ⟨rfl,rfl⟩)|(go_at_call 108;with_reducible refine(fN b _).mono ?_;rw[HB.o];rintro e w' ⟨rfl,rfl⟩)|(go_at_call 201;refine mo0 (fG _ _) ?_));go_ret2;exact⟨rfl,rfl⟩
theorem qdE(a b:Int)(w:World):
 Calls prog 179 #[.int .i64 25,.int .i64 a,.int .i64 b] w λe w'=>e=.returned (.tuple #[.int .i64 (if zbS 25 a b then 1000000 else 0),.int .i64 0])/\w=w':=by
 have HH:Hid (zbS 25 a b=((a !=0) !=(b !=0))):=rfl;rcases ha:(a !=0)with _|_<;>rcases hb:(b !=0)with _|_
 all_goals
  have HA:=Hd ha;have HB:=Hd hb;rw[HA.o,HB.o]at HH;rw[HH.o];clear ha hb;go_enter func179,ntmps179;go_wp2_with(first|(go_at_call 108;with_reducible refine(fN a _).mono ?_;rw[HA.o];rintro e w' ⟨rfl,rfl⟩)|(go_at_call 108;with_reducible refine(fN b _).mono ?_;rw[HB.o];rintro e w' ⟨rfl,rfl⟩)|(go_at_call 201;refine mo0 (fG _ _) ?_));go_ret2;exact⟨rfl,rfl⟩
theorem qaL(op a b:Int)(h1:17<=op)(h2:op<=25)(w:World):
 Calls prog 179 #[.int .i64 op,.int .i64 a,.int .i64 b] w λe w'=>e=.returned (.tuple #[.int .i64 (if zbS op a b then 1000000 else 0),.int .i64 0])/\w=w':=by
 have h:op=17\/op=18\/op=19\/op=20\/op=21\/op=22\/op=23\/op=24\/op=25:=by omega
 rcases h with rfl|rfl|rfl|rfl|rfl|rfl|rfl|rfl|rfl
 ·exact qdM a b w
 ·exact qdL a b w
 ·exact qdK a b w
 ·exact qdJ a b w
 ·exact qdI a b w
 ·exact qdH a b w
 ·exact qdG a b w
 ·exact qdF a b w
 ·exact qdE a b w
theorem qmT(a:Int)(h1: -10000000000000000<=a)(h2:a<=10000000000000000)(w:World):
 Calls prog 180 #[.int .i64 2,.int .i64 a] w λe w'=>e=.returned (.tuple #[.int .i64 (unS 2 a).1,.int .i64 (unS 2 a).2])/\Bw w w':=by
 have hsb:=eB a;obtain⟨s,hs⟩:∃s,s=(zcQ a).1:=⟨_,rfl⟩;obtain⟨c,hc⟩:∃c,c=(zcQ a).2:=⟨_,rfl⟩;rw[<-hs,<-hc]at hsb;obtain⟨⟨s1,s2⟩,c1,c2⟩:=hsb;have HSC:=Hd (gH a (by omega) (by omega) w);rw[<-hs,<-hc]at HSC;have HH:Hid (unS 2 a=(-a,0)):=rfl;rw[HH.o];clear hs hc;go_enter func180,ntmps180;go_wp2_with(go_at_call 202;refine HSC.o.mono ?_;rintro e w1 ⟨rfl,hb⟩;have HB:=Hd hb;clear hb);go_ret2;exact⟨rfl,HB.o⟩
theorem qjB(a:Int)(h1: -10000000000000000<=a)(h2:a<=10000000000000000)(w:World):
 Calls prog 180 #[.int .i64 13,.int .i64 a] w λe w'=>e=.returned (.tuple #[.int .i64 (unS 13 a).1,.int .i64 (unS 13 a).2])/\Bw w w':=by
 have hsb:=eB a;obtain⟨s,hs⟩:∃s,s=(zcQ a).1:=⟨_,rfl⟩;obtain⟨c,hc⟩:∃c,c=(zcQ a).2:=⟨_,rfl⟩;rw[<-hs,<-hc]at hsb;obtain⟨⟨s1,s2⟩,c1,c2⟩:=hsb;have HSC:=Hd (gH a (by omega) (by omega) w);rw[<-hs,<-hc]at HSC;have HH:Hid (unS 13 a=(max a (-a),0)):=rfl;rw[HH.o];clear hs hc;go_enter func180,ntmps180;go_wp2_with(go_at_call 202;refine HSC.o.mono ?_;rintro e w1 ⟨rfl,hb⟩;have HB:=Hd hb;clear hb);all_goals
  go_ret2;exact⟨dG (by omega) rfl,HB.o⟩
theorem qjC(a:Int)(h1: -10000000000000000<=a)(h2:a<=10000000000000000)(w:World):
 Calls prog 180 #[.int .i64 12,.int .i64 a] w λe w'=>e=.returned (.tuple #[.int .i64 (unS 12 a).1,.int .i64 (unS 12 a).2])/\Bw w w':=by
 have hsb:=eB a;obtain⟨s,hs⟩:∃s,s=(zcQ a).1:=⟨_,rfl⟩;obtain⟨c,hc⟩:∃c,c=(zcQ a).2:=⟨_,rfl⟩;rw[<-hs,<-hc]at hsb;obtain⟨⟨s1,s2⟩,c1,c2⟩:=hsb;have HSC:=Hd (gH a (by omega) (by omega) w);rw[<-hs,<-hc]at HSC;have HH:Hid (unS 12 a=zdR a):=rfl;rw[HH.o];clear hs hc;go_enter func180,ntmps180;go_wp2_with(first|(go_at_call 202;refine HSC.o.mono ?_;rintro e w1 ⟨rfl,hb⟩;have HB:=Hd hb;clear hb)|(go_at_call 203;refine(tF a (by omega) (by omega) _).mono ?_;rintro e w2 ⟨rfl,hb⟩;have HN:=Hd (HB.o.tm hb);clear hb HB;have HB:=Hd HN.o;clear HN));go_ret2;exact⟨rfl,HB.o⟩
theorem qjA(a:Int)(h1: -10000000000000000<=a)(h2:a<=10000000000000000)(w:World):
 Calls prog 180 #[.int .i64 14,.int .i64 a] w λe w'=>e=.returned (.tuple #[.int .i64 (unS 14 a).1,.int .i64 (unS 14 a).2])/\Bw w w':=by
 have hsb:=eB a;obtain⟨s,hs⟩:∃s,s=(zcQ a).1:=⟨_,rfl⟩;obtain⟨c,hc⟩:∃c,c=(zcQ a).2:=⟨_,rfl⟩;rw[<-hs,<-hc]at hsb;obtain⟨⟨s1,s2⟩,c1,c2⟩:=hsb;have HSC:=Hd (gH a (by omega) (by omega) w);rw[<-hs,<-hc]at HSC;have HH:Hid (unS 14 a=zdK a):=rfl;rw[HH.o];clear hs hc;go_enter func180,ntmps180;go_wp2_with(first|(go_at_call 202;refine HSC.o.mono ?_;rintro e w1 ⟨rfl,hb⟩;have HB:=Hd hb;clear hb)|(go_at_call 204;refine mo0 (qH a _) ?_));go_ret2;exact⟨rfl,HB.o⟩
theorem qiZ(a:Int)(h1: -10000000000000000<=a)(h2:a<=10000000000000000)(w:World):
 Calls prog 180 #[.int .i64 15,.int .i64 a] w λe w'=>e=.returned (.tuple #[.int .i64 (unS 15 a).1,.int .i64 (unS 15 a).2])/\Bw w w':=by
 have hsb:=eB a;obtain⟨s,hs⟩:∃s,s=(zcQ a).1:=⟨_,rfl⟩;obtain⟨c,hc⟩:∃c,c=(zcQ a).2:=⟨_,rfl⟩;rw[<-hs,<-hc]at hsb;obtain⟨⟨s1,s2⟩,c1,c2⟩:=hsb;have HSC:=Hd (gH a (by omega) (by omega) w);rw[<-hs,<-hc]at HSC;have HH:Hid (unS 15 a=zfM a):=rfl;rw[HH.o];clear hs hc;go_enter func180,ntmps180;go_wp2_with(first|(go_at_call 202;refine HSC.o.mono ?_;rintro e w1 ⟨rfl,hb⟩;have HB:=Hd hb;clear hb)|(go_at_call 205;refine mo0 (qaF a _) ?_));go_ret2;exact⟨rfl,HB.o⟩
theorem qiY(a:Int)(h1: -10000000000000000<=a)(h2:a<=10000000000000000)(w:World):
 Calls prog 180 #[.int .i64 16,.int .i64 a] w λe w'=>e=.returned (.tuple #[.int .i64 (unS 16 a).1,.int .i64 (unS 16 a).2])/\Bw w w':=by
 have hsb:=eB a;obtain⟨s,hs⟩:∃s,s=(zcQ a).1:=⟨_,rfl⟩;obtain⟨c,hc⟩:∃c,c=(zcQ a).2:=⟨_,rfl⟩;rw[<-hs,<-hc]at hsb;obtain⟨⟨s1,s2⟩,c1,c2⟩:=hsb;have HSC:=Hd (gH a (by omega) (by omega) w);rw[<-hs,<-hc]at HSC;have HH:Hid (unS 16 a=zfL a):=rfl;rw[HH.o];clear hs hc;go_enter func180,ntmps180;go_wp2_with(first|(go_at_call 202;refine HSC.o.mono ?_;rintro e w1 ⟨rfl,hb⟩;have HB:=Hd hb;clear hb)|(go_at_call 206;refine mo0 (qaC a _) ?_));go_ret2;exact⟨rfl,HB.o⟩
theorem qmS(a:Int)(h1: -10000000000000000<=a)(h2:a<=10000000000000000)(w:World):
 Calls prog 180 #[.int .i64 8,.int .i64 a] w λe w'=>e=.returned (.tuple #[.int .i64 (unS 8 a).1,.int .i64 (unS 8 a).2])/\Bw w w':=by
 have hsb:=eB a;obtain⟨s,hs⟩:∃s,s=(zcQ a).1:=⟨_,rfl⟩;obtain⟨c,hc⟩:∃c,c=(zcQ a).2:=⟨_,rfl⟩;rw[<-hs,<-hc]at hsb;obtain⟨⟨s1,s2⟩,c1,c2⟩:=hsb;have HSC:=Hd (gH a (by omega) (by omega) w);rw[<-hs,<-hc]at HSC;have HH:Hid (unS 8 a=((mdS s 1000000 1073741824 2).1,0)):=by subst hs hc;rfl
 rw[HH.o];clear hs hc;go_enter func180,ntmps180;go_wp2_with(first|(go_at_call 202;refine HSC.o.mono ?_;rintro e w1 ⟨rfl,hb⟩;have HB:=Hd hb;clear hb)|(go_at_call 199;refine(bH s _ _ _ (by omega) (by omega) (by omega) (by omega) (by omega) (by omega) (by omega) (by omega) (by omega) _).mono ?_;rintro e w2 ⟨rfl,hb⟩;have HN:=Hd (HB.o.tm hb);clear hb HB;have HB:=Hd HN.o;clear HN));go_ret2;exact⟨rfl,HB.o⟩
theorem qmR(a:Int)(h1: -10000000000000000<=a)(h2:a<=10000000000000000)(w:World):
 Calls prog 180 #[.int .i64 9,.int .i64 a] w λe w'=>e=.returned (.tuple #[.int .i64 (unS 9 a).1,.int .i64 (unS 9 a).2])/\Bw w w':=by
 have hsb:=eB a;obtain⟨s,hs⟩:∃s,s=(zcQ a).1:=⟨_,rfl⟩;obtain⟨c,hc⟩:∃c,c=(zcQ a).2:=⟨_,rfl⟩;rw[<-hs,<-hc]at hsb;obtain⟨⟨s1,s2⟩,c1,c2⟩:=hsb;have HSC:=Hd (gH a (by omega) (by omega) w);rw[<-hs,<-hc]at HSC;have HH:Hid (unS 9 a=((mdS c 1000000 1073741824 2).1,0)):=by subst hs hc;rfl
 rw[HH.o];clear hs hc;go_enter func180,ntmps180;go_wp2_with(first|(go_at_call 202;refine HSC.o.mono ?_;rintro e w1 ⟨rfl,hb⟩;have HB:=Hd hb;clear hb)|(go_at_call 199;refine(bH c _ _ _ (by omega) (by omega) (by omega) (by omega) (by omega) (by omega) (by omega) (by omega) (by omega) _).mono ?_;rintro e w2 ⟨rfl,hb⟩;have HN:=Hd (HB.o.tm hb);clear hb HB;have HB:=Hd HN.o;clear HN));go_ret2;exact⟨rfl,HB.o⟩
theorem qjD(a:Int)(h1: -10000000000000000<=a)(h2:a<=10000000000000000)(w:World):
 Calls prog 180 #[.int .i64 10,.int .i64 a] w λe w'=>e=.returned (.tuple #[.int .i64 (unS 10 a).1,.int .i64 (unS 10 a).2])/\Bw w w':=by
 have hsb:=eB a;obtain⟨s,hs⟩:∃s,s=(zcQ a).1:=⟨_,rfl⟩;obtain⟨c,hc⟩:∃c,c=(zcQ a).2:=⟨_,rfl⟩;rw[<-hs,<-hc]at hsb;obtain⟨⟨s1,s2⟩,c1,c2⟩:=hsb;have HSC:=Hd (gH a (by omega) (by omega) w);rw[<-hs,<-hc]at HSC;have HH:Hid (unS 10 a=zhB s c):=by subst hs hc;rfl
 rw[HH.o];clear hs hc;by_cases hc0:c=0
 ·have HT:Hid (zhB s c=(0,4)):=by unfold Hid zhB;rw[Ip hc0]
  rw[HT.o];have hc0':(c==0)=true:=by simpa using hc0
  clear hc0;go_enter func180,ntmps180;go_wp2_with(go_at_call 202;refine HSC.o.mono ?_;rintro e w1 ⟨rfl,hb⟩;have HB:=Hd hb;clear hb);go_ret2;exact⟨rfl,HB.o⟩
 have hc0':(c==0)=false:=by simpa using hc0
 have HM:=λW=>Hd (bH s 1000000 c 2 (by omega) (by omega) (by omega) (by omega) (by omega) (by omega) hc0 (by omega) (by omega) W);have HT:Hid (zhB s c=if(mdS s 1000000 c 2).2&&vld (mdS s 1000000 c 2).1 then((mdS s 1000000 c 2).1,0)else(0,3)):=by unfold Hid zhB;rw[Iq hc0]
 rw[HT.o];clear hc0;rcases hm:mdS s 1000000 c 2 with⟨n,ok⟩
 rw[hm]at HM;clear hm;dsimp only at HM⊢
 rcases ok with _|_
 ·rw[show(false&&vld n)=false from rfl,Iq (by decide)];go_enter func180,ntmps180;go_wp2_with(first|(go_at_call 202;refine HSC.o.mono ?_;rintro e w1 ⟨rfl,hb⟩;have HB:=Hd hb;clear hb)|(go_at_call 199;refine(HM _).o.mono ?_;rintro e w2 ⟨rfl,hb⟩;have HN:=Hd (HB.o.tm hb);clear hb HB;have HB:=Hd HN.o;clear HN)|(go_at_call 168;refine mo0 (aF _ _) ?_));go_ret2;exact⟨rfl,HB.o⟩
 ·rcases hv:vld n with _|_
  ·rw[show(true&&false)=false from rfl,Iq (by decide)];go_enter func180,ntmps180;go_wp2_with(first|(go_at_call 202;refine HSC.o.mono ?_;rintro e w1 ⟨rfl,hb⟩;have HB:=Hd hb;clear hb)|(go_at_call 199;refine(HM _).o.mono ?_;rintro e w2 ⟨rfl,hb⟩;have HN:=Hd (HB.o.tm hb);clear hb HB;have HB:=Hd HN.o;clear HN)|(go_at_call 168;refine mo0 (aF _ _) ?_));go_ret2;exact⟨rfl,HB.o⟩
  ·rw[show(true&&true)=true from rfl,Ip rfl];go_enter func180,ntmps180;go_wp2_with(first|(go_at_call 202;refine HSC.o.mono ?_;rintro e w1 ⟨rfl,hb⟩;have HB:=Hd hb;clear hb)|(go_at_call 199;refine(HM _).o.mono ?_;rintro e w2 ⟨rfl,hb⟩;have HN:=Hd (HB.o.tm hb);clear hb HB;have HB:=Hd HN.o;clear HN)|(go_at_call 168;refine mo0 (aF _ _) ?_));go_ret2;exact⟨rfl,HB.o⟩
theorem qeK(op a:Int)(ho:zbD op=1)(ho1:op≠1)(h1: -10000000000000000<=a)(h2:a<=10000000000000000)(w:World):
 Calls prog 180 #[.int .i64 op,.int .i64 a] w λe w'=>e=.returned (.tuple #[.int .i64 (unS op a).1,.int .i64 (unS op a).2])/\Bw w w':=by
 have h:op=2\/op=8\/op=9\/op=10\/op=12\/op=13\/op=14\/op=15\/op=16:=qcR ho ho1;rcases h with rfl|rfl|rfl|rfl|rfl|rfl|rfl|rfl|rfl
 ·exact qmT a h1 h2 w
 ·exact qmS a h1 h2 w
 ·exact qmR a h1 h2 w
 ·exact qjD a h1 h2 w
 ·exact qjC a h1 h2 w
 ·exact qjB a h1 h2 w
 ·exact qjA a h1 h2 w
 ·exact qiZ a h1 h2 w
 ·exact qiY a h1 h2 w
def zmZ(p0:Int×Int)(vy vx:Value):Prop:=∃(f:Nat) (y x:Int),hvF f (x,y)=hvF 64 p0/\(-2^f<=x/\x<2^f)/\(-2^f<=y/\y<2^f)/\f<=64/\vy=.int .i64 y/\vx=.int .i64 x/\(x≠0\/y≠0)/\(-10000000000000000<=x/\x<=10000000000000000)/\(-10000000000000000<=y/\y<=10000000000000000)
theorem zaI{x y:Int}(h:big (x,y)):y< -1099511627776\/1099511627776<y\/(-1099511627776<=y/\y<=1099511627776/\x< -1099511627776)\/(-1099511627776<=y/\y<=1099511627776/\1099511627776<x):=by
 unfold big at h;dsimp only at h;omega
theorem qsI(y x:Int)(hx1: -10000000000000000<=x)(hx2:x<=10000000000000000)(hy1: -10000000000000000<=y)(hy2:y<=10000000000000000)(w:World):
 Calls prog 178 #[.int .i64 y,.int .i64 x] w λe w'=>e=.returned (.tuple #[.int .i64 (zgP y x).1,.int .i64 (zgP y x).2])/\Bw w w':=by
 by_cases h0:x=0/\y=0
 ·obtain⟨rfl,rfl⟩:=h0;have HD:Hid (zgP 0 0=(0,4)):=rfl;rw[HD.o];go_enter func178,ntmps178;go_wp2;go_ret2;exact⟨rfl,Bf _ _⟩
 have HD:Hid (zgP y x=(zgQ (hvF 64 (x,y)).1 (hvF 64 (x,y)).2,0)):=by unfold Hid zgP;rw[Iq h0]
 have hxy:(y==0)=false\/((y==0)=true/\(x==0)=false):=by
  rcases hx0:(y==0)
  ·exact .inl rfl
  ·refine .inr ⟨rfl,?_⟩;have:y=0:=by simpa using hx0
   simp;omega
 have hn0:x≠0\/y≠0:=by omega
 clear h0;have HN:=Hd hn0;clear hn0;rcases hxy with hy0|⟨hy0,hx0⟩
 all_goals
  go_enter func178,ntmps178;go_wp2;go_loop[0,1] (zmZ (x,y)) (λvy vx=>(intOf vy).natAbs+(intOf vx).natAbs)
  case atStart=>exact⟨64,y,x,rfl,by omega,by omega,by omega,rfl,rfl,HN.o,⟨hx1,hx2⟩,hy1,hy2⟩
  case round=>
   obtain⟨f,y',x',hp,hbx,hby,hf,rfl,rfl,hn,⟨x1,x2⟩,y1,y2⟩:=hrel;have HP:=Hd hp;have HBX:Hid ((-2^f<=x'/\x'<2^f)/\(-2^f<=y'/\y'<2^f)):=⟨hbx,hby⟩;have HNN:=Hd hn;have HF:=Hd hf;clear hp hbx hby hn hf;by_cases hg:big (x',y')
   ·have hc:=zaI hg;have HS:=Hd (qhS HP.o HBX.o hg);clear hg;rcases hc with c|c|⟨c,d,e⟩|⟨c,d,e⟩
    all_goals
     go_wp2;all_goals
      go_round
      case rel=>
       obtain⟨f',e1,e2,e3,e4,e5⟩:=HS.o;have hf:=HF.o;exact⟨f',y'/2,x'/2,e1,e2,e3,by omega,rfl,rfl,e5,by omega,by omega⟩
      case measure=>simp[intOf];omega
   ·have hc:=small hg;obtain⟨⟨c1,c2⟩,c3,c4⟩:=hc;have HA:=Hd (qlL x' y' c1 c2 c3 c4 HNN.o w);have HE:Hid (hvF 64 (x,y)=(x',y')):=by unfold Hid;rw[<-HP.o];exact qfK f hg
    clear hg;go_wp2_with(go_at_call 200;refine HA.o.mono ?_;rintro e w1 ⟨rfl,hb⟩;have HB:=Hd hb;clear hb);all_goals
     go_ret2;rw[HD.o,HE.o];exact⟨rfl,HB.o⟩
