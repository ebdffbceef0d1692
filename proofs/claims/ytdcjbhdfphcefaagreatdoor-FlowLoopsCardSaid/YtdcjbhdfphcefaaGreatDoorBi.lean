/- The contracts of cordic: remainder, turned, SinCos, Angle: they return what the plain functions sinS and angS give. The contract of Angle of cordic: it returns what the plain function angS gives. The contracts of eval's small functions: Truth, holds, unary, direction, arithmetic: they return what the plain functions give. The contract of arithmetic of eval: the map of the functions that compute with two numbers; what a look-up in it gives. Conditions: those that each lemma names. -/
import Derived.Test.YtdcjbhdfphcefaaGreatDoorBg
import Derived.Test.YtdcjbhdfphcefaaGreatDoorBa
import Derived.Deep.QuietTactic
import Derived.BigQuiet
import Derived.Deep.Light
import Derived.Deep.LoopGhost
import Derived.Deep.Cut
import Derived.Deep.CutRange
import Derived.Lib.LaidTab
import Derived.MapKept
import Derived.Carry
set_option linter.unusedVariables false
set_option linter.unusedSimpArgs false
namespace Go.Proofs.YtdcjbhdfphcefaaGreatDoor
open Go.RowKit
def tbC:Array Value:=⟨tb.map fun z=>.int .i64 z⟩
theorem tb_all(w:World):(List.range 26).map (fun j=>(Instr.index 173 (.agg tbC) (.int .i64 ((j:Nat):Int))).run Tryz.prog w)=(List.range 26).map (fun j=>.ok (.int .i64 (tbl j)) w):=by kernel_rfl
theorem tb_index(j:Nat)(h:j<26)(w:World):(Instr.index 173 (.agg tbC) (.int .i64 (j:Int))).run Tryz.prog w=.ok (.int .i64 (tbl j)) w:=by
 have e:=congrArg (fun l=>l[j]?) (tb_all w);simpa[h]using e
def Tab(w:World):Prop:=∃(t:TypeId) (fr:Nat×Nat),w.heap[(1:Nat)]? =some (.cells tbC t fr)
theorem Tab.below{w w':World}{B:Nat}(h:Tab w)(hb:Below B w w')(hB:1<B):Tab w':=by
 obtain⟨t,fr,h⟩:=h;exact⟨t,fr,(hb.block _ hB).trans h⟩
theorem Tab.lt{w:World}(h:Tab w):1<w.heap.size:=by
 obtain⟨t,fr,h⟩:=h;exact(Array.getElem?_eq_some_iff.1 h).1
theorem rem_any(a b:Int)(h1:1≤b)(h2:b≤9223372036854775807)(ha1: -9223372036854775808≤a)(ha2:a≤9223372036854775807)(w:World):
 Calls Tryz.prog 183 #[.int .i64 a,.int .i64 b] w fun e w'=>e=.returned (.int .i64 (a%b))∧w=w':=by
 have hb:=tmod_bd a b h1;have hf:=Lib.hid (tmod_fix a b h1);go_enter Tryz.func183,Tryz.ntmps183;go_wp2
 ·have hlt:a.tmod b<0:=by assumption
  go_ret;exact⟨ret_int (hf.out.1 hlt),rfl⟩
 ·have hlt:0≤a.tmod b:=by assumption
  go_ret;exact⟨ret_int (hf.out.2 hlt),rfl⟩
def TLoop(p:Int×Int)(k:Nat)(vx vy vk:Value):Prop:=
 ∃(j:Nat) (x y:Int),j≤k∧(x,y)=trn p j∧vx=.int .i64 x∧vy=.int .i64 y∧vk=.int .i64 ((k-j:Nat):Int)
theorem turned_any(x y:Int)(k:Nat)(hx1: -9223372036854775807≤x)(hx2:x≤9223372036854775807)(hy1: -9223372036854775807≤y)(hy2:y≤9223372036854775807)(hk:k≤1000)(w:World):
 Calls Tryz.prog 186 #[.int .i64 x,.int .i64 y,.int .i64 (k:Int)] w fun e w'=>e=.returned (.tuple #[.int .i64 (trn (x,y) k).1,.int .i64 (trn (x,y) k).2])∧w=w':=by
 go_enter Tryz.func186,Tryz.ntmps186;go_wp2;go_loop[0,1,2] (TLoop (x,y) k) (fun _ _ i=>(intOf i).toNat)
 case atStart=>exact⟨0,x,y,by omega,rfl,rfl,rfl,rfl⟩
 case round=>
  obtain⟨j,x',y',hj,hp,rfl,rfl,rfl⟩:=hrel;have hb:=trn_bd (p:=(x,y)) (M:=9223372036854775807) ⟨hx1,hx2⟩ ⟨hy1,hy2⟩ j;rw[←hp]at hb;obtain⟨⟨b1,b2⟩,b3,b4⟩:=hb;dsimp only at b1 b2 b3 b4;have HP:=Lib.hid hp;clear hp;by_cases hlt:j<k
  ·obtain⟨q,hq⟩:∃q:Int,q=((k-j:Nat):Int):=⟨_,rfl⟩;rw[←hq];have hq1:0<q:=by omega
   have hq2:q≤1000:=by omega
   have HQ:Hid (q-1=((k-(j+1):Nat):Int)):=by unfold Hid;omega
   clear hq;go_wp2;go_round
   case rel=>exact⟨j+1,_,_,by omega,by show _=(-(trn (x,y) j).2,(trn (x,y) j).1);rw[←HP.out],rfl,rfl,by rw[HQ.out]⟩
   case measure=>simp[intOf];omega
  ·have hz:k-j=0:=by omega
   rw[hz];have HE:Hid ((x',y')=trn (x,y) k):=by rw[show k=j by omega];exact HP.out
   clear hz;go_wp2;go_ret2;rw[←HE.out];exact⟨rfl,rfl⟩
def SLoop(z0:Int)(w:World)(vx vy vz i:Value)(W:World):Prop:=
 ∃(k n:Nat) (x y z:Int),k≤26∧(x,y,z)=itS (652032874,0,z0) k∧vx=.int .i64 x∧vy=.int .i64 y∧vz=.int .i64 z∧i=.int .i64 (k:Int)∧W=w.drewN n
set_option maxRecDepth 100000 in
theorem sin_walk(a:Int)(ha1: -9223372036854775808≤a)(ha2:a≤9223372036854775807)(w:World)(ht:Tab w):
 Calls Tryz.prog 159 #[.int .i64 a] w fun e w'=>e=.returned (.tuple #[.int .i64 (sinS a).1,.int .i64 (sinS a).2])∧∃k,w'=w.drewN k:=by
 obtain⟨tt,fr,hg⟩:=ht;have hr0:=Int.emod_nonneg a (b:=360000000) (by omega);have hr1:=Int.emod_lt_of_pos a (b:=360000000) (by omega);obtain⟨r,hr⟩:∃r,r=a%360000000:=⟨_,rfl⟩;rw[←hr]at hr0 hr1;have HR:=Lib.hid hr;by_cases hz:r-(r+45000000)/90000000*90000000=0
 ·have hz':(r-(r+45000000)/90000000*90000000==0)=true:=by simpa using hz
  have hz'':(r-(r+45000000)/90000000*90000000 !=0)=false:=by simpa using hz
  have hq:0≤(r+45000000)/90000000∧(r+45000000)/90000000≤4:=by omega
  have hqn:(((r+45000000)/90000000).toNat:Int)=(r+45000000)/90000000:=by omega
  have HT:=turned_any 1073741824 0 ((r+45000000)/90000000).toNat (by omega) (by omega) (by omega) (by omega) (by omega) w;rw[hqn]at HT;have HT:=Lib.hid HT;have HF:Hid (sinS a=((trn (1073741824,0) ((r+45000000)/90000000).toNat).2,(trn (1073741824,0) ((r+45000000)/90000000).toNat).1)):=by
   show sinS a=_;unfold sinS scXY scZ scK scR;rw[←HR.out,if_pos hz]
  clear hz hqn hr;go_enter Tryz.func159,Tryz.ntmps159;go_wp2_with(first|(go_at_call 183;refine(rem_any _ _ (by omega) (by omega) (by omega) (by omega) _).mono ?_;rw[←HR.out];rintro e w' ⟨rfl,rfl⟩)|(go_at_call 186;refine HT.out.mono ?_;rintro e w' ⟨rfl,rfl⟩));go_ret2;rw[HF.out];exact⟨rfl,0,rfl⟩
 ·have hz':(r-(r+45000000)/90000000*90000000==0)=false:=by simpa using hz
  have hz'':(r-(r+45000000)/90000000*90000000 !=0)=true:=by simpa using hz
  have HNZ:=Lib.hid hz;clear hz hr;go_enter Tryz.func159,Tryz.ntmps159;go_wp2_with(first|(go_at_call 183;refine(rem_any _ _ (by omega) (by omega) (by omega) (by omega) _).mono ?_;rw[←HR.out];rintro e w' ⟨rfl,rfl⟩)|(refine wpList_load_row rfl 173 _ rfl 1 rfl tt _ fr _ hg Tryz.underlying173 rfl (by kernel_rfl) ?_));generalize hzz:(r-(r+45000000)/90000000*90000000)*1000=z0;have hz0: -100000000000≤z0∧z0≤100000000000:=by omega
  have HZ0:=Lib.hid hzz;clear hzz;go_loopw[6,7,9,26] (SLoop z0 w) (fun _ _ _ i _=>26-(intOf i).toNat)
  case atStart=>exact⟨0,0,_,_,_,by omega,rfl,rfl,rfl,rfl,rfl,rfl⟩
  case round=>
   obtain⟨k,n,x,y,z,hk,hp,rfl,rfl,rfl,rfl,rfl⟩:=hrel;have hb:=Bd.itS (p:=(652032874,0,z0)) (by refine⟨?_,?_,?_⟩<;>simp[gr]<;>omega) k;rw[←hp]at hb;have HP:=Lib.hid hp;clear hp;by_cases hlt:k<26
   ·have hnu:=Bd.nums hlt hb;obtain⟨⟨n1,n2⟩,⟨n3,n4⟩,⟨n5,n6⟩,⟨n7,n8⟩,n9,n10⟩:=hnu;have HB:=Lib.hid hb;clear hb;have hix:=tb_index k hlt;have htb:=tbl_bd k;have hdone:∀{W:World},W=w.drewN n→∀m,W.drewN m=w.drewN (n+m):=fun h m=>by rw[h,World.drewN_drewN]
    by_cases hzz:0≤z
    ·have HE:Hid ((x-y/2^k,y+x/2^k,z-tbl k)=itS (652032874,0,z0) (k+1)):=by
      show _=stS k (itS _ k);rw[←HP.out];unfold stS;rw[if_pos hzz]
     clear hdone;go_wp2_with fail;go_quiet(fail);go_wp2_with fail;exact⟨⟨k+1,_,_,_,_,by omega,HE.out,rfl,rfl,rfl,by go_num,rfl⟩,by simp[intOf];omega⟩
    ·have HE:Hid ((x+y/2^k,y-x/2^k,z+tbl k)=itS (652032874,0,z0) (k+1)):=by
      show _=stS k (itS _ k);rw[←HP.out];unfold stS;rw[if_neg hzz]
     clear hdone;go_wp2_with fail;go_quiet(fail);go_wp2_with fail;exact⟨⟨k+1,_,_,_,_,by omega,HE.out,rfl,rfl,rfl,by go_num,rfl⟩,by simp[intOf];omega⟩
   ·have hk26:k=26:=by omega
    subst hk26;obtain⟨⟨b1,b2⟩,⟨b3,b4⟩,b5,b6⟩:=hb;dsimp only at b1 b2 b3 b4;have g:=gr_26;have hq:0≤(r+45000000)/90000000∧(r+45000000)/90000000≤4:=by omega
    have hqn:(((r+45000000)/90000000).toNat:Int)=(r+45000000)/90000000:=by omega
    have HT:=turned_any x y ((r+45000000)/90000000).toNat (by omega) (by omega) (by omega) (by omega) (by omega) (w.drewN n);rw[hqn]at HT;have HT:=Lib.hid HT;have HF:Hid (sinS a=((trn (x,y) ((r+45000000)/90000000).toNat).2,(trn (x,y) ((r+45000000)/90000000).toNat).1)):=by
     show sinS a=_;unfold sinS scXY scZ scK scR;rw[←HR.out,if_neg HNZ.out,HZ0.out,←HP.out]
    clear hqn b5 b6;go_wp2_with(go_at_call 186;refine HT.out.mono ?_;rintro e w' ⟨rfl,rfl⟩);go_ret2;rw[HF.out];exact⟨rfl,_,rfl⟩
end Go.Proofs.YtdcjbhdfphcefaaGreatDoor
namespace Go.Proofs.YtdcjbhdfphcefaaGreatDoor
open Go.RowKit
def QLoop(p:Int×Int)(vk vu vv:Value):Prop:=
 ∃(j:Nat) (u v:Int),j≤kq p∧(u,v)=qp p j∧vk=.int .i64 (j:Int)∧vu=.int .i64 u∧vv=.int .i64 v
def ALoop(p0:P3)(w:World)(va vb vz i:Value)(W:World):Prop:=
 ∃(k n:Nat) (x y z:Int),k≤26∧(x,y,z)=itA p0 k∧va=.int .i64 x∧vb=.int .i64 y∧vz=.int .i64 z∧i=.int .i64 (k:Int)∧W=w.drewN n
set_option maxRecDepth 100000 in
set_option maxHeartbeats 4000000 in
theorem angle_any(x y:Int)(hx1: -1099511627776≤x)(hx2:x≤1099511627776)(hy1: -1099511627776≤y)(hy2:y≤1099511627776)(h0:x≠0∨y≠0)(w:World)(ht:Tab w):
 Calls Tryz.prog 154 #[.int .i64 x,.int .i64 y] w fun e w'=>e=.returned (.tuple #[.int .i64 (angS x y),.bool true])∧∃k,w'=w.drewN k:=by
 obtain⟨tt,fr,hg⟩:=ht;have HS:Hid (Sec (qp (x,y) (kq (x,y)))):=kq_in _ h0;have HNS:Hid (∀j,j<kq (x,y)→¬Sec (qp (x,y) j)):=kq_out _;have hk3:=kq_le (x,y);have hqb:=qp_bd (p:=(x,y)) (M:=1099511627776) ⟨hx1,hx2⟩ ⟨hy1,hy2⟩;have HQB:=Lib.hid hqb;clear hqb;have hxy:(x==0)=false∨((x==0)=true∧(y==0)=false):=by
  rcases h0 with h|h
  ·exact .inl (by simpa using h)
  ·rcases hx0:(x==0)
   ·exact .inl rfl
   ·exact .inr ⟨rfl,by simpa using h⟩
 clear h0;rcases hxy with hx0|⟨hx0,hy0⟩
 all_goals
  go_enter Tryz.func154,Tryz.ntmps154;go_wp2;go_loop[6,7,8] (QLoop (x,y)) (fun j _ _=>kq (x,y)-(intOf j).toNat)
  case atStart=>exact⟨0,x,y,by omega,rfl,rfl,rfl,rfl⟩
  case round=>
   obtain⟨j,u,v,hj,hp,rfl,rfl,rfl⟩:=hrel;have hb:=HQB.out j;rw[←hp]at hb;obtain⟨⟨u1,u2⟩,v1,v2⟩:=hb;dsimp only at u1 u2 v1 v2;by_cases hlt:j<kq (x,y)
   ·have hns:=HNS.out j hlt;rw[←hp]at hns;have hc:u≤0∨(0<u∧v< -u)∨(0<u∧-u≤v∧u≤v):=by unfold Sec at hns;dsimp only at hns;omega
    have HP:Hid ((v,-u)=qp (x,y) (j+1)):=by show _=((qp (x,y) j).2,-(qp (x,y) j).1);rw[←hp]
    clear hp hns;rcases hc with c|⟨c,c'⟩|⟨c,c',c''⟩
    all_goals
     go_wp2;go_round
     case rel=>exact⟨j+1,v,-u,by omega,HP.out,by go_num,rfl,rfl⟩
     case measure=>simp[intOf];omega
   ·have hje:j=kq (x,y):=by omega
    have hs:=HS.out;rw[←hje,←hp]at hs;obtain⟨c1,c2,c3⟩:=hs;dsimp only at c1 c2 c3;have HP:Hid (qp (x,y) (kq (x,y))=(u,v)):=by rw[←hje];exact hp.symm
    have HJ:Hid (((kq (x,y):Nat):Int)=(j:Int)):=by rw[hje];rfl
    clear hp hje;by_cases hv:v=0
    ·have HF:Hid (angS x y=((j:Int)*90000000)%360000000):=by
      unfold Hid angS angR;rw[HJ.out,HP.out,if_pos hv,Int.add_zero]
     have hv':(v==0)=true:=by simpa using hv
     have hv'':(v !=0)=false:=by simpa using hv
     clear hv;go_wp2_with(go_at_call 183;refine(rem_any _ _ (by omega) (by omega) (by omega) (by omega) _).mono ?_;rintro e w' ⟨rfl,rfl⟩);go_ret2;rw[HF.out];exact⟨rfl,0,rfl⟩
    ·have hv':(v==0)=false:=by simpa using hv
     have hv'':(v !=0)=true:=by simpa using hv
     have HNV:=Lib.hid hv;clear hv;go_wp2_with(refine wpList_load_row rfl 173 _ rfl 1 rfl tt _ fr _ hg Tryz.underlying173 rfl (by kernel_rfl) ?_);have hB0:Bd 0 (u*1048576,v*1048576,0):=by refine⟨?_,?_,?_⟩<;>simp[gr]<;>omega
     have HB0:=Lib.hid hB0;clear hB0;obtain⟨p0,hp0⟩:∃p0:P3,p0=(u*1048576,v*1048576,0):=⟨_,rfl⟩;rw[←hp0]at HB0;have HP0:=Lib.hid hp0;go_loopw[10,11,12,64] (ALoop p0 w) (fun _ _ _ i _=>26-(intOf i).toNat)
     case atStart=>exact⟨0,0,_,_,_,by omega,hp0.symm,rfl,rfl,rfl,rfl,rfl⟩
     case round=>
      obtain⟨k,n,a,b,z,hk,hp,rfl,rfl,rfl,rfl,rfl⟩:=hrel;have hb:=HB0.out.itA k;rw[←hp]at hb;have HPA:=Lib.hid hp;clear hp hp0;by_cases hlt:k<26
      ·have hnu:=Bd.nums hlt hb;obtain⟨⟨n1,n2⟩,⟨n3,n4⟩,⟨n5,n6⟩,⟨n7,n8⟩,n9,n10⟩:=hnu;clear hb;have hix:=tb_index k hlt;have htb:=tbl_bd k;by_cases hzz:0≤b
       ·have HE:Hid ((a+b/2^k,b-a/2^k,z+tbl k)=itA p0 (k+1)):=by
         show _=stA k (itA _ k);rw[←HPA.out];unfold stA;rw[if_pos hzz]
        go_wp2_with fail;go_quiet(fail);go_wp2_with fail;exact⟨⟨k+1,_,_,_,_,by omega,HE.out,rfl,rfl,rfl,by go_num,rfl⟩,by simp[intOf];omega⟩
       ·have HE:Hid ((a-b/2^k,b+a/2^k,z-tbl k)=itA p0 (k+1)):=by
         show _=stA k (itA _ k);rw[←HPA.out];unfold stA;rw[if_neg hzz]
        go_wp2_with fail;go_quiet(fail);go_wp2_with fail;exact⟨⟨k+1,_,_,_,_,by omega,HE.out,rfl,rfl,rfl,by go_num,rfl⟩,by simp[intOf];omega⟩
      ·have hk26:k=26:=by omega
       subst hk26;obtain⟨_,_,b5,b6⟩:=hb;dsimp only at b5 b6;have HF:Hid (angS x y=((j:Int)*90000000+(z+500)/1000)%360000000):=by
        unfold Hid angS angR;rw[HJ.out,HP.out,if_neg HNV.out,←HP0.out,←HPA.out]
       have hm:=round_1000 (z+500);have hm1: -2000000000≤(z+500)/1000∧(z+500)/1000≤2000000000:=by omega
       obtain⟨hm2,hm3⟩:=hm1;go_wp2_with(go_at_call 183;refine(rem_any _ _ (by omega) (by omega) (by omega) (by omega) _).mono ?_;rintro e w' ⟨rfl,rfl⟩);go_ret2;rw[HF.out];exact⟨rfl,_,rfl⟩
end Go.Proofs.YtdcjbhdfphcefaaGreatDoor
namespace Go.Proofs.YtdcjbhdfphcefaaGreatDoor
open Go.RowKit
theorem truth_any(n:Int)(w:World):
 Calls Tryz.prog 63 #[.int .i64 n] w fun e w'=>e=.returned (.bool (n !=0))∧w=w':=by
 go_enter Tryz.func63,Tryz.ntmps63;go_wp2;go_ret;exact⟨rfl,rfl⟩
theorem holds_17(a b:Int)(w:World):
 Calls Tryz.prog 124 #[.int .i64 17,.int .i64 a,.int .i64 b] w fun e w'=>e=.returned (.bool (holdsS 17 a b))∧w=w':=by
 go_enter Tryz.func124,Tryz.ntmps124;go_wp2;go_ret;exact⟨rfl,rfl⟩
theorem holds_18(a b:Int)(w:World):
 Calls Tryz.prog 124 #[.int .i64 18,.int .i64 a,.int .i64 b] w fun e w'=>e=.returned (.bool (holdsS 18 a b))∧w=w':=by
 go_enter Tryz.func124,Tryz.ntmps124;go_wp2;go_ret;exact⟨rfl,rfl⟩
theorem holds_19(a b:Int)(w:World):
 Calls Tryz.prog 124 #[.int .i64 19,.int .i64 a,.int .i64 b] w fun e w'=>e=.returned (.bool (holdsS 19 a b))∧w=w':=by
 go_enter Tryz.func124,Tryz.ntmps124;go_wp2;go_ret;exact⟨rfl,rfl⟩
theorem holds_20(a b:Int)(w:World):
 Calls Tryz.prog 124 #[.int .i64 20,.int .i64 a,.int .i64 b] w fun e w'=>e=.returned (.bool (holdsS 20 a b))∧w=w':=by
 go_enter Tryz.func124,Tryz.ntmps124;go_wp2;go_ret;exact⟨rfl,rfl⟩
theorem holds_21(a b:Int)(w:World):
 Calls Tryz.prog 124 #[.int .i64 21,.int .i64 a,.int .i64 b] w fun e w'=>e=.returned (.bool (holdsS 21 a b))∧w=w':=by
 go_enter Tryz.func124,Tryz.ntmps124;go_wp2;go_ret;exact⟨rfl,rfl⟩
theorem holds_22(a b:Int)(w:World):
 Calls Tryz.prog 124 #[.int .i64 22,.int .i64 a,.int .i64 b] w fun e w'=>e=.returned (.bool (holdsS 22 a b))∧w=w':=by
 go_enter Tryz.func124,Tryz.ntmps124;go_wp2;go_ret;exact⟨rfl,rfl⟩
theorem holds_23(a b:Int)(w:World):
 Calls Tryz.prog 124 #[.int .i64 23,.int .i64 a,.int .i64 b] w fun e w'=>e=.returned (.bool (holdsS 23 a b))∧w=w':=by
 have HH:Hid (holdsS 23 a b=((a !=0)&&(b !=0))):=rfl;rcases ha:(a !=0)with _|_<;>rcases hb:(b !=0)with _|_
 all_goals
  have HA:=Lib.hid ha;have HB:=Lib.hid hb;rw[HA.out,HB.out]at HH;clear ha hb;go_enter Tryz.func124,Tryz.ntmps124;go_wp2_with(first|(go_at_call 63;with_reducible refine(truth_any a _).mono ?_;rw[HA.out];rintro e w' ⟨rfl,rfl⟩)|(go_at_call 63;with_reducible refine(truth_any b _).mono ?_;rw[HB.out];rintro e w' ⟨rfl,rfl⟩));go_ret;exact⟨by rw[HH.out];first|rfl|simp,rfl⟩
theorem holds_24(a b:Int)(w:World):
 Calls Tryz.prog 124 #[.int .i64 24,.int .i64 a,.int .i64 b] w fun e w'=>e=.returned (.bool (holdsS 24 a b))∧w=w':=by
 have HH:Hid (holdsS 24 a b=((a !=0)||(b !=0))):=rfl;rcases ha:(a !=0)with _|_<;>rcases hb:(b !=0)with _|_
 all_goals
  have HA:=Lib.hid ha;have HB:=Lib.hid hb;rw[HA.out,HB.out]at HH;clear ha hb;go_enter Tryz.func124,Tryz.ntmps124;go_wp2_with(first|(go_at_call 63;with_reducible refine(truth_any a _).mono ?_;rw[HA.out];rintro e w' ⟨rfl,rfl⟩)|(go_at_call 63;with_reducible refine(truth_any b _).mono ?_;rw[HB.out];rintro e w' ⟨rfl,rfl⟩));go_ret;exact⟨by rw[HH.out];first|rfl|simp,rfl⟩
theorem holds_25(a b:Int)(w:World):
 Calls Tryz.prog 124 #[.int .i64 25,.int .i64 a,.int .i64 b] w fun e w'=>e=.returned (.bool (holdsS 25 a b))∧w=w':=by
 have HH:Hid (holdsS 25 a b=((a !=0) !=(b !=0))):=rfl;rcases ha:(a !=0)with _|_<;>rcases hb:(b !=0)with _|_
 all_goals
  have HA:=Lib.hid ha;have HB:=Lib.hid hb;rw[HA.out,HB.out]at HH;clear ha hb;go_enter Tryz.func124,Tryz.ntmps124;go_wp2_with(first|(go_at_call 63;with_reducible refine(truth_any a _).mono ?_;rw[HA.out];rintro e w' ⟨rfl,rfl⟩)|(go_at_call 63;with_reducible refine(truth_any b _).mono ?_;rw[HB.out];rintro e w' ⟨rfl,rfl⟩));go_ret;exact⟨by rw[HH.out];first|rfl|simp,rfl⟩
theorem holds_any(op a b:Int)(h1:17≤op)(h2:op≤25)(w:World):
 Calls Tryz.prog 124 #[.int .i64 op,.int .i64 a,.int .i64 b] w fun e w'=>e=.returned (.bool (holdsS op a b))∧w=w':=by
 have h:op=17∨op=18∨op=19∨op=20∨op=21∨op=22∨op=23∨op=24∨op=25:=by omega
 rcases h with rfl|rfl|rfl|rfl|rfl|rfl|rfl|rfl|rfl
 ·exact holds_17 a b w
 ·exact holds_18 a b w
 ·exact holds_19 a b w
 ·exact holds_20 a b w
 ·exact holds_21 a b w
 ·exact holds_22 a b w
 ·exact holds_23 a b w
 ·exact holds_24 a b w
 ·exact holds_25 a b w
theorem below_dr{w w':World}{n:Nat}(h:Below (w.drewN n).heap.size (w.drewN n) w'):Below w.heap.size w w':=⟨h.os,h.tape,h.output,h.size,h.block⟩
theorem unary_2(a:Int)(h1: -10000000000000000≤a)(h2:a≤10000000000000000)(w:World)(ht:Tab w):
 Calls Tryz.prog 123 #[.int .i64 2,.int .i64 a] w fun e w'=>e=.returned (.tuple #[.int .i64 (unS 2 a).1,.int .i64 (unS 2 a).2])∧Below w.heap.size w w':=by
 have HH:Hid (unS 2 a=(-a,0)):=rfl;rw[HH.out];go_enter Tryz.func123,Tryz.ntmps123;go_wp2;go_ret2;exact⟨rfl,Below.refl _ _⟩
theorem unary_13(a:Int)(h1: -10000000000000000≤a)(h2:a≤10000000000000000)(w:World)(ht:Tab w):
 Calls Tryz.prog 123 #[.int .i64 13,.int .i64 a] w fun e w'=>e=.returned (.tuple #[.int .i64 (unS 13 a).1,.int .i64 (unS 13 a).2])∧Below w.heap.size w w':=by
 have HH:Hid (unS 13 a=(max a (-a),0)):=rfl;rw[HH.out];go_enter Tryz.func123,Tryz.ntmps123;go_wp2;all_goals
  go_ret2;exact⟨ret_two (by omega) rfl,Below.refl _ _⟩
theorem unary_12(a:Int)(h1: -10000000000000000≤a)(h2:a≤10000000000000000)(w:World)(ht:Tab w):
 Calls Tryz.prog 123 #[.int .i64 12,.int .i64 a] w fun e w'=>e=.returned (.tuple #[.int .i64 (unS 12 a).1,.int .i64 (unS 12 a).2])∧Below w.heap.size w w':=by
 have HH:Hid (unS 12 a=sqrtS a):=rfl;rw[HH.out];go_enter Tryz.func123,Tryz.ntmps123;go_wp2_with(go_at_call 155;refine(sqrt_any a (by omega) (by omega) _).mono ?_;rintro e w1 ⟨rfl,hb⟩;have HB:=Lib.hid hb;clear hb);go_ret2;exact⟨rfl,HB.out⟩
theorem unary_14(a:Int)(h1: -10000000000000000≤a)(h2:a≤10000000000000000)(w:World)(ht:Tab w):
 Calls Tryz.prog 123 #[.int .i64 14,.int .i64 a] w fun e w'=>e=.returned (.tuple #[.int .i64 (unS 14 a).1,.int .i64 (unS 14 a).2])∧Below w.heap.size w w':=by
 have HH:Hid (unS 14 a=roundS a):=rfl;rw[HH.out];go_enter Tryz.func123,Tryz.ntmps123;go_wp2_with(go_at_call 156;refine(round_any a _).mono ?_;rintro e w1 ⟨rfl,hb⟩;have HB:=Lib.hid hb;clear hb);go_ret2;exact⟨rfl,HB.out⟩
theorem unary_15(a:Int)(h1: -10000000000000000≤a)(h2:a≤10000000000000000)(w:World)(ht:Tab w):
 Calls Tryz.prog 123 #[.int .i64 15,.int .i64 a] w fun e w'=>e=.returned (.tuple #[.int .i64 (unS 15 a).1,.int .i64 (unS 15 a).2])∧Below w.heap.size w w':=by
 have HH:Hid (unS 15 a=fixS a):=rfl;rw[HH.out];go_enter Tryz.func123,Tryz.ntmps123;go_wp2_with(go_at_call 157;refine(fix_any a _).mono ?_;rintro e w1 ⟨rfl,hb⟩;have HB:=Lib.hid hb;clear hb);go_ret2;exact⟨rfl,HB.out⟩
theorem unary_16(a:Int)(h1: -10000000000000000≤a)(h2:a≤10000000000000000)(w:World)(ht:Tab w):
 Calls Tryz.prog 123 #[.int .i64 16,.int .i64 a] w fun e w'=>e=.returned (.tuple #[.int .i64 (unS 16 a).1,.int .i64 (unS 16 a).2])∧Below w.heap.size w w':=by
 have HH:Hid (unS 16 a=fupS a):=rfl;rw[HH.out];go_enter Tryz.func123,Tryz.ntmps123;go_wp2_with(go_at_call 158;refine(fup_any a _).mono ?_;rintro e w1 ⟨rfl,hb⟩;have HB:=Lib.hid hb;clear hb);go_ret2;exact⟨rfl,HB.out⟩
theorem unary_8(a:Int)(h1: -10000000000000000≤a)(h2:a≤10000000000000000)(w:World)(ht:Tab w):
 Calls Tryz.prog 123 #[.int .i64 8,.int .i64 a] w fun e w'=>e=.returned (.tuple #[.int .i64 (unS 8 a).1,.int .i64 (unS 8 a).2])∧Below w.heap.size w w':=by
 have hsb:=sinS_bd a;obtain⟨s,hs⟩:∃s,s=(sinS a).1:=⟨_,rfl⟩;obtain⟨c,hc⟩:∃c,c=(sinS a).2:=⟨_,rfl⟩;rw[←hs,←hc]at hsb;obtain⟨⟨s1,s2⟩,c1,c2⟩:=hsb;have HSC:=Lib.hid (sin_walk a (by omega) (by omega) w ht);rw[←hs,←hc]at HSC;have HH:Hid (unS 8 a=((mdS s 1000000 1073741824 2).1,0)):=by subst hs hc;rfl
 rw[HH.out];clear hs hc;go_enter Tryz.func123,Tryz.ntmps123;go_wp2_with(first|(go_at_call 159;refine HSC.out.mono ?_;rintro e w' ⟨rfl,k,rfl⟩)|(go_at_call 160;refine(muldiv_any s _ _ _ (by omega) (by omega) (by omega) (by omega) (by omega) (by omega) (by omega) (by omega) (by omega) _).mono ?_;rintro e w1 ⟨rfl,hb⟩;have HB:=Lib.hid hb;clear hb));go_ret2;exact⟨rfl,below_dr HB.out⟩
theorem unary_9(a:Int)(h1: -10000000000000000≤a)(h2:a≤10000000000000000)(w:World)(ht:Tab w):
 Calls Tryz.prog 123 #[.int .i64 9,.int .i64 a] w fun e w'=>e=.returned (.tuple #[.int .i64 (unS 9 a).1,.int .i64 (unS 9 a).2])∧Below w.heap.size w w':=by
 have hsb:=sinS_bd a;obtain⟨s,hs⟩:∃s,s=(sinS a).1:=⟨_,rfl⟩;obtain⟨c,hc⟩:∃c,c=(sinS a).2:=⟨_,rfl⟩;rw[←hs,←hc]at hsb;obtain⟨⟨s1,s2⟩,c1,c2⟩:=hsb;have HSC:=Lib.hid (sin_walk a (by omega) (by omega) w ht);rw[←hs,←hc]at HSC;have HH:Hid (unS 9 a=((mdS c 1000000 1073741824 2).1,0)):=by subst hs hc;rfl
 rw[HH.out];clear hs hc;go_enter Tryz.func123,Tryz.ntmps123;go_wp2_with(first|(go_at_call 159;refine HSC.out.mono ?_;rintro e w' ⟨rfl,k,rfl⟩)|(go_at_call 160;refine(muldiv_any c _ _ _ (by omega) (by omega) (by omega) (by omega) (by omega) (by omega) (by omega) (by omega) (by omega) _).mono ?_;rintro e w1 ⟨rfl,hb⟩;have HB:=Lib.hid hb;clear hb));go_ret2;exact⟨rfl,below_dr HB.out⟩
theorem unary_10(a:Int)(h1: -10000000000000000≤a)(h2:a≤10000000000000000)(w:World)(ht:Tab w):
 Calls Tryz.prog 123 #[.int .i64 10,.int .i64 a] w fun e w'=>e=.returned (.tuple #[.int .i64 (unS 10 a).1,.int .i64 (unS 10 a).2])∧Below w.heap.size w w':=by
 have hsb:=sinS_bd a;obtain⟨s,hs⟩:∃s,s=(sinS a).1:=⟨_,rfl⟩;obtain⟨c,hc⟩:∃c,c=(sinS a).2:=⟨_,rfl⟩;rw[←hs,←hc]at hsb;obtain⟨⟨s1,s2⟩,c1,c2⟩:=hsb;have HSC:=Lib.hid (sin_walk a (by omega) (by omega) w ht);rw[←hs,←hc]at HSC;have HH:Hid (unS 10 a=tanS s c):=by subst hs hc;rfl
 rw[HH.out];clear hs hc;by_cases hc0:c=0
 ·have HT:Hid (tanS s c=(0,4)):=by unfold Hid tanS;rw[if_pos hc0]
  rw[HT.out];have hc0':(c==0)=true:=by simpa using hc0
  clear hc0;go_enter Tryz.func123,Tryz.ntmps123;go_wp2_with(go_at_call 159;refine HSC.out.mono ?_;rintro e w' ⟨rfl,k,rfl⟩);go_ret2;exact⟨rfl,below_dn (Below.refl _ _) _⟩
 have hc0':(c==0)=false:=by simpa using hc0
 have HM:=fun W=>Lib.hid (muldiv_any s 1000000 c 2 (by omega) (by omega) (by omega) (by omega) (by omega) (by omega) hc0 (by omega) (by omega) W);have HT:Hid (tanS s c=if(mdS s 1000000 c 2).2&&vld (mdS s 1000000 c 2).1 then((mdS s 1000000 c 2).1,0)else(0,3)):=by unfold Hid tanS;rw[if_neg hc0]
 rw[HT.out];clear hc0;rcases hm:mdS s 1000000 c 2 with⟨n,ok⟩
 rw[hm]at HM;clear hm;dsimp only at HM⊢
 rcases ok with _|_
 ·rw[show(false&&vld n)=false from rfl,if_neg (by decide)];go_enter Tryz.func123,Tryz.ntmps123;go_wp2_with(first|(go_at_call 159;refine HSC.out.mono ?_;rintro e w' ⟨rfl,k,rfl⟩)|(go_at_call 160;refine(HM _).out.mono ?_;rintro e w1 ⟨rfl,hb⟩;have HB:=Lib.hid hb;clear hb)|(go_at_call 87;refine(valid_any _ _).mono ?_;rintro e w' ⟨rfl,rfl⟩));go_ret2;exact⟨rfl,below_dr HB.out⟩
 ·rcases hv:vld n with _|_
  ·rw[show(true&&false)=false from rfl,if_neg (by decide)];go_enter Tryz.func123,Tryz.ntmps123;go_wp2_with(first|(go_at_call 159;refine HSC.out.mono ?_;rintro e w' ⟨rfl,k,rfl⟩)|(go_at_call 160;refine(HM _).out.mono ?_;rintro e w1 ⟨rfl,hb⟩;have HB:=Lib.hid hb;clear hb)|(go_at_call 87;refine(valid_any _ _).mono ?_;rintro e w' ⟨rfl,rfl⟩));go_ret2;exact⟨rfl,below_dr HB.out⟩
  ·rw[show(true&&true)=true from rfl,if_pos rfl];go_enter Tryz.func123,Tryz.ntmps123;go_wp2_with(first|(go_at_call 159;refine HSC.out.mono ?_;rintro e w' ⟨rfl,k,rfl⟩)|(go_at_call 160;refine(HM _).out.mono ?_;rintro e w1 ⟨rfl,hb⟩;have HB:=Lib.hid hb;clear hb)|(go_at_call 87;refine(valid_any _ _).mono ?_;rintro e w' ⟨rfl,rfl⟩));go_ret2;exact⟨rfl,below_dr HB.out⟩
theorem unary_any(op a:Int)(ho:kidsS op=1)(ho1:op≠1)(h1: -10000000000000000≤a)(h2:a≤10000000000000000)(w:World)(ht:Tab w):
 Calls Tryz.prog 123 #[.int .i64 op,.int .i64 a] w fun e w'=>e=.returned (.tuple #[.int .i64 (unS op a).1,.int .i64 (unS op a).2])∧Below w.heap.size w w':=by
 have h:op=2∨op=8∨op=9∨op=10∨op=12∨op=13∨op=14∨op=15∨op=16:=kids_one ho ho1;rcases h with rfl|rfl|rfl|rfl|rfl|rfl|rfl|rfl|rfl
 ·exact unary_2 a h1 h2 w ht
 ·exact unary_8 a h1 h2 w ht
 ·exact unary_9 a h1 h2 w ht
 ·exact unary_10 a h1 h2 w ht
 ·exact unary_12 a h1 h2 w ht
 ·exact unary_13 a h1 h2 w ht
 ·exact unary_14 a h1 h2 w ht
 ·exact unary_15 a h1 h2 w ht
 ·exact unary_16 a h1 h2 w ht
def HLoop(p0:Int×Int)(vy vx:Value):Prop:=∃(f:Nat) (y x:Int),hvF f (x,y)=hvF 64 p0∧(-2^f≤x∧x<2^f)∧(-2^f≤y∧y<2^f)∧f≤64∧vy=.int .i64 y∧vx=.int .i64 x∧(x≠0∨y≠0)
set_option maxRecDepth 100000 in
theorem direction_any(y x:Int)(hx1: -9223372036854775808≤x)(hx2:x≤9223372036854775807)(hy1: -9223372036854775808≤y)(hy2:y≤9223372036854775807)(w:World)(ht:Tab w):
 Calls Tryz.prog 122 #[.int .i64 y,.int .i64 x] w fun e w'=>e=.returned (.tuple #[.int .i64 (dirS y x).1,.int .i64 (dirS y x).2])∧Below w.heap.size w w':=by
 have HTB:=Lib.hid ht;clear ht;by_cases h0:x=0∧y=0
 ·obtain⟨rfl,rfl⟩:=h0;have HD:Hid (dirS 0 0=(0,4)):=rfl;rw[HD.out];go_enter Tryz.func122,Tryz.ntmps122;go_wp2;go_ret2;exact⟨rfl,Below.refl _ _⟩
 have HD:Hid (dirS y x=(angS (hvF 64 (x,y)).1 (hvF 64 (x,y)).2,0)):=by unfold Hid dirS;rw[if_neg h0]
 have hxy:(x==0)=false∨((x==0)=true∧(y==0)=false):=by
  rcases hx0:(x==0)
  ·exact .inl rfl
  ·refine .inr ⟨rfl,?_⟩;have:x=0:=by simpa using hx0
   simp;omega
 have hn0:x≠0∨y≠0:=by omega
 clear h0;have HN:=Lib.hid hn0;clear hn0;rcases hxy with hx0|⟨hx0,hy0⟩
 all_goals
  go_enter Tryz.func122,Tryz.ntmps122;go_wp2;go_loop[0,1] (HLoop (x,y)) (fun vy vx=>(intOf vy).natAbs+(intOf vx).natAbs)
  case atStart=>exact⟨64,y,x,rfl,by omega,by omega,by omega,rfl,rfl,HN.out⟩
  case round=>
   obtain⟨f,y',x',hp,hbx,hby,hf,rfl,rfl,hn⟩:=hrel;obtain⟨bx1,bx2⟩:=hbx;obtain⟨by1,by2⟩:=hby;have HP:=Lib.hid hp;have HBX:Hid ((-2^f≤x'∧x'<2^f)∧(-2^f≤y'∧y'<2^f)):=⟨⟨bx1,bx2⟩,by1,by2⟩;have hi:=hv_i64 hf ⟨bx1,bx2⟩;have hj:=hv_i64 hf ⟨by1,by2⟩;have HNN:=Lib.hid hn;clear hp bx1 bx2 by1 by2 hn;obtain⟨i1,i2⟩:=hi;obtain⟨j1,j2⟩:=hj;by_cases hg:big (x',y')
   ·have hc:=hg;unfold big at hc;dsimp only at hc;have HS:=Lib.hid (hv_step HP.out HBX.out hg);clear hg;rcases hc with c|⟨c,d⟩|⟨c,d,e⟩|⟨c,d,e,g⟩
    all_goals
     go_wp2;go_round
     case rel=>
      obtain⟨f',e1,e2,e3,e4,e5⟩:=HS.out;exact⟨f',y'/2,x'/2,e1,e2,e3,by omega,rfl,rfl,e5⟩
     case measure=>simp[intOf];omega
   ·have hc:=small hg;obtain⟨⟨c1,c2⟩,c3,c4⟩:=hc;have HA:=Lib.hid (angle_any x' y' c1 c2 c3 c4 HNN.out w HTB.out);have HE:Hid (hvF 64 (x,y)=(x',y')):=by unfold Hid;rw[←HP.out];exact hv_end f hg
    clear hg;go_wp2_with(go_at_call 154;refine HA.out.mono ?_;rintro e w' ⟨rfl,k,rfl⟩);go_ret2;rw[HD.out,HE.out];exact⟨rfl,below_dn (Below.refl _ _) _⟩
end Go.Proofs.YtdcjbhdfphcefaaGreatDoor
namespace Go.Proofs.YtdcjbhdfphcefaaGreatDoor
open Go.RowKit
theorem push_set{α:Type}(a:Array α)(x y:α):(a.push x).setIfInBounds a.size y=a.push y:=by
 apply Array.ext
 ·simp
 ·intro i h1 h2;simp at h1 h2;rw[Array.getElem_setIfInBounds (by simpa using h1),Array.getElem_push,Array.getElem_push];by_cases h:i<a.size
  ·rw[dif_pos h,dif_pos h,if_neg (by omega)]
  ·rw[dif_neg h,dif_neg h,if_pos (by omega)]
theorem mapT:Tryz.prog.underlying 177=some (.map 3 175):=by kernel_rfl
theorem put_map(w:World)(es:Array MapEntry)(clock:Nat)(k:Int)(v:Value)(h:Instr.findNow (.int .i64) (.int .i64 k) es.toList 0=some none):
 (Instr.mapUpdate 177 (.map (some w.heap.size)) (.int .i64 k) v).run Tryz.prog (w.alloc (.map es clock))=.ok () (w.alloc (.map (es.push {key:=.int .i64 k,val:=v,born:=clock}) (clock+1))):=by
 have hb:(w.alloc (.map es clock)).heap[w.heap.size]? =some (.map es clock):=heap_alloc_new w _;have hkey:MapKept.IsKey (.int .i64) (.int .i64 k):=rfl;have hw:∀o,(w.alloc (.map es clock)).heap.setIfInBounds w.heap.size o=(w.alloc o).heap:=fun o=>push_set _ _ _;simp[Instr.mapUpdate,run_underlying mapT,MapKept.run_getObj_map hb,MapKept.run_checkKey Tryz.underlying3 hkey,MapKept.run_findKey Tryz.underlying3 h,MapKept.run_setObj_map _ hb,Result.andThen,hw];rfl
theorem get_map(w:World)(b:Nat)(es:Array MapEntry)(clock:Nat)(k:Int)(i:Nat)(v:Value)(hb:w.heap[b]? =some (.map es clock))(h:Instr.findNow (.int .i64) (.int .i64 k) es.toList 0=some (some (i,v))):
 (Instr.lookup 177 (.map (some b)) (.int .i64 k) false).run Tryz.prog w=.ok v w:=by
 have hkey:MapKept.IsKey (.int .i64) (.int .i64 k):=rfl;simp[Instr.lookup,run_underlying mapT,MapKept.run_getObj_map hb,MapKept.run_checkKey Tryz.underlying3 hkey,MapKept.run_findKey Tryz.underlying3 h,Result.andThen]
def arE1:Array MapEntry:=(#[]:Array MapEntry).push {key:=.int .i64 3,val:=.func (.func 161) #[] #[],born:=0}
def arE2:Array MapEntry:=arE1.push {key:=.int .i64 4,val:=.func (.func 162) #[] #[],born:=1}
def arE3:Array MapEntry:=arE2.push {key:=.int .i64 5,val:=.func (.func 163) #[] #[],born:=2}
def arE4:Array MapEntry:=arE3.push {key:=.int .i64 6,val:=.func (.func 164) #[] #[],born:=3}
def arE5:Array MapEntry:=arE4.push {key:=.int .i64 7,val:=.func (.func 165) #[] #[],born:=4}
theorem put3(w:World):(Instr.mapUpdate 177 (.map (some w.heap.size)) (.int .i64 3) (.func (.func 161) #[] #[])).run Tryz.prog (w.alloc (.map #[] 0))=.ok () (w.alloc (.map arE1 1)):=put_map w _ _ _ _ (by kernel_rfl)
theorem put4(w:World):(Instr.mapUpdate 177 (.map (some w.heap.size)) (.int .i64 4) (.func (.func 162) #[] #[])).run Tryz.prog (w.alloc (.map arE1 1))=.ok () (w.alloc (.map arE2 2)):=put_map w _ _ _ _ (by kernel_rfl)
theorem put5(w:World):(Instr.mapUpdate 177 (.map (some w.heap.size)) (.int .i64 5) (.func (.func 163) #[] #[])).run Tryz.prog (w.alloc (.map arE2 2))=.ok () (w.alloc (.map arE3 3)):=put_map w _ _ _ _ (by kernel_rfl)
theorem put6(w:World):(Instr.mapUpdate 177 (.map (some w.heap.size)) (.int .i64 6) (.func (.func 164) #[] #[])).run Tryz.prog (w.alloc (.map arE3 3))=.ok () (w.alloc (.map arE4 4)):=put_map w _ _ _ _ (by kernel_rfl)
theorem put7(w:World):(Instr.mapUpdate 177 (.map (some w.heap.size)) (.int .i64 7) (.func (.func 165) #[] #[])).run Tryz.prog (w.alloc (.map arE4 4))=.ok () (w.alloc (.map arE5 5)):=put_map w _ _ _ _ (by kernel_rfl)
theorem look3(w:World)(b:Nat)(hb:w.heap[b]? =some (.map arE5 5)):(Instr.lookup 177 (.map (some b)) (.int .i64 3) false).run Tryz.prog w=.ok (.func (.func 161) #[] #[]) w:=get_map w b _ _ _ 0 _ hb (by kernel_rfl)
theorem look4(w:World)(b:Nat)(hb:w.heap[b]? =some (.map arE5 5)):(Instr.lookup 177 (.map (some b)) (.int .i64 4) false).run Tryz.prog w=.ok (.func (.func 162) #[] #[]) w:=get_map w b _ _ _ 1 _ hb (by kernel_rfl)
theorem look5(w:World)(b:Nat)(hb:w.heap[b]? =some (.map arE5 5)):(Instr.lookup 177 (.map (some b)) (.int .i64 5) false).run Tryz.prog w=.ok (.func (.func 163) #[] #[]) w:=get_map w b _ _ _ 2 _ hb (by kernel_rfl)
theorem look6(w:World)(b:Nat)(hb:w.heap[b]? =some (.map arE5 5)):(Instr.lookup 177 (.map (some b)) (.int .i64 6) false).run Tryz.prog w=.ok (.func (.func 164) #[] #[]) w:=get_map w b _ _ _ 3 _ hb (by kernel_rfl)
theorem look7(w:World)(b:Nat)(hb:w.heap[b]? =some (.map arE5 5)):(Instr.lookup 177 (.map (some b)) (.int .i64 7) false).run Tryz.prog w=.ok (.func (.func 165) #[] #[]) w:=get_map w b _ _ _ 4 _ hb (by kernel_rfl)
set_option maxRecDepth 100000 in
theorem ar_any(w:World):
 Calls Tryz.prog 125 #[] w fun e w'=>e=.returned (.map (some w.heap.size))∧w.alloc (.map arE5 5)=w':=by
 have hmm:= @run_makeMap Tryz.prog;have h3:=put3;have h4:=put4;have h5:=put5;have h6:=put6;have h7:=put7;go_enter Tryz.func125,Tryz.ntmps125;go_wp2;go_ret;exact⟨rfl,rfl⟩
end Go.Proofs.YtdcjbhdfphcefaaGreatDoor
