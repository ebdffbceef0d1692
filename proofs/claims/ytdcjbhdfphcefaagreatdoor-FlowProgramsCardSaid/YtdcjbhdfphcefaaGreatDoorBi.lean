/- The contract. -/
import Derived.Test.YtdcjbhdfphcefaaGreatDoorBg
import Derived.Lib.LaidTab
namespace Go.Proofs.YtdcjbhdfphcefaaGreatDoor
set_option linter.all false
set_option maxRecDepth 100000
set_option maxHeartbeats 4000000
open Go.Proofs.Tryz
open Go.RowKit
def tbC:Array Value:=⟨tb.map λz=>.int .i64 z⟩
theorem qwR(w:World):(List.range 26).map (λj=>(Instr.index 173 (.agg tbC) (.int .i64 ((j:Nat):Int))).run prog w)=(List.range 26).map (λj=>.ok (.int .i64 (tbl j)) w):=by kernel_rfl
theorem qbD(j:Nat)(h:j<26)(w:World):(Instr.index 173 (.agg tbC) (.int .i64 (j:Int))).run prog w=.ok (.int .i64 (tbl j)) w:=by
 have e:=congrArg (λl=>l[j]?) (qwR w);simpa[h]using e
def Tab(w:World):Prop:=∃(t:TypeId) (fr:Nat×Nat),w.heap[(1:Nat)]? =some (.cells tbC t fr)
theorem Tab.below{w w':World}{B:Nat}(h:Tab w)(hb:Below B w w')(hB:1<B):Tab w':=by
 obtain⟨t,fr,h⟩:=h;exact⟨t,fr,(hb.block _ hB).trans h⟩
theorem Tab.lt{w:World}(h:Tab w):1<w.heap.size:=by
 obtain⟨t,fr,h⟩:=h;exact(Ag.1 h).1
theorem rV(a b:Int)(h1:1<=b)(h2:b<=9223372036854775807)(ha1: -9223372036854775808<=a)(ha2:a<=9223372036854775807)(w:World):
 Calls prog 183 #[.int .i64 a,.int .i64 b] w λe w'=>e=.returned (.int .i64 (a%b))/\w=w':=by
 have hb:=mH a b h1;have hf:=Hd (fV a b h1);go_enter func183,ntmps183;go_wp2
 ·have hlt:a.tmod b<0:=by assumption
  go_ret;exact⟨aO (hf.o.1 hlt),rfl⟩
 ·have hlt:0<=a.tmod b:=by assumption
  go_ret;exact⟨aO (hf.o.2 hlt),rfl⟩
def zoD(p:Int×Int)(k:Nat)(vx vy vk:Value):Prop:=
 ∃(j:Nat) (x y:Int),j<=k/\(x,y)=trn p j/\vx=.int .i64 x/\vy=.int .i64 y/\vk=.int .i64 ((k-j:Nat):Int)
theorem tC(x y:Int)(k:Nat)(hx1: -9223372036854775807<=x)(hx2:x<=9223372036854775807)(hy1: -9223372036854775807<=y)(hy2:y<=9223372036854775807)(hk:k<=1000)(w:World):
 Calls prog 186 #[.int .i64 x,.int .i64 y,.int .i64 (k:Int)] w λe w'=>e=.returned (.tuple #[.int .i64 (trn (x,y) k).1,.int .i64 (trn (x,y) k).2])/\w=w':=by
 go_enter func186,ntmps186;go_wp2;go_loop[0,1,2] (zoD (x,y) k) (λ_ _ i=>(intOf i).toNat)
 case atStart=>exact⟨0,x,y,by omega,rfl,rfl,rfl,rfl⟩
 case round=>
  obtain⟨j,x',y',hj,hp,rfl,rfl,rfl⟩:=hrel;have hb:=yE (p:=(x,y)) (M:=9223372036854775807) ⟨hx1,hx2⟩ ⟨hy1,hy2⟩ j;rw[<-hp]at hb;obtain⟨⟨b1,b2⟩,b3,b4⟩:=hb;dsimp only at b1 b2 b3 b4;have HP:=Hd hp;clear hp;by_cases hlt:j<k
  ·obtain⟨q,hq⟩:∃q:Int,q=((k-j:Nat):Int):=⟨_,rfl⟩;rw[<-hq];have hq1:0<q:=by omega
   have hq2:q<=1000:=by omega
   have HQ:Hid (q-1=((k-(j+1):Nat):Int)):=by unfold Hid;omega
   clear hq;go_wp2;go_round
   case rel=>exact⟨j+1,_,_,by omega,by show _=(-(trn (x,y) j).2,(trn (x,y) j).1);rw[<-HP.o],rfl,rfl,by rw[HQ.o]⟩
   case measure=>simp[intOf];omega
  ·have hz:k-j=0:=by omega
   rw[hz];have HE:Hid ((x',y')=trn (x,y) k):=by rw[show k=j by omega];exact HP.o
   clear hz;go_wp2;go_ret2;rw[<-HE.o];exact⟨rfl,rfl⟩
def zoE(z0:Int)(w:World)(vx vy vz i:Value)(W:World):Prop:=
 ∃(k n:Nat) (x y z:Int),k<=26/\(x,y,z)=itS (652032874,0,z0) k/\vx=.int .i64 x/\vy=.int .i64 y/\vz=.int .i64 z/\i=.int .i64 (k:Int)/\W=w.drewN n
theorem tG(a:Int)(ha1: -9223372036854775808<=a)(ha2:a<=9223372036854775807)(w:World)(ht:Tab w):
 Calls prog 159 #[.int .i64 a] w λe w'=>e=.returned (.tuple #[.int .i64 (zcQ a).1,.int .i64 (zcQ a).2])/\∃k,w'=w.drewN k:=by
 obtain⟨tt,fr,hg⟩:=ht;have hr0:=Io a (b:=360000000) (by omega);have hr1:=Ie a (b:=360000000) (by omega);obtain⟨r,hr⟩:∃r,r=a%360000000:=⟨_,rfl⟩;rw[<-hr]at hr0 hr1;have HR:=Hd hr;by_cases hz:r-(r+45000000)/90000000*90000000=0
 ·have hz':(r-(r+45000000)/90000000*90000000==0)=true:=by simpa using hz
  have hz'':(r-(r+45000000)/90000000*90000000 !=0)=false:=by simpa using hz
  have hq:0<=(r+45000000)/90000000/\(r+45000000)/90000000<=4:=by omega
  have hqn:(((r+45000000)/90000000).toNat:Int)=(r+45000000)/90000000:=by omega
  have HT:=tC 1073741824 0 ((r+45000000)/90000000).toNat (by omega) (by omega) (by omega) (by omega) (by omega) w;rw[hqn]at HT;have HT:=Hd HT;have HF:Hid (zcQ a=((trn (1073741824,0) ((r+45000000)/90000000).toNat).2,(trn (1073741824,0) ((r+45000000)/90000000).toNat).1)):=by
   show zcQ a=_;unfold zcQ zhQ scZ scK scR;rw[<-HR.o,Ip hz]
  clear hz hqn hr;go_enter func159,ntmps159;go_wp2_with(first|(go_at_call 183;refine(rV _ _ (by omega) (by omega) (by omega) (by omega) _).mono ?_;rw[<-HR.o];rintro e w' ⟨rfl,rfl⟩)|(go_at_call 186;refine HT.o.mono ?_;rintro e w' ⟨rfl,rfl⟩));go_ret2;rw[HF.o];exact⟨rfl,0,rfl⟩
 ·have hz':(r-(r+45000000)/90000000*90000000==0)=false:=by simpa using hz
  have hz'':(r-(r+45000000)/90000000*90000000 !=0)=true:=by simpa using hz
  have HNZ:=Hd hz;clear hz hr;go_enter func159,ntmps159;go_wp2_with(first|(go_at_call 183;refine(rV _ _ (by omega) (by omega) (by omega) (by omega) _).mono ?_;rw[<-HR.o];rintro e w' ⟨rfl,rfl⟩)|(refine wpList_load_row rfl 173 _ rfl 1 rfl tt _ fr _ hg underlying173 rfl (by kernel_rfl) ?_));generalize hzz:(r-(r+45000000)/90000000*90000000)*1000=z0;have hz0: -100000000000<=z0/\z0<=100000000000:=by omega
  have HZ0:=Hd hzz;clear hzz;go_loopw[6,7,9,26] (zoE z0 w) (λ_ _ _ i _=>26-(intOf i).toNat)
  case atStart=>exact⟨0,0,_,_,_,by omega,rfl,rfl,rfl,rfl,rfl,rfl⟩
  case round=>
   obtain⟨k,n,x,y,z,hk,hp,rfl,rfl,rfl,rfl,rfl⟩:=hrel;have hb:=Bd.itS (p:=(652032874,0,z0)) (by refine⟨?_,?_,?_⟩<;>simp[gr]<;>omega) k;rw[<-hp]at hb;have HP:=Hd hp;clear hp;by_cases hlt:k<26
   ·have hnu:=Bd.nums hlt hb;obtain⟨⟨n1,n2⟩,⟨n3,n4⟩,⟨n5,n6⟩,⟨n7,n8⟩,n9,n10⟩:=hnu;have HB:=Hd hb;clear hb;have hix:=qbD k hlt;have htb:=mX k;have hdone:∀{W:World},W=w.drewN n->∀m,W.drewN m=w.drewN (n+m):=λh m=>by rw[h,World.drewN_drewN]
    by_cases hzz:0<=z
    ·have HE:Hid ((x-y/2^k,y+x/2^k,z-tbl k)=itS (652032874,0,z0) (k+1)):=by
      show _=stS k (itS _ k);rw[<-HP.o];unfold stS;rw[Ip hzz]
     clear hdone;go_wp2_with fail;go_quiet(fail);go_wp2_with fail;exact⟨⟨k+1,_,_,_,_,by omega,HE.o,rfl,rfl,rfl,by go_num,rfl⟩,by simp[intOf];omega⟩
    ·have HE:Hid ((x+y/2^k,y-x/2^k,z+tbl k)=itS (652032874,0,z0) (k+1)):=by
      show _=stS k (itS _ k);rw[<-HP.o];unfold stS;rw[Iq hzz]
     clear hdone;go_wp2_with fail;go_quiet(fail);go_wp2_with fail;exact⟨⟨k+1,_,_,_,_,by omega,HE.o,rfl,rfl,rfl,by go_num,rfl⟩,by simp[intOf];omega⟩
   ·have hk26:k=26:=by omega
    subst hk26;obtain⟨⟨b1,b2⟩,⟨b3,b4⟩,b5,b6⟩:=hb;dsimp only at b1 b2 b3 b4;have g:=qhU;have hq:0<=(r+45000000)/90000000/\(r+45000000)/90000000<=4:=by omega
    have hqn:(((r+45000000)/90000000).toNat:Int)=(r+45000000)/90000000:=by omega
    have HT:=tC x y ((r+45000000)/90000000).toNat (by omega) (by omega) (by omega) (by omega) (by omega) (w.drewN n);rw[hqn]at HT;have HT:=Hd HT;have HF:Hid (zcQ a=((trn (x,y) ((r+45000000)/90000000).toNat).2,(trn (x,y) ((r+45000000)/90000000).toNat).1)):=by
     show zcQ a=_;unfold zcQ zhQ scZ scK scR;rw[<-HR.o,Iq HNZ.o,HZ0.o,<-HP.o]
    clear hqn b5 b6;go_wp2_with(go_at_call 186;refine HT.o.mono ?_;rintro e w' ⟨rfl,rfl⟩);go_ret2;rw[HF.o];exact⟨rfl,_,rfl⟩
def zoH(p:Int×Int)(vk vu vv:Value):Prop:=
 ∃(j:Nat) (u v:Int),j<=kq p/\(u,v)=qp p j/\vk=.int .i64 (j:Int)/\vu=.int .i64 u/\vv=.int .i64 v
def zoS(p0:P3)(w:World)(va vb vz i:Value)(W:World):Prop:=
 ∃(k n:Nat) (x y z:Int),k<=26/\(x,y,z)=itA p0 k/\va=.int .i64 x/\vb=.int .i64 y/\vz=.int .i64 z/\i=.int .i64 (k:Int)/\W=w.drewN n
theorem qlM(x y:Int)(hx1: -1099511627776<=x)(hx2:x<=1099511627776)(hy1: -1099511627776<=y)(hy2:y<=1099511627776)(h0:x≠0\/y≠0)(w:World)(ht:Tab w):
 Calls prog 154 #[.int .i64 x,.int .i64 y] w λe w'=>e=.returned (.tuple #[.int .i64 (zgQ x y),.bool true])/\∃k,w'=w.drewN k:=by
 obtain⟨tt,fr,hg⟩:=ht;have HS:Hid (Sec (qp (x,y) (kq (x,y)))):=qpA _ h0;have HNS:Hid (∀j,j<kq (x,y)->¬Sec (qp (x,y) j)):=qoY _;have hk3:=qoZ (x,y);have hqb:=qnU (p:=(x,y)) (M:=1099511627776) ⟨hx1,hx2⟩ ⟨hy1,hy2⟩;have HQB:=Hd hqb;clear hqb;have hxy:(x==0)=false\/((x==0)=true/\(y==0)=false):=by
  rcases h0 with h|h
  ·exact .inl (by simpa using h)
  ·rcases hx0:(x==0)
   ·exact .inl rfl
   ·exact .inr ⟨rfl,by simpa using h⟩
 clear h0;rcases hxy with hx0|⟨hx0,hy0⟩
 all_goals
  go_enter func154,ntmps154;go_wp2;go_loop[6,7,8] (zoH (x,y)) (λj _ _=>kq (x,y)-(intOf j).toNat)
  case atStart=>exact⟨0,x,y,by omega,rfl,rfl,rfl,rfl⟩
  case round=>
   obtain⟨j,u,v,hj,hp,rfl,rfl,rfl⟩:=hrel;have hb:=HQB.o j;rw[<-hp]at hb;obtain⟨⟨u1,u2⟩,v1,v2⟩:=hb;dsimp only at u1 u2 v1 v2;by_cases hlt:j<kq (x,y)
   ·have hns:=HNS.o j hlt;rw[<-hp]at hns;have hc:u<=0\/(0<u/\v< -u)\/(0<u/\-u<=v/\u<=v):=by unfold Sec at hns;dsimp only at hns;omega
    have HP:Hid ((v,-u)=qp (x,y) (j+1)):=by show _=((qp (x,y) j).2,-(qp (x,y) j).1);rw[<-hp]
    clear hp hns;rcases hc with c|⟨c,c'⟩|⟨c,c',c''⟩
    all_goals
     go_wp2;go_round
     case rel=>exact⟨j+1,v,-u,by omega,HP.o,by go_num,rfl,rfl⟩
     case measure=>simp[intOf];omega
   ·have hje:j=kq (x,y):=by omega
    have hs:=HS.o;rw[<-hje,<-hp]at hs;obtain⟨c1,c2,c3⟩:=hs;dsimp only at c1 c2 c3;have HP:Hid (qp (x,y) (kq (x,y))=(u,v)):=by rw[<-hje];exact hp.symm
    have HJ:Hid (((kq (x,y):Nat):Int)=(j:Int)):=by rw[hje];rfl
    clear hp hje;by_cases hv:v=0
    ·have HF:Hid (zgQ x y=((j:Int)*90000000)%360000000):=by
      unfold Hid zgQ zkH;rw[HJ.o,HP.o,Ip hv,Int.add_zero]
     have hv':(v==0)=true:=by simpa using hv
     have hv'':(v !=0)=false:=by simpa using hv
     clear hv;go_wp2_with(go_at_call 183;refine mo0 (rV _ _ (by omega) (by omega) (by omega) (by omega) _) ?_);go_ret2;rw[HF.o];exact⟨rfl,0,rfl⟩
    ·have hv':(v==0)=false:=by simpa using hv
     have hv'':(v !=0)=true:=by simpa using hv
     have HNV:=Hd hv;clear hv;go_wp2_with(refine wpList_load_row rfl 173 _ rfl 1 rfl tt _ fr _ hg underlying173 rfl (by kernel_rfl) ?_);have hB0:Bd 0 (u*1048576,v*1048576,0):=by refine⟨?_,?_,?_⟩<;>simp[gr]<;>omega
     have HB0:=Hd hB0;clear hB0;obtain⟨p0,hp0⟩:∃p0:P3,p0=(u*1048576,v*1048576,0):=⟨_,rfl⟩;rw[<-hp0]at HB0;have HP0:=Hd hp0;go_loopw[10,11,12,64] (zoS p0 w) (λ_ _ _ i _=>26-(intOf i).toNat)
     case atStart=>exact⟨0,0,_,_,_,by omega,hp0.symm,rfl,rfl,rfl,rfl,rfl⟩
     case round=>
      obtain⟨k,n,a,b,z,hk,hp,rfl,rfl,rfl,rfl,rfl⟩:=hrel;have hb:=HB0.o.itA k;rw[<-hp]at hb;have HPA:=Hd hp;clear hp hp0;by_cases hlt:k<26
      ·have hnu:=Bd.nums hlt hb;obtain⟨⟨n1,n2⟩,⟨n3,n4⟩,⟨n5,n6⟩,⟨n7,n8⟩,n9,n10⟩:=hnu;clear hb;have hix:=qbD k hlt;have htb:=mX k;by_cases hzz:0<=b
       ·have HE:Hid ((a+b/2^k,b-a/2^k,z+tbl k)=itA p0 (k+1)):=by
         show _=stA k (itA _ k);rw[<-HPA.o];unfold stA;rw[Ip hzz]
        go_wp2_with fail;go_quiet(fail);go_wp2_with fail;exact⟨⟨k+1,_,_,_,_,by omega,HE.o,rfl,rfl,rfl,by go_num,rfl⟩,by simp[intOf];omega⟩
       ·have HE:Hid ((a-b/2^k,b+a/2^k,z-tbl k)=itA p0 (k+1)):=by
         show _=stA k (itA _ k);rw[<-HPA.o];unfold stA;rw[Iq hzz]
        go_wp2_with fail;go_quiet(fail);go_wp2_with fail;exact⟨⟨k+1,_,_,_,_,by omega,HE.o,rfl,rfl,rfl,by go_num,rfl⟩,by simp[intOf];omega⟩
      ·have hk26:k=26:=by omega
       subst hk26;obtain⟨_,_,b5,b6⟩:=hb;dsimp only at b5 b6;have HF:Hid (zgQ x y=((j:Int)*90000000+(z+500)/1000)%360000000):=by
        unfold Hid zgQ zkH;rw[HJ.o,HP.o,Iq HNV.o,<-HP0.o,<-HPA.o]
       have hm:=tP (z+500);have hm1: -2000000000<=(z+500)/1000/\(z+500)/1000<=2000000000:=by omega
       obtain⟨hm2,hm3⟩:=hm1;go_wp2_with(go_at_call 183;refine mo0 (rV _ _ (by omega) (by omega) (by omega) (by omega) _) ?_);go_ret2;rw[HF.o];exact⟨rfl,_,rfl⟩
theorem bT(n:Int)(w:World):
 Calls prog 63 #[.int .i64 n] w λe w'=>e=.returned (.bool (n !=0))/\w=w':=by
 go_enter func63,ntmps63;go_wp2;go_ret;exact⟨rfl,rfl⟩
theorem qqU(a b:Int)(w:World):
 Calls prog 124 #[.int .i64 17,.int .i64 a,.int .i64 b] w λe w'=>e=.returned (.bool (zbS 17 a b))/\w=w':=by
 go_enter func124,ntmps124;go_wp2;go_ret;exact⟨rfl,rfl⟩
theorem qqT(a b:Int)(w:World):
 Calls prog 124 #[.int .i64 18,.int .i64 a,.int .i64 b] w λe w'=>e=.returned (.bool (zbS 18 a b))/\w=w':=by
 go_enter func124,ntmps124;go_wp2;go_ret;exact⟨rfl,rfl⟩
theorem qqS(a b:Int)(w:World):
 Calls prog 124 #[.int .i64 19,.int .i64 a,.int .i64 b] w λe w'=>e=.returned (.bool (zbS 19 a b))/\w=w':=by
 go_enter func124,ntmps124;go_wp2;go_ret;exact⟨rfl,rfl⟩
theorem qqR(a b:Int)(w:World):
 Calls prog 124 #[.int .i64 20,.int .i64 a,.int .i64 b] w λe w'=>e=.returned (.bool (zbS 20 a b))/\w=w':=by
 go_enter func124,ntmps124;go_wp2;go_ret;exact⟨rfl,rfl⟩
theorem qqQ(a b:Int)(w:World):
 Calls prog 124 #[.int .i64 21,.int .i64 a,.int .i64 b] w λe w'=>e=.returned (.bool (zbS 21 a b))/\w=w':=by
 go_enter func124,ntmps124;go_wp2;go_ret;exact⟨rfl,rfl⟩
theorem qqP(a b:Int)(w:World):
 Calls prog 124 #[.int .i64 22,.int .i64 a,.int .i64 b] w λe w'=>e=.returned (.bool (zbS 22 a b))/\w=w':=by
 go_enter func124,ntmps124;go_wp2;go_ret;exact⟨rfl,rfl⟩
theorem qqO(a b:Int)(w:World):
 Calls prog 124 #[.int .i64 23,.int .i64 a,.int .i64 b] w λe w'=>e=.returned (.bool (zbS 23 a b))/\w=w':=by
 have HH:Hid (zbS 23 a b=((a !=0)&&(b !=0))):=rfl;rcases ha:(a !=0)with _|_<;>rcases hb:(b !=0)with _|_
 all_goals
  have HA:=Hd ha;have HB:=Hd hb;rw[HA.o,HB.o]at HH;clear ha hb;go_enter func124,ntmps124;go_wp2_with(first|(go_at_call 63;with_reducible refine(bT a _).mono ?_;rw[HA.o];rintro e w' ⟨rfl,rfl⟩)|(go_at_call 63;with_reducible refine(bT b _).mono ?_;rw[HB.o];rintro e w' ⟨rfl,rfl⟩));go_ret;exact⟨by rw[HH.o];first|rfl|simp,rfl⟩
theorem qqN(a b:Int)(w:World):
 Calls prog 124 #[.int .i64 24,.int .i64 a,.int .i64 b] w λe w'=>e=.returned (.bool (zbS 24 a b))/\w=w':=by
 have HH:Hid (zbS 24 a b=((a !=0)||(b !=0))):=rfl;rcases ha:(a !=0)with _|_<;>rcases hb:(b !=0)with _|_
 all_goals
  have HA:=Hd ha;have HB:=Hd hb;rw[HA.o,HB.o]at HH;clear ha hb;go_enter func124,ntmps124;go_wp2_with(first|(go_at_call 63;with_reducible refine(bT a _).mono ?_;rw[HA.o];rintro e w' ⟨rfl,rfl⟩)|(go_at_call 63;with_reducible refine(bT b _).mono ?_;rw[HB.o];rintro e w' ⟨rfl,rfl⟩));go_ret;exact⟨by rw[HH.o];first|rfl|simp,rfl⟩
theorem qqM(a b:Int)(w:World):
 Calls prog 124 #[.int .i64 25,.int .i64 a,.int .i64 b] w λe w'=>e=.returned (.bool (zbS 25 a b))/\w=w':=by
 have HH:Hid (zbS 25 a b=((a !=0) !=(b !=0))):=rfl;rcases ha:(a !=0)with _|_<;>rcases hb:(b !=0)with _|_
 all_goals
  have HA:=Hd ha;have HB:=Hd hb;rw[HA.o,HB.o]at HH;clear ha hb;go_enter func124,ntmps124;go_wp2_with(first|(go_at_call 63;with_reducible refine(bT a _).mono ?_;rw[HA.o];rintro e w' ⟨rfl,rfl⟩)|(go_at_call 63;with_reducible refine(bT b _).mono ?_;rw[HB.o];rintro e w' ⟨rfl,rfl⟩));go_ret;exact⟨by rw[HH.o];first|rfl|simp,rfl⟩
theorem qkI(op a b:Int)(h1:17<=op)(h2:op<=25)(w:World):
 Calls prog 124 #[.int .i64 op,.int .i64 a,.int .i64 b] w λe w'=>e=.returned (.bool (zbS op a b))/\w=w':=by
 have h:op=17\/op=18\/op=19\/op=20\/op=21\/op=22\/op=23\/op=24\/op=25:=by omega
 rcases h with rfl|rfl|rfl|rfl|rfl|rfl|rfl|rfl|rfl
 ·exact qqU a b w
 ·exact qqT a b w
 ·exact qqS a b w
 ·exact qqR a b w
 ·exact qqQ a b w
 ·exact qqP a b w
 ·exact qqO a b w
 ·exact qqN a b w
 ·exact qqM a b w
theorem lZ{w w':World}{n:Nat}(h:Below (w.drewN n).heap.size (w.drewN n) w'):Bw w w':=⟨h.os,h.tape,h.output,h.size,h.block⟩
theorem qsW(a:Int)(h1: -10000000000000000<=a)(h2:a<=10000000000000000)(w:World)(ht:Tab w):
 Calls prog 123 #[.int .i64 2,.int .i64 a] w λe w'=>e=.returned (.tuple #[.int .i64 (unS 2 a).1,.int .i64 (unS 2 a).2])/\Bw w w':=by
 have HH:Hid (unS 2 a=(-a,0)):=rfl;rw[HH.o];go_enter func123,ntmps123;go_wp2;go_ret2;exact⟨rfl,Bf _ _⟩
theorem qmB(a:Int)(h1: -10000000000000000<=a)(h2:a<=10000000000000000)(w:World)(ht:Tab w):
 Calls prog 123 #[.int .i64 13,.int .i64 a] w λe w'=>e=.returned (.tuple #[.int .i64 (unS 13 a).1,.int .i64 (unS 13 a).2])/\Bw w w':=by
 have HH:Hid (unS 13 a=(max a (-a),0)):=rfl;rw[HH.o];go_enter func123,ntmps123;go_wp2;all_goals
  go_ret2;exact⟨dG (by omega) rfl,Bf _ _⟩
theorem qmC(a:Int)(h1: -10000000000000000<=a)(h2:a<=10000000000000000)(w:World)(ht:Tab w):
 Calls prog 123 #[.int .i64 12,.int .i64 a] w λe w'=>e=.returned (.tuple #[.int .i64 (unS 12 a).1,.int .i64 (unS 12 a).2])/\Bw w w':=by
 have HH:Hid (unS 12 a=zdR a):=rfl;rw[HH.o];go_enter func123,ntmps123;go_wp2_with(go_at_call 155;refine(lG a (by omega) (by omega) _).mono ?_;rintro e w1 ⟨rfl,hb⟩;have HB:=Hd hb;clear hb);go_ret2;exact⟨rfl,HB.o⟩
theorem qmA(a:Int)(h1: -10000000000000000<=a)(h2:a<=10000000000000000)(w:World)(ht:Tab w):
 Calls prog 123 #[.int .i64 14,.int .i64 a] w λe w'=>e=.returned (.tuple #[.int .i64 (unS 14 a).1,.int .i64 (unS 14 a).2])/\Bw w w':=by
 have HH:Hid (unS 14 a=zdK a):=rfl;rw[HH.o];go_enter func123,ntmps123;go_wp2_with(go_at_call 156;refine(eW a _).mono ?_;rintro e w1 ⟨rfl,hb⟩;have HB:=Hd hb;clear hb);go_ret2;exact⟨rfl,HB.o⟩
theorem qlZ(a:Int)(h1: -10000000000000000<=a)(h2:a<=10000000000000000)(w:World)(ht:Tab w):
 Calls prog 123 #[.int .i64 15,.int .i64 a] w λe w'=>e=.returned (.tuple #[.int .i64 (unS 15 a).1,.int .i64 (unS 15 a).2])/\Bw w w':=by
 have HH:Hid (unS 15 a=zfM a):=rfl;rw[HH.o];go_enter func123,ntmps123;go_wp2_with(go_at_call 157;refine(iN a _).mono ?_;rintro e w1 ⟨rfl,hb⟩;have HB:=Hd hb;clear hb);go_ret2;exact⟨rfl,HB.o⟩
theorem qlY(a:Int)(h1: -10000000000000000<=a)(h2:a<=10000000000000000)(w:World)(ht:Tab w):
 Calls prog 123 #[.int .i64 16,.int .i64 a] w λe w'=>e=.returned (.tuple #[.int .i64 (unS 16 a).1,.int .i64 (unS 16 a).2])/\Bw w w':=by
 have HH:Hid (unS 16 a=zfL a):=rfl;rw[HH.o];go_enter func123,ntmps123;go_wp2_with(go_at_call 158;refine(iM a _).mono ?_;rintro e w1 ⟨rfl,hb⟩;have HB:=Hd hb;clear hb);go_ret2;exact⟨rfl,HB.o⟩
theorem qsV(a:Int)(h1: -10000000000000000<=a)(h2:a<=10000000000000000)(w:World)(ht:Tab w):
 Calls prog 123 #[.int .i64 8,.int .i64 a] w λe w'=>e=.returned (.tuple #[.int .i64 (unS 8 a).1,.int .i64 (unS 8 a).2])/\Bw w w':=by
 have hsb:=eB a;obtain⟨s,hs⟩:∃s,s=(zcQ a).1:=⟨_,rfl⟩;obtain⟨c,hc⟩:∃c,c=(zcQ a).2:=⟨_,rfl⟩;rw[<-hs,<-hc]at hsb;obtain⟨⟨s1,s2⟩,c1,c2⟩:=hsb;have HSC:=Hd (tG a (by omega) (by omega) w ht);rw[<-hs,<-hc]at HSC;have HH:Hid (unS 8 a=((mdS s 1000000 1073741824 2).1,0)):=by subst hs hc;rfl
 rw[HH.o];clear hs hc;go_enter func123,ntmps123;go_wp2_with(first|(go_at_call 159;refine HSC.o.mono ?_;rintro e w' ⟨rfl,k,rfl⟩)|(go_at_call 160;refine(bL s _ _ _ (by omega) (by omega) (by omega) (by omega) (by omega) (by omega) (by omega) (by omega) (by omega) _).mono ?_;rintro e w1 ⟨rfl,hb⟩;have HB:=Hd hb;clear hb));go_ret2;exact⟨rfl,lZ HB.o⟩
theorem qsU(a:Int)(h1: -10000000000000000<=a)(h2:a<=10000000000000000)(w:World)(ht:Tab w):
 Calls prog 123 #[.int .i64 9,.int .i64 a] w λe w'=>e=.returned (.tuple #[.int .i64 (unS 9 a).1,.int .i64 (unS 9 a).2])/\Bw w w':=by
 have hsb:=eB a;obtain⟨s,hs⟩:∃s,s=(zcQ a).1:=⟨_,rfl⟩;obtain⟨c,hc⟩:∃c,c=(zcQ a).2:=⟨_,rfl⟩;rw[<-hs,<-hc]at hsb;obtain⟨⟨s1,s2⟩,c1,c2⟩:=hsb;have HSC:=Hd (tG a (by omega) (by omega) w ht);rw[<-hs,<-hc]at HSC;have HH:Hid (unS 9 a=((mdS c 1000000 1073741824 2).1,0)):=by subst hs hc;rfl
 rw[HH.o];clear hs hc;go_enter func123,ntmps123;go_wp2_with(first|(go_at_call 159;refine HSC.o.mono ?_;rintro e w' ⟨rfl,k,rfl⟩)|(go_at_call 160;refine(bL c _ _ _ (by omega) (by omega) (by omega) (by omega) (by omega) (by omega) (by omega) (by omega) (by omega) _).mono ?_;rintro e w1 ⟨rfl,hb⟩;have HB:=Hd hb;clear hb));go_ret2;exact⟨rfl,lZ HB.o⟩
theorem qmD(a:Int)(h1: -10000000000000000<=a)(h2:a<=10000000000000000)(w:World)(ht:Tab w):
 Calls prog 123 #[.int .i64 10,.int .i64 a] w λe w'=>e=.returned (.tuple #[.int .i64 (unS 10 a).1,.int .i64 (unS 10 a).2])/\Bw w w':=by
 have hsb:=eB a;obtain⟨s,hs⟩:∃s,s=(zcQ a).1:=⟨_,rfl⟩;obtain⟨c,hc⟩:∃c,c=(zcQ a).2:=⟨_,rfl⟩;rw[<-hs,<-hc]at hsb;obtain⟨⟨s1,s2⟩,c1,c2⟩:=hsb;have HSC:=Hd (tG a (by omega) (by omega) w ht);rw[<-hs,<-hc]at HSC;have HH:Hid (unS 10 a=zhB s c):=by subst hs hc;rfl
 rw[HH.o];clear hs hc;by_cases hc0:c=0
 ·have HT:Hid (zhB s c=(0,4)):=by unfold Hid zhB;rw[Ip hc0]
  rw[HT.o];have hc0':(c==0)=true:=by simpa using hc0
  clear hc0;go_enter func123,ntmps123;go_wp2_with(go_at_call 159;refine HSC.o.mono ?_;rintro e w' ⟨rfl,k,rfl⟩);go_ret2;exact⟨rfl,aA (Bf _ _) _⟩
 have hc0':(c==0)=false:=by simpa using hc0
 have HM:=λW=>Hd (bL s 1000000 c 2 (by omega) (by omega) (by omega) (by omega) (by omega) (by omega) hc0 (by omega) (by omega) W);have HT:Hid (zhB s c=if(mdS s 1000000 c 2).2&&vld (mdS s 1000000 c 2).1 then((mdS s 1000000 c 2).1,0)else(0,3)):=by unfold Hid zhB;rw[Iq hc0]
 rw[HT.o];clear hc0;rcases hm:mdS s 1000000 c 2 with⟨n,ok⟩
 rw[hm]at HM;clear hm;dsimp only at HM⊢
 rcases ok with _|_
 ·rw[show(false&&vld n)=false from rfl,Iq (by decide)];go_enter func123,ntmps123;go_wp2_with(first|(go_at_call 159;refine HSC.o.mono ?_;rintro e w' ⟨rfl,k,rfl⟩)|(go_at_call 160;refine(HM _).o.mono ?_;rintro e w1 ⟨rfl,hb⟩;have HB:=Hd hb;clear hb)|(go_at_call 87;refine mo0 (aK _ _) ?_));go_ret2;exact⟨rfl,lZ HB.o⟩
 ·rcases hv:vld n with _|_
  ·rw[show(true&&false)=false from rfl,Iq (by decide)];go_enter func123,ntmps123;go_wp2_with(first|(go_at_call 159;refine HSC.o.mono ?_;rintro e w' ⟨rfl,k,rfl⟩)|(go_at_call 160;refine(HM _).o.mono ?_;rintro e w1 ⟨rfl,hb⟩;have HB:=Hd hb;clear hb)|(go_at_call 87;refine mo0 (aK _ _) ?_));go_ret2;exact⟨rfl,lZ HB.o⟩
  ·rw[show(true&&true)=true from rfl,Ip rfl];go_enter func123,ntmps123;go_wp2_with(first|(go_at_call 159;refine HSC.o.mono ?_;rintro e w' ⟨rfl,k,rfl⟩)|(go_at_call 160;refine(HM _).o.mono ?_;rintro e w1 ⟨rfl,hb⟩;have HB:=Hd hb;clear hb)|(go_at_call 87;refine mo0 (aK _ _) ?_));go_ret2;exact⟨rfl,lZ HB.o⟩
theorem qiP(op a:Int)(ho:zbD op=1)(ho1:op≠1)(h1: -10000000000000000<=a)(h2:a<=10000000000000000)(w:World)(ht:Tab w):
 Calls prog 123 #[.int .i64 op,.int .i64 a] w λe w'=>e=.returned (.tuple #[.int .i64 (unS op a).1,.int .i64 (unS op a).2])/\Bw w w':=by
 have h:op=2\/op=8\/op=9\/op=10\/op=12\/op=13\/op=14\/op=15\/op=16:=qcR ho ho1;rcases h with rfl|rfl|rfl|rfl|rfl|rfl|rfl|rfl|rfl
 ·exact qsW a h1 h2 w ht
 ·exact qsV a h1 h2 w ht
 ·exact qsU a h1 h2 w ht
 ·exact qmD a h1 h2 w ht
 ·exact qmC a h1 h2 w ht
 ·exact qmB a h1 h2 w ht
 ·exact qmA a h1 h2 w ht
 ·exact qlZ a h1 h2 w ht
 ·exact qlY a h1 h2 w ht
def zoK(p0:Int×Int)(vy vx:Value):Prop:=∃(f:Nat) (y x:Int),hvF f (x,y)=hvF 64 p0/\(-2^f<=x/\x<2^f)/\(-2^f<=y/\y<2^f)/\f<=64/\vy=.int .i64 y/\vx=.int .i64 x/\(x≠0\/y≠0)
theorem vR(y x:Int)(hx1: -9223372036854775808<=x)(hx2:x<=9223372036854775807)(hy1: -9223372036854775808<=y)(hy2:y<=9223372036854775807)(w:World)(ht:Tab w):
 Calls prog 122 #[.int .i64 y,.int .i64 x] w λe w'=>e=.returned (.tuple #[.int .i64 (zgP y x).1,.int .i64 (zgP y x).2])/\Bw w w':=by
 have HTB:=Hd ht;clear ht;by_cases h0:x=0/\y=0
 ·obtain⟨rfl,rfl⟩:=h0;have HD:Hid (zgP 0 0=(0,4)):=rfl;rw[HD.o];go_enter func122,ntmps122;go_wp2;go_ret2;exact⟨rfl,Bf _ _⟩
 have HD:Hid (zgP y x=(zgQ (hvF 64 (x,y)).1 (hvF 64 (x,y)).2,0)):=by unfold Hid zgP;rw[Iq h0]
 have hxy:(x==0)=false\/((x==0)=true/\(y==0)=false):=by
  rcases hx0:(x==0)
  ·exact .inl rfl
  ·refine .inr ⟨rfl,?_⟩;have:x=0:=by simpa using hx0
   simp;omega
 have hn0:x≠0\/y≠0:=by omega
 clear h0;have HN:=Hd hn0;clear hn0;rcases hxy with hx0|⟨hx0,hy0⟩
 all_goals
  go_enter func122,ntmps122;go_wp2;go_loop[0,1] (zoK (x,y)) (λvy vx=>(intOf vy).natAbs+(intOf vx).natAbs)
  case atStart=>exact⟨64,y,x,rfl,by omega,by omega,by omega,rfl,rfl,HN.o⟩
  case round=>
   obtain⟨f,y',x',hp,hbx,hby,hf,rfl,rfl,hn⟩:=hrel;obtain⟨bx1,bx2⟩:=hbx;obtain⟨by1,by2⟩:=hby;have HP:=Hd hp;have HBX:Hid ((-2^f<=x'/\x'<2^f)/\(-2^f<=y'/\y'<2^f)):=⟨⟨bx1,bx2⟩,by1,by2⟩;have hi:=qqL hf ⟨bx1,bx2⟩;have hj:=qqL hf ⟨by1,by2⟩;have HNN:=Hd hn;clear hp bx1 bx2 by1 by2 hn;obtain⟨i1,i2⟩:=hi;obtain⟨j1,j2⟩:=hj;by_cases hg:big (x',y')
   ·have hc:=hg;unfold big at hc;dsimp only at hc;have HS:=Hd (qhS HP.o HBX.o hg);clear hg;rcases hc with c|⟨c,d⟩|⟨c,d,e⟩|⟨c,d,e,g⟩
    all_goals
     go_wp2;go_round
     case rel=>
      obtain⟨f',e1,e2,e3,e4,e5⟩:=HS.o;exact⟨f',y'/2,x'/2,e1,e2,e3,by omega,rfl,rfl,e5⟩
     case measure=>simp[intOf];omega
   ·have hc:=small hg;obtain⟨⟨c1,c2⟩,c3,c4⟩:=hc;have HA:=Hd (qlM x' y' c1 c2 c3 c4 HNN.o w HTB.o);have HE:Hid (hvF 64 (x,y)=(x',y')):=by unfold Hid;rw[<-HP.o];exact qfK f hg
    clear hg;go_wp2_with(go_at_call 154;refine HA.o.mono ?_;rintro e w' ⟨rfl,k,rfl⟩);go_ret2;rw[HD.o,HE.o];exact⟨rfl,aA (Bf _ _) _⟩
theorem qnV{α:Type}(a:Array α)(x y:α):(a.push x).setIfInBounds a.size y=a.push y:=by
 apply Array.ext
 ·simp
 ·intro i h1 h2;simp at h1 h2;rw[Array.getElem_setIfInBounds (by simpa using h1),Array.getElem_push,Array.getElem_push];by_cases h:i<a.size
  ·rw[dif_pos h,dif_pos h,Iq (by omega)]
  ·rw[dif_neg h,dif_neg h,Ip (by omega)]
theorem mapT:prog.underlying 177=some (.map 3 175):=by kernel_rfl
theorem oS(w:World)(es:Array MapEntry)(clock:Nat)(k:Int)(v:Value)(h:Instr.findNow (.int .i64) (.int .i64 k) es.toList 0=some none):
 (Instr.mapUpdate 177 (.map (some w.heap.size)) (.int .i64 k) v).run prog (w.alloc (.map es clock))=.ok () (w.alloc (.map (es.push {key:=.int .i64 k,val:=v,born:=clock}) (clock+1))):=by
 have hb:(w.alloc (.map es clock)).heap[w.heap.size]? =some (.map es clock):=Hn w _;have hkey:MapKept.IsKey (.int .i64) (.int .i64 k):=rfl;have hw:∀o,(w.alloc (.map es clock)).heap.setIfInBounds w.heap.size o=(w.alloc o).heap:=λo=>qnV _ _ _;simp[Instr.mapUpdate,run_underlying mapT,MapKept.run_getObj_map hb,MapKept.run_checkKey underlying3 hkey,MapKept.run_findKey underlying3 h,MapKept.run_setObj_map _ hb,Result.andThen,hw];rfl
theorem pI(w:World)(b:Nat)(es:Array MapEntry)(clock:Nat)(k:Int)(i:Nat)(v:Value)(hb:w.heap[b]? =some (.map es clock))(h:Instr.findNow (.int .i64) (.int .i64 k) es.toList 0=some (some (i,v))):
 (Instr.lookup 177 (.map (some b)) (.int .i64 k) false).run prog w=.ok v w:=by
 have hkey:MapKept.IsKey (.int .i64) (.int .i64 k):=rfl;simp[Instr.lookup,run_underlying mapT,MapKept.run_getObj_map hb,MapKept.run_checkKey underlying3 hkey,MapKept.run_findKey underlying3 h,Result.andThen]
def zmP:Array MapEntry:=(#[]:Array MapEntry).push {key:=.int .i64 3,val:=.func (.func 161) #[] #[],born:=0}
def zmO:Array MapEntry:=zmP.push {key:=.int .i64 4,val:=.func (.func 162) #[] #[],born:=1}
def zmN:Array MapEntry:=zmO.push {key:=.int .i64 5,val:=.func (.func 163) #[] #[],born:=2}
def zmM:Array MapEntry:=zmN.push {key:=.int .i64 6,val:=.func (.func 164) #[] #[],born:=3}
def zeK:Array MapEntry:=zmM.push {key:=.int .i64 7,val:=.func (.func 165) #[] #[],born:=4}
theorem put3(w:World):(Instr.mapUpdate 177 (.map (some w.heap.size)) (.int .i64 3) (.func (.func 161) #[] #[])).run prog (w.alloc (.map #[] 0))=.ok () (w.alloc (.map zmP 1)):=oS w _ _ _ _ (by kernel_rfl)
theorem put4(w:World):(Instr.mapUpdate 177 (.map (some w.heap.size)) (.int .i64 4) (.func (.func 162) #[] #[])).run prog (w.alloc (.map zmP 1))=.ok () (w.alloc (.map zmO 2)):=oS w _ _ _ _ (by kernel_rfl)
theorem put5(w:World):(Instr.mapUpdate 177 (.map (some w.heap.size)) (.int .i64 5) (.func (.func 163) #[] #[])).run prog (w.alloc (.map zmO 2))=.ok () (w.alloc (.map zmN 3)):=oS w _ _ _ _ (by kernel_rfl)
theorem put6(w:World):(Instr.mapUpdate 177 (.map (some w.heap.size)) (.int .i64 6) (.func (.func 164) #[] #[])).run prog (w.alloc (.map zmN 3))=.ok () (w.alloc (.map zmM 4)):=oS w _ _ _ _ (by kernel_rfl)
theorem put7(w:World):(Instr.mapUpdate 177 (.map (some w.heap.size)) (.int .i64 7) (.func (.func 165) #[] #[])).run prog (w.alloc (.map zmM 4))=.ok () (w.alloc (.map zeK 5)):=oS w _ _ _ _ (by kernel_rfl)
theorem zlM(w:World)(b:Nat)(hb:w.heap[b]? =some (.map zeK 5)):(Instr.lookup 177 (.map (some b)) (.int .i64 3) false).run prog w=.ok (.func (.func 161) #[] #[]) w:=pI w b _ _ _ 0 _ hb (by kernel_rfl)
theorem zlL(w:World)(b:Nat)(hb:w.heap[b]? =some (.map zeK 5)):(Instr.lookup 177 (.map (some b)) (.int .i64 4) false).run prog w=.ok (.func (.func 162) #[] #[]) w:=pI w b _ _ _ 1 _ hb (by kernel_rfl)
theorem zlK(w:World)(b:Nat)(hb:w.heap[b]? =some (.map zeK 5)):(Instr.lookup 177 (.map (some b)) (.int .i64 5) false).run prog w=.ok (.func (.func 163) #[] #[]) w:=pI w b _ _ _ 2 _ hb (by kernel_rfl)
theorem zlJ(w:World)(b:Nat)(hb:w.heap[b]? =some (.map zeK 5)):(Instr.lookup 177 (.map (some b)) (.int .i64 6) false).run prog w=.ok (.func (.func 164) #[] #[]) w:=pI w b _ _ _ 3 _ hb (by kernel_rfl)
theorem zlI(w:World)(b:Nat)(hb:w.heap[b]? =some (.map zeK 5)):(Instr.lookup 177 (.map (some b)) (.int .i64 7) false).run prog w=.ok (.func (.func 165) #[] #[]) w:=pI w b _ _ _ 4 _ hb (by kernel_rfl)
theorem vK(w:World):
 Calls prog 125 #[] w λe w'=>e=.returned (.map (some w.heap.size))/\w.alloc (.map zeK 5)=w':=by
 have hmm:= @run_makeMap prog;have h3:=put3;have h4:=put4;have h5:=put5;have h6:=put6;have h7:=put7;go_enter func125,ntmps125;go_wp2;go_ret;exact⟨rfl,rfl⟩
