/- The contract. -/
import Derived.Test.YtdcjbhdfphcefaaGreatDoorFa
namespace Go.Proofs.YtdcjbhdfphcefaaGreatDoor
set_option linter.all false
set_option maxRecDepth 100000
set_option maxHeartbeats 8000000
open Go.Proofs.Tryz
open Go.RowKit
theorem qoF(t:Tr)(v:Value)(w:World)(h:Rd w w.heap.size t v):
 Calls prog 84 #[v] w λe w'=>e=.returned (.bool (zcX t))/\Bw w w':=by
 rcases t with _|⟨op,n,k,kid⟩
 ·exact h.elim
 obtain⟨A,c,rfl,hop,hn,hk,hkids⟩:=h.open_;clear h hkids hop hn;unfold maxLen at hk;have HB0:Hid (∀o:Obj,Bw w (w.alloc o)):=λo=>(Bf _ _).alloc (Le _) o;by_cases h0:op=0
 ·have g0:(op==0)=true:=by simpa using h0
  clear h0;by_cases h1:n=0
  ·have g1:(n==0)=true:=by simpa using h1
   clear h1;by_cases h2:k=0
   ·subst h2;have e:zcX (.mk op n 0 kid)=true:=by simp[zcX,g0,g1]
    rw[e];go_enter func84,ntmps84;go_wp2;go_ret;exact⟨rfl,HB0.o _⟩
   ·have g2:((k:Int)==0)=false:=by simpa using h2
    have e:zcX (.mk op n k kid)=false:=by simp[zcX,h2]
    rw[e];clear h2;go_enter func84,ntmps84;go_wp2;go_ret;exact⟨rfl,HB0.o _⟩
  ·have g1:(n==0)=false:=by simpa using h1
   have e:zcX (.mk op n k kid)=false:=by simp[zcX,h1]
   rw[e];clear h1;go_enter func84,ntmps84;go_wp2;go_ret;exact⟨rfl,HB0.o _⟩
 ·have g0:(op==0)=false:=by simpa using h0
  have e:zcX (.mk op n k kid)=false:=by simp[zcX,h0]
  rw[e];clear h0;go_enter func84,ntmps84;go_wp2;go_ret;exact⟨rfl,HB0.o _⟩
def zlN(W1:World)(ws:List (Int×Tr))(i:Value)(W:World):Prop:=∃k:Nat,k<=ws.length/\i=.int .i64 (k:Int)/\Bw W1 W/\ws.all zeR=(ws.drop k).all zeR
theorem qsS{b:Bk}(h:zgJ b=false):zbA b=false:=by simp[zbA,h]
theorem qgL{b:Bk}(h:b.words.all zeR=false):zbA b=false:=by simp only[zbA,h];simp
theorem val_all{b:Bk}(h1:zgJ b=true)(h2:b.words.all zeR=true):zbA b=(zcK (zdA b) b.left&&zcK (xK b) b.x&&zdB b):=by simp only[zbA,h1,h2,Bool.true_and]
theorem qdY(w:World)(B:Nat)(b:Bk)(A:OA)(n c:Nat)(l0 l1 l2 x0 x1 x2:Value)(h:RdB w B b A n l0 l1 l2 x0 x1 x2)(hB:B<=w.heap.size):
 Calls prog 54 #[.agg #[.int .i64 b.kind,.int .i64 b.label,.bool b.skip,.slice A n c,l0,l1,l2,x0,x1,x2,.int .i64 b.n]] w λe w'=>e=.returned (.bool (zbA b))/\Bw w w':=by
 obtain⟨hk,hl,hn,⟨hw1,hw2,hw3,hw4⟩,hL,hX⟩:=h;have hw5:=hw2;unfold maxLen at hw5;have HW4:=Hd hw4;have HW3:=Hd hw3;obtain⟨W1,hW1,HB1,hbx⟩:=newW w #[.int .i64 b.kind,.int .i64 b.label,.bool b.skip,.slice A n c,l0,l1,l2,x0,x1,x2,.int .i64 b.n] 54;have HS1:Hid (w.heap.size<W1.heap.size):=hlS hbx;have HBX:=Hd hbx;have HRT:Hid (∀(W:World) (t:Tr) (v:Value),Bw W1 W->Rd w B t v->Calls prog 83 #[v] W λe w'=>e=.returned (.bool (zaV 16 t))/\Bw W w'):=
  λW t v hW hr=>rG t v W ((hr.below (HB1.o.mono hB) hB).below (hW.mono (Ll HS1.o)) (by have:=hW.size;have:=HS1.o;omega))
 have HNT:Hid (∀(W:World) (t:Tr) (v:Value),Bw W1 W->Rd w B t v->Calls prog 84 #[v] W λe w'=>e=.returned (.bool (zcX t))/\Bw W w'):=
  λW t v hW hr=>qoF t v W ((hr.below (HB1.o.mono hB) hB).below (hW.mono (Ll HS1.o)) (by have:=hW.size;have:=HS1.o;omega))
 have HL:=Hd hL;have HX:=Hd hX;have c0:=ce0 hbx;have c1:=ce1 hbx;have c3:=ce3 hbx;have HE1:Hid (∀W,Bw W1 W->Bw w W):=λW hW=>HB1.o.trans (hW.mono (Ll HS1.o));have HW1:=Hd hw1;clear hbx hw4 hw3 hL hX hw2 hw1;by_cases hh:zgJ b=true
 case neg=>
  have E:Hid (zbA b=false):=qsS (by simpa using hh);have hd:b.kind<0\/(0<=b.kind/\6<b.kind)\/((0<=b.kind/\b.kind<=6)/\b.label<0)\/((0<=b.kind/\b.kind<=6)/\0<=b.label/\99999<b.label)\/((0<=b.kind/\b.kind<=6)/\(0<=b.label/\b.label<=99999)/\24<n)\/((0<=b.kind/\b.kind<=6)/\(0<=b.label/\b.label<=99999)/\n<=24/\(b.kind !=0)=true/\0<n):=by
   have hw1:=HW1.o;unfold zgJ at hh;simp only[Du]at hh;rw[bne_iff_ne];by_cases q0:b.kind=0
   ·omega
   ·by_cases q1:n=0
    ·omega
    ·omega
  clear hh;have HB0:Hid (∀o:Obj,Bw w (w.alloc o)):=λo=>(Bf _ _).alloc (Le _) o;rcases hd with hd|⟨hd0,hd⟩|⟨⟨hd0,hd1⟩,hd⟩|⟨⟨hd0,hd1⟩,hd2,hd⟩|⟨⟨hd0,hd1⟩,⟨hd2,hd3⟩,hd⟩|⟨⟨hd0,hd1⟩,⟨hd2,hd3⟩,hd4,hd5,hd⟩
  all_goals
   go_enter func54,ntmps54;go_wp2;go_ret;rw[E.o];exact⟨rfl,HB0.o _⟩
 have hd:0<=b.kind/\b.kind<=6/\0<=b.label/\b.label<=99999/\n<=24:=by
  have hw1:=HW1.o;unfold zgJ at hh;simp only[Du]at hh;omega
 obtain⟨h1,h2,h3,h4,h5⟩:=hd;have HH:=Hd hh;have hk0:b.kind≠0->n=0:=by
  unfold zgJ at hh;simp only[Du]at hh;intro q;rw[HW1.o];exact hh.2.2.2.2.2 q
 have hp:(b.kind !=0)=false\/((b.kind !=0)=true/\decide ((n:Int)>0)=false):=by
  by_cases q:b.kind=0
  ·exact .inl (by simpa using q)
  ·exact .inr ⟨by simpa using q,by have:=hk0 q;simp[this]⟩
 have HP:=Hd hp;clear hh hk0 hp;have HCE:Hid (∀W,Bw W1 W->W.cell? ⟨w.heap.size,0,none⟩=some (.int .i64 b.kind)/\W.cell? ⟨w.heap.size,3,none⟩=some (.slice A n c)/\W.cell? ⟨w.heap.size,4,none⟩=some l0/\W.cell? ⟨w.heap.size,5,none⟩=some l1/\W.cell? ⟨w.heap.size,6,none⟩=some l2/\W.cell? ⟨w.heap.size,7,none⟩=some x0/\W.cell? ⟨w.heap.size,8,none⟩=some x1/\W.cell? ⟨w.heap.size,9,none⟩=some x2/\W.cell? ⟨w.heap.size,10,none⟩=some (.int .i64 b.n)):=λW hW=>
  have q:∀i,W.cell? ⟨w.heap.size,i,none⟩=W1.cell? ⟨w.heap.size,i,none⟩:=λi=>hW.cel w.heap.size i HS1.o
  ⟨(q 0).trans (Ro W1 _ 0 _ _ _ HBX.o),(q 3).trans (Ro W1 _ 3 _ _ _ HBX.o),(q 4).trans (Ro W1 _ 4 _ _ _ HBX.o),(q 5).trans (Ro W1 _ 5 _ _ _ HBX.o),(q 6).trans (Ro W1 _ 6 _ _ _ HBX.o),(q 7).trans (Ro W1 _ 7 _ _ _ HBX.o),(q 8).trans (Ro W1 _ 8 _ _ _ HBX.o),(q 9).trans (Ro W1 _ 9 _ _ _ HBX.o),(q 10).trans (Ro W1 _ 10 _ _ _ HBX.o)⟩
 have HB1':Hid (zlN W1 b.words (.int .i64 0) W1):=⟨0,by omega,rfl,Bf _ _,rfl⟩;go_enter func54,ntmps54;go_upto_region 1 with(fail)
 rw[<-hW1];clear hW1;go_cut[41]from 7 to 40 (λs41 w'=>s41=.bool false/\w'=W1)
 case first=>
  rcases HP.o with q1|⟨q1,q2⟩
  all_goals
   have z1:decide (b.kind<0)=false:=Df (by omega);have z2:decide (6<b.kind)=false:=Df (by omega);have z3:decide (b.label<0)=false:=Df (by omega);have z4:decide (99999<b.label)=false:=Df (by omega);have z5:decide (24<(n:Int))=false:=Df (by omega);have z6:=z5;go_wp2_with fail;go_meet;exact⟨congrArg Value.bool (by first|(simp[z1,z2,z3,z4,z5,q1];done)|(simp[z1,z2,z3,z4,z5,q1];omega)|(simp[z1,z2,z3,z4,z5,q1];have q3:=of_decide_eq_false q2;omega)),rfl⟩
 case rest=>
  obtain⟨rfl,rfl⟩:=hcut;clear HP;go_wp2_with fail;go_loopw[3] (zlN wc b.words) (λi _=>b.words.length-(intOf i).toNat)
  case atStart=>exact HB1'.o
  case round=>
   obtain⟨k,hk,rfl,hbw,hall⟩:=hrel;have HBn:=Hd hbw;have HAL:=Hd hall;have hnw:=HW1.o;obtain⟨d0,d3,d4,d5,d6,d7,d8,d9,d10⟩:=HCE.o _ HBn.o;clear hbw hall c0 c1 c3;by_cases hlt:k<n
   ·obtain⟨ab,off,rfl,hab,hd⟩:=HW4.o (by omega);obtain⟨⟨cc,t⟩,hx⟩:∃x,b.words[k]? =some x:=⟨_,Gg (by omega)⟩;obtain⟨y0,v0,v1,v2,y1,y2,y3,hr⟩:=hd k _ hx;have hab1:ab<w.heap.size:=by omega
    have z0:=((HE1.o _ HBn.o).cel ab (off+k*4) hab1).trans y0;have z1:=((HE1.o _ HBn.o).cel ab (off+k*4+1) hab1).trans y1;have z2:=((HE1.o _ HBn.o).cel ab (off+k*4+1+1) hab1).trans y2;have z3:=((HE1.o _ HBn.o).cel ab (off+k*4+1+2) hab1).trans y3;have hcase:b.words.all zeR=(zeR (cc,t)&&(b.words.drop (k+1)).all zeR):=by rw[HAL.o,cE hx];rfl
    have HCS:=Hd hcase;have HRR:=Hd hr;have i1:(0:Int)<=(k:Int):=by omega
    have i2:(k:Int)<(n:Int):=by omega
    clear y0 y1 y2 y3 hd hcase hr hx hnw;by_cases hcc:65<=cc/\cc<=90/\cc≠78/\cc≠79
    ·obtain⟨g1,g2,g3,g4⟩:=hcc;have HWS:Hid (zeR (cc,t)=zaV 16 t):=by unfold Hid zeR;simp[g1,g2,g3,g4]
     have g3':(cc==78)=false:=by simpa using g3
     have g4':(cc==79)=false:=by simpa using g4
     clear g3 g4;have HCA:=Hd (HRT.o wr t _ HBn.o HRR.o);rcases hrr:zaV 16 t with _|_
     ·have E:Hid (zbA b=false):=qgL (by rw[HCS.o,HWS.o,hrr];rfl);rw[hrr]at HCA;go_wp2_with(go_at_call 83;refine HCA.o.mono ?_;rintro e w9 ⟨rfl,hb9⟩;have HB9:=Hd (HBn.o.tm hb9);clear hb9);go_ret;rw[E.o];exact⟨rfl,HE1.o _ HB9.o⟩
     ·have E1:Hid (b.words.all zeR=(b.words.drop (k+1)).all zeR):=by unfold Hid;rw[HCS.o,HWS.o,hrr];rfl
      rw[hrr]at HCA;go_wp2_with(go_at_call 83;refine HCA.o.mono ?_;rintro e w9 ⟨rfl,hb9⟩;have HB9:=Hd (HBn.o.tm hb9);clear hb9);have hnw:=HW1.o;exact⟨⟨k+1,by omega,by go_num,HB9.o,E1.o⟩,by simp only[intOf];omega⟩
    ·have E:Hid (zbA b=false):=qgL (by rw[HCS.o];unfold zeR;simp[hcc]);have hc4:cc<65\/(65<=cc/\90<cc)\/((65<=cc/\cc<=90)/\(cc==78)=true)\/((65<=cc/\cc<=90)/\(cc==78)=false/\(cc==79)=true):=by
      simp only[beq_iff_eq,beq_eq_false_iff_ne];omega
     clear hcc;rcases hc4 with g1|⟨g1,g2⟩|⟨⟨g1,g2⟩,g3⟩|⟨⟨g1,g2⟩,g3,g4⟩
     all_goals
      go_wp2_with fail;go_ret;rw[E.o];exact⟨rfl,HE1.o _ HBn.o⟩
   ·have hke:k=b.words.length:=by omega
    have EW:Hid (b.words.all zeR=true):=by unfold Hid;rw[HAL.o,hke,Dl];rfl
    have i3:decide ((k:Int)<(n:Int))=false:=Df (by omega);clear hke hnw HAL;have hks:b.kind=0\/b.kind=1\/b.kind=2\/b.kind=3\/b.kind=4\/b.kind=5\/b.kind=6:=by omega
    obtain⟨pl,hpl⟩:∃p,zcK (zdA b) b.left=p:=⟨_,rfl⟩;obtain⟨px,hpx⟩:∃p,zcK (xK b) b.x=p:=⟨_,rfl⟩;have HLR:Hid (zdA b=true->∀W,Bw wc W->Calls prog 83 #[.agg #[l0,l1,l2]] W λe w'=>e=.returned (.bool pl)/\Bw W w'):=λh W hW=>by rw[<-hpl,h];exact HRT.o W _ _ hW HL.o
    have HLN:Hid (zdA b=false->∀W,Bw wc W->Calls prog 84 #[.agg #[l0,l1,l2]] W λe w'=>e=.returned (.bool pl)/\Bw W w'):=λh W hW=>by rw[<-hpl,h];exact HNT.o W _ _ hW HL.o
    have HXR:Hid (xK b=true->∀W,Bw wc W->Calls prog 83 #[.agg #[x0,x1,x2]] W λe w'=>e=.returned (.bool px)/\Bw W w'):=λh W hW=>by rw[<-hpx,h];exact HRT.o W _ _ hW HX.o
    have HXN:Hid (xK b=false->∀W,Bw wc W->Calls prog 84 #[.agg #[x0,x1,x2]] W λe w'=>e=.returned (.bool px)/\Bw W w'):=λh W hW=>by rw[<-hpx,h];exact HNT.o W _ _ hW HX.o
    have E0:Hid (zbA b=(pl&&px&&zdB b)):=by unfold Hid;rw[<-hpl,<-hpx];exact val_all HH.o EW.o
    clear hpl hpx;rcases hks with hkk|hkk|hkk|hkk|hkk|hkk|hkk
    all_goals
     rcases pl with _|_<;>rcases px with _|_
     all_goals
      have tok1:=trivial;have tok2:=trivial;go_wp2_with(first|(go_at_call 83;clear tok1;refine(HLR.o (by simp[zdA,xK,hkk]) _ HBn.o).mono ?_;rintro e w9 ⟨rfl,hb9⟩;have HB9:=Hd (HBn.o.tm hb9);clear hb9 HBn d0 d4 d5 d6 d7 d8 d9 d10;have HBn:=Hd HB9.o;clear HB9;obtain⟨d0,-,d4,d5,d6,d7,d8,d9,d10⟩:=HCE.o _ HBn.o)|(go_at_call 84;clear tok1;refine(HLN.o (by simp[zdA,xK,hkk]) _ HBn.o).mono ?_;rintro e w9 ⟨rfl,hb9⟩;have HB9:=Hd (HBn.o.tm hb9);clear hb9 HBn d0 d4 d5 d6 d7 d8 d9 d10;have HBn:=Hd HB9.o;clear HB9;obtain⟨d0,-,d4,d5,d6,d7,d8,d9,d10⟩:=HCE.o _ HBn.o)|(go_at_call 83;clear tok2;refine(HXR.o (by simp[zdA,xK,hkk]) _ HBn.o).mono ?_;rintro e w9 ⟨rfl,hb9⟩;have HB9:=Hd (HBn.o.tm hb9);clear hb9 HBn d0 d4 d5 d6 d7 d8 d9 d10;have HBn:=Hd HB9.o;clear HB9;obtain⟨d0,-,d4,d5,d6,d7,d8,d9,d10⟩:=HCE.o _ HBn.o)|(go_at_call 84;clear tok2;refine(HXN.o (by simp[zdA,xK,hkk]) _ HBn.o).mono ?_;rintro e w9 ⟨rfl,hb9⟩;have HB9:=Hd (HBn.o.tm hb9);clear hb9 HBn d0 d4 d5 d6 d7 d8 d9 d10;have HBn:=Hd HB9.o;clear HB9;obtain⟨d0,-,d4,d5,d6,d7,d8,d9,d10⟩:=HCE.o _ HBn.o));all_goals
       go_ret;rw[E0.o];exact⟨by first|rfl|(unfold zdB;simp[*];done)|(unfold zdB;simp[*];rfl)|(unfold zdB;simp[*];omega),HE1.o _ HBn.o⟩
