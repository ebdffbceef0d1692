/- Plain words. -/
import Derived.PlainAid
import Derived.Test.YtdcjbhdfphcefaaGreatDoorBb
import Derived.Deep.AppendLies
import Derived.Test.YtdcjbhdfphcefaaGreatDoorBc
namespace Go.Proofs.YtdcjbhdfphcefaaGreatDoor
set_option linter.all false
set_option maxRecDepth 100000
set_option maxHeartbeats 4000000
open Go.Proofs.Tryz
theorem tJ(a b:Int):(a*b<0/\sg a b= -1/\mg a*mg b= -(a*b))\/(0<a*b/\sg a b=1/\mg a*mg b=a*b)\/(a*b=0/\sg a b=0/\mg a*mg b=0):=by
 rw[qfD];unfold sg;by_cases ha:a=0
 ·subst ha;right;right;exact⟨Int.zero_mul b,by simp,by rw[Int.zero_mul];rfl⟩
 by_cases hb:b=0
 ·subst hb;right;right;exact⟨Int.mul_zero a,by simp,by rw[Int.mul_zero];rfl⟩
 rw[Iq (by omega)];by_cases hs:(a<0↔b<0)
 ·rw[Ip hs];have:0<a*b:=by
   rcases Il a 0 with ha'|ha'
   ·exact Int.mul_pos_of_neg_of_neg ha' (by omega)
   ·exact Int.mul_pos (by omega) (by omega)
  exact Or.inr (Or.inl ⟨this,rfl,by unfold mg;omega⟩)
 ·rw[Iq hs];have:a*b<0:=by
   rcases Il a 0 with ha'|ha'
   ·exact Int.mul_neg_of_neg_of_pos ha' (by omega)
   ·exact Int.mul_neg_of_pos_of_neg (by omega) (by omega)
  exact Or.inl ⟨this,rfl,by unfold mg;omega⟩
def P(k:Nat):Nat:=65536^k
theorem vM:P 0=1:=rfl
theorem iX(k:Nat):P (k+1)=P k*65536:=Nat.pow_succ 65536 k
theorem kZ(k:Nat):0<P k:=Nat.pow_pos (by decide)
theorem rT(i k:Nat):P (i+k)=P i*P k:=Nat.pow_add 65536 i k
theorem kY{i k:Nat}(h:i<=k):P i<=P k:=Nat.pow_le_pow_right (by decide) h
def dg(V k:Nat):Nat:=V/P k%65536
theorem lW(V k:Nat):dg V k<65536:=Nat.mod_lt _ (by decide)
theorem vB(V k:Nat):V/P (k+1)=V/P k/65536:=by rw[iX,Nat.div_div_eq_div_mul]
theorem nQ(V k:Nat):V/P k=V/P (k+1)*65536+dg V k:=by
 rw[vB];unfold dg;exact(Nat.div_add_mod' (V/P k) 65536).symm
theorem pO(V:Nat):V/P 0=V:=by rw[vM,Nat.div_one]
theorem quO{V k:Nat}(h:V/P k=0):V<P k:=(Nat.div_eq_zero_iff_lt (kZ k)).1 h
theorem dR{V k:Nat}(h:V<P k):V/P k=0:=Nat.div_eq_of_lt h
theorem vP{V k:Nat}(h:0<V/P k):P k<=V:=Nat.le_of_not_lt λh'=>by rw[dR h']at h;omega
theorem uD(V k:Nat):V%P (k+1)=V%P k+P k*dg V k:=by rw[iX,Nat.mod_mul];rfl
theorem qrQ{V i j:Nat}(h:i<j):dg (V%P j) i=dg V i:=by
 obtain⟨t,rfl⟩:∃t,j=i+(t+1):=⟨j-i-1,by omega⟩;unfold dg;rw[rT,Nat.mod_mul_right_div_self,Nat.mod_mod_of_dvd _ ⟨P t,by rw[iX,Nat.mul_comm]⟩]
theorem qrR(V i j:Nat):dg (V/P j) i=dg V (j+i):=by unfold dg;rw[Nat.div_div_eq_div_mul,rT]
theorem sN{V k j:Nat}(h:V<P k)(hj:k<=j):dg V j=0:=by
 unfold dg;rw[dR (Lt h (kY hj))]
def nd(V:Nat):Nat:=if h:V=0 then 0 else nd (V/65536)+1
termination_by V
decreasing_by omega
theorem yY:nd 0=0:=by rw[nd];rfl
theorem qhF{V:Nat}(h:V≠0):nd V=nd (V/65536)+1:=by rw[nd,dif_neg h]
theorem xM(k:Nat):∀V,k<nd V↔0<V/P k:=by
 induction k with
 |zero=>
  intro V;rw[pO];by_cases h:V=0
  ·subst h;rw[yY]
  ·rw[qhF h];omega
 |succ k ih=>
  intro V;have e:V/P (k+1)=V/65536/P k:=by rw[iX,Nat.mul_comm,Nat.div_div_eq_div_mul]
  rw[e,<-ih];by_cases h:V=0
  ·subst h;rw[yY];simp
  ·rw[qhF h];omega
theorem eR(V:Nat):V<P (nd V):=quO (Nat.eq_zero_of_not_pos λh=>Nat.lt_irrefl _ ((xM (nd V) V).2 h))
theorem xI{V k:Nat}(h:V<P k):nd V<=k:=by have:=xM k V;rw[dR h]at this;omega
theorem qcL{V W:Nat}(h:nd V<nd W):V<W:=by
 have h1:=(xM (nd V) W).1 h;have h2:=vP h1;have h3:=eR V;omega
theorem qjS{V n:Nat}(h:V<P (n+1))(hd:dg V n≠0):nd V=n+1:=by
 have h1:=xI h;have h2:0<V/P n:=by
  unfold dg at hd;rcases Nz (V/P n)with h0|h0
  ·rw[h0]at hd;exact absurd rfl hd
  ·exact h0
 have h3:=(xM n V).2 h2;omega
theorem qjY{V n:Nat}(h:V<P (n+1))(hd:dg V n=0):V<P n:=by
 refine quO ?_;have h1:=nQ V n;rw[hd,dR h]at h1;omega
def zfX(V j d:Nat):Nat:=V/P (j+1)*P (j+1)+d*P j+V%P j
theorem qbK(V j d:Nat):zfX V j d+dg V j*P j=V+d*P j:=by
 have h1:=Nat.div_add_mod' V (P (j+1));rw[uD,Nat.mul_comm (P j)]at h1;unfold zfX;omega
theorem qtL{V j d:Nat}(hd:d<65536):d*P j+V%P j<P (j+1):=by
 have h1:(d+1)*P j<=65536*P j:=Nat.mul_le_mul_right _ hd;have h2:=Nat.mod_lt V (kZ j);rw[iX,Nat.mul_comm (P j)];rw[Nat.add_mul,Nat.one_mul]at h1;omega
theorem tK{V j d:Nat}(hd:d<65536):zfX V j d/P (j+1)=V/P (j+1):=by
 unfold zfX;rw[Nat.add_assoc,Nat.mul_comm,Nat.mul_add_div (kZ _),Nat.div_eq_of_lt (qtL hd),Nat.add_zero]
theorem qmY{V j d:Nat}:zfX V j d%P j=V%P j:=by
 unfold zfX;rw[iX,<-Nat.mul_assoc,Nat.mul_right_comm,<-Nat.add_mul,Nat.mul_comm,Nat.mul_add_mod,Nat.mod_mod]
theorem qtM{V j d:Nat}(hd:d<65536):dg (zfX V j d) j=d:=by
 have h1:=nQ (zfX V j d) j;have h2:zfX V j d/P j=V/P (j+1)*65536+d:=by
  unfold zfX;rw[iX,<-Nat.mul_assoc,Nat.mul_right_comm,<-Nat.add_mul,Nat.mul_comm,Nat.mul_add_div (kZ _),Nat.div_eq_of_lt (Nat.mod_lt _ (kZ _)),Nat.add_zero]
 rw[tK hd,h2]at h1;omega
theorem qeN{V j d i:Nat}(hd:d<65536)(h:i≠j):dg (zfX V j d) i=dg V i:=by
 rcases Nat.lt_or_gt_of_ne h with h|h
 ·rw[<-qrQ h,qmY,qrQ h]
 ·obtain⟨t,rfl⟩:∃t,i=j+1+t:=⟨i-j-1,by omega⟩;rw[<-qrR,tK hd,qrR]
theorem qtK{V j d n:Nat}(hd:d<65536)(hj:j<n)(h:V<P n):zfX V j d<P n:=by
 refine quO ?_;obtain⟨t,rfl⟩:∃t,n=j+1+t:=⟨n-j-1,by omega⟩;rw[rT,<-Nat.div_div_eq_div_mul,tK hd,Nat.div_div_eq_div_mul,<-rT];exact dR h
theorem qoJ{V V0 a M i k c v:Nat}(hE:V+c*P (i+k)=V0+a*P i*(M%P k))(hv:v=dg V (i+k)+a*dg M k+c):
 zfX V (i+k) (v%65536)+v/65536*P (i+(k+1))=V0+a*P i*(M%P (k+1)):=by
 have h1:=qbK V (i+k) (v%65536);have h2:v/65536*P (i+(k+1))=(v/65536*65536)*P (i+k):=by rw[show i+(k+1)=i+k+1 from rfl,iX,Nat.mul_comm (P (i+k)),Nat.mul_assoc]
 have h3:v%65536*P (i+k)+(v/65536*65536)*P (i+k)=v*P (i+k):=by rw[<-Nat.add_mul,Nat.mod_add_div']
 have h4:v*P (i+k)=dg V (i+k)*P (i+k)+a*dg M k*P (i+k)+c*P (i+k):=by rw[hv,Nat.add_mul,Nat.add_mul]
 have h5:a*P i*(M%P (k+1))=a*P i*(M%P k)+a*dg M k*P (i+k):=by
  rw[uD,Nat.mul_add,rT];congr 1;simp only[Nat.mul_comm,Nat.mul_left_comm,Nat.mul_assoc]
 rw[h2,h5];omega
theorem quJ{V N M i n c:Nat}(hE:V+c*P (i+n)=(N%P i)*M+dg N i*P i*(M%P n))(hM:M<P n)(hV:V<P (i+n)):
 dg V (i+n)=0/\zfX V (i+n) c=(N%P (i+1))*M:=by
 have h0:dg V (i+n)=0:=sN hV (Le _);have h1:=qbK V (i+n) c;rw[h0,Nat.zero_mul,Nat.add_zero]at h1;refine⟨h0,?_⟩;rw[h1,hE,Nat.mod_eq_of_lt hM,uD,Nat.add_mul,Nat.mul_comm (P i)]
theorem qxB{N M i n:Nat}(hM:M<P n):(N%P i)*M<P (i+n):=by
 rw[rT];rcases Nz M with h|h
 ·subst h;rw[Nat.mul_zero];exact Nat.mul_pos (kZ i) (kZ n)
 ·exact Lt (Nat.mul_lt_mul_of_pos_right (Nat.mod_lt _ (kZ i)) h) (Nat.mul_le_mul_left _ (Ll hM))
theorem qoK{x a y c:Nat}(hx:x<65536)(ha:a<65536)(hy:y<65536)(hc:c<65536):a*y<=4294836225/\x+a*y+c<4294967296:=by
 have:=Nat.mul_le_mul (Nat.le_of_lt_succ ha) (Nat.le_of_lt_succ hy);omega
theorem qsL{N M k c:Nat}(h:N/P k+M/P k+c=(N+M)/P k):
 (c+dg N k+dg M k)%65536=dg (N+M) k/\N/P (k+1)+M/P (k+1)+(c+dg N k+dg M k)/65536=(N+M)/P (k+1):=by
 have h1:=nQ N k;have h2:=nQ M k;have h3:=nQ (N+M) k;have h4:=lW (N+M) k;have h5:=vB (N+M) k;unfold dg at h3 h4⊢
 unfold dg at h1 h2;omega
theorem qlO{N M k c:Nat}(h:N/P k+M/P k+c=(N+M)/P k):c<=1:=by
 have h1:=Nat.div_add_mod' N (P k);have h2:=Nat.div_add_mod' M (P k);have h3:=Nat.mod_lt N (kZ k);have h4:=Nat.mod_lt M (kZ k);have h5:(N+M)/P k<N/P k+M/P k+2:=by
  rw[Nat.div_lt_iff_lt_mul (kZ k),Nat.add_mul,Nat.add_mul];omega
 omega
def zfG(N M:Nat):Int:=if N<M then-1 else if M<N then 1 else 0
theorem sO{N M:Nat}(h:N<M):zfG N M= -1:=Ip h
theorem mU{N M:Nat}(h:M<N):zfG N M=1:=by unfold zfG;rw[Iq (by omega),Ip h]
theorem sP{N M:Nat}(h:N=M):zfG N M=0:=by unfold zfG;rw[Iq (by omega),Iq (by omega)]
theorem zaA{N M k:Nat}(h:N/P (k+1)=M/P (k+1)):(dg N k<dg M k->N<M)/\(dg M k<dg N k->M<N)/\(dg N k=dg M k->N/P k=M/P k):=by
 have h1:=nQ N k;have h2:=nQ M k;refine⟨λhd=> ?_,λhd=> ?_,λhd=>by rw[h1,h2,h,hd]⟩
 ·have:N/P k<M/P k:=by omega
  exact Nat.lt_of_not_le λhle=>by have:=Nat.div_le_div_right (c:=P k) hle;omega
 ·have:M/P k<N/P k:=by omega
  exact Nat.lt_of_not_le λhle=>by have:=Nat.div_le_div_right (c:=P k) hle;omega
open Go.RowKit
theorem qaT(x:Nat)(h:x<18446744073709551616):bits .and .u64 (x:Int) 65535=((x%65536:Nat):Int):=by
 have h':=u64_and_nat x 65535 (by omega) (by omega);have e:x&&&65535=x%65536:=Nat.and_two_pow_sub_one_eq_mod x 16;rw[e]at h';exact h'
def zhX(w:World)(B:Nat)(A:OA)(n V:Nat):Prop:=
 0<n->∃b,A=some ⟨b,0,none⟩/\b<B/\∀k,k<n->w.cell? ⟨b,k,none⟩=some (.int .u64 (dg V k:Nat))
def zgG(w:World)(B:Nat)(A:OA)(n V:Nat):Prop:=n=nd V/\zhX w B A n V
theorem zhX.below{w w':World}{B C n V:Nat}{A:OA}(h:zhX w B A n V)(hb:Below C w w')(hBC:B<=C):zhX w' B A n V:=λhn=>by
 obtain⟨b,e,hl,hc⟩:=h hn;exact⟨b,e,hl,λk hk=>(hb.cel b k (Lt hl hBC)).trans (hc k hk)⟩
theorem zhX.more{w:World}{B C n V:Nat}{A:OA}(h:zhX w B A n V)(hBC:B<=C):zhX w C A n V:=λhn=>by
 obtain⟨b,e,hl,hc⟩:=h hn;exact⟨b,e,by omega,hc⟩
theorem zgG.below{w w':World}{B C n V:Nat}{A:OA}(h:zgG w B A n V)(hb:Below C w w')(hBC:B<=C):zgG w' B A n V:=⟨h.1,h.2.below hb hBC⟩
theorem zgG.more{w:World}{B C n V:Nat}{A:OA}(h:zgG w B A n V)(hBC:B<=C):zgG w C A n V:=⟨h.1,h.2.more hBC⟩
def zhU(V:Nat)(w:World)(e:Ending)(w':World):Prop:=
 ∃(A:OA) (n c:Nat),e=.returned (.slice A n c)/\zgG w' w'.heap.size A n V/\Bw w w'
theorem qhI(n:Int)(h1: -9223372036854775808<=n)(h2:n<=9223372036854775807)(w:World):
 Calls prog 214 #[.int .i64 n] w λe w'=>e=.returned (.int .u64 (n.natAbs:Nat))/\w=w':=by
 by_cases h:n<0
 ·go_enter func214,ntmps214;go_wp2;go_ret;exact⟨aO (by omega),rfl⟩
 ·go_enter func214,ntmps214;go_wp2;go_ret;exact⟨aO (by omega),rfl⟩
theorem wW(m:Int)(h0:0<=m)(h1:m<=2)(w:World):
 Calls prog 211 #[.int .i64 m] w λe w'=>e=.returned (.bool true)/\w=w':=by
 have hm:m=0\/m=1\/m=2:=by omega
 rcases hm with rfl|rfl|rfl
 all_goals
  go_enter func211,ntmps211;go_wp2;go_ret;exact⟨rfl,rfl⟩
theorem qmU(a b:Int)(w:World):
 Calls prog 219 #[.int .i64 a,.int .i64 b] w λe w'=>e=.returned (.int .i64 (sg a b))/\w=w':=by
 by_cases ha:a=0
 ·subst ha;rw[mK (Or.inl rfl)];go_enter func219,ntmps219;go_wp2;go_ret;exact⟨rfl,rfl⟩
 ·by_cases hb:b=0
  ·subst hb;rw[mK (Or.inr rfl)];go_enter func219,ntmps219;go_wp2;go_ret;exact⟨rfl,rfl⟩
  ·have ha':(a==0)=false:=by simpa using ha
   have hb':(b==0)=false:=by simpa using hb
   by_cases h1:a<0
   ·by_cases h2:b<0
    ·rw[qF ha hb (by omega)];go_enter func219,ntmps219;go_wp2;go_ret;exact⟨rfl,rfl⟩
    ·rw[qG ha hb (by omega)];go_enter func219,ntmps219;go_wp2;go_ret;exact⟨rfl,rfl⟩
   ·by_cases h2:b<0
    ·rw[qG ha hb (by omega)];go_enter func219,ntmps219;go_wp2;go_ret;exact⟨rfl,rfl⟩
    ·rw[qF ha hb (by omega)];go_enter func219,ntmps219;go_wp2;go_ret;exact⟨rfl,rfl⟩
def ziN(V j:Nat):LV:=(List.range j).map λk=>.int .u64 (dg V k:Nat)
theorem jF(V j:Nat):ziN V (j+1)=ziN V j++[.int .u64 (dg V j:Nat)]:=by unfold ziN;rw[List.range_succ,List.map_append];rfl
theorem qnE{V j k:Nat}(h:k<j):(ziN V j)[k]? =some (.int .u64 (dg V k:Nat)):=by unfold ziN;simp[h]
theorem zjA:(prog.info? 200).map (λi=>(i.zero,i.size,i.bytes))=some (some (.int .u64 0),1,8):=by kernel_rfl
theorem qgV{w:World}{base V j:Nat}{A:OA}{c:Nat}{e:TypeId}(h:w.ownsRow base e 1 (.slice A j c) j (ziN V j)):zhX w w.heap.size A j V:=λhn=>by
 obtain⟨g,cap,hv,_,hlt⟩:=h.form hn;have hA:A=some ⟨g,0,none⟩:=by injection hv
 subst hA;refine⟨g,rfl,hlt,λk hk=> ?_⟩;have:=h.cells (g:=g) rfl k _ (qnE hk);rw[Go.WideShapes.add_plain]at this;simpa using this
theorem jM{w:World}{base:Nat}{e:TypeId}{size:Nat}{v:Value}{n:Nat}{xs:LV}(h:w.ownsRow base e size v n xs):∃a c,v=.slice a n c:=by
 rcases h.2 with⟨rfl,rfl⟩|⟨g,cap,cur,rfl,_⟩
 ·exact⟨none,0,rfl⟩
 ·exact⟨_,cap,rfl⟩
theorem qkC(V:Nat)(hV:V<18446744073709551616)(w:World):
 Calls prog 213 #[.int .u64 (V:Nat)] w (zhU V w):=by
 obtain⟨i0,hi,hz0,hz1,hz2⟩:=info_parts zjA;have hnd:nd V<=4:=xI (k:=4) (by show V<65536^4;omega);go_enter func213,ntmps213;go_wp2;go_loopw[0,3] (λnv lv wr=>∃(j x:Nat) (A:OA) (c:Nat),lv=.slice A j c/\j<=nd V/\nv=.int .u64 (x:Nat)/\x=V/P j/\x<18446744073709551616/\wr.ownsRow w.heap.size 200 1 lv j (ziN V j)/\Bw w wr) (λnv _ _=>(intOf nv).toNat)
 case atStart=>exact⟨0,V,none,0,rfl,Lq _,rfl,(pO V).symm,hV,World.ownsRow_nil _ _ _ _,Bf _ _⟩
 case round=>
  obtain⟨j,x,A,c,rfl,hj,rfl,hx,hx1,hown,hnx⟩:=hrel;have HX:=Hd hx;clear hx;have hsize:=hnx.size;by_cases hpos:0<x
  ·have hjn:j<nd V:=(xM j V).2 (by rw[<-HX.o];exact hpos);have hb:=qaT x hx1;have hd:Hid (x%65536=dg V j):=by unfold Hid dg;rw[HX.o]
   go_wp2_with(first
    |(at_builtin;refine wpList_append_own _ rfl (.tmp 6) (.tmp 9) 217 rfl w.heap.size 200 i0 (.int .u64 0) 1 8 underlying217 hi hz0 hz1 hz2 rfl (by decide) _ _ _ rfl (hown.alloc _) ⟨wr.heap.size,0,none⟩ 1 1 [.int .u64 ((x%65536:Nat):Int)] rfl rfl (cell_one_new _ _ _) (by intro u hu;simp at hu;subst hu;rfl) (by unfold maxLen;omega) (by omega) (by simp;omega) ?_;intro v1 w1 hown1 hgrow1 hnil1))
   obtain⟨A1,c1,rfl⟩:=jM hown1;go_roundw
   case rel=>exact⟨j+1,x/65536,A1,c1,rfl,hjn,by go_num,by rw[vB,HX.o],by omega,by rw[jF,<-hd.o];exact hown1,(hnx.alloc (by omega) _).grown hgrow1 (by simp;omega) (λj hj=>(hown.lt j hj).1)⟩
   case measure=>simp[intOf];omega
  ·have hjn:¬j<nd V:=λh=>hpos (by rw[HX.o];exact(xM j V).1 h);obtain rfl:j=nd V:=by omega
   go_wp2;go_ret;exact⟨A,nd V,c,rfl,⟨rfl,qgV hown⟩,hnx⟩
def lenV:Value->Nat
 | .slice _ n _=>n
 |_=>0
def zlF(V:Nat)(w:World)(B:Nat)(e:Ending)(w':World):Prop:=
 ∃(A:OA) (n c:Nat),e=.returned (.slice A n c)/\zgG w' B A n V/\w=w'
theorem qiB(V:Nat)(A:OA)(n c B:Nat)(w:World)(hr:zhX w B A n V)(hV:V<P n)(hc:n<=c)(hn:n<=1000):
 Calls prog 227 #[.slice A n c] w (zlF V w B):=by
 have HR:=Hd hr;clear hr;go_enter func227,ntmps227;go_wp2;go_loop[0] (λv=>∃m,v=.slice A m c/\m<=n/\V<P m) (λv=>lenV v)
 case atStart=>exact⟨n,rfl,Le _,hV⟩
 case round=>
  obtain⟨m,rfl,hm,hP⟩:=hrel;have HP:=Hd hP;clear hP;rcases m with _|k
  ·go_wp2;go_ret;have h0:V=0:=by have:=HP.o;rw[vM]at this;omega
   exact⟨A,0,c,rfl,⟨by rw[h0,yY],λh=>absurd h (by omega)⟩,rfl⟩
  ·obtain⟨b,rfl,hb,hcell⟩:=HR.o (by omega);have hk:=hcell k (by omega);have HC:=Hd hcell;clear hcell;have hlt:=lW V k;by_cases hd:dg V k=0
   ·have hd':((dg V k:Int)==0)=true:=by simp;omega
    have HD:=Hd hd;clear hd;go_wp2;go_round
    case rel=>exact⟨k,rfl,by omega,qjY HP.o HD.o⟩
    case measure=>simp[lenV]
   ·have hd':((dg V k:Int)==0)=false:=by simp;omega
    have HD:=Hd hd;clear hd;go_wp2;go_ret;exact⟨_,k+1,c,rfl,⟨(qjS HP.o HD.o).symm,λ_=>⟨b,rfl,hb,λj hj=>HC.o j (by omega)⟩⟩,rfl⟩
theorem qrY(N M:Nat)(A A':OA)(n n' c c' B:Nat)(w:World)(h1:zgG w B A n N)(h2:zgG w B A' n' M)(hB:B<=w.heap.size)(hn:n<=1000)(hn':n'<=1000):
 Calls prog 215 #[.slice A n c,.slice A' n' c'] w λe w'=>e=.returned (.int .i64 (zfG N M))/\Bw w w':=by
 obtain⟨e1,hr1⟩:=h1;obtain⟨e2,hr2⟩:=h2;have HR1:=Hd hr1;clear hr1;have HR2:=Hd hr2;clear hr2;by_cases hlt:n<n'
 ·rw[sO (qcL (by omega))];go_enter func215,ntmps215;go_wp2;go_ret;exact⟨rfl,Bf _ _⟩
 by_cases hgt:n'<n
 ·rw[mU (qcL (by omega))];go_enter func215,ntmps215;go_wp2;go_ret;exact⟨rfl,Bf _ _⟩
 obtain rfl:n'=n:=by omega
 have HE1:=Hd e1;clear e1;have HE2:=Hd e2;clear e2;go_enter func215,ntmps215;go_wp2;go_loopw[5] (λv wr=>∃(k:Nat) (z:Int),k<=n'/\v=.int .i64 z/\z+1=k/\N/P k=M/P k/\Bw w wr) (λv _=>(intOf v+1).toNat)
 case atStart=>exact⟨n',_,Le _,rfl,by omega,by rw[dR (V:=N) (HE1.o▸eR N),dR (V:=M) (HE2.o▸eR M)],Bf _ _⟩
 case round=>
  obtain⟨k,z,hk,rfl,hz,hq,hnx⟩:=hrel;have HQ:=Hd hq;clear hq;by_cases hk0:k=0
  ·subst hk0;obtain rfl:z= -1:=by omega
   go_wp2;go_ret;have:=HQ.o;rw[pO,pO]at this;exact⟨by rw[sP this];rfl,hnx⟩
  ·obtain⟨j,rfl⟩:∃j,k=j+1:=⟨k-1,by omega⟩;obtain rfl:z=(j:Int):=by omega
   obtain⟨b,rfl,hb,hcell⟩:=HR1.o (by omega);obtain⟨b',rfl,hb',hcell'⟩:=HR2.o (by omega);have h1:=(hnx.cel b j (by show b<_;omega)).trans (hcell j (by omega));have h2:=(hnx.cel b' j (by show b'<_;omega)).trans (hcell' j (by omega));have i1:(0:Int)<=(j:Int):=by omega
   have i2:(j:Int)<(n':Int):=by omega
   clear hcell hcell';have l1:=lW N j;have l2:=lW M j;have HCA:=Hd (zaA HQ.o);by_cases c1:dg N j<dg M j
   ·have h3:=Hd (sO (HCA.o.1 c1));go_wp2;go_quiet(fail);go_wp2;go_ret;exact⟨by rw[h3.o];rfl,aA hnx _⟩
   ·by_cases c2:dg M j<dg N j
    ·have h3:=Hd (mU (HCA.o.2.1 c2));go_wp2;go_quiet(fail);go_wp2;go_quiet(fail);go_wp2;go_ret;exact⟨by rw[h3.o];rfl,aA (aA hnx _) _⟩
    ·have c3:=Hd (HCA.o.2.2 (by omega));go_wp2;go_quiet(fail);go_wp2;go_quiet(fail);go_wp2;go_roundw
     case rel=>exact⟨j,(j:Int)-1,by omega,by go_num,by omega,c3.o,aA hnx _⟩
     case measure=>simp[intOf]
def zhL(w:World)(B g n V:Nat):Prop:=
 B<=g/\g<w.heap.size/\∀k,k<n->w.cell? ⟨g,k,none⟩=some (.int .u64 (dg V k:Nat))/\w.frozen? ⟨g,k,none⟩=false
theorem zhL.drew{w:World}{B g n V:Nat}(h:zhL w B g n V)(k:Nat):zhL (w.drewN k) B g n V:=h
theorem zhL.set_{w:World}{B g n V j d:Nat}(h:zhL w B g n V)(hj:j<n)(hd:d<65536):zhL (w.setCell ⟨g,j,none⟩ (.int .u64 (d:Nat))) B g n (zfX V j d):=by
 obtain⟨h1,h2,h3⟩:=h;refine⟨h1,by simpa[World.setCell]using h2,λk hk=>⟨?_,by rw[World.frozen?_setCell];exact(h3 k hk).2⟩⟩;by_cases e:k=j
 ·subst e;rw[qtM hd];exact World.cell?_setCell_same _ _ _ (h3 k hk).1
 ·rw[qeN hd e,World.cell?_setCell_other _ _ _ _ (by intro h;first|exact e (congrArg Addr.off h)|exact e (congrArg Addr.off h).symm)];exact(h3 k hk).1
theorem zhL.row{w:World}{B g n V:Nat}(h:zhL w B g n V):zhX w w.heap.size (some ⟨g,0,none⟩) n V:=λ_=>⟨g,rfl,h.2.1,λk hk=>(h.2.2 k hk).1⟩
theorem qvO(k:Nat):dg 0 k=0:=by unfold dg;simp
theorem zF{w:World}{base:Nat}{e:TypeId}{g n:Nat}(h:w.ownsRow base e 1 (.slice (some ⟨g,0,none⟩) n n) n (madeCells (Value.int .u64 0).cells (n*1)).toList):zhL w base g n 0:=by
 rcases h.2 with⟨h1,_⟩|⟨g',cap,cur,hv,hb,hg,hnc,hm,hcs,hxs⟩
 ·cases h1
 ·obtain⟨rfl,rfl⟩:g'=g/\cap=n:=by simpa[eq_comm]using hv
  refine⟨hb,?_,λk hk=>⟨?_,by simp[World.frozen?,hg]⟩⟩
  ·exact Nat.lt_of_not_le λhh=>by rw[Array.getElem?_eq_none hh]at hg;cases hg
  ·have:=h.cells (g:=g') rfl k (.int .u64 0) (by show(madeCells #[Value.int .u64 0] _).toList[k]? =_;rw[toList_madeCells_one];rw[List.getElem?_replicate,Ip (by omega)]);rw[Go.WideShapes.add_plain]at this;rw[qvO];simpa using this
theorem qoL(N M:Nat)(A A':OA)(n m c c' B:Nat)(w:World)(h1:zgG w B A n N)(h2:zgG w B A' m M)(hB:B<=w.heap.size)(hn:n<=100)(hm:m<=100):
 Calls prog 216 #[.slice A n c,.slice A' m c'] w (zhU (N*M) w):=by
 obtain⟨i0,hi,hz0,hz1,hz2⟩:=info_parts zjA;obtain⟨e1,hr1⟩:=h1;obtain⟨e2,hr2⟩:=h2;have HR1:=Hd hr1;clear hr1;have HR2:=Hd hr2;clear hr2;have hNP:Hid (N<P n):=by unfold Hid;rw[e1];exact eR N
 have hMP:Hid (M<P m):=by unfold Hid;rw[e2];exact eR M
 clear e1 e2;go_enter func216,ntmps216;go_wp2_with(at_make;refine wpList_make_full _ rfl _ _ 217 rfl w.heap.size 200 i0 (.int .u64 0) 1 underlying217 hi hz0 hz1 .i64 .i64 _ _ (n+m) rfl rfl (by omega) (by omega) (by rw[hz2];omega) (by unfold maxLen;omega) (Le _) ?_;intro w0 hown0 hgrow0);have hb0:Bw w w0:=(Bf _ _).grown hgrow0 (Le _) (by simp);have hm0:=Hd (zF hown0);clear hown0 hgrow0;go_loopw[6] (λiv wr=>∃i V:Nat,iv=.int .i64 (i:Nat)/\i<=n/\V=(N%P i)*M/\zhL wr w.heap.size w.heap.size (n+m) V/\Bw w wr) (λiv _=>n-(intOf iv).toNat)
 case atStart=>exact⟨0,0,rfl,Lq _,by rw[vM,Nat.mod_one,Nat.zero_mul],hm0.o,hb0⟩
 case round=>
  obtain⟨i,V,rfl,hin,hV,hmine,hnx⟩:=hrel;clear hm0 hb0;have HM:=Hd hmine;clear hmine;by_cases hlt:i<n
  ·have HV:Hid (V<P (i+m)):=by unfold Hid;rw[hV];exact qxB hMP.o
   have HVe:=Hd hV;clear hV;obtain⟨b,rfl,hb,hcell⟩:=HR1.o (by omega);have hci:=(hnx.cel b i (by show b<_;omega)).trans (hcell i hlt);have HC:=Hd hcell;clear hcell;have hyl:=lW N i;go_wp2;go_loopw[7,8] (λcv kv wq=>∃k c V':Nat,cv=.int .u64 (c:Nat)/\kv=.int .i64 (k:Nat)/\k<=m/\c<65536/\V'+c*P (i+k)=V+dg N i*P i*(M%P k)/\V'<P (i+m)/\zhL wq w.heap.size w.heap.size (n+m) V'/\Bw w wq) (λ_ kv _=>m-(intOf kv).toNat)
   case atStart=>exact⟨0,0,V,rfl,rfl,Lq _,by omega,by rw[vM,Nat.mod_one];simp,HV.o,HM.o,hnx⟩
   case round=>
    obtain⟨k,c,V',rfl,rfl,hkm,hc,hE,hV',hmine',hnx'⟩:=hrel;have HE:=Hd hE;clear hE;have HV':=Hd hV';clear hV';have HM':=Hd hmine';clear hmine';by_cases hk:k<m
    ·obtain⟨b',rfl,hb',hcell'⟩:=HR2.o (by omega);have c1:=(hnx'.cel b i (by show b<_;omega)).trans (HC.o i hlt);have c2:=(hnx'.cel b' k (by show b'<_;omega)).trans (hcell' k hk);obtain⟨c3,c4⟩:=HM'.o.2.2 (i+k) (by omega);clear hcell';obtain⟨v,hv⟩:∃v,v=dg V' (i+k)+dg N i*dg M k+c:=⟨_,rfl⟩;have HS:=Hd (qoJ HE.o hv);have hfit:=qoK (lW V' (i+k)) (lW N i) (lW M k) hc;have hbit:=qaT v (by omega);have hx0:=lW V' (i+k);have p0:(0:Int)<=(dg N i:Int)*(dg M k:Int):=by omega
     have p1:(dg N i:Int)*(dg M k:Int)<=4294836225:=by omega
     have hv':(v:Int)=(dg V' (i+k):Int)+(dg N i:Int)*(dg M k:Int)+(c:Int):=by rw[hv];push_cast;rfl
     have j1:(0:Int)<=(i:Int)+(k:Int):=by omega
     have j2:(i:Int)+(k:Int)<(n:Int)+(m:Int):=by omega
     have j3:(i:Int)<(n:Int):=by omega
     have j4:(k:Int)<(m:Int):=by omega
     rw[hv']at hbit;have HVN:=Hd hv;clear hv HC;go_wp2;go_quiet(fail);go_wp2;go_roundw
     case rel=>exact⟨k+1,v/65536,zfX V' (i+k) (v%65536),by go_num,by go_num,by omega,by omega,HS.o,qtK (Nat.mod_lt _ (by decide)) (by omega) HV'.o,by rw[show((dg V' (i+k):Int)+(dg N i:Int)*(dg M k:Int)+(c:Int))%65536=((v%65536:Nat):Int)from by omega];exact zhL.set_ (HM'.o.drew _) (by omega) (Nat.mod_lt _ (by decide)),(aA hnx' _).setCell (Le _) _⟩
     case measure=>simp[intOf];omega
    ·obtain rfl:k=m:=by omega
     have hrow:=quJ (by rw[HE.o,HVe.o]) hMP.o HV'.o;have hd0:=hrow.1;have HS:=Hd hrow.2;clear hrow;obtain⟨c3,c4⟩:=HM'.o.2.2 (i+k) (by omega);rw[hd0]at c3;have j1:(0:Int)<=(i:Int)+(k:Int):=by omega
     have j2:(i:Int)+(k:Int)<(n:Int)+(k:Int):=by omega
     go_wp2;go_roundw
     case rel=>exact⟨i+1,zfX V' (i+k) c,by go_num,by omega,HS.o,HM'.o.set_ (by omega) hc,hnx'.setCell (Le _) _⟩
     case measure=>simp[intOf];omega
  ·obtain rfl:i=n:=by omega
   rw[Nat.mod_eq_of_lt hNP.o]at hV;have hlt:V<P (i+m):=by rw[hV,rT];exact Nat.mul_lt_mul'' hNP.o hMP.o
   have HVe:=Hd hV;clear hV;have HVl:=Hd hlt;clear hlt;go_wp2_with(go_at_call 227;refine(qiB V _ _ _ wr.heap.size _ HM.o.row HVl.o (Le _) (by omega)).mono ?_;rintro e w' ⟨A1,n1,c1,rfl,hnums,rfl⟩;have HN:=Hd hnums;clear hnums);go_ret;rw[<-HVe.o];exact⟨A1,n1,c1,rfl,HN.o,hnx⟩
theorem quH{w:World}{base:Nat}{e:TypeId}{n cap:Nat}{A:OA}{xs:LV}(h:w.ownsRow base e 1 (.slice A n cap) n xs):n<=cap:=by
 rcases h.2 with⟨h1,h2⟩|⟨g',cap',cur,hv,hb,hg,hnc,_⟩
 ·omega
 ·obtain⟨_,rfl⟩:A=some ⟨g',0,none⟩/\cap=cap':=by simpa using hv
  exact hnc
theorem oV{w:World}{base:Nat}{e:TypeId}{v:Value}{n:Nat}{xs:LV}{a b:Int}(h:w.ownsRow base e 1 v n (xs++[.int .u64 a]))(hab:a=b):w.ownsRow base e 1 v n (xs++[.int .u64 b]):=hab▸h
theorem qsM(N M:Nat)(A A':OA)(n m c c' B:Nat)(w:World)(h1:zgG w B A n N)(h2:zgG w B A' m M)(hB:B<=w.heap.size)(hn:n<=100)(hm:m<=100):
 Calls prog 217 #[.slice A n c,.slice A' m c'] w (zhU (N+M) w):=by
 obtain⟨i0,hi,hz0,hz1,hz2⟩:=info_parts zjA;obtain⟨e1,hr1⟩:=h1;obtain⟨e2,hr2⟩:=h2;have HR1:=Hd hr1;clear hr1;have HR2:=Hd hr2;clear hr2;have hNP:Hid (N<P n):=by unfold Hid;rw[e1];exact eR N
 have hMP:Hid (M<P m):=by unfold Hid;rw[e2];exact eR M
 clear e1 e2;go_enter func217,ntmps217;go_wp2;go_loopw[5,6,7] (λlv cv iv wr=>∃(i k:Nat) (C:OA) (cap:Nat),lv=.slice C i cap/\cv=.int .u64 (k:Nat)/\iv=.int .i64 (i:Nat)/\i<=101/\N/P i+M/P i+k=(N+M)/P i/\wr.ownsRow w.heap.size 200 1 (.slice C i cap) i (ziN (N+M) i)/\Bw w wr) (λ_ _ iv _=>102-(intOf iv).toNat)
 case atStart=>exact⟨0,0,none,0,rfl,rfl,rfl,Lq _,by rw[vM];simp,World.ownsRow_nil _ _ _ _,Bf _ _⟩
 case round=>
  obtain⟨i,k,C,cap,rfl,rfl,rfl,hi1,hE,hown,hnx⟩:=hrel;have hk1:=qlO hE;have HS:=Hd (qsL hE);have HE:=Hd hE;clear hE;have hsize:=hnx.size;obtain⟨v,hv⟩:∃v,v=k+dg N i+dg M i:=⟨_,rfl⟩;rw[<-hv]at HS;have d1:=lW N i;have d2:=lW M i;have hbit:=qaT v (by omega);by_cases a1:i<n
  ·by_cases a2:i<m
   ·obtain⟨b,rfl,hb,hcell⟩:=HR1.o (by omega);have c3:=(hnx.cel b i (by show b<_;omega)).trans (hcell i (by omega));clear hcell;obtain⟨b',rfl,hb',hcell'⟩:=HR2.o (by omega);have c4:=(hnx.cel b' i (by show b'<_;omega)).trans (hcell' i (by omega));clear hcell';have hv':(v:Int)=(k:Int)+(dg N i:Int)+(dg M i:Int):=by omega
    rw[hv']at hbit;clear hv;go_wp2_with(first|(at_builtin;refine wpList_append_own _ rfl (.tmp 46) (.tmp 49) 217 rfl w.heap.size 200 i0 (.int .u64 0) 1 8 underlying217 hi hz0 hz1 hz2 rfl (by decide) _ _ _ rfl (hown.alloc _) ⟨wr.heap.size,0,none⟩ 1 1 [.int .u64 _] rfl rfl (cell_one_new _ _ _) (by intro u hu;simp at hu;subst hu;rfl) (by unfold maxLen;omega) (by omega) (by simp;omega) ?_;intro v1 w1 hown1 hgrow1 hnil1));obtain⟨A1,c1,rfl⟩:=jM hown1;go_roundw
    case rel=>exact⟨i+1,v/65536,A1,c1,rfl,by go_num,by go_num,by omega,HS.o.2,by rw[jF,<-HS.o.1];exact oV hown1 (by omega),(hnx.alloc (by omega) _).grown hgrow1 (by simp;omega) (λj hj=>(hown.lt j hj).1)⟩
    case measure=>simp[intOf];omega
   ·have z2:dg M i=0:=sN hMP.o (by omega);obtain⟨b,rfl,hb,hcell⟩:=HR1.o (by omega);have c3:=(hnx.cel b i (by show b<_;omega)).trans (hcell i (by omega));clear hcell;have hv':(v:Int)=(k:Int)+(dg N i:Int):=by omega
    rw[hv']at hbit;clear hv;go_wp2_with(first|(at_builtin;refine wpList_append_own _ rfl (.tmp 46) (.tmp 49) 217 rfl w.heap.size 200 i0 (.int .u64 0) 1 8 underlying217 hi hz0 hz1 hz2 rfl (by decide) _ _ _ rfl (hown.alloc _) ⟨wr.heap.size,0,none⟩ 1 1 [.int .u64 _] rfl rfl (cell_one_new _ _ _) (by intro u hu;simp at hu;subst hu;rfl) (by unfold maxLen;omega) (by omega) (by simp;omega) ?_;intro v1 w1 hown1 hgrow1 hnil1));obtain⟨A1,c1,rfl⟩:=jM hown1;go_roundw
    case rel=>exact⟨i+1,v/65536,A1,c1,rfl,by go_num,by go_num,by omega,HS.o.2,by rw[jF,<-HS.o.1];exact oV hown1 (by omega),(hnx.alloc (by omega) _).grown hgrow1 (by simp;omega) (λj hj=>(hown.lt j hj).1)⟩
    case measure=>simp[intOf];omega
  ·have z1:dg N i=0:=sN hNP.o (by omega);by_cases a2:i<m
   ·obtain⟨b',rfl,hb',hcell'⟩:=HR2.o (by omega);have c4:=(hnx.cel b' i (by show b'<_;omega)).trans (hcell' i (by omega));clear hcell';have hv':(v:Int)=(k:Int)+(dg M i:Int):=by omega
    rw[hv']at hbit;clear hv;go_wp2_with(first|(at_builtin;refine wpList_append_own _ rfl (.tmp 46) (.tmp 49) 217 rfl w.heap.size 200 i0 (.int .u64 0) 1 8 underlying217 hi hz0 hz1 hz2 rfl (by decide) _ _ _ rfl (hown.alloc _) ⟨wr.heap.size,0,none⟩ 1 1 [.int .u64 _] rfl rfl (cell_one_new _ _ _) (by intro u hu;simp at hu;subst hu;rfl) (by unfold maxLen;omega) (by omega) (by simp;omega) ?_;intro v1 w1 hown1 hgrow1 hnil1));obtain⟨A1,c1,rfl⟩:=jM hown1;go_roundw
    case rel=>exact⟨i+1,v/65536,A1,c1,rfl,by go_num,by go_num,by omega,HS.o.2,by rw[jF,<-HS.o.1];exact oV hown1 (by omega),(hnx.alloc (by omega) _).grown hgrow1 (by simp;omega) (λj hj=>(hown.lt j hj).1)⟩
    case measure=>simp[intOf];omega
   ·have z2:dg M i=0:=sN hMP.o (by omega);by_cases a3:0<k
    ·have hi2:i<=100:=Nat.le_of_not_lt λhh=>by
      have e0:i=101:=by omega
      subst e0;have h3:=HE.o;rw[dR (Lt hNP.o (kY (by omega))),dR (Lt hMP.o (kY (by omega)))]at h3;have h4:N+M<P 101:=by
       have h5:=Lt hNP.o (kY hn);have h6:=Lt hMP.o (kY hm);have h7:P 101=P 100*65536:=iX 100;omega
      rw[dR h4]at h3;omega
     have hv':(v:Int)=(k:Int):=by omega
     rw[hv']at hbit;clear hv;go_wp2_with(first|(at_builtin;refine wpList_append_own _ rfl (.tmp 46) (.tmp 49) 217 rfl w.heap.size 200 i0 (.int .u64 0) 1 8 underlying217 hi hz0 hz1 hz2 rfl (by decide) _ _ _ rfl (hown.alloc _) ⟨wr.heap.size,0,none⟩ 1 1 [.int .u64 _] rfl rfl (cell_one_new _ _ _) (by intro u hu;simp at hu;subst hu;rfl) (by unfold maxLen;omega) (by omega) (by simp;omega) ?_;intro v1 w1 hown1 hgrow1 hnil1));obtain⟨A1,c1,rfl⟩:=jM hown1;go_roundw
     case rel=>exact⟨i+1,v/65536,A1,c1,rfl,by go_num,by go_num,by omega,HS.o.2,by rw[jF,<-HS.o.1];exact oV hown1 (by omega),(hnx.alloc (by omega) _).grown hgrow1 (by simp;omega) (λj hj=>(hown.lt j hj).1)⟩
     case measure=>simp[intOf];omega
    ·have h3:(N+M)/P i=0:=by
      have h3:=HE.o;rw[dR (Lt hNP.o (kY (by omega))),dR (Lt hMP.o (kY (by omega)))]at h3;omega
     have HL:=Hd (quO h3);have hcap:=quH hown;have HO:=Hd (qgV hown);clear h3;go_wp2_with(go_at_call 227;refine(qiB (N+M) _ _ _ wr.heap.size _ HO.o HL.o (by omega) (by omega)).mono ?_;rintro e w' ⟨A1,n1,c1,rfl,hnums,rfl⟩;have HN:=Hd hnums;clear hnums);go_ret;exact⟨A1,n1,c1,rfl,HN.o,hnx⟩
theorem qxX(N M:Nat):nd (N*M)<=nd N+nd M:=xI (by rw[rT];exact Nat.mul_lt_mul'' (eR N) (eR M))
theorem qxY(N M:Nat):nd (N+M)<=nd N+nd M+1:=by
 refine xI ?_;have h1:=Lt (eR N) (kY (show nd N<=nd N+nd M by omega));have h2:=Lt (eR M) (kY (show nd M<=nd N+nd M by omega));rw[iX];omega
abbrev Ent:=OA×Nat×Nat×Nat
def zfC(w:World)(l:List Ent):Prop:=∀t∈l,zgG w w.heap.size t.1 t.2.1 t.2.2.1/\t.2.1<=t.2.2.2
theorem zfC.below{w w':World}{l:List Ent}(h:zfC w l)(hb:Bw w w'):zfC w' l:=λt ht=>
 ⟨((h t ht).1.below hb (Le _)).more hb.size,(h t ht).2⟩
theorem zfC.tail{w:World}{l:List Ent}{t:Ent}(h:zfC w (t::l)):zfC w l:=λu hu=>h u (.tail _ hu)
theorem zfC.more{w w':World}{l:List Ent}{A:OA}{n V k:Nat}(h:zfC w l)(hn:zgG w' w'.heap.size A n V)(hk:n<=k)(hb:Bw w w'):zfC w' ((A,n,V,k)::l):=λu hu=>by
 rcases List.mem_cons.1 hu with rfl|hu
 ·exact⟨hn,hk⟩
 ·exact h.below hb u hu
def zgZ(V k:Nat)(l:List Ent)(w:World)(e:Ending)(w':World):Prop:=
 ∃(A:OA) (n c:Nat),e=.returned (.slice A n c)/\zfC w' ((A,n,V,k)::l)/\Bw w w'
theorem bI(V:Nat)(hV:V<18446744073709551616)(w:World)(l:List Ent)(hl:zfC w l):
 Calls prog 213 #[.int .u64 (V:Nat)] w (zgZ V 4 l w):=
 (qkC V hV w).mono λe w' ⟨A,n,c,he,hn,hb⟩=>⟨A,n,c,he,hl.more hn (by rw[hn.1];exact xI (k:=4) (by show V<65536^4;omega)) hb,hb⟩
theorem eN(w:World)(l:List Ent)(hl:zfC w l){A A':OA}{n m c c' N M a b:Nat}(h1:(A,n,N,a)∈l)(h2:(A',m,M,b)∈l)(ha:a<=100)(hb:b<=100):
 Calls prog 216 #[.slice A n c,.slice A' m c'] w (zgZ (N*M) (a+b) l w):=by
 obtain⟨p1,p2⟩:=hl _ h1;obtain⟨q1,q2⟩:=hl _ h2;simp only at p1 p2 q1 q2;exact(qoL N M A A' n m c c' w.heap.size w p1 q1 (Le _) (by omega) (by omega)).mono λe w' ⟨A1,n1,c1,he,hn,hb⟩=>⟨A1,n1,c1,he,hl.more hn (by have:=qxX N M;have:=hn.1;have:=p1.1;have:=q1.1;omega) hb,hb⟩
theorem vL(w:World)(l:List Ent)(hl:zfC w l){A A':OA}{n m c c' N M a b:Nat}(h1:(A,n,N,a)∈l)(h2:(A',m,M,b)∈l)(ha:a<=100)(hb:b<=100):
 Calls prog 217 #[.slice A n c,.slice A' m c'] w (zgZ (N+M) (a+b+1) l w):=by
 obtain⟨p1,p2⟩:=hl _ h1;obtain⟨q1,q2⟩:=hl _ h2;simp only at p1 p2 q1 q2;exact(qsM N M A A' n m c c' w.heap.size w p1 q1 (Le _) (by omega) (by omega)).mono λe w' ⟨A1,n1,c1,he,hn,hb⟩=>⟨A1,n1,c1,he,hl.more hn (by have:=qxY N M;have:=hn.1;have:=p1.1;have:=q1.1;omega) hb,hb⟩
theorem eO(w:World)(l:List Ent)(hl:zfC w l){A A':OA}{n m c c' N M a b:Nat}(h1:(A,n,N,a)∈l)(h2:(A',m,M,b)∈l)(ha:a<=100)(hb:b<=100):
 Calls prog 215 #[.slice A n c,.slice A' m c'] w λe w'=>e=.returned (.int .i64 (zfG N M))/\zfC w' l/\Bw w w':=by
 obtain⟨p1,p2⟩:=hl _ h1;obtain⟨q1,q2⟩:=hl _ h2;simp only at p1 p2 q1 q2;exact(qrY N M A A' n m c c' w.heap.size w p1 q1 (Le _) (by omega) (by omega)).mono λe w' ⟨he,hb⟩=>⟨he,hl.below hb,hb⟩
theorem oT(a b:Int)(ha1: -9223372036854775808<=a)(ha2:a<=9223372036854775807)(hb1: -9223372036854775808<=b)(hb2:b<=9223372036854775807)(w:World)(l:List Ent)(hl:zfC w l):
 Calls prog 212 #[.int .i64 a,.int .i64 b] w (zgZ (a.natAbs*b.natAbs) 8 l w):=by
 have HS:=Hd hl;clear hl;have HB:Hid (Bw w w):=Bf _ _;have tok1:=trivial;have tok2:=trivial;go_enter func212,ntmps212;go_wp2_with(first
  |(go_at_call 214;refine mo0 (qhI _ (by omega) (by omega) _) ?_)
  |(go_at_call 213;clear tok1;refine(bI a.natAbs (by omega) _ _ HS.o).mono ?_;rintro e w1 ⟨A1,n1,c1,rfl,hs,hb⟩;have HN:=Hd (below2 HB.o hb);clear HB hb HS;have HB:=Hd HN.o;have HS:=Hd hs;clear HN hs)
  |(go_at_call 213;clear tok2;refine(bI b.natAbs (by omega) _ _ HS.o).mono ?_;rintro e w1 ⟨A2,n2,c2,rfl,hs,hb⟩;have HN:=Hd (below2 HB.o hb);clear HB hb HS;have HB:=Hd HN.o;have HS:=Hd hs;clear HN hs)
  |(go_at_call 216;refine(eN _ _ HS.o (.tail _ (.head _)) (.head _) (by decide) (by decide)).mono ?_;rintro e w1 ⟨A3,n3,c3,rfl,hs,hb⟩;have HN:=Hd (below2 HB.o hb);clear HB hb HS;have HB:=Hd HN.o;have HS:=Hd hs;clear HN hs))
 go_ret;exact⟨A3,n3,c3,rfl,λu hu=>by
  rcases List.mem_cons.1 hu with rfl|hu
  ·exact HS.o _ (.head _)
  ·exact HS.o _ (.tail _ (.tail _ (.tail _ hu))),HB.o⟩
theorem dP{n:Int}(h:n<=9223372036854775808):zbE n true=(-n,true):=by unfold zbE;simp[h]
theorem kK{n:Int}(h:n<9223372036854775808):zbE n false=(n,true):=by unfold zbE;simp[h]
theorem bR{n:Int}{b:Bool}(h:9223372036854775808<n):zbE n b=(0,false):=by unfold zbE;cases b<;>simp<;>omega
theorem gV{n:Int}(h:9223372036854775808<=n):zbE n false=(0,false):=by unfold zbE;simp;omega
theorem zgU{a b:Int}{c:Bool}(h:a=b):Ending.returned (.tuple #[.int .i64 a,.bool c])=.returned (.tuple #[.int .i64 b,.bool c]):=by rw[h]
def zeP(q:Int)(g neg:Bool):Int×Bool:=zbE (q+(if g then 1 else 0)) neg
theorem qnL{q:Int}{g neg:Bool}(h:9223372036854775808<q):zeP q g neg=(0,false):=by unfold zeP;cases g<;>exact bR (by simp;omega)
theorem iU(q:Int)(neg:Bool):zeP q false neg=zbE q neg:=by unfold zeP;simp
theorem tQ(q:Int)(neg:Bool):zeP q true neg=zbE (q+1) neg:=by unfold zeP;simp
theorem rK(neg exact':Bool)(q hf mode:Int)(h0:0<=q)(h1:q<=18446744073709551615)(hm0:0<=mode)(hm1:mode<=2)(w:World):
 Calls prog 218 #[.bool neg,.int .u64 q,.bool exact',.int .i64 hf,.int .i64 mode] w λe w'=>
  e=.returned (.tuple #[.int .i64 (zeP q (grw mode hf (!exact') neg) neg).1,.bool (zeP q (grw mode hf (!exact') neg) neg).2])/\w=w':=by
 have hm:mode=0\/mode=1\/mode=2:=by omega
 have hc:hf=0\/0<hf\/hf<0:=by omega
 rcases hm with rfl|rfl|rfl
 ·cases neg
  ·cases exact'
   ·skip
    have hR:Hid (zeP q (grw 0 hf (!false) false) false=zbE (q) false):=by unfold Hid;rw[show grw 0 hf (!false) false=false from by unfold grw;simp<;>omega,iU]
    by_cases k1:9223372036854775808<q
    ·have hS:Hid (zbE (q) false=(0,false)):=bR (by omega);rw[hR.o,hS.o];go_enter func218,ntmps218;go_wp2;go_ret2;exact⟨rfl,rfl⟩
    ·by_cases k2:9223372036854775807<q
     ·have hS:Hid (zbE (q) false=(0,false)):=gV (by omega);rw[hR.o,hS.o];go_enter func218,ntmps218;go_wp2;go_ret2;exact⟨rfl,rfl⟩
     ·have hS:Hid (zbE (q) false=(q,true)):=kK (by omega);rw[hR.o,hS.o];go_enter func218,ntmps218;go_wp2;go_ret2;exact⟨zgU (by omega),rfl⟩
   ·skip
    have hR:Hid (zeP q (grw 0 hf (!true) false) false=zbE (q) false):=by unfold Hid;rw[show grw 0 hf (!true) false=false from by unfold grw;simp<;>omega,iU]
    by_cases k1:9223372036854775808<q
    ·have hS:Hid (zbE (q) false=(0,false)):=bR (by omega);rw[hR.o,hS.o];go_enter func218,ntmps218;go_wp2;go_ret2;exact⟨rfl,rfl⟩
    ·by_cases k2:9223372036854775807<q
     ·have hS:Hid (zbE (q) false=(0,false)):=gV (by omega);rw[hR.o,hS.o];go_enter func218,ntmps218;go_wp2;go_ret2;exact⟨rfl,rfl⟩
     ·have hS:Hid (zbE (q) false=(q,true)):=kK (by omega);rw[hR.o,hS.o];go_enter func218,ntmps218;go_wp2;go_ret2;exact⟨zgU (by omega),rfl⟩
  ·cases exact'
   ·skip
    have hR:Hid (zeP q (grw 0 hf (!false) true) true=zbE (q+1) true):=by unfold Hid;rw[show grw 0 hf (!false) true=true from by unfold grw;simp<;>omega,tQ]
    by_cases k1:9223372036854775808<q
    ·have hS:Hid (zbE (q+1) true=(0,false)):=bR (by omega);rw[hR.o,hS.o];go_enter func218,ntmps218;go_wp2;go_ret2;exact⟨rfl,rfl⟩
    ·by_cases k2:9223372036854775808<q+1
     ·have hS:Hid (zbE (q+1) true=(0,false)):=bR (by omega);rw[hR.o,hS.o];go_enter func218,ntmps218;go_wp2;go_ret2;exact⟨rfl,rfl⟩
     ·have hS:Hid (zbE (q+1) true=(-(q+1),true)):=dP (by omega);have hz:((q+1:Int)==0)=false:=by simp;omega
      rw[hR.o,hS.o];go_enter func218,ntmps218;go_wp2;go_ret2;exact⟨zgU (by omega),rfl⟩
   ·skip
    have hR:Hid (zeP q (grw 0 hf (!true) true) true=zbE (q) true):=by unfold Hid;rw[show grw 0 hf (!true) true=false from by unfold grw;simp<;>omega,iU]
    by_cases k1:9223372036854775808<q
    ·have hS:Hid (zbE (q) true=(0,false)):=bR (by omega);rw[hR.o,hS.o];go_enter func218,ntmps218;go_wp2;go_ret2;exact⟨rfl,rfl⟩
    ·by_cases k2:q=0
     ·subst k2;have hS:Hid (zbE 0 true=(-0,true)):=dP (by omega);rw[hR.o,hS.o];go_enter func218,ntmps218;go_wp2;go_ret2;exact⟨rfl,rfl⟩
     ·have hS:Hid (zbE q true=(-q,true)):=dP (by omega);have hz:(q==0)=false:=by simpa using k2
      rw[hR.o,hS.o];go_enter func218,ntmps218;go_wp2;go_ret2;exact⟨zgU (by omega),rfl⟩
 ·cases neg
  ·cases exact'
   ·skip
    have hR:Hid (zeP q (grw 1 hf (!false) false) false=zbE (q+1) false):=by unfold Hid;rw[show grw 1 hf (!false) false=true from by unfold grw;simp<;>omega,tQ]
    by_cases k1:9223372036854775808<q
    ·have hS:Hid (zbE (q+1) false=(0,false)):=bR (by omega);rw[hR.o,hS.o];go_enter func218,ntmps218;go_wp2;go_ret2;exact⟨rfl,rfl⟩
    ·by_cases k2:9223372036854775807<q+1
     ·have hS:Hid (zbE (q+1) false=(0,false)):=gV (by omega);rw[hR.o,hS.o];go_enter func218,ntmps218;go_wp2;go_ret2;exact⟨rfl,rfl⟩
     ·have hS:Hid (zbE (q+1) false=(q+1,true)):=kK (by omega);rw[hR.o,hS.o];go_enter func218,ntmps218;go_wp2;go_ret2;exact⟨zgU (by omega),rfl⟩
   ·skip
    have hR:Hid (zeP q (grw 1 hf (!true) false) false=zbE (q) false):=by unfold Hid;rw[show grw 1 hf (!true) false=false from by unfold grw;simp<;>omega,iU]
    by_cases k1:9223372036854775808<q
    ·have hS:Hid (zbE (q) false=(0,false)):=bR (by omega);rw[hR.o,hS.o];go_enter func218,ntmps218;go_wp2;go_ret2;exact⟨rfl,rfl⟩
    ·by_cases k2:9223372036854775807<q
     ·have hS:Hid (zbE (q) false=(0,false)):=gV (by omega);rw[hR.o,hS.o];go_enter func218,ntmps218;go_wp2;go_ret2;exact⟨rfl,rfl⟩
     ·have hS:Hid (zbE (q) false=(q,true)):=kK (by omega);rw[hR.o,hS.o];go_enter func218,ntmps218;go_wp2;go_ret2;exact⟨zgU (by omega),rfl⟩
  ·cases exact'
   ·skip
    have hR:Hid (zeP q (grw 1 hf (!false) true) true=zbE (q) true):=by unfold Hid;rw[show grw 1 hf (!false) true=false from by unfold grw;simp<;>omega,iU]
    by_cases k1:9223372036854775808<q
    ·have hS:Hid (zbE (q) true=(0,false)):=bR (by omega);rw[hR.o,hS.o];go_enter func218,ntmps218;go_wp2;go_ret2;exact⟨rfl,rfl⟩
    ·by_cases k2:q=0
     ·subst k2;have hS:Hid (zbE 0 true=(-0,true)):=dP (by omega);rw[hR.o,hS.o];go_enter func218,ntmps218;go_wp2;go_ret2;exact⟨rfl,rfl⟩
     ·have hS:Hid (zbE q true=(-q,true)):=dP (by omega);have hz:(q==0)=false:=by simpa using k2
      rw[hR.o,hS.o];go_enter func218,ntmps218;go_wp2;go_ret2;exact⟨zgU (by omega),rfl⟩
   ·skip
    have hR:Hid (zeP q (grw 1 hf (!true) true) true=zbE (q) true):=by unfold Hid;rw[show grw 1 hf (!true) true=false from by unfold grw;simp<;>omega,iU]
    by_cases k1:9223372036854775808<q
    ·have hS:Hid (zbE (q) true=(0,false)):=bR (by omega);rw[hR.o,hS.o];go_enter func218,ntmps218;go_wp2;go_ret2;exact⟨rfl,rfl⟩
    ·by_cases k2:q=0
     ·subst k2;have hS:Hid (zbE 0 true=(-0,true)):=dP (by omega);rw[hR.o,hS.o];go_enter func218,ntmps218;go_wp2;go_ret2;exact⟨rfl,rfl⟩
     ·have hS:Hid (zbE q true=(-q,true)):=dP (by omega);have hz:(q==0)=false:=by simpa using k2
      rw[hR.o,hS.o];go_enter func218,ntmps218;go_wp2;go_ret2;exact⟨zgU (by omega),rfl⟩
 ·cases neg
  ·rcases hc with rfl|hc|hc
   ·skip
    have hR:Hid (zeP q (grw 2 0 (!exact') false) false=zbE (q+1) false):=by unfold Hid;rw[show grw 2 0 (!exact') false=true from by unfold grw;simp<;>omega,tQ]
    by_cases k1:9223372036854775808<q
    ·have hS:Hid (zbE (q+1) false=(0,false)):=bR (by omega);rw[hR.o,hS.o];go_enter func218,ntmps218;go_wp2;go_ret2;exact⟨rfl,rfl⟩
    ·by_cases k2:9223372036854775807<q+1
     ·have hS:Hid (zbE (q+1) false=(0,false)):=gV (by omega);rw[hR.o,hS.o];go_enter func218,ntmps218;go_wp2;go_ret2;exact⟨rfl,rfl⟩
     ·have hS:Hid (zbE (q+1) false=(q+1,true)):=kK (by omega);rw[hR.o,hS.o];go_enter func218,ntmps218;go_wp2;go_ret2;exact⟨zgU (by omega),rfl⟩
   ·skip
    have hR:Hid (zeP q (grw 2 hf (!exact') false) false=zbE (q+1) false):=by unfold Hid;rw[show grw 2 hf (!exact') false=true from by unfold grw;simp<;>omega,tQ]
    by_cases k1:9223372036854775808<q
    ·have hS:Hid (zbE (q+1) false=(0,false)):=bR (by omega);rw[hR.o,hS.o];go_enter func218,ntmps218;go_wp2;go_ret2;exact⟨rfl,rfl⟩
    ·by_cases k2:9223372036854775807<q+1
     ·have hS:Hid (zbE (q+1) false=(0,false)):=gV (by omega);rw[hR.o,hS.o];go_enter func218,ntmps218;go_wp2;go_ret2;exact⟨rfl,rfl⟩
     ·have hS:Hid (zbE (q+1) false=(q+1,true)):=kK (by omega);rw[hR.o,hS.o];go_enter func218,ntmps218;go_wp2;go_ret2;exact⟨zgU (by omega),rfl⟩
   ·skip
    have hR:Hid (zeP q (grw 2 hf (!exact') false) false=zbE (q) false):=by unfold Hid;rw[show grw 2 hf (!exact') false=false from by unfold grw;simp<;>omega,iU]
    by_cases k1:9223372036854775808<q
    ·have hS:Hid (zbE (q) false=(0,false)):=bR (by omega);rw[hR.o,hS.o];go_enter func218,ntmps218;go_wp2;go_ret2;exact⟨rfl,rfl⟩
    ·by_cases k2:9223372036854775807<q
     ·have hS:Hid (zbE (q) false=(0,false)):=gV (by omega);rw[hR.o,hS.o];go_enter func218,ntmps218;go_wp2;go_ret2;exact⟨rfl,rfl⟩
     ·have hS:Hid (zbE (q) false=(q,true)):=kK (by omega);rw[hR.o,hS.o];go_enter func218,ntmps218;go_wp2;go_ret2;exact⟨zgU (by omega),rfl⟩
  ·rcases hc with rfl|hc|hc
   ·skip
    have hR:Hid (zeP q (grw 2 0 (!exact') true) true=zbE (q) true):=by unfold Hid;rw[show grw 2 0 (!exact') true=false from by unfold grw;simp<;>omega,iU]
    by_cases k1:9223372036854775808<q
    ·have hS:Hid (zbE (q) true=(0,false)):=bR (by omega);rw[hR.o,hS.o];go_enter func218,ntmps218;go_wp2;go_ret2;exact⟨rfl,rfl⟩
    ·by_cases k2:q=0
     ·subst k2;have hS:Hid (zbE 0 true=(-0,true)):=dP (by omega);rw[hR.o,hS.o];go_enter func218,ntmps218;go_wp2;go_ret2;exact⟨rfl,rfl⟩
     ·have hS:Hid (zbE q true=(-q,true)):=dP (by omega);have hz:(q==0)=false:=by simpa using k2
      rw[hR.o,hS.o];go_enter func218,ntmps218;go_wp2;go_ret2;exact⟨zgU (by omega),rfl⟩
   ·skip
    have hR:Hid (zeP q (grw 2 hf (!exact') true) true=zbE (q+1) true):=by unfold Hid;rw[show grw 2 hf (!exact') true=true from by unfold grw;simp<;>omega,tQ]
    by_cases k1:9223372036854775808<q
    ·have hS:Hid (zbE (q+1) true=(0,false)):=bR (by omega);rw[hR.o,hS.o];go_enter func218,ntmps218;go_wp2;go_ret2;exact⟨rfl,rfl⟩
    ·by_cases k2:9223372036854775808<q+1
     ·have hS:Hid (zbE (q+1) true=(0,false)):=bR (by omega);rw[hR.o,hS.o];go_enter func218,ntmps218;go_wp2;go_ret2;exact⟨rfl,rfl⟩
     ·have hS:Hid (zbE (q+1) true=(-(q+1),true)):=dP (by omega);have hz:((q+1:Int)==0)=false:=by simp;omega
      rw[hR.o,hS.o];go_enter func218,ntmps218;go_wp2;go_ret2;exact⟨zgU (by omega),rfl⟩
   ·skip
    have hR:Hid (zeP q (grw 2 hf (!exact') true) true=zbE (q) true):=by unfold Hid;rw[show grw 2 hf (!exact') true=false from by unfold grw;simp<;>omega,iU]
    by_cases k1:9223372036854775808<q
    ·have hS:Hid (zbE (q) true=(0,false)):=bR (by omega);rw[hR.o,hS.o];go_enter func218,ntmps218;go_wp2;go_ret2;exact⟨rfl,rfl⟩
    ·by_cases k2:q=0
     ·subst k2;have hS:Hid (zbE 0 true=(-0,true)):=dP (by omega);rw[hR.o,hS.o];go_enter func218,ntmps218;go_wp2;go_ret2;exact⟨rfl,rfl⟩
     ·have hS:Hid (zbE q true=(-q,true)):=dP (by omega);have hz:(q==0)=false:=by simpa using k2
      rw[hR.o,hS.o];go_enter func218,ntmps218;go_wp2;go_ret2;exact⟨zgU (by omega),rfl⟩
def Bit(T:Nat->Prop)(top q j:Nat):Prop:=q%2^j=0/\q+2^j<=top/\T q/\(¬T (q+2^j)\/q+2^j=top)
theorem Bit.low{T:Nat->Prop}{top q k:Nat}(h:Bit T top q (k+1)):q%2^k=0:=by
 have h1:=h.1;rw[Nat.pow_succ]at h1;exact Nat.mod_eq_zero_of_dvd (Nat.dvd_trans ⟨2,rfl⟩ (Nat.dvd_of_mod_eq_zero h1))
theorem Bit.yes{T:Nat->Prop}{top q k:Nat}(h:Bit T top q (k+1))(ht:T (q+2^k)):Bit T top (q+2^k) k:=by
 have e:2^(k+1)=2^k+2^k:=by rw[Nat.pow_succ];omega
 have h0:=h.low;obtain⟨h1,h2,h3,h4⟩:=h;rw[e,<-Nat.add_assoc]at h4 h2;exact⟨by rw[Nat.add_mod_right];exact h0,h2,ht,h4⟩
theorem Bit.no{T:Nat->Prop}{top q k:Nat}(h:Bit T top q (k+1))(ht:¬T (q+2^k)):Bit T top q k:=by
 have e:2^(k+1)=2^k+2^k:=by rw[Nat.pow_succ];omega
 have h0:=h.low;obtain⟨h1,h2,h3,h4⟩:=h;exact⟨h0,by omega,h3,Or.inl ht⟩
theorem zaH(q k:Nat)(hq:q%2^(k+1)=0)(hk:k<=63)(h:q+2^(k+1)<=18446744073709551616):bits .or .u64 (q:Int) (((2^k:Nat)):Int)=((q+2^k:Nat):Int):=by
 have e:2^(k+1)=2^k+2^k:=by rw[Nat.pow_succ];omega
 have hp:0<2^k:=Nat.pow_pos (by decide);have e2:((2^(k+1):Nat):Int)=(2:Int)^(k+1):=by push_cast;rfl
 rw[yU (q:Int) ((2^k:Nat):Int) (k+1) (by omega) (by omega) (by rw[<-e2,<-Int.natCast_emod,hq];rfl) (by omega) (by rw[<-e2];omega) (by omega)];omega
theorem qiE(q k t:Nat)(hq:q%2^(k+1)=0)(hk:k<=63)(h:q+2^(k+1)<=18446744073709551616)(ht:q+2^k=t):bits .or .u64 (q:Int) (IntKind.u64.wrap (2^k))=(t:Int):=by
 have e:2^(k+1)=2^k+2^k:=by rw[Nat.pow_succ];omega
 have e3:((2^k:Nat):Int)=(2:Int)^k:=by push_cast;rfl
 rw[<-e3,IntWalk.u64_in _ (by omega),zaH q k hq hk h,ht]
theorem qaO{N M:Nat}(h:N<=M):zfG N M<=0:=by
 unfold zfG;split
 ·omega
 ·rw[Iq (by omega)];omega
theorem qiC{N M:Nat}(h:¬N<=M):¬zfG N M<=0:=by rw[mU (by omega)];omega
theorem qjQ(a b c:Int)(h:sg a b≠0):(!(decide (sg a b<0)==decide (c<0)))=ngt a b c:=by
 unfold ngt;by_cases h1:sg a b<0<;>by_cases h2:c<0<;>simp[h,h1,h2]
theorem qeM{a b:Int}(h:sg a b=0):mg a*mg b=0:=by
 rcases tJ a b with⟨_,h1,_⟩|⟨_,h1,_⟩|⟨_,_,h1⟩
 ·omega
 ·omega
 ·exact h1
theorem qyA(a b c mode:Int)(X D q:Nat)(hX:a.natAbs*b.natAbs=X)(hD:c.natAbs=D)(hD0:0<D)(hB:Bit (λt=>t*D<=X) 18446744073709551616 q 0):
 zeP q (grw mode (zfG (X+X) (q*D+q*D+D)) (!(zfG X (q*D)==0)) (!(decide (sg a b<0)==decide (c<0)))) (!(decide (sg a b<0)==decide (c<0)))=mdS a b c mode:=by
 have hx:mg a*mg b=(X:Int):=by rw[<-hX];unfold mg;push_cast;rfl
 have hd:mg c=(D:Int):=by rw[<-hD];rfl
 obtain⟨_,hq1,hq2,hq3⟩:=hB;simp only[Nat.pow_zero]at hq1 hq2 hq3;have hd0:(0:Int)<(D:Int):=by omega
 by_cases hbig:(q+1)*D<=X
 ·have hq:q+1=18446744073709551616:=by rcases hq3 with h|h;exact absurd hbig h;exact h
  rw[qnL (by omega)];unfold mdS mdA;rw[hx,hd];have h1:((q+1:Nat):Int)<=(X:Int)/(D:Int):=(Int.le_ediv_iff_mul_le hd0).2 (by exact_mod_cast hbig);rw[bR (by split<;>omega)]
 ·have hlt:X<(q+1)*D:=by omega
  rw[Nat.add_mul,Nat.one_mul]at hlt;obtain⟨Y,hY⟩:∃Y,q*D=Y:=⟨_,rfl⟩;rw[hY]at hlt hq2⊢
  obtain⟨r,hr⟩:∃r,X=Y+r:=⟨X-Y,by omega⟩;have hYi:(D:Int)*(q:Int)=(Y:Int):=by rw[<-hY];push_cast;exact Int.mul_comm _ _
  have e1:(X:Int)/(D:Int)=(q:Int):=fH hd0 (r:=(r:Int)) (by rw[hYi];omega) (by omega) (by omega);have e2:(X:Int)%(D:Int)=(r:Int):=by
   have:=Int.emod_add_mul_ediv (X:Int) (D:Int);rw[e1,hYi]at this;omega
  have e3:zfG (X+X) (Y+Y+D)=zfD (r:Int) (D:Int):=by
   unfold zfD;by_cases k1:(D:Int)-r<r
   ·rw[Ip k1,mU (by omega)]
   ·rw[Iq k1];by_cases k2:(r:Int)<D-r
    ·rw[Ip k2,sO (by omega)]
    ·rw[Iq k2,sP (by omega)]
  have e4:(!(zfG X Y==0))=decide (0<(r:Int)):=by
   by_cases k1:r=0
   ·rw[sP (by omega)];simp[k1]
   ·rw[mU (by omega)];simp;omega
  rw[e3,e4];unfold mdS mdA;rw[hx,hd,e1,e2];by_cases hs:sg a b=0
  ·have h0:=qeM hs;rw[hx]at h0;have hr0:r=0:=by omega
   have hY0:Y=0:=by omega
   have hq0:q=0:=by
    rw[hY0]at hY;rcases Nat.mul_eq_zero.1 hY with h|h
    ·exact h
    ·omega
   subst hr0;subst hq0;have g1:∀n,grw mode (zfD ((0:Nat):Int) (D:Int)) (decide (0<((0:Nat):Int))) n=false:=λn=>by
    rw[pH (by omega)];unfold grw;simp
   rw[g1,g1,iU];simp;have g3:∀n,zbE 0 n=(0,true):=λn=>by cases n<;>rfl
   rw[g3,g3]
  ·rw[qjQ a b c hs];rfl
theorem qnN{p q:Int×Bool}(h:p=q):Ending.returned (.tuple #[.int .i64 p.1,.bool p.2])=.returned (.tuple #[.int .i64 q.1,.bool q.2]):=by rw[h]
theorem zbP{w w1 w2:World}(h1:Bw w w1)(h2:Bw w1 w2):Bw w w2:=h1.tm h2
theorem bH(a b c mode:Int)(ha1: -9223372036854775808<=a)(ha2:a<=9223372036854775807)(hb1: -9223372036854775808<=b)(hb2:b<=9223372036854775807)
 (hc1: -9223372036854775808<=c) (hc2:c<=9223372036854775807) (hc0:c≠0) (hm0:0<=mode) (hm1:mode<=2) (w:World):
 Calls prog 199 #[.int .i64 a,.int .i64 b,.int .i64 c,.int .i64 mode] w λe w'=>e=.returned (.tuple #[.int .i64 (mdS a b c mode).1,.bool (mdS a b c mode).2])/\Bw w w':=by
 have hc0':(c==0)=false:=by simpa using hc0
 obtain⟨X,hX⟩:∃X,a.natAbs*b.natAbs=X:=⟨_,rfl⟩;obtain⟨D,hD⟩:∃D,c.natAbs=D:=⟨_,rfl⟩;have hD0:0<D:=by omega
 have hD1:D<18446744073709551616:=by omega
 have HS:Hid (zfC w []):=λt ht=>by cases ht
 have HB:Hid (Bw w w):=Bf _ _;go_enter func199,ntmps199;go_wp2_with(first
  |(go_at_call 211;refine mo0 (wW _ hm0 hm1 _) ?_)
  |(go_at_call 212;refine(oT a b ha1 ha2 hb1 hb2 _ _ HS.o).mono ?_;rw[hX];rintro e w1 ⟨Ax,nx,cx,rfl,hs,hb⟩;have HN:=Hd (zbP HB.o hb);clear HB hb HS;have HB:=Hd HN.o;have HS:=Hd hs;clear HN hs)
  |(go_at_call 214;refine(qhI _ hc1 hc2 _).mono ?_;rw[hD];rintro e w' ⟨rfl,rfl⟩)
  |(go_at_call 213;refine(bI D hD1 _ _ HS.o).mono ?_;rintro e w2 ⟨Ad,nd',cd,rfl,hs,hb⟩;have HN:=Hd (zbP HB.o hb);clear HB hb HS;have HB:=Hd HN.o;have HS:=Hd hs;clear HN hs))
 go_loopw[12,13] (λqv iv wr=>∃(q j:Nat) (z:Int),qv=.int .u64 (q:Nat)/\iv=.int .i64 z/\z+1=j/\j<=64/\Bit (λt=>t*D<=X) 18446744073709551616 q j/\zfC wr [(Ad,nd',D,4),(Ax,nx,X,8)]/\Bw w wr) (λ_ iv _=>(intOf iv+1).toNat)
 case atStart=>exact⟨0,64,63,rfl,rfl,rfl,Le _,⟨rfl,Le _,by simp,Or.inr rfl⟩,HS.o,HB.o⟩
 case round=>
  clear HS HB;obtain⟨q,j,z,rfl,rfl,hz,hj,hbit,hs,hb⟩:=hrel;have HBit:=Hd hbit;clear hbit;have HS:=Hd hs;clear hs;have HB:=Hd hb;clear hb;by_cases hj0:j=0
  ·subst hj0;obtain rfl:z= -1:=by omega
   have hq1:q<18446744073709551616:=by have:=HBit.o.2.1;omega
   have tok1:=trivial;have tok2:=trivial;have tok3:=trivial;have tok4:=trivial;have tok5:=trivial;have tok6:=trivial;have tok7:=trivial;go_wp2_with(first|(go_at_call 213;clear tok6;refine(bI q hq1 _ _ HS.o).mono ?_;rintro e w2 ⟨A1,n1,c1,rfl,hs,hb⟩;have HN:=Hd (zbP HB.o hb);clear HB hb HS;have HB:=Hd HN.o;have HS:=Hd hs;clear HN hs)|(go_at_call 216;clear tok7;refine(eN _ _ HS.o (.head _) (.tail _ (.head _)) (by decide) (by decide)).mono ?_;rintro e w3 ⟨A2,n2,c2,rfl,hs,hb⟩;have HN:=Hd (zbP HB.o hb);clear HB hb HS;have HB:=Hd HN.o;have HS:=Hd hs;clear HN hs)|(go_at_call 217;clear tok1;refine(vL _ _ HS.o (.tail _ (.tail _ (.tail _ (.head _)))) (.tail _ (.tail _ (.tail _ (.head _)))) (by decide) (by decide)).mono ?_;rintro e w4 ⟨A3,n3,c3,rfl,hs,hb⟩;have HN:=Hd (zbP HB.o hb);clear HB hb HS;have HB:=Hd HN.o;have HS:=Hd hs;clear HN hs)|(go_at_call 217;clear tok2;refine(vL _ _ HS.o (.tail _ (.head _)) (.tail _ (.head _)) (by decide) (by decide)).mono ?_;rintro e w5 ⟨A4,n4,c4,rfl,hs,hb⟩;have HN:=Hd (zbP HB.o hb);clear HB hb HS;have HB:=Hd HN.o;have HS:=Hd hs;clear HN hs)|(go_at_call 217;clear tok3;refine(vL _ _ HS.o (.head _) (.tail _ (.tail _ (.tail _ (.tail _ (.head _))))) (by decide) (by decide)).mono ?_;rintro e w6 ⟨A5,n5,c5,rfl,hs,hb⟩;have HN:=Hd (zbP HB.o hb);clear HB hb HS;have HB:=Hd HN.o;have HS:=Hd hs;clear HN hs)|(go_at_call 215;clear tok4;refine(eO _ _ HS.o (.tail _ (.tail _ (.head _))) (.head _) (by decide) (by decide)).mono ?_;rintro e w7 ⟨rfl,hs,hb⟩;have HN:=Hd (zbP HB.o hb);clear HB hb HS;have HB:=Hd HN.o;have HS:=Hd hs;clear HN hs)|(go_at_call 215;clear tok5;refine(eO _ _ HS.o (.tail _ (.tail _ (.tail _ (.tail _ (.tail _ (.tail _ (.head _))))))) (.tail _ (.tail _ (.tail _ (.head _)))) (by decide) (by decide)).mono ?_;rintro e w8 ⟨rfl,hs,hb⟩;have HN:=Hd (zbP HB.o hb);clear HB hb HS;have HB:=Hd HN.o;have HS:=Hd hs;clear HN hs)|(go_at_call 219;refine mo0 (qmU _ _ _) ?_)|(go_at_call 218;refine(rK _ _ _ _ _ (by omega) (by omega) hm0 hm1 _).mono ?_;rintro e w' ⟨rfl,rfl⟩));go_ret2;exact⟨qnN (qyA a b c mode X D q hX hD hD0 HBit.o),HB.o⟩
  ·obtain⟨k,rfl⟩:∃k,j=k+1:=⟨j-1,by omega⟩;obtain rfl:z=(k:Int):=by omega
   obtain⟨t,ht⟩:∃t,q+2^k=t:=⟨_,rfl⟩;have hor:=qiE q k t HBit.o.1 (by omega) HBit.o.2.1 ht;have ht1:t<18446744073709551616:=by
    have hle:=HBit.o.2.1;have hp:2^(k+1)=2^k+2^k:=by rw[Nat.pow_succ];omega
    have hk0:0<2^k:=Nat.pow_pos (by decide);omega
   by_cases hT:t*D<=X
   ·have HB2:=Hd (HBit.o.yes (by rw[ht];exact hT));rw[ht]at HB2;have hc:=qaO hT;clear hT ht;go_wp2_with(first|(go_at_call 213;refine(bI t ht1 _ _ HS.o).mono ?_;rintro e w2 ⟨A1,n1,c1,rfl,hs,hb⟩;have HN:=Hd (zbP HB.o hb);clear HB hb HS;have HB:=Hd HN.o;have HS:=Hd hs;clear HN hs)|(go_at_call 216;refine(eN _ _ HS.o (.head _) (.tail _ (.head _)) (by decide) (by decide)).mono ?_;rintro e w3 ⟨A2,n2,c2,rfl,hs,hb⟩;have HN:=Hd (zbP HB.o hb);clear HB hb HS;have HB:=Hd HN.o;have HS:=Hd hs;clear HN hs)|(go_at_call 215;refine(eO _ _ HS.o (.head _) (.tail _ (.tail _ (.tail _ (.head _)))) (by decide) (by decide)).mono ?_;rintro e w4 ⟨rfl,hs,hb⟩;have HN:=Hd (zbP HB.o hb);clear HB hb HS;have HB:=Hd HN.o;have HS:=Hd hs.tail.tail;clear HN hs));go_roundw
    case rel=>exact⟨t,k,(k:Int)-1,rfl,by go_num,by omega,by omega,HB2.o,HS.o,HB.o⟩
    case measure=>simp[intOf]
   ·have HB2:=Hd (HBit.o.no (by rw[ht];exact hT));have hc:=qiC hT;clear hT ht;go_wp2_with(first|(go_at_call 213;refine(bI t ht1 _ _ HS.o).mono ?_;rintro e w2 ⟨A1,n1,c1,rfl,hs,hb⟩;have HN:=Hd (zbP HB.o hb);clear HB hb HS;have HB:=Hd HN.o;have HS:=Hd hs;clear HN hs)|(go_at_call 216;refine(eN _ _ HS.o (.head _) (.tail _ (.head _)) (by decide) (by decide)).mono ?_;rintro e w3 ⟨A2,n2,c2,rfl,hs,hb⟩;have HN:=Hd (zbP HB.o hb);clear HB hb HS;have HB:=Hd HN.o;have HS:=Hd hs;clear HN hs)|(go_at_call 215;refine(eO _ _ HS.o (.head _) (.tail _ (.tail _ (.tail _ (.head _)))) (by decide) (by decide)).mono ?_;rintro e w4 ⟨rfl,hs,hb⟩;have HN:=Hd (zbP HB.o hb);clear HB hb HS;have HB:=Hd HN.o;have HS:=Hd hs.tail.tail;clear HN hs));go_roundw
    case rel=>exact⟨q,k,(k:Int)-1,rfl,by go_num,by omega,by omega,HB2.o,HS.o,HB.o⟩
    case measure=>simp[intOf]
