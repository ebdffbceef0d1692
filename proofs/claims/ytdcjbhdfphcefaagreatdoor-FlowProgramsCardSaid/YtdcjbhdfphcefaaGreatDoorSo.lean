/- Digits and F. -/
import Derived.Test.YtdcjbhdfphcefaaGreatDoorBa
import Derived.Lib.ItoaLen
import Derived.Lib.Strings
import Derived.Test.YtdcjbhdfphcefaaGreatDoorBg
import Derived.Test.YtdcjbhdfphcefaaGreatDoorSv
import Derived.Test.YtdcjbhdfphcefaaGreatDoorVa
import Derived.Deep.CutBlock
namespace Go.Proofs.YtdcjbhdfphcefaaGreatDoor
set_option linter.all false
set_option maxRecDepth 100000
set_option maxHeartbeats 8000000
open Go.Proofs.Tryz
open Go.RowKit Go.PlainAid
theorem pQ(n:Int)(h0:0<=n)(h1:n<=9223372036854775807):(Lib.decDigits n.toNat).length<=21:=by
 have:=Lib.itoa_length_le n (by omega) h1;unfold Lib.itoa at this
 rwa [Iq (by omega)]at this
theorem qvP(m:Int)(h:9<m):Lib.decDigits m.toNat=Lib.decDigits (m/10).toNat++[UInt8.ofNat (48+(m%10).toNat)]:=by
 rw[Lib.decDigits,dif_neg (by omega)];rw[show m.toNat/10=(m/10).toNat by omega,show m.toNat%10=(m%10).toNat by omega]
theorem qkZ(m:Int)(h0:0<=m)(h:m<=9):Lib.decDigits m.toNat=[UInt8.ofNat (48+m.toNat)]:=by
 rw[Lib.decDigits,dif_pos (by omega)]
theorem qhX(d:Int)(h0:0<=d)(h1:d<=9)(l:List UInt8):(⟨#[48,49,50,51,52,53,54,55,56,57]⟩:ByteArray).extract d.toNat (d+1).toNat++⟨l.toArray⟩=⟨(UInt8.ofNat (48+d.toNat)::l).toArray⟩:=by
 have e:(⟨#[48,49,50,51,52,53,54,55,56,57]⟩:ByteArray).extract d.toNat (d+1).toNat=⟨#[UInt8.ofNat (48+d.toNat)]⟩:=by
  rcases(by omega:d=0\/d=1\/d=2\/d=3\/d=4\/d=5\/d=6\/d=7\/d=8\/d=9)with rfl|rfl|rfl|rfl|rfl|rfl|rfl|rfl|rfl|rfl<;>rfl
 rw[e];apply ByteArray.ext;simp
theorem nR(n:Int)(h0:0<=n)(h1:n<=9223372036854775807)(w:World):
 Calls prog 115 #[.int .i64 n] w λe w'=>e=.returned (.string ⟨(Lib.decDigits n.toNat).toArray⟩)/\w=w':=by
 go_enter func115,ntmps115;go_wp2;go_loop[0,3] (λa s=>∃(m:Int) (l:List UInt8),a=.int .i64 m/\s=.string ⟨l.toArray⟩/\0<=m/\m<=n/\Lib.decDigits n.toNat=Lib.decDigits m.toNat++l) (λa _=>(intOf a).toNat)
 case atStart=>exact⟨n,[],rfl,rfl,by omega,by omega,by simp⟩
 case round=>
  obtain⟨m,l,rfl,rfl,hm0,hm1,hE⟩:=hrel;have hll:l.length<=21:=by have:=congrArg List.length hE;have:=pQ n h0 h1;simp at*;omega
  have HE:=Hd hE;clear hE;by_cases hlt:9<m
  ·go_wp2;go_round
   case rel=>exact⟨m/10,UInt8.ofNat (48+(m%10).toNat)::l,rfl,by rw[qhX _ (by omega) (by omega)],by omega,by omega,by rw[HE.o,qvP m hlt];simp⟩
   case measure=>simp[intOf];omega
  ·go_wp2;go_ret;exact⟨by rw[qhX _ (by omega) (by omega),HE.o,qkZ m hm0 (by omega)];rfl,rfl⟩
theorem qwL(l:List UInt8)(k:Nat)(c:UInt8)(h:l[k]? =some c):bt ⟨l.toArray⟩ k=(c.toNat:Int):=by
 obtain⟨hl,e⟩:=Gu.1 h;have hl':k<(⟨l.toArray⟩:ByteArray).size:=by show k<l.toArray.size;simpa using hl
 unfold bt;rw[dif_pos hl'];have e2:(⟨l.toArray⟩:ByteArray)[k]'hl'=l[k]'hl:=rfl;rw[e2,e]
theorem zkG(s:ByteArray)(a k i:Nat)(h:a+i<k)(hk:k<=s.size):bt (s.extract a k) i=bt s (a+i):=by
 have hs:(s.extract a k).size=k-a:=by rw[ByteArray.size_extract];omega
 unfold bt;rw[dif_pos (by omega),dif_pos (by omega),ByteArray.getElem_extract]
theorem nz7(r:Nat)(h0:0<r)(h:r<1000000):∃l:List UInt8,Lib.decDigits (1000000+r)=49::l/\l.length=6/\∃i d:Nat,i<6/\0<d/\d<10/\l[i]? =some (UInt8.ofNat (48+d)):=by
 have b:∀u:Nat,¬u<10->Lib.decDigits u=Lib.decDigits (u/10)++[UInt8.ofNat (48+u%10)]:=λu hu=>by rw[Lib.decDigits,dif_neg hu]
 have e1:(1000000+r)/10/10/10/10/10/10=1:=by omega
 refine⟨[UInt8.ofNat (48+(1000000+r)/10/10/10/10/10%10),UInt8.ofNat (48+(1000000+r)/10/10/10/10%10),UInt8.ofNat (48+(1000000+r)/10/10/10%10),UInt8.ofNat (48+(1000000+r)/10/10%10),UInt8.ofNat (48+(1000000+r)/10%10),UInt8.ofNat (48+(1000000+r)%10)],?_,rfl,?_⟩
 ·rw[b _ (by omega),b _ (by omega),b _ (by omega),b _ (by omega),b _ (by omega),b _ (by omega),Lib.decDigits,dif_pos (by omega),e1];rfl
 ·rcases(by omega:(1000000+r)%10≠0\/(1000000+r)/10%10≠0\/(1000000+r)/10/10%10≠0\/(1000000+r)/10/10/10%10≠0\/(1000000+r)/10/10/10/10%10≠0\/(1000000+r)/10/10/10/10/10%10≠0)with q|q|q|q|q|q
  ·exact⟨5,_,by omega,by omega,by omega,rfl⟩
  ·exact⟨4,_,by omega,by omega,by omega,rfl⟩
  ·exact⟨3,_,by omega,by omega,by omega,rfl⟩
  ·exact⟨2,_,by omega,by omega,by omega,rfl⟩
  ·exact⟨1,_,by omega,by omega,by omega,rfl⟩
  ·exact⟨0,_,by omega,by omega,by omega,rfl⟩
theorem zdZ(n:Int)(h0:0<=n)(h1:n<=9223372036854775807)(w:World):
 Calls prog 115 #[.int .i64 n] w λe w'=>∃s:ByteArray,e=.returned (.string s)/\s.size<=21/\w=w':=
 (nR n h0 h1 w).mono λe w' ⟨he,hw⟩=>⟨_,he,pQ n h0 h1,hw⟩
theorem zkE(r:Int)(h0:0<r)(h1:r<1000000)(w:World):
 Calls prog 115 #[.int .i64 (1000000+r)] w λe w'=>∃s:ByteArray,e=.returned (.string s)/\s.size=7/\(∃i,i<6/\bt s (1+i)≠48)/\w=w':=by
 refine(nR _ (by omega) (by omega) w).mono λe w' ⟨he,hw⟩=>⟨_,he,?_⟩;obtain⟨l,h2,h3,i,d,h4,h5,h6,h7⟩:=nz7 r.toNat (by omega) (by omega);rw[show(1000000+r).toNat=1000000+r.toNat by omega,h2];refine⟨by show(49::l).toArray.size=7;simp[h3],⟨i,h4,?_⟩,hw⟩;rw[qwL (49::l) (1+i) _ (by rw[Nat.add_comm];exact h7)];simp;omega
theorem ziS(n:Int)(h0:0<=n)(h1:n<=1000000000000000)(w:World):
 Calls prog 182 #[.int .i64 n] w λe w'=>∃s:ByteArray,e=.returned (.string s)/\s.size<=30/\w=w':=by
 have h:=bO (n:=n) (by omega) h1;by_cases hr:n%1000000=0
 ·have hr':(n%1000000==0)=true:=by simpa using hr
  have HR:=Hd hr;clear hr;go_enter func182,ntmps182;go_wp2_with(first|(go_at_call 168;refine mo0 (aF _ _) ?_)|(go_at_call 115;refine(zdZ _ (by omega) (by omega) _).mono ?_;rintro e w' ⟨s,rfl,hs,rfl⟩));go_ret;exact⟨s,rfl,by omega,rfl⟩
 ·have hr':(n%1000000==0)=false:=by simpa using hr
  have q0:0<n%1000000:=by omega
  have q1:n%1000000<1000000:=by omega
  have HR:=Hd hr;clear hr;have tok1:=trivial;go_enter func182,ntmps182;go_wp2_with(first|(go_at_call 168;refine mo0 (aF _ _) ?_)|(go_at_call 115;have _t:=tok1;refine(zdZ _ (by omega) (by omega) _).mono ?_;rintro e w' ⟨s,rfl,hs,rfl⟩;clear tok1)|(go_at_call 115;refine(zkE _ q0 (by omega) _).mono ?_;rintro e w' ⟨s7,rfl,hs7,hnz,rfl⟩));go_loop[5] (λt=>∃u:ByteArray,t=.string u/\u.size<=6/\∃i,i<u.size/\bt u i≠48) (λt=>match t with| .string s=>s.size|_=>0)
  case atStart=>
   obtain⟨i,hi,hb⟩:=hnz;have hz:(s7.extract 1 7).size=6:=by rw[ByteArray.size_extract];omega
   exact⟨_,rfl,by omega,i,by omega,by rw[zkG s7 1 7 i (by omega) (by omega)];exact hb⟩
  case round=>
   obtain⟨u,rfl,hu,i,hi,hb⟩:=hrel;have hbt:=get_bt u;rcases hl:(bt u (u.size-1)==48)with _|_
   ·go_wp2;go_ret;exact⟨_,rfl,by rw[ByteArray.size_append,ByteArray.size_append,show(⟨#[46]⟩:ByteArray).size=1 from rfl];omega,rfl⟩
   ·have hlt:i<u.size-1:=by
     have:i≠u.size-1:=λe=>hb (by rw[e];simpa using hl);omega
    have hz:(u.extract 0 (u.size-1)).size=u.size-1:=by rw[ByteArray.size_extract];omega
    have HB:=Hd hb;clear hb;go_wp2;refine⟨⟨_,rfl,by omega,i,by omega,by rw[zkG u 0 _ i (by omega) (by omega),Nat.zero_add];exact HB.o⟩,?_⟩;show(u.extract 0 (u.size-1)).size<u.size;omega
open Go.RowKit
def zcI(k:Nat)(w:World)(e:Ending)(w':World):Prop:=∃s:ByteArray,e=.returned (.string s)/\s.size<=k/\Bw w w'
theorem nY{P:Program}{c:Code}{Q:Exit->Act->World->Prop}{a:Act}{W0:World}(h:∀W,W=W0->Code.wp P c Q a W):Code.wp P c Q a W0:=h _ rfl
def zjJ:List ByteArray:=[⟨#[]⟩,⟨#[]⟩,⟨#[]⟩,⟨#[43]⟩,⟨#[45]⟩,⟨#[42]⟩,⟨#[47]⟩,⟨#[77,79,68]⟩,⟨#[83,73,78]⟩,⟨#[67,79,83]⟩,⟨#[84,65,78]⟩,⟨#[65,84,65,78]⟩,⟨#[83,81,82,84]⟩,⟨#[65,66,83]⟩,⟨#[82,79,85,78,68]⟩,⟨#[70,73,88]⟩,⟨#[70,85,80]⟩,⟨#[69,81]⟩,⟨#[78,69]⟩,⟨#[71,84]⟩,⟨#[71,69]⟩,⟨#[76,84]⟩,⟨#[76,69]⟩,⟨#[65,78,68]⟩,⟨#[79,82]⟩,⟨#[88,79,82]⟩]
theorem ziM(w:World)(op:Int)(h0:0<=op)(h1:op<=25):Calls prog 151 #[.int .i64 op] w (zcI 5 w):=by
 obtain⟨j,rfl⟩:∃j:Nat,op=(j:Int):=⟨op.toNat,by omega⟩;have hj:j<26:=by omega
 obtain⟨s,hs⟩:∃s,zjJ[j]? =some s:=⟨_,Gg hj⟩;have hz:s.size<=5:=(show∀x∈zjJ,x.size<=5 by decide) s (Mg hs);obtain⟨W,hW,hb,q⟩:=newW w ⟨zjJ.map .string⟩ 9;have c0:W.cell? ⟨w.heap.size,j,none⟩=some (.string s):=by
  rw[Ro W _ j _ _ _ q];simp[hs]
 have hl:zjJ.length=26:=rfl;go_enter func151,ntmps151;go_upto_region 2 with(fail)
 refine nY λV hV=> ?_;obtain rfl:V=W:=hV.trans hW.symm;clear hW hV;go_wp2_with fail;go_ret;exact⟨s,rfl,hz,hb.o⟩
def zhW(K:Nat)(t:Tr):Prop:=∀(w:World) (v:Value),Rd w w.heap.size t v->Calls prog 149 #[v] w (zcI K w)/\Calls prog 117 #[v] w (zcI K w)/\Calls prog 116 #[v] w (zcI K w)
theorem zcE(a b:ByteArray):(a++b).size=a.size+b.size:=ByteArray.size_append
theorem zhA{w:World}{op n:Int}{k c:Nat}{kid:Nat->Tr}{A:OA}(h:Rd w w.heap.size (.mk op n k kid) (.agg #[.int .i64 op,.int .i64 n,.slice A k c])):
 ∃W,W=w.alloc (.cells #[.int .i64 op,.int .i64 n,.slice A k c] 52)/\Hid (Bw w W)/\(∀W',Bw W W'->W'.cell? ⟨w.heap.size,0,none⟩=some (.int .i64 op)/\W'.cell? ⟨w.heap.size,1,none⟩=some (.int .i64 n)/\W'.cell? ⟨w.heap.size,2,none⟩=some (.slice A k c)/\Rd W' W'.heap.size (.mk op n k kid) (.agg #[.int .i64 op,.int .i64 n,.slice A k c])):=by
 obtain⟨W,hW,hb,q⟩:=newW w #[.int .i64 op,.int .i64 n,.slice A k c] 52;refine⟨W,hW,hb,λW' h'=> ?_⟩;have q':=(h'.block _ (hlS q)).trans q;exact⟨Ro W' _ 0 _ _ _ q',Ro W' _ 1 _ _ _ q',Ro W' _ 2 _ _ _ q',(h.below hb.o hb.o.size).below h' h'.size⟩
theorem zfU{W:World}{op n:Int}{k c i K:Nat}{kid:Nat->Tr}{A:OA}(h:Rd W W.heap.size (.mk op n k kid) (.agg #[.int .i64 op,.int .i64 n,.slice A k c]))(ih:∀i,i<k->zhW K (kid i))(hi:i<k):
 ∃(ab off:Nat) (o m:Int) (A':OA) (k' c':Nat),A=some ⟨ab,off,none⟩/\∀W',Bw W W'->W'.cell? ⟨ab,off+i*3,none⟩=some (.int .i64 o)/\W'.cell? ⟨ab,off+i*3+1,none⟩=some (.int .i64 m)/\W'.cell? ⟨ab,off+i*3+2,none⟩=some (.slice A' k' c')/\
  Calls prog 149 #[.agg #[.int .i64 o,.int .i64 m,.slice A' k' c']] W' (zcI K W')/\Calls prog 117 #[.agg #[.int .i64 o,.int .i64 m,.slice A' k' c']] W' (zcI K W')/\Calls prog 116 #[.agg #[.int .i64 o,.int .i64 m,.slice A' k' c']] W' (zcI K W'):=by
 obtain⟨A2,c2,e,_,_,_,hk⟩:=h.open_;injection e with e
 simp only[Array.mk.injEq,List.cons.injEq,Vs,and_true,true_and]at e;obtain⟨rfl,rfl⟩:=e;obtain⟨ab,off,rfl,hab,hc⟩:=hk (by omega);obtain⟨o,m,A',k',c',c0,c1,c2,hr⟩:=hc i hi;refine⟨ab,off,o,m,A',k',c',rfl,λW' h'=>⟨(h'.cell hab).trans c0,(h'.cell hab).trans c1,(h'.cell hab).trans c2,ih i hi W' _ (hr.below h' h'.size)⟩⟩
section
variable {K:Nat} {op n:Int} {k:Nat} {kid:Nat->Tr}
set_option maxRecDepth 100000
set_option maxHeartbeats 4000000
theorem ziV(hK:K<=100000000000000)(hk:(k:Int)=zbD op)(hn:0<=n/\n<=1000000000000000)(ih:∀i,i<k->zhW K (kid i))(hc:op=0\/op=1\/op=11\/(8<=op/\op<=16/\op≠11))(w:World)(v:Value)(h:Rd w w.heap.size (.mk op n k kid) v):
 Calls prog 149 #[v] w (zcI (2*K+30) w):=by
 obtain⟨A,c,rfl,i1,i2,hm,_⟩:=h.open_;obtain⟨W,hW,HB,hbx⟩:=zhA h;have HBX:=Hd hbx;obtain⟨d0,d1,d2,hr⟩:=hbx W (Bf _ _);have HR:=Hd hr;clear hbx hr h;rcases hc with rfl|rfl|rfl|hc
 ·go_enter func149,ntmps149;go_wp2_with(rw[<-hW];clear hW;go_at_call 182;refine(ziS n hn.1 hn.2 _).mono ?_;rintro e w' ⟨s,rfl,hs,rfl⟩);go_ret;exact⟨s,rfl,by omega,HB.o⟩
 ·obtain rfl:k=1:=by have e:zbD 1=1:=rfl;omega
  obtain⟨ab,off,o0,n0,A0,k0,d0',rfl,hkd⟩:=zfU HR.o ih (i:=0) (by omega);obtain⟨g0,g1,g2,q1,q2,q3⟩:=hkd W (Bf _ _);have f0:W.cell? ⟨ab,off,none⟩=some (.int .i64 o0):=g0;have f1:W.cell? ⟨ab,off+1,none⟩=some (.int .i64 n0):=g1;have f2:W.cell? ⟨ab,off+2,none⟩=some (.slice A0 k0 d0'):=g2;have HC:=Hd q3;clear hkd g0 g1 g2 q1 q2 q3 hk;go_enter func149,ntmps149;go_upto_region 1 with(fail)
  rw[<-hW];clear hW;go_wp2_with(go_at_call 116;refine HC.o.mono ?_;rintro e w' ⟨s,rfl,hs,hb⟩;have HB2:=Hd (HB.o.tm hb);clear hb);go_ret;exact⟨s,rfl,by omega,HB2.o⟩
 ·obtain rfl:k=2:=by have e:zbD 11=2:=rfl;omega
  obtain⟨ab,off,o0,n0,A0,k0,d0',rfl,hkd⟩:=zfU HR.o ih (i:=0) (by omega);obtain⟨ab1,off1,o1,n1,A1,k1,d1',e,hkd1⟩:=zfU HR.o ih (i:=1) (by omega);injection e with e
  injection e with e1 e2
  subst e1 e2;have HK0:Hid (∀W',Bw W W'->Calls prog 117 #[.agg #[.int .i64 o0,.int .i64 n0,.slice A0 k0 d0']] W' (zcI K W')):=λW' h'=>(hkd W' h').2.2.2.2.1;have HK1:Hid (∀W',Bw W W'->Calls prog 117 #[.agg #[.int .i64 o1,.int .i64 n1,.slice A1 k1 d1']] W' (zcI K W')):=λW' h'=>(hkd1 W' h').2.2.2.2.1;have HS:Hid (∀w',Bw W w'->w'.cell? ⟨w.heap.size,2,none⟩=some (.slice (some ⟨ab,off,none⟩) 2 c)/\w'.cell? ⟨ab,off,none⟩=some (.int .i64 o0)/\w'.cell? ⟨ab,off+1,none⟩=some (.int .i64 n0)/\w'.cell? ⟨ab,off+2,none⟩=some (.slice A0 k0 d0')/\w'.cell? ⟨ab,off+3,none⟩=some (.int .i64 o1)/\w'.cell? ⟨ab,off+3+1,none⟩=some (.int .i64 n1)/\w'.cell? ⟨ab,off+3+2,none⟩=some (.slice A1 k1 d1')):=λw' h'=>⟨(HBX.o w' h').2.2.1,(hkd w' h').1,(hkd w' h').2.1,(hkd w' h').2.2.1,(hkd1 w' h').1,(hkd1 w' h').2.1,(hkd1 w' h').2.2.1⟩;have S0:=Hd (HS.o W (Bf _ _));have S0d:=Hd (HS.o W.drew (aA (Bf _ _) 1));have tok1:=trivial;clear hkd hkd1 hk;go_enter func149,ntmps149;go_upto_region 6 with(fail)
  rw[<-hW];clear hW;go_region_held3(λw'=>w'.cell? ⟨w.heap.size,2,none⟩=some (.slice (some ⟨ab,off,none⟩) 2 c)/\w'.cell? ⟨ab,off,none⟩=some (.int .i64 o0)/\w'.cell? ⟨ab,off+1,none⟩=some (.int .i64 n0)/\w'.cell? ⟨ab,off+2,none⟩=some (.slice A0 k0 d0')/\w'.cell? ⟨ab,off+3,none⟩=some (.int .i64 o1)/\w'.cell? ⟨ab,off+3+1,none⟩=some (.int .i64 n1)/\w'.cell? ⟨ab,off+3+2,none⟩=some (.slice A1 k1 d1')) (first|with_reducible exact S3.o|with_reducible exact S2.o|with_reducible exact S1.o|with_reducible exact S0d.o|exact S0.o) (first|(go_at_call 117;clear tok1;refine(HK0.o _ (aA (Bf _ _) 1)).mono ?_;rintro e w1 ⟨s1,rfl,hs1,hb⟩;have z10:¬(9223372036854775807<5+s1.size):=(by omega);have z11:¬(9223372036854775807<5+s1.size+3):=(by omega);have HB1:=Hd ((aA (Bf _ _) 1).tm hb);have S1:=Hd (HS.o w1 HB1.o);clear hb)|(go_at_call 117;refine(HK1.o _ HB1.o).mono ?_;rintro e w2 ⟨s2,rfl,hs2,hb⟩;have z20:¬(9223372036854775807<5+s1.size+3+s2.size):=(by omega);have z21:¬(9223372036854775807<5+s1.size+3+s2.size+1):=(by omega);have HB2:=Hd (HB1.o.tm hb);have S2:=Hd (HS.o w2 HB2.o);clear hb));go_wp2_with fail;go_ret;exact⟨_,rfl,by simp only[zcE,ByteArray.size_mk'];simp;omega,HB.o.tm HB2.o⟩
 ·obtain⟨c8,c16,c11⟩:=hc;obtain rfl:k=1:=by have e:zbD op=1:=(by unfold zbD;rw[Iq (by omega),Iq (by omega),Ip (by omega)]);omega
  obtain⟨ab,off,o0,n0,A0,k0,d0',rfl,hkd⟩:=zfU HR.o ih (i:=0) (by omega);have HK0:Hid (∀W',Bw W W'->Calls prog 117 #[.agg #[.int .i64 o0,.int .i64 n0,.slice A0 k0 d0']] W' (zcI K W')):=λW' h'=>(hkd W' h').2.2.2.2.1;have HS:Hid (∀w',Bw W w'->w'.cell? ⟨w.heap.size,0,none⟩=some (.int .i64 op)/\w'.cell? ⟨w.heap.size,2,none⟩=some (.slice (some ⟨ab,off,none⟩) 1 c)/\w'.cell? ⟨ab,off,none⟩=some (.int .i64 o0)/\w'.cell? ⟨ab,off+1,none⟩=some (.int .i64 n0)/\w'.cell? ⟨ab,off+2,none⟩=some (.slice A0 k0 d0')):=λw' h'=>⟨(HBX.o w' h').1,(HBX.o w' h').2.2.1,(hkd w' h').1,(hkd w' h').2.1,(hkd w' h').2.2.1⟩;have S0:=Hd (HS.o W (Bf _ _));have S0d:=Hd (HS.o W.drew (aA (Bf _ _) 1));have b0:(op==0)=false:=beq_eq_false_iff_ne.2 (by omega);have b1:(op==1)=false:=beq_eq_false_iff_ne.2 (by omega);have b2:(op==11)=false:=beq_eq_false_iff_ne.2 c11;have b3:decide (op≥8)=true:=Dt c8;have b4:decide (op<=16)=true:=Dt c16;clear hkd hk;go_enter func149,ntmps149;go_upto_region 8 with(fail)
  rw[<-hW];clear hW;go_region_held3(λw'=>w'.cell? ⟨w.heap.size,0,none⟩=some (.int .i64 op)/\w'.cell? ⟨w.heap.size,2,none⟩=some (.slice (some ⟨ab,off,none⟩) 1 c)/\w'.cell? ⟨ab,off,none⟩=some (.int .i64 o0)/\w'.cell? ⟨ab,off+1,none⟩=some (.int .i64 n0)/\w'.cell? ⟨ab,off+2,none⟩=some (.slice A0 k0 d0')) (first|with_reducible exact S3.o|with_reducible exact S2.o|with_reducible exact S1.o|with_reducible exact S0d.o|exact S0.o) (first|(go_at_call 151;refine(ziM _ op (by omega) (by omega)).mono ?_;rintro e w1 ⟨s1,rfl,hs1,hb⟩;have z10:¬(9223372036854775807<s1.size+1):=(by omega);have HB1:=Hd ((aA (Bf _ _) 1).tm hb);have S1:=Hd (HS.o w1 HB1.o);clear hb)|(go_at_call 117;refine(HK0.o _ HB1.o).mono ?_;rintro e w2 ⟨s2,rfl,hs2,hb⟩;have z20:¬(9223372036854775807<s1.size+1+s2.size):=(by omega);have z21:¬(9223372036854775807<s1.size+1+s2.size+1):=(by omega);have HB2:=Hd (HB1.o.tm hb);have S2:=Hd (HS.o w2 HB2.o);clear hb));go_wp2_with fail;go_ret;exact⟨_,rfl,by simp only[zcE,ByteArray.size_mk'];simp;omega,HB.o.tm HB2.o⟩
theorem zjK(hK:K<=100000000000000)(hk:(k:Int)=zbD op)(hn:0<=n/\n<=1000000000000000)(ih:∀i,i<k->zhW K (kid i))(hc:op=2\/(zbD op=2/\op≠11))(w:World)(v:Value)(h:Rd w w.heap.size (.mk op n k kid) v):
 Calls prog 117 #[v] w (zcI (2*K+10) w):=by
 obtain⟨A,c,rfl,i1,i2,hm,_⟩:=h.open_;obtain⟨W,hW,HB,hbx⟩:=zhA h;have HBX:=Hd hbx;obtain⟨d0,d1,d2,hr⟩:=hbx W (Bf _ _);have HR:=Hd hr;clear hbx hr h;rcases hc with rfl|⟨hc,c11⟩
 ·obtain rfl:k=1:=by have e:zbD 2=1:=rfl;omega
  obtain⟨ab,off,o0,n0,A0,k0,d0',rfl,hkd⟩:=zfU HR.o ih (i:=0) (by omega);obtain⟨g0,g1,g2,q1,q2,q3⟩:=hkd W (Bf _ _);have f0:W.cell? ⟨ab,off,none⟩=some (.int .i64 o0):=g0;have f1:W.cell? ⟨ab,off+1,none⟩=some (.int .i64 n0):=g1;have f2:W.cell? ⟨ab,off+2,none⟩=some (.slice A0 k0 d0'):=g2;have HC:=Hd q1;clear hkd g0 g1 g2 q1 q2 q3 hk;go_enter func117,ntmps117;go_upto_region 1 with(fail)
  rw[<-hW];clear hW;go_wp2_with(go_at_call 149;refine HC.o.mono ?_;rintro e w' ⟨s,rfl,hs,hb⟩;have z1:¬(9223372036854775807<1+s.size):=(by omega);have HB2:=Hd (HB.o.tm hb);clear hb);go_ret;exact⟨_,rfl,by simp only[zcE,ByteArray.size_mk'];simp;omega,HB2.o⟩
 ·have h25:3<=op/\op<=25:=by
   unfold zbD at hc;split at hc
   ·omega
   ·split at hc
    ·omega
    ·split at hc<;>omega
  obtain rfl:k=2:=by omega
  obtain⟨ab,off,o0,n0,A0,k0,d0',rfl,hkd⟩:=zfU HR.o ih (i:=0) (by omega);obtain⟨ab1,off1,o1,n1,A1,k1,d1',e,hkd1⟩:=zfU HR.o ih (i:=1) (by omega);injection e with e
  injection e with e1 e2
  subst e1 e2;have HK0:Hid (∀W',Bw W W'->Calls prog 149 #[.agg #[.int .i64 o0,.int .i64 n0,.slice A0 k0 d0']] W' (zcI K W')):=λW' h'=>(hkd W' h').2.2.2.1;have HK1:Hid (∀W',Bw W W'->Calls prog 149 #[.agg #[.int .i64 o1,.int .i64 n1,.slice A1 k1 d1']] W' (zcI K W')):=λW' h'=>(hkd1 W' h').2.2.2.1;have HS:Hid (∀w',Bw W w'->w'.cell? ⟨w.heap.size,0,none⟩=some (.int .i64 op)/\w'.cell? ⟨w.heap.size,2,none⟩=some (.slice (some ⟨ab,off,none⟩) 2 c)/\w'.cell? ⟨ab,off,none⟩=some (.int .i64 o0)/\w'.cell? ⟨ab,off+1,none⟩=some (.int .i64 n0)/\w'.cell? ⟨ab,off+2,none⟩=some (.slice A0 k0 d0')/\w'.cell? ⟨ab,off+3,none⟩=some (.int .i64 o1)/\w'.cell? ⟨ab,off+3+1,none⟩=some (.int .i64 n1)/\w'.cell? ⟨ab,off+3+2,none⟩=some (.slice A1 k1 d1')):=λw' h'=>⟨(HBX.o w' h').1,(HBX.o w' h').2.2.1,(hkd w' h').1,(hkd w' h').2.1,(hkd w' h').2.2.1,(hkd1 w' h').1,(hkd1 w' h').2.1,(hkd1 w' h').2.2.1⟩;have S0:=Hd (HS.o W (Bf _ _));have S0d:=Hd (HS.o W.drew (aA (Bf _ _) 1));have HKR:Hid (∀W,Calls prog 150 #[.int .i64 op] W λe w'=>e=.returned (.int .i64 2)/\W=w'):=λW=>by have q:=qpC op W;rw[qpD (by omega) h25.2,hc]at q;exact q
  have b0:(op==2)=false:=beq_eq_false_iff_ne.2 (by omega);have b1:(op !=11)=true:=bne_iff_ne.2 c11;have tok1:=trivial;clear hkd hkd1 hk hc;go_enter func117,ntmps117;go_upto_region 4 with(rw[<-hW];clear hW;go_at_call 150;refine(HKR.o _).mono ?_;rintro e w' ⟨rfl,rfl⟩)
  go_region_held3(λw'=>w'.cell? ⟨w.heap.size,0,none⟩=some (.int .i64 op)/\w'.cell? ⟨w.heap.size,2,none⟩=some (.slice (some ⟨ab,off,none⟩) 2 c)/\w'.cell? ⟨ab,off,none⟩=some (.int .i64 o0)/\w'.cell? ⟨ab,off+1,none⟩=some (.int .i64 n0)/\w'.cell? ⟨ab,off+2,none⟩=some (.slice A0 k0 d0')/\w'.cell? ⟨ab,off+3,none⟩=some (.int .i64 o1)/\w'.cell? ⟨ab,off+3+1,none⟩=some (.int .i64 n1)/\w'.cell? ⟨ab,off+3+2,none⟩=some (.slice A1 k1 d1')) (first|with_reducible exact S3.o|with_reducible exact S2.o|with_reducible exact S1.o|with_reducible exact S0d.o|exact S0.o) (first|(go_at_call 149;clear tok1;refine(HK0.o _ (aA (Bf _ _) 1)).mono ?_;rintro e w1 ⟨s1,rfl,hs1,hb⟩;have z10:¬(9223372036854775807<s1.size+1):=(by omega);have HB1:=Hd ((aA (Bf _ _) 1).tm hb);have S1:=Hd (HS.o w1 HB1.o);clear hb)|(go_at_call 151;refine(ziM _ op (by omega) (by omega)).mono ?_;rintro e w2 ⟨s2,rfl,hs2,hb⟩;have z20:¬(9223372036854775807<s1.size+1+s2.size):=(by omega);have z21:¬(9223372036854775807<s1.size+1+s2.size+1):=(by omega);have HB2:=Hd (HB1.o.tm hb);have S2:=Hd (HS.o w2 HB2.o);clear hb)|(go_at_call 149;refine(HK1.o _ HB2.o).mono ?_;rintro e w3 ⟨s3,rfl,hs3,hb⟩;have z30:¬(9223372036854775807<s1.size+1+s2.size+1+s3.size):=(by omega);have HB3:=Hd (HB2.o.tm hb);have S3:=Hd (HS.o w3 HB3.o);clear hb));go_wp2_with fail;go_ret;exact⟨_,rfl,by simp only[zcE,ByteArray.size_mk'];simp;omega,HB.o.tm HB3.o⟩
theorem zkF(hK:K<=100000000000000)(hk:(k:Int)=zbD op)(hn:0<=n/\n<=1000000000000000)(ih:∀i,i<k->zhW K (kid i))(hc:(op=2\/(zbD op=2/\op≠11)))(w:World)(v:Value)(h:Rd w w.heap.size (.mk op n k kid) v):
 Calls prog 149 #[v] w (zcI (2*K+20) w):=by
 obtain⟨A,c,rfl,i1,i2,hm,_⟩:=h.open_;obtain⟨W,hW,HB,hbx⟩:=zhA h;obtain⟨d0,d1,d2,hr⟩:=hbx W (Bf _ _);have hcc:(2<=op/\op<8)\/(17<=op/\op<=25):=by
  rcases hc with rfl|⟨hc,_⟩
  ·omega
  unfold zbD at hc;split at hc
  ·omega
  split at hc
  ·omega
  split at hc<;>omega
 have HC:=Hd (zjK hK hk hn ih hc W _ hr);clear hbx hr h hk;go_enter func149,ntmps149;go_upto_region 1 with(fail)
 rw[<-hW];clear hW;have b0:(op==0)=false:=beq_eq_false_iff_ne.2 (by omega);have b1:(op==1)=false:=beq_eq_false_iff_ne.2 (by omega);have b2:(op==11)=false:=beq_eq_false_iff_ne.2 (by omega);rcases hcc with hcc|hcc
 ·have b3:decide (op≥8)=false:=Df (by omega);go_wp2_with(go_at_call 117;refine HC.o.mono ?_;rintro e w' ⟨s,rfl,hs,hb⟩;have z0:¬(9223372036854775807<1+s.size):=(by omega);have z1:¬(9223372036854775807<1+s.size+1):=(by omega);have HB2:=Hd (HB.o.tm hb);clear hb);go_ret;exact⟨_,rfl,by simp only[zcE,ByteArray.size_mk'];simp;omega,HB2.o⟩
 ·have b3:decide (op≥8)=true:=Dt (by omega);have b4:decide (op<=16)=false:=Df (by omega);go_wp2_with(go_at_call 117;refine HC.o.mono ?_;rintro e w' ⟨s,rfl,hs,hb⟩;have z0:¬(9223372036854775807<1+s.size):=(by omega);have z1:¬(9223372036854775807<1+s.size+1):=(by omega);have HB2:=Hd (HB.o.tm hb);clear hb);go_ret;exact⟨_,rfl,by simp only[zcE,ByteArray.size_mk'];simp;omega,HB2.o⟩
theorem zkS(hK:K<=100000000000000)(hk:(k:Int)=zbD op)(hn:0<=n/\n<=1000000000000000)(ih:∀i,i<k->zhW K (kid i))(hc:(op=0\/op=1\/op=11\/(8<=op/\op<=16/\op≠11)))(w:World)(v:Value)(h:Rd w w.heap.size (.mk op n k kid) v):
 Calls prog 117 #[v] w (zcI (2*K+30) w):=by
 obtain⟨A,c,rfl,i1,i2,hm,_⟩:=h.open_;obtain⟨W,hW,HB,hbx⟩:=zhA h;obtain⟨d0,d1,d2,hr⟩:=hbx W (Bf _ _);have HKR:Hid (∀W,Calls prog 150 #[.int .i64 op] W λe w'=>e=.returned (.int .i64 (zbD op))/\W=w'):=λW=>by have q:=qpC op W;rw[qpD (by omega) (by omega)]at q;exact q
 have hkc:op≠11->zbD op≠2:=λh=>by unfold zbD;split<;>(try split)<;>(try split)<;>omega
 have HC:=Hd (ziV hK hk hn ih hc W _ hr);clear hbx hr h hk;go_enter func117,ntmps117;go_upto_region 1 with(fail)
 rw[<-hW];clear hW;have b0:(op==2)=false:=beq_eq_false_iff_ne.2 (by omega);generalize zbD op=kk at*
 by_cases h11:op=11
 ·have b2:(op !=11)=false:=by simp[h11]
  clear h11 hkc hc;go_wp2_with(first|(go_at_call 150;refine(HKR.o _).mono ?_;rintro e w' ⟨rfl,rfl⟩)|(go_at_call 149;refine HC.o.mono ?_;rintro e w' ⟨s,rfl,hs,hb⟩;have HB2:=Hd (HB.o.tm hb);clear hb));all_goals
   go_ret;exact⟨_,rfl,by omega,HB2.o⟩
 ·have b2:(kk==2)=false:=beq_eq_false_iff_ne.2 (hkc h11);clear h11 hkc hc;go_wp2_with(first|(go_at_call 150;refine(HKR.o _).mono ?_;rintro e w' ⟨rfl,rfl⟩)|(go_at_call 149;refine HC.o.mono ?_;rintro e w' ⟨s,rfl,hs,hb⟩;have HB2:=Hd (HB.o.tm hb);clear hb));go_ret;exact⟨_,rfl,by omega,HB2.o⟩
theorem zkR(hK0:50<=K)(hK:K<=100000000000000)(hk:(k:Int)=zbD op)(hn:0<=n/\n<=1000000000000000)(ih:∀i,i<k->zhW K (kid i)):zhW (4*K) (.mk op n k kid):=by
 intro w v h;have hcc:(op=0\/op=1\/op=11\/(8<=op/\op<=16/\op≠11))\/(op=2\/(zbD op=2/\op≠11)):=by
  have e:zbD op=2\/zbD op≠2:=by omega
  have h2:=hk;unfold zbD at h2;split at h2
  ·omega
  split at h2
  ·rename_i q1 q2;rcases q2 with q|q|q
   ·exact .inr (.inr ⟨by omega,by omega⟩)
   ·omega
   ·exact .inr (.inr ⟨by omega,by omega⟩)
  split at h2
  ·omega
  ·omega
 have hcl:∀W u,Rd W W.heap.size (.mk op n k kid) u->Calls prog 149 #[u] W (zcI (2*K+30) W)/\Calls prog 117 #[u] W (zcI (2*K+30) W):=λW u hu=>by
  rcases hcc with hc|hc
  ·exact⟨ziV hK hk hn ih hc W u hu,zkS hK hk hn ih hc W u hu⟩
  ·exact⟨(zkF hK hk hn ih hc W u hu).mono λe w' ⟨s,q1,q2,q3⟩=>⟨s,q1,by omega,q3⟩,(zjK hK hk hn ih hc W u hu).mono λe w' ⟨s,q1,q2,q3⟩=>⟨s,q1,by omega,q3⟩⟩
 obtain⟨h1,h2⟩:=hcl w v h;refine⟨h1.mono λe w' ⟨s,q1,q2,q3⟩=>⟨s,q1,by omega,q3⟩,h2.mono λe w' ⟨s,q1,q2,q3⟩=>⟨s,q1,by omega,q3⟩,?_⟩;obtain⟨A,c,rfl,i1,i2,hm,_⟩:=h.open_;obtain⟨W,hW,HB,hbx⟩:=zhA h;obtain⟨d0,d1,d2,hr⟩:=hbx W (Bf _ _);obtain⟨h3,h4⟩:=hcl W _ hr;have HC3:=Hd h3;have HC4:=Hd h4;clear hbx hr h hk hcl h1 h2 h3 h4 ih hcc;by_cases c0:op=0
 ·subst c0;go_enter func116,ntmps116;go_upto_region 1 with(fail)
  rw[<-hW];clear hW;go_wp2_with(go_at_call 149;refine HC3.o.mono ?_;rintro e w' ⟨s,rfl,hs,hb⟩;have z0:¬(9223372036854775807<1+s.size):=(by omega);have HB2:=Hd (HB.o.tm hb);clear hb);go_ret;exact⟨_,rfl,by simp only[zcE,ByteArray.size_mk'];simp;omega,HB2.o⟩
 have b0:(op==0)=false:=beq_eq_false_iff_ne.2 c0;by_cases c1:op=1
 ·subst c1;go_enter func116,ntmps116;go_upto_region 1 with(fail)
  rw[<-hW];clear hW;go_wp2_with(go_at_call 149;refine HC3.o.mono ?_;rintro e w' ⟨s,rfl,hs,hb⟩;have z0:¬(9223372036854775807<1+s.size):=(by omega);have HB2:=Hd (HB.o.tm hb);clear hb);go_ret;exact⟨_,rfl,by simp only[zcE,ByteArray.size_mk'];simp;omega,HB2.o⟩
 have b1:(op==1)=false:=beq_eq_false_iff_ne.2 c1;clear c0 c1;go_enter func116,ntmps116;go_upto_region 1 with(fail)
 rw[<-hW];clear hW;go_wp2_with(go_at_call 117;refine HC4.o.mono ?_;rintro e w' ⟨s,rfl,hs,hb⟩;have z0:¬(9223372036854775807<2+s.size):=(by omega);have z1:¬(9223372036854775807<2+s.size+1):=(by omega);have HB2:=Hd (HB.o.tm hb);clear hb);go_ret;exact⟨_,rfl,by simp only[zcE,ByteArray.size_mk'];simp;omega,HB2.o⟩
end
theorem zhZ:∀(m:Nat) (t:Tr),m<=17->zaV m t=true->zhW (100*4^m) t:=by
 intro m;induction m with
 |zero=>intro t _ h;cases h
 |succ m ih=>
  intro t hm h;rcases t with _|⟨op,n,k,kid⟩
  ·cases h
  obtain⟨h1,h2,h3⟩:=cH h;have p1:4^m<=4^17:=Nat.pow_le_pow_right (by omega) (by omega);have p0:0<4^m:=Nat.pow_pos (by omega);have hn:0<=n/\n<=1000000000000000:=by
   unfold zfQ at h2;split at h2<;>(have:=of_decide_eq_true h2;omega)
  rw[show 100*4^(m+1)=4*(100*4^m)by rw[Nat.pow_succ];omega];exact zkR (by omega) (by omega) h1 hn λi hi=>ih _ (by omega) (h3 i hi)
theorem zfH{W:World}{g:Nat}{v0 v1 v2 v3 v4 v5 v6 v7 v8 v9 v10:Value}{T:TypeId}(h:W.heap[g]? =some (.cells #[v0,v1,v2,v3,v4,v5,v6,v7,v8,v9,v10] T (0,0))):W.cell? ⟨g,0,none⟩=some v0/\W.cell? ⟨g,1,none⟩=some v1/\W.cell? ⟨g,2,none⟩=some v2/\W.cell? ⟨g,3,none⟩=some v3/\W.cell? ⟨g,4,none⟩=some v4/\W.cell? ⟨g,5,none⟩=some v5/\W.cell? ⟨g,6,none⟩=some v6/\W.cell? ⟨g,7,none⟩=some v7/\W.cell? ⟨g,8,none⟩=some v8/\W.cell? ⟨g,9,none⟩=some v9/\W.cell? ⟨g,10,none⟩=some v10:=
 ⟨Ro W _ 0 _ _ _ h,Ro W _ 1 _ _ _ h,Ro W _ 2 _ _ _ h,Ro W _ 3 _ _ _ h,Ro W _ 4 _ _ _ h,Ro W _ 5 _ _ _ h,Ro W _ 6 _ _ _ h,Ro W _ 7 _ _ _ h,Ro W _ 8 _ _ _ h,Ro W _ 9 _ _ _ h,Ro W _ 10 _ _ _ h⟩
theorem zhY(w:World)(op n:Int)(A:OA)(k c:Nat):Calls prog 152 #[.agg #[.int .i64 op,.int .i64 n,.slice A k c]] w λe w'=>e=.returned (.bool (op==0||op==1))/\Bw w w':=by
 obtain⟨W,hW,HB,q⟩:=newW w #[.int .i64 op,.int .i64 n,.slice A k c] 52;have d0:=ce0 q;rcases b0:(op==0)with _|_<;>rcases b1:(op==1)with _|_
 all_goals
  go_enter func152,ntmps152;go_upto_region 1 with(fail)
  rw[<-hW];clear hW;go_wp2_with fail;go_ret;exact⟨rfl,HB.o⟩
theorem zhO(t:Tr)(h16:zaV 16 t=true)(w:World)(v:Value)(h:Rd w w.heap.size t v):Calls prog 118 #[v] w (zcI 429496729700 w):=by
 rcases t with _|⟨op,n,k,kid⟩
 ·cases h16
 have HT:zhW 429496729600 (.mk op n k kid):=zhZ 16 _ (by omega) h16;have ih:∀i,i<k->zhW 429496729600 (kid i):=λi hi w v hr=>by
  obtain⟨q1,q2,q3⟩:=zhZ 15 _ (by omega) ((cH h16).2.2 i hi) w v hr;exact⟨q1.mono λe w' ⟨s,r1,r2,r3⟩=>⟨s,r1,by omega,r3⟩,q2.mono λe w' ⟨s,r1,r2,r3⟩=>⟨s,r1,by omega,r3⟩,q3.mono λe w' ⟨s,r1,r2,r3⟩=>⟨s,r1,by omega,r3⟩⟩
 have hk:=(cH h16).1;obtain⟨A,c,rfl,i1,i2,hm,_⟩:=h.open_;obtain⟨W,hW,HB,hbx⟩:=zhA h;have HBX:=Hd hbx;have HTT:=Hd HT;obtain⟨d0,d1,d2,hr⟩:=hbx W (Bf _ _);clear hbx h h16 HT hr;go_enter func118,ntmps118;go_upto_region 1 with(fail)
 rw[<-hW];clear hW;go_wp2_with fail;refine(zhY _ _ _ _ _ _).mono ?_;rintro e w1 ⟨rfl,hb⟩;obtain⟨e0,e1,e2,hr⟩:=HBX.o w1 hb;have HB1:=Hd (HB.o.tm hb);have HC:=Hd (HTT.o w1 _ hr);have HR:=Hd hr;clear hb hr d0 d1 d2 HBX HB;rcases hp:(op==0||op==1)with _|_
 rotate_left
 ·go_wp2_with(go_at_call 149;refine HC.o.1.mono ?_;rintro e w' ⟨s,rfl,hs,hb⟩;have HB2:=Hd (HB1.o.tm hb);clear hb);go_ret;exact⟨_,rfl,by omega,HB2.o⟩
 by_cases h2:op=2
 ·subst h2;obtain rfl:k=1:=by have e:zbD 2=1:=rfl;omega
  obtain⟨ab,off,o0,n0,A0,k0,d0',rfl,hkd⟩:=zfU HR.o ih (i:=0) (by omega);obtain⟨g0,g1,g2,_⟩:=hkd w1 (Bf _ _);have f0:w1.cell? ⟨ab,off,none⟩=some (.int .i64 o0):=g0;have f1:w1.cell? ⟨ab,off+1,none⟩=some (.int .i64 n0):=g1;have f2:w1.cell? ⟨ab,off+2,none⟩=some (.slice A0 k0 d0'):=g2;have HKD:=Hd hkd;have HL:Hid (w.heap.size<w1.heap.size):=vG e0;clear g0 g1 g2 hkd hk hp ih;go_wp2_with fail;refine(zhY _ _ _ _ _ _).mono ?_;rintro e w2 ⟨rfl,hb⟩;obtain⟨g0,g1,g2,hc0,_⟩:=HKD.o w2 hb;have e0':=hb.ct HL.o e0;have e1':=hb.ct HL.o e1;have e2':=hb.ct HL.o e2;have HC0:=Hd hc0;have HB2:=Hd (HB1.o.tm hb);have f0':w2.cell? ⟨ab,off,none⟩=some (.int .i64 o0):=g0;have f1':w2.cell? ⟨ab,off+1,none⟩=some (.int .i64 n0):=g1;have f2':w2.cell? ⟨ab,off+2,none⟩=some (.slice A0 k0 d0'):=g2;have HC2:=Hd (HTT.o w2 _ (HR.o.below hb hb.size)).2.1;clear hb g0 g1 g2 hc0 f0 f1 f2 e0 e1 e2;rcases hp:(o0==0||o0==1)with _|_
  ·go_wp2_with(go_at_call 117;refine HC2.o.mono ?_;rintro e w' ⟨s,rfl,hs,hb⟩;have z1:¬(9223372036854775807<1+s.size):=(by omega);have z2:¬(9223372036854775807<1+s.size+1):=(by omega);have HB3:=Hd (HB2.o.tm hb);clear hb);go_ret;exact⟨_,rfl,by simp only[zcE,ByteArray.size_mk'];simp;omega,HB3.o⟩
  ·go_wp2_with(go_at_call 149;refine HC0.o.mono ?_;rintro e w' ⟨s,rfl,hs,hb⟩;have z1:¬(9223372036854775807<1+s.size):=(by omega);have HB3:=Hd (HB2.o.tm hb);clear hb);go_ret;exact⟨_,rfl,by simp only[zcE,ByteArray.size_mk'];simp;omega,HB3.o⟩
 ·have b2:(op==2)=false:=beq_eq_false_iff_ne.2 h2;clear h2 ih hk;go_wp2_with(go_at_call 117;refine HC.o.2.1.mono ?_;rintro e w' ⟨s,rfl,hs,hb⟩;have z1:¬(9223372036854775807<1+s.size):=(by omega);have z2:¬(9223372036854775807<1+s.size+1):=(by omega);have HB3:=Hd (HB1.o.tm hb);clear hb);go_ret;exact⟨_,rfl,by simp only[zcE,ByteArray.size_mk'];simp;omega,HB3.o⟩
theorem zkW(W:World)(g:Nat)(cc:Int)(h0:0<=cc)(h1:cc<=255)(hc:W.cell? ⟨g,0,none⟩=some (.int .u8 cc)):(convert 46 9 (.slice (some ⟨g,0,none⟩) 1 1)).run prog W=.ok (.string ⟨#[UInt8.ofNat cc.toNat]⟩) W:=by
 refine run_convert_bytes_back W 46 9 5 ⟨g,0,none⟩ 1 [UInt8.ofNat cc.toNat] underlying46 underlying5 underlying9 (λj hj=> ?_);obtain rfl:j=0:=by simpa using hj
 have e:(UInt8.ofNat cc.toNat).toNat=cc.toNat:=by rw[UInt8.toNat_ofNat'];omega
 rw[show(⟨g,0,none⟩:Addr).add 0=⟨g,0,none⟩from rfl,hc];simp only[List.getElem_cons_zero,e];rw[Int.toNat_of_nonneg h0]
theorem zjN{b:Bk}(h:zbA b=true):(0<=b.kind/\b.kind<=6/\0<=b.label/\b.label<=99999/\b.words.length<=24)/\(∀x∈b.words,65<=x.1/\x.1<=90/\zaV 16 x.2=true)/\(b.kind=1\/b.kind=3->zaV 16 b.left=true)/\(1<=b.kind/\b.kind<=4->zaV 16 b.x=true)/\0<=b.n/\b.n<=99999:=by
 unfold zbA zgJ at h;simp only[Ba1,Du,List.all_eq_true]at h;obtain⟨⟨⟨⟨h1,h2⟩,h3⟩,h4⟩,h5⟩:=h;refine⟨⟨h1.1,h1.2.1,h1.2.2.1,h1.2.2.2.1,h1.2.2.2.2.1⟩,λx hx=> ?_,λhk=> ?_,λhk=> ?_,?_⟩
 ·have q:=h2 x hx;unfold zeR at q;simp only[Ba1,Du]at q;exact⟨q.1.1,q.1.2.1,q.2⟩
 ·have e:zdA b=true:=by unfold zdA;rcases hk with hk|hk<;>simp[hk]
  rw[e]at h3;exact h3
 ·have e:xK b=true:=by
   unfold xK zdA;rcases(by omega:b.kind=1\/b.kind=2\/b.kind=3\/b.kind=4)with hk|hk|hk|hk<;>simp[hk]
  rw[e]at h4;exact h4
 ·unfold zdB at h5;split at h5
  ·have:=of_decide_eq_true h5;omega
  ·split at h5<;>(have:=of_decide_eq_true h5;omega)
theorem ziT(w:World)(b:Bk)(A:OA)(n c:Nat)(l0 l1 l2 x0 x1 x2:Value)(h:RdB w w.heap.size b A n l0 l1 l2 x0 x1 x2):
 Calls prog 80 #[.agg #[.int .i64 b.kind,.int .i64 b.label,.bool b.skip,.slice A n c,l0,l1,l2,x0,x1,x2,.int .i64 b.n]] w (zcI 100000000000000 w):=by
 obtain⟨lo,ln,lA,lk,lc,rfl,rfl,rfl⟩:=h.left.form;obtain⟨xo,xn,xA,xk,xc,rfl,rfl,rfl⟩:=h.x.form;obtain⟨W,hW,HB,q⟩:=newW w #[.int .i64 b.kind,.int .i64 b.label,.bool b.skip,.slice A n c,.int .i64 lo,.int .i64 ln,.slice lA lk lc,.int .i64 xo,.int .i64 xn,.slice xA xk xc,.int .i64 b.n] 54;have HCE:Hid (∀W',Bw W W'->W'.heap[w.heap.size]? =some (.cells #[.int .i64 b.kind,.int .i64 b.label,.bool b.skip,.slice A n c,.int .i64 lo,.int .i64 ln,.slice lA lk lc,.int .i64 xo,.int .i64 xn,.slice xA xk xc,.int .i64 b.n] 54 (0,0))):=λW' h'=>(h'.block _ (hlS q)).trans q;have HRB:Hid (∀W',Bw W W'->RdB W' W'.heap.size b A n (.int .i64 lo) (.int .i64 ln) (.slice lA lk lc) (.int .i64 xo) (.int .i64 xn) (.slice xA xk xc)):=λW' h'=>h.keep (λp hp=>((HB.o.tm h').cell hp)) (HB.o.tm h').size;obtain⟨a0,a1,a2,a3,a4,a5,a6,a7,a8,a9,a10⟩:=zfH q;have HV:=Hd (qdY W W.heap.size b A n c _ _ _ _ _ _ (HRB.o W (Bf _ _)) (Le _));clear q h;go_enter func80,ntmps80;go_upto_region 1 with(fail)
 rw[<-hW];clear hW;go_wp2_with fail;refine HV.o.mono ?_;rintro e w1 ⟨rfl,hb⟩;have HB1:=Hd hb;clear HV hb a0 a1 a2 a3 a4 a5 a6 a7 a8 a9 a10;rcases hv:zbA b with _|_
 ·go_wp2_with fail;go_ret;exact⟨_,rfl,Lq _,HB.o.tm HB1.o⟩
 have HVF:=Hd (zjN hv);clear hv;obtain⟨a0,a1,a2,a3,a4,a5,a6,a7,a8,a9,a10⟩:=zfH (HCE.o w1 HB1.o);go_upto_if 9 with(fail)
 go_cut[3] (λs3 W'=>∃u:ByteArray,s3=.string u/\u.size<=2/\W'=w1)
 case first=>
  go_wp2_with fail;all_goals go_meet
  ·exact⟨_,rfl,Le _,rfl⟩
  ·exact⟨_,rfl,Lq _,rfl⟩
 case rest=>
 obtain⟨u,rfl,hu,rfl⟩:=hcut;have z0:¬(9223372036854775807<u.size+2):=by omega
 go_upto_if 14 with(fail)
 go_cut[3] (λs3 W'=>∃u:ByteArray,s3=.string u/\u.size<=25/\W'=wc)
 case first=>
  by_cases hl:0<b.label
  ·have g1:decide (b.label>0)=true:=Dt hl;have hl2:=HVF.o.1.2.2.2.1;go_wp2_with(go_at_call 115;refine(zdZ _ (by omega) (by omega) _).mono ?_;rintro e w' ⟨s,rfl,hs,rfl⟩;have z1:¬(9223372036854775807<u.size+2+s.size):=(by omega));go_meet;exact⟨_,rfl,by simp only[zcE,ByteArray.size_mk'];simp;omega,rfl⟩
  ·have g1:decide (b.label>0)=false:=Df hl;go_wp2_with fail;go_meet;exact⟨u,rfl,by omega,rfl⟩
 case rest=>
 obtain⟨u2,rfl,hu2,rfl⟩:=hcut;have HK:Hid (0<=b.kind/\b.kind<=6):=⟨HVF.o.1.1,HVF.o.1.2.1⟩;have HXT:Hid (1<=b.kind/\b.kind<=4->∀W',Bw wc W'->(Calls prog 117 #[.agg #[.int .i64 xo,.int .i64 xn,.slice xA xk xc]] W' (zcI 429496729700 W'))/\Calls prog 118 #[.agg #[.int .i64 xo,.int .i64 xn,.slice xA xk xc]] W' (zcI 429496729700 W')):=λhk W' h'=>by
  have hx:=HVF.o.2.2.2.1 hk;have hr:=(HRB.o W' (HB1.o.tm h')).x;exact⟨(zhZ 16 _ (by omega) hx W' _ hr).2.1.mono λe w' ⟨s,q1,q2,q3⟩=>⟨s,q1,by omega,q3⟩,zhO _ hx W' _ hr⟩
 have HLT:Hid (b.kind=1\/b.kind=3->∀W',Bw wc W'->(Calls prog 116 #[.agg #[.int .i64 lo,.int .i64 ln,.slice lA lk lc]] W' (zcI 429496729700 W'))/\Calls prog 118 #[.agg #[.int .i64 lo,.int .i64 ln,.slice lA lk lc]] W' (zcI 429496729700 W')):=λhk W' h'=>by
  have hx:=HVF.o.2.2.1 hk;have hr:=(HRB.o W' (HB1.o.tm h')).left;exact⟨(zhZ 16 _ (by omega) hx W' _ hr).2.2.mono λe w' ⟨s,q1,q2,q3⟩=>⟨s,q1,by omega,q3⟩,zhO _ hx W' _ hr⟩
 have HVN:Hid (0<=b.n/\b.n<=99999):=HVF.o.2.2.2.2;have HS:Hid (∀w',Bw wc w'->w'.cell? ⟨w.heap.size,4,none⟩=some (.int .i64 lo)/\w'.cell? ⟨w.heap.size,5,none⟩=some (.int .i64 ln)/\w'.cell? ⟨w.heap.size,6,none⟩=some (.slice lA lk lc)/\w'.cell? ⟨w.heap.size,7,none⟩=some (.int .i64 xo)/\w'.cell? ⟨w.heap.size,8,none⟩=some (.int .i64 xn)/\w'.cell? ⟨w.heap.size,9,none⟩=some (.slice xA xk xc)/\w'.cell? ⟨w.heap.size,10,none⟩=some (.int .i64 b.n)):=λw' h'=>by
  obtain⟨_,_,_,_,q⟩:=zfH (HCE.o w' (HB1.o.tm h'));exact q
 go_upto_block 0 with(fail)
 go_cut[3] (λs3 W'=>∃u:ByteArray,s3=.string u/\u.size<=1000000000000/\Bw wc W')
 case first=>
  have hkk:=HK.o;rcases(by omega:b.kind=0\/b.kind=1\/b.kind=2\/b.kind=3\/b.kind=4\/b.kind=5\/b.kind=6)with hk|hk|hk|hk|hk|hk|hk
  all_goals
   have HQ:=Hd hk;have hq:∀j:Int,(b.kind==j)=(_==j):=λj=>by rw[hk]
   have S0:=Hd (HS.o wc (Bf _ _));have S0d:=Hd (HS.o wc.drew (aA (Bf _ _) 1));have tok1:=trivial;clear hk hkk
  ·go_wp2_with fail;go_meet;exact⟨u2,rfl,by omega,Bf _ _⟩
  ·have HX:=Hd (HXT.o (by have:=HQ.o;omega));have HL:=Hd (HLT.o (.inl HQ.o));have y0:¬(9223372036854775807<u2.size+1):=by omega
   go_upto_region 10 with(fail)
   go_region_held3(λw'=>w'.cell? ⟨w.heap.size,4,none⟩=some (.int .i64 lo)/\w'.cell? ⟨w.heap.size,5,none⟩=some (.int .i64 ln)/\w'.cell? ⟨w.heap.size,6,none⟩=some (.slice lA lk lc)/\w'.cell? ⟨w.heap.size,7,none⟩=some (.int .i64 xo)/\w'.cell? ⟨w.heap.size,8,none⟩=some (.int .i64 xn)/\w'.cell? ⟨w.heap.size,9,none⟩=some (.slice xA xk xc)/\w'.cell? ⟨w.heap.size,10,none⟩=some (.int .i64 b.n)) (first|with_reducible exact S2.o|with_reducible exact S1.o|with_reducible exact S0d.o|exact S0.o) (first|(go_at_call 116;refine(HL.o _ (aA (Bf _ _) 1)).1.mono ?_;rintro e w1 ⟨s1,rfl,hs1,hb⟩;have y10:¬(9223372036854775807<u2.size+1+s1.size):=(by omega);have y11:¬(9223372036854775807<u2.size+1+s1.size+3):=(by omega);have HC1:=Hd ((aA (Bf _ _) 1).tm hb);have S1:=Hd (HS.o w1 HC1.o);clear hb)|(go_at_call 117;refine(HX.o _ HC1.o).1.mono ?_;rintro e w2 ⟨s2,rfl,hs2,hb⟩;have y20:¬(9223372036854775807<u2.size+1+s1.size+3+s2.size):=(by omega);have HC2:=Hd (HC1.o.tm hb);have S2:=Hd (HS.o w2 HC2.o);clear hb));go_wp2_with fail;go_meet;exact⟨_,rfl,by simp only[zcE,ByteArray.size_mk'];simp;omega,HC2.o⟩
  ·have HX:=Hd (HXT.o (by have:=HQ.o;omega));have y0:¬(9223372036854775807<u2.size+6):=by omega
   go_wp2_with(go_at_call 118;refine(HX.o _ (Bf _ _)).2.mono ?_;rintro e w2 ⟨s,rfl,hs,hb⟩;have y0:¬(9223372036854775807<u2.size+6+s.size):=(by omega);have HC2:=Hd hb;clear hb);go_meet;exact⟨_,rfl,by simp only[zcE,ByteArray.size_mk'];simp;omega,HC2.o⟩
  ·have HX:=Hd (HXT.o (by have:=HQ.o;omega));have HL:=Hd (HLT.o (.inr HQ.o));have y0:¬(9223372036854775807<u2.size+5):=by omega
   go_upto_region 12 with(fail)
   go_region_held3(λw'=>w'.cell? ⟨w.heap.size,4,none⟩=some (.int .i64 lo)/\w'.cell? ⟨w.heap.size,5,none⟩=some (.int .i64 ln)/\w'.cell? ⟨w.heap.size,6,none⟩=some (.slice lA lk lc)/\w'.cell? ⟨w.heap.size,7,none⟩=some (.int .i64 xo)/\w'.cell? ⟨w.heap.size,8,none⟩=some (.int .i64 xn)/\w'.cell? ⟨w.heap.size,9,none⟩=some (.slice xA xk xc)/\w'.cell? ⟨w.heap.size,10,none⟩=some (.int .i64 b.n)) (first|with_reducible exact S2.o|with_reducible exact S1.o|with_reducible exact S0d.o|exact S0.o) (first|(go_at_call 117;refine(HX.o _ (aA (Bf _ _) 1)).1.mono ?_;rintro e w1 ⟨s1,rfl,hs1,hb⟩;have y10:¬(9223372036854775807<u2.size+5+s1.size):=(by omega);have y11:¬(9223372036854775807<u2.size+5+s1.size+7):=(by omega);have HC1:=Hd ((aA (Bf _ _) 1).tm hb);have S1:=Hd (HS.o w1 HC1.o);clear hb)|(go_at_call 118;refine(HL.o _ HC1.o).2.mono ?_;rintro e w2 ⟨s2,rfl,hs2,hb⟩;have y20:¬(9223372036854775807<u2.size+5+s1.size+7+s2.size):=(by omega);have HC2:=Hd (HC1.o.tm hb);have S2:=Hd (HS.o w2 HC2.o);clear hb));go_wp2_with fail;go_meet;exact⟨_,rfl,by simp only[zcE,ByteArray.size_mk'];simp;omega,HC2.o⟩
  ·have HX:=Hd (HXT.o (by have:=HQ.o;omega));have hvn:=HVN.o;have y0:¬(9223372036854775807<u2.size+8):=by omega
   go_upto_region 16 with(fail)
   go_region_held3(λw'=>w'.cell? ⟨w.heap.size,4,none⟩=some (.int .i64 lo)/\w'.cell? ⟨w.heap.size,5,none⟩=some (.int .i64 ln)/\w'.cell? ⟨w.heap.size,6,none⟩=some (.slice lA lk lc)/\w'.cell? ⟨w.heap.size,7,none⟩=some (.int .i64 xo)/\w'.cell? ⟨w.heap.size,8,none⟩=some (.int .i64 xn)/\w'.cell? ⟨w.heap.size,9,none⟩=some (.slice xA xk xc)/\w'.cell? ⟨w.heap.size,10,none⟩=some (.int .i64 b.n)) (first|with_reducible exact S2.o|with_reducible exact S1.o|with_reducible exact S0d.o|exact S0.o) (first|(go_at_call 117;refine(HX.o _ (aA (Bf _ _) 1)).1.mono ?_;rintro e w1 ⟨s1,rfl,hs1,hb⟩;have y10:¬(9223372036854775807<u2.size+8+s1.size):=(by omega);have y11:¬(9223372036854775807<u2.size+8+s1.size+5):=(by omega);have HC1:=Hd ((aA (Bf _ _) 1).tm hb);have S1:=Hd (HS.o w1 HC1.o);clear hb)|(go_at_call 115;refine(zdZ _ (by omega) (by omega) _).mono ?_;rintro e w2 ⟨s2,rfl,hs2,rfl⟩;have y20:¬(9223372036854775807<u2.size+8+s1.size+5+s2.size):=(by omega);));go_wp2_with fail;go_meet;exact⟨_,rfl,by simp only[zcE,ByteArray.size_mk'];simp;omega,HC1.o⟩
  ·have y0:¬(9223372036854775807<u2.size+5):=by omega
   go_wp2_with(go_at_call 115;refine(zdZ _ HVN.o.1 (by have:=HVN.o.2;omega) _).mono ?_;rintro e w2 ⟨s,rfl,hs,rfl⟩;have y0:¬(9223372036854775807<u2.size+5+s.size):=(by omega);have HC2:Hid (Bw wc wc):=Bf _ _);go_meet;exact⟨_,rfl,by simp only[zcE,ByteArray.size_mk'];simp;omega,HC2.o⟩
  ·have y0:¬(9223372036854775807<u2.size+2):=by omega
   go_wp2_with(go_at_call 115;refine(zdZ _ HVN.o.1 (by have:=HVN.o.2;omega) _).mono ?_;rintro e w2 ⟨s,rfl,hs,rfl⟩;have y0:¬(9223372036854775807<u2.size+2+s.size):=(by omega);have HC2:Hid (Bw wc wc):=Bf _ _);go_meet;exact⟨_,rfl,by simp only[zcE,ByteArray.size_mk'];simp;omega,HC2.o⟩
 case rest=>
 obtain⟨u3,rfl,hu3,hbc⟩:=hcut;have HB3:=Hd (HB1.o.tm hbc);have HN:=Hd (HRB.o wc HB3.o).words.1;have hn24:n<=24:=by rw[HN.o];exact HVF.o.1.2.2.2.2
 have HR0:Hid (∃(k:Nat) (u:ByteArray),k<=n/\Value.string u3=.string u/\Value.int .i64 0=.int .i64 (k:Int)/\u.size<=1000000000000+k*500000000000/\Bw W wc):=⟨0,u3,by omega,rfl,rfl,by omega,HB3.o⟩;clear hu3 hbc HB1 HB3;go_wp2_with fail;go_loopw[3,4] (λs i W'=>∃(k:Nat) (u:ByteArray),k<=n/\s=.string u/\i=.int .i64 (k:Int)/\u.size<=1000000000000+k*500000000000/\Bw W W') (λ_ i _=>n-(intOf i).toNat)
 case atStart=>exact HR0.o
 case round=>
  obtain⟨k,u,hk,rfl,rfl,hu,hbr⟩:=hrel;have HBR:=Hd hbr;obtain⟨_,_,_,a3,_⟩:=zfH (HCE.o wr hbr);clear hbr;by_cases hlt:k<n
  ·obtain⟨ab,off,rfl,hab,hc⟩:=(HRB.o wr HBR.o).words.2.2.2 (by omega);obtain⟨⟨cc,t⟩,hx⟩:∃x,b.words[k]? =some x:=⟨_,Gg (by have:=HN.o;omega)⟩;obtain⟨h65,h90,h16⟩:=HVF.o.2.1 _ (Mg hx);obtain⟨z0,x,y,z,z1,z2,z3,hr⟩:=hc k _ hx;dsimp only at h65 h90 h16 z0 hr;obtain⟨tq,tn,tA,tk,tc,rfl,rfl,rfl⟩:=hr.form;have HS:Hid (∀w',Bw wr w'->w'.cell? ⟨w.heap.size,3,none⟩=some (.slice (some ⟨ab,off,none⟩) n c)/\w'.cell? ⟨ab,off+k*4,none⟩=some (.int .i64 cc)/\w'.cell? ⟨ab,off+k*4+1,none⟩=some (.int .i64 tq)/\w'.cell? ⟨ab,off+k*4+1+1,none⟩=some (.int .i64 tn)/\w'.cell? ⟨ab,off+k*4+1+2,none⟩=some (.slice tA tk tc)):=λw' h'=>⟨(zfH (HCE.o w' (HBR.o.tm h'))).2.2.2.1,h'.ct hab z0,h'.ct hab z1,h'.ct hab z2,h'.ct hab z3⟩;have HVT:Hid (∀w',Bw wr w'->Calls prog 118 #[.agg #[.int .i64 tq,.int .i64 tn,.slice tA tk tc]] w' (zcI 429496729700 w')):=λw' h'=>zhO t h16 w' _ (hr.below h' h'.size);have w8:IntKind.u8.wrap cc=cc:=IntWalk.u8_in _ (by omega);have i0:(0:Int)<=(k:Int):=by omega
   have i1:(k:Int)<(n:Int):=by omega
   have y0:¬(9223372036854775807<u.size+1):=by omega
   have y1:¬(9223372036854775807<u.size+1+1):=by omega
   have HCV:Hid (∀W' g,W'.cell? ⟨g,0,none⟩=some (.int .u8 cc)->(convert 46 9 (.slice (some ⟨g,0,none⟩) 1 1)).run prog W'=.ok (.string ⟨#[UInt8.ofNat cc.toNat]⟩) W'):=λW' g h'=>zkW W' _ cc (by omega) (by omega) h';have S0:=Hd (HS.o wr (Bf _ _));have S0d:=Hd (HS.o wr.drew (aA (Bf _ _) 1));have BA:Hid (Bw wr (wr.alloc (.cells #[.int .u8 cc] 5)).drew):=aA (nB _ _) 1;have S1:=Hd (HS.o _ BA.o);have C1:(convert 46 9 (.slice (some ⟨wr.heap.size,0,none⟩) 1 1)).run prog (wr.alloc (.cells #[.int .u8 cc] 5)).drew=.ok (.string ⟨#[UInt8.ofNat cc.toNat]⟩) (wr.alloc (.cells #[.int .u8 cc] 5)).drew:=HCV.o _ _ (ce0 (Hn wr (.cells #[.int .u8 cc] 5)));clear hc hx h65 h90 h16 z0 z1 z2 z3 hr;go_upto_region 24 with(fail)
   refine wp_region_noPanic ?_;refine wp_region_held_drew (S:=λw'=>w'.cell? ⟨w.heap.size,3,none⟩=some (.slice (some ⟨ab,off,none⟩) n c)/\w'.cell? ⟨ab,off+k*4,none⟩=some (.int .i64 cc)/\w'.cell? ⟨ab,off+k*4+1,none⟩=some (.int .i64 tq)/\w'.cell? ⟨ab,off+k*4+1+1,none⟩=some (.int .i64 tn)/\w'.cell? ⟨ab,off+k*4+1+2,none⟩=some (.slice tA tk tc)) (by kernel_rfl) S0.o (λhH=> ?_);refine tkA 0 ?_;refine tkA 1 ?_;refine tkA 2 ?_;refine tkA 3 ?_;refine tkA 4 ?_;refine tkA 5 ?_;refine tkA 6 ?_;refine tkA 7 ?_;refine tkA 8 ?_;refine tkA 12 ?_;refine tkA 13 ?_;refine tkA 14 ?_;refine tkA 15 ?_;refine tkA 16 ?_;refine tkA 17 ?_;try simp only[Act.put,L0,L4,L5]
   refine rd2 9 18 rfl rfl (λK hK=> ?_) (λK hK=> ?_)
   ·go_simp;refine hK.o _ _ S1.o (λhH=> ?_);clear hK K;try simp only[Act.put,L0,L4,L5]
    refine rd2 10 18 rfl rfl (λK hK=> ?_) (λK hK=> ?_)
    ·go_simp;refine hK.o _ _ S1.o (λhH=> ?_);clear hK K;try simp only[Act.put,L0,L4,L5]
     refine tkA 11 ?_;try simp only[Act.put,L0,L4,L5]
     refine rd1 18 rfl λK hK=> ?_;go_simp;go_at_call 118;refine(HVT.o _ BA.o).mono ?_;rintro e w2 ⟨s,rfl,hs,hb⟩;have y2:¬(9223372036854775807<u.size+1+1+s.size):=by omega
     have HC2:=Hd (BA.o.tm hb);have S2:=Hd (HS.o w2 HC2.o);refine hK.o _ _ S2.o (λhH=> ?_);clear hK K;try simp only[Act.put,L0,L4,L5]
     refine tkA 19 ?_;refine tkA 20 ?_;try simp only[Act.put,L0,L4,L5]
     refine wpAnyH_done (by decide+kernel) ?_ _;refine NoPanic.normal ?_;go_wp2_with fail;exact⟨⟨k+1,_,by omega,rfl,by go_num,by simp only[zcE,ByteArray.size_mk'];simp;omega,HBR.o.tm HC2.o⟩,by simp only[intOf];omega⟩
    ·go_simp;go_at_call 118;refine(HVT.o _ BA.o).mono ?_;rintro e w2 ⟨s,rfl,hs,hb⟩;have y2:¬(9223372036854775807<u.size+1+1+s.size):=by omega
     have HC2:=Hd (BA.o.tm hb);have S2:=Hd (HS.o w2 HC2.o);refine hK.o _ _ S2.o (λhH=> ?_);clear hK K;try simp only[Act.put,L0,L4,L5]
     have C2:(convert 46 9 (.slice (some ⟨wr.heap.size,0,none⟩) 1 1)).run prog w2=.ok (.string ⟨#[UInt8.ofNat cc.toNat]⟩) w2:=HCV.o _ _ (hb.ct (show wr.heap.size<(wr.alloc (.cells #[.int .u8 cc] 5)).heap.size by simp) (ce0 (Hn wr (.cells #[.int .u8 cc] 5))));refine rd1 10 rfl λK hK=> ?_;go_simp;refine hK.o _ _ S2.o (λhH=> ?_);clear hK K;try simp only[Act.put,L0,L4,L5]
     refine tkA 11 ?_;refine tkA 19 ?_;refine tkA 20 ?_;try simp only[Act.put,L0,L4,L5]
     refine wpAnyH_done (by decide+kernel) ?_ _;refine NoPanic.normal ?_;go_wp2_with fail;exact⟨⟨k+1,_,by omega,rfl,by go_num,by simp only[zcE,ByteArray.size_mk'];simp;omega,HBR.o.tm HC2.o⟩,by simp only[intOf];omega⟩
   ·go_simp;go_at_call 118;refine(HVT.o _ (aA (Bf _ _) 1)).mono ?_;rintro e w2 ⟨s,rfl,hs,hb⟩;have y2:¬(9223372036854775807<u.size+1+1+s.size):=by omega
    have HC2:=Hd ((aA (Bf _ _) 1).tm hb);have S2:=Hd (HS.o w2 HC2.o);refine hK.o _ _ S2.o (λhH=> ?_);clear hK K;try simp only[Act.put,L0,L4,L5]
    have HC3:Hid (Bw wr (w2.alloc (.cells #[.int .u8 cc] 5))):=HC2.o.tm (nB _ _);have S3:=Hd (HS.o _ HC3.o);have C3:(convert 46 9 (.slice (some ⟨w2.heap.size,0,none⟩) 1 1)).run prog (w2.alloc (.cells #[.int .u8 cc] 5))=.ok (.string ⟨#[UInt8.ofNat cc.toNat]⟩) (w2.alloc (.cells #[.int .u8 cc] 5)):=HCV.o _ _ (ce0 (Hn w2 (.cells #[.int .u8 cc] 5)));refine rd1 9 rfl λK hK=> ?_;go_simp;refine hK.o _ _ S3.o (λhH=> ?_);clear hK K;try simp only[Act.put,L0,L4,L5]
    refine rd1 10 rfl λK hK=> ?_;go_simp;refine hK.o _ _ S3.o (λhH=> ?_);clear hK K;try simp only[Act.put,L0,L4,L5]
    refine tkA 11 ?_;refine tkA 19 ?_;refine tkA 20 ?_;try simp only[Act.put,L0,L4,L5]
    refine wpAnyH_done (by decide+kernel) ?_ _;refine NoPanic.normal ?_;go_wp2_with fail;exact⟨⟨k+1,_,by omega,rfl,by go_num,by simp only[zcE,ByteArray.size_mk'];simp;omega,HBR.o.tm HC3.o⟩,by simp only[intOf];omega⟩
  ·obtain rfl:k=n:=by omega
   have i1:¬((k:Int)<(k:Int)):=by omega
   by_cases he:u=⟨#[]⟩
   ·subst he;go_wp2_with fail;go_ret;exact⟨_,rfl,Lq _,HB.o.tm HBR.o⟩
   ·have hsz:0<u.size:=by
     rcases Nz u.size with h0|h0
     ·exact absurd (ByteArray.size_eq_zero_iff.1 h0) he
     ·exact h0
    go_wp2_with fail;all_goals go_ret
    ·exact⟨_,rfl,Lq _,HB.o.tm HBR.o⟩
    ·exact⟨_,rfl,by rw[ByteArray.size_extract];omega,HB.o.tm HBR.o⟩
theorem zjO(w:World)(C:OA)(cp:Nat)(bl:List Bk)(h:RdL w w.heap.size C bl.length bl)(hn:bl.length<=1000):
 Calls prog 48 #[.slice C bl.length cp] w (zcI 200000000000000000 w):=by
 have HL:=Hd h;clear h;obtain⟨n,hN⟩:∃n,bl.length=n:=⟨_,rfl⟩;have HN:=Hd hN;rw[hN]at hn HL⊢
 clear hN;go_enter func48,ntmps48;go_wp2_with fail;go_loopw[3,4] (λs i W'=>∃(k:Nat) (u:ByteArray),k<=n/\s=.string u/\i=.int .i64 (k:Int)/\u.size<=k*100000000000001/\Bw w W') (λ_ i _=>n-(intOf i).toNat)
 case atStart=>exact⟨0,_,by omega,rfl,rfl,Lq _,Bf _ _⟩
 case round=>
  obtain⟨k,u,hk,rfl,rfl,hu,hbr⟩:=hrel;have HBR:=Hd hbr;clear hbr;by_cases hlt:k<n
  ·obtain⟨ab,off,rfl,hab,hc⟩:=HL.o.2.2 (by omega);obtain⟨b,hx⟩:∃x,bl[k]? =some x:=⟨_,Gg (by have:=HN.o;omega)⟩;obtain⟨A',k',c',l0,l1,l2,x0,x1,x2,hcell,hrb⟩:=hc k b hx;have hz:∀(j:Nat) (v:Value),(zaW b A' k' c' l0 l1 l2 x0 x1 x2)[j]? =some v->wr.cell? ⟨ab,off+k*11+j,none⟩=some v:=λj v hj=>HBR.o.ct hab (hcell j v hj);have y0:=hz 0 _ rfl;have y1:=hz 1 _ rfl;have y2:=hz 2 _ rfl;have y3:=hz 3 _ rfl;have y4:=hz 4 _ rfl;have y5:=hz 5 _ rfl;have y6:=hz 6 _ rfl;have y7:=hz 7 _ rfl;have y8:=hz 8 _ rfl;have y9:=hz 9 _ rfl;have y10:=hz 10 _ rfl;rw[Nat.add_zero]at y0;have HF:=Hd (ziT wr b A' k' c' l0 l1 l2 x0 x1 x2 (hrb.keep (λp hp=>HBR.o.cell hp) HBR.o.size));have i0:(0:Int)<=(k:Int):=by omega
   have i1:(k:Int)<(n:Int):=by omega
   clear hc hx hcell hrb hz;go_wp2_with(go_at_call 80;refine HF.o.mono ?_;rintro e w2 ⟨s,rfl,hs,hb⟩;have z1:¬(9223372036854775807<u.size+s.size):=(by omega);have z2:¬(9223372036854775807<u.size+s.size+1):=(by omega);have HB2:=Hd (HBR.o.tm hb);clear hb);exact⟨⟨k+1,_,by omega,rfl,by go_num,by simp only[zcE,ByteArray.size_mk'];simp;omega,HB2.o⟩,by simp only[intOf];omega⟩
  ·obtain rfl:k=n:=by omega
   have i1:¬((k:Int)<(k:Int)):=by omega
   go_wp2_with fail;go_ret;exact⟨_,rfl,by omega,HBR.o⟩
