/- The contract. -/
import Derived.Test.YtdcjbhdfphcefaaGreatDoorTk
import Derived.Test.YtdcjbhdfphcefaaGreatDoorFa
import Derived.Test.YtdcjbhdfphcefaaGreatDoorBx
namespace Go.Proofs.YtdcjbhdfphcefaaGreatDoor
set_option linter.all false
set_option maxHeartbeats 8000000
open Go.Proofs.Tryz
open Go.RowKit
theorem qvB{f:Nat->Nat}{M:Nat}(h:∀i,f i<=M):∀(l:List Nat) (d:Nat),d<=M->l.foldl (λd i=>max d (f i)) d<=M:=by
 intro l;induction l with
 |nil=>intro d hd;exact hd
 |cons a r ih=>intro d hd;exact ih _ (by have:=h a;show max d (f a)<=M;omega)
theorem qkX:∀(m:Nat) (t:Tr),zcA m t<=m+1:=by
 intro m;induction m with
 |zero=>intro t;cases t<;>simp[zcA]
 |succ m ih=>
  intro t;cases t with
  |none_=>simp[zcA]
  |mk op n k kid=>
   rw[zcA];split
   ·omega
   ·have:=qvB (f:=λi=>zcA m (kid i)) (M:=m+1) (λi=>ih (kid i)) (List.range k) 0 (by omega);omega
def zfA(m:Nat)(kid:Nat->Tr)(k j d:Nat):Nat:=(List.range' j (k-j)).foldl (λd i=>max d (zcA m (kid i))) d
theorem qkY{m:Nat}{kid:Nat->Tr}{k j d:Nat}(h:j<k):zfA m kid k j d=zfA m kid k (j+1) (max d (zcA m (kid j))):=by
 unfold zfA;rw[show k-j=(k-(j+1))+1 by omega,List.range'_succ];rfl
theorem qfU{m:Nat}{kid:Nat->Tr}{k d:Nat}:zfA m kid k k d=d:=by unfold zfA;rw[Nat.sub_self];rfl
def zoQ(W0:World)(m:Nat)(kid:Nat->Tr)(k:Nat)(d i:Value)(W:World):Prop:=
 ∃j d':Nat,j<=k/\d'<=m+1/\i=.int .i64 (j:Int)/\d=.int .i64 (d':Int)/\Bw W0 W/\zfA m kid k 0 0=zfA m kid k j d'
theorem qfT:∀(m:Nat) (t:Tr) (w:World) (B:Nat) (v:Value),m<=100->Rd w B t v->B<=w.heap.size->
 Calls prog 141 #[v,.int .i64 (m:Nat)] w λe w'=>e=.returned (.int .i64 (zcA m t:Nat))/\Bw w w':=by
 intro m;induction m with
 |zero=>
  intro t w B v hm h hB;cases t with
  |none_=>exact h.elim
  |mk op n k kid=>
   obtain⟨A,c,rfl,h1,h2,h3,h4⟩:=h;clear h4;obtain⟨W0,hW0,HB0,H0⟩:=newWH w #[.int .i64 op,.int .i64 n,.slice A k c] 52;have c2:=Ro W0 _ 2 _ _ _ H0.o;go_enter func141,ntmps141;go_wp2_with fail;rw[<-hW0];clear hW0;go_loopw[5,6] (λd i W=>d=.int .i64 0/\i=.int .i64 0/\W0=W) (λ_ _ _=>0)
   case atStart=>exact⟨rfl,rfl,rfl⟩
   case round=>
    obtain⟨rfl,rfl,rfl⟩:=hrel;have c2':W0.cell? ⟨w.heap.size,2,none⟩=some (.slice A k c):=c2;go_wp2_with fail;all_goals
     go_ret;exact⟨rfl,HB0.o⟩
 |succ m ih=>
  intro t w B v hm h hB;cases t with
  |none_=>exact h.elim
  |mk op n k kid=>
   obtain⟨A,c,rfl,h1,h2,h3,h4⟩:=h;have HK:=Hd h4;clear h4;unfold maxLen at h3;obtain⟨W0,hW0,HB0,H0⟩:=newWH w #[.int .i64 op,.int .i64 n,.slice A k c] 52;have hs0:=hlS H0.o;have HIH:Hid (∀(t:Tr) (w:World) (B:Nat) (v:Value),m<=100->Rd w B t v->B<=w.heap.size->Calls prog 141 #[v,.int .i64 (m:Nat)] w λe w'=>e=.returned (.int .i64 (zcA m t:Nat))/\Bw w w'):=ih;clear ih;by_cases hm0:m=0
   ·subst hm0;have E:Hid (zcA (0+1) (.mk op n k kid)=1):=rfl;rw[E.o];have c2:=Ro W0 _ 2 _ _ _ H0.o;go_enter func141,ntmps141;go_wp2_with fail;rw[<-hW0];clear hW0;go_loopw[5,6] (λd i W=>d=.int .i64 0/\i=.int .i64 0/\W0=W) (λ_ _ _=>0)
    case atStart=>exact⟨rfl,rfl,rfl⟩
    case round=>
     obtain⟨rfl,rfl,rfl⟩:=hrel;have c2':W0.cell? ⟨w.heap.size,2,none⟩=some (.slice A k c):=c2;go_wp2_with fail;all_goals
      go_ret;exact⟨rfl,HB0.o⟩
   ·have E:Hid (zcA (m+1) (.mk op n k kid)=zfA m kid k 0 0+1):=by
     unfold Hid;rw[zcA,Iq hm0];unfold zfA;rw[Nat.sub_zero,List.range_eq_range']
    rw[E.o];have hm1:decide (((m:Int)+1)>1)=true:=Dt (by omega);have hw1:IntKind.i64.wrap ((m:Int)+1-1)=(m:Int):=by rw[show(m:Int)+1-1=m by omega];exact IntWalk.i64_in _ (by omega)
    go_enter func141,ntmps141;go_wp2_with fail;rw[<-hW0];clear hW0;go_loopw[5,6] (zoQ W0 m kid k) (λ_ i _=>k-(intOf i).toNat)
    case atStart=>exact⟨0,0,by omega,by omega,rfl,rfl,Bf _ _,rfl⟩
    case round=>
     obtain⟨j,d',hj,hd,rfl,rfl,hbw,her⟩:=hrel;have HBW:=Hd hbw;have HER:=Hd her;have c2:wr.cell? ⟨w.heap.size,2,none⟩=some (.slice A k c):=(hbw.cel w.heap.size 2 hs0).trans (Ro W0 _ 2 _ _ _ H0.o);clear hbw her;by_cases hlt:j<k
     ·obtain⟨ab,off,rfl,hab,hc⟩:=HK.o (by omega);obtain⟨x,y,z,e0,e1,e2,hr⟩:=hc j hlt;have hww:Bw w wr:=HB0.o.tm HBW.o;have hab1:ab<w.heap.size:=by omega
      have f0:=hww.ct hab1 e0;have f1:=hww.ct hab1 e1;have f2:=hww.ct hab1 e2;have HCH:=Hd (HIH.o (kid j) wr B _ (by omega) (hr.keep (λp hp=>hww.cell (by omega)) (Le _)) (Ly hB hww.size));have hdl:=qkX m (kid j);have ES:=Hd (qkY (m:=m) (kid:=kid) (d:=d') hlt);have i0:(0:Int)<=(j:Int):=by omega
      have i1:(j:Int)<(k:Int):=by omega
      have hlt':decide ((j:Int)<(k:Int))=true:=Dt i1;clear hc e0 e1 e2 hr hww;generalize zcA m (kid j)=dj at HCH hdl ES;go_wp2_with(go_at_call 141;refine HCH.o.mono ?_;rintro e w2 ⟨rfl,hb2⟩;have HB2:=Hd (HBW.o.tm hb2);clear hb2);refine⟨⟨_,_,_,_,_,_,_,_,_,_,_,_,_,_,_,_,_,_,_,_,_,_,_,⟨j+1,max d' dj,by omega,by omega,by go_num,?_,HB2.o,by rw[HER.o,ES.o]⟩,rfl⟩,?_⟩
      ·show Value.int IntKind.i64 (max (d':Int) (dj:Int))=_;congr 1;omega
      ·show k-((j:Int)+1).toNat<k-((j:Int)).toNat;omega
     ·have hje:j=k:=by omega
      subst hje;have E2:Hid (zfA m kid j 0 0=d'):=by unfold Hid;rw[HER.o,qfU]
      have hlt':decide ((j:Int)<(j:Int))=false:=Df (by omega);go_wp2_with fail;go_ret;rw[E2.o];exact⟨by simp,HB0.o.tm HBW.o⟩
theorem nX(t:Tr)(w:World)(B:Nat)(v:Value)(h:Rd w B t v)(hB:B<=w.heap.size):
 Calls prog 102 #[v] w λe w'=>e=.returned (.int .i64 (zcA 17 t:Nat))/\Bw w w':=by
 cases t with
 |none_=>exact h.elim
 |mk op n k kid=>
  obtain⟨A,c,rfl,h1,h2,h3,h4⟩:=h;obtain⟨W0,hW0,HB0,-⟩:=newW w #[.int .i64 op,.int .i64 n,.slice A k c] 52;have HR:Hid (Rd W0 B (.mk op n k kid) (.agg #[.int .i64 op,.int .i64 n,.slice A k c])):=by
   have:Rd w B (.mk op n k kid) (.agg #[.int .i64 op,.int .i64 n,.slice A k c]):=⟨A,c,rfl,h1,h2,h3,h4⟩;exact this.keep (λp hp=>HB0.o.cell (by omega)) (Le _)
  have hsz:B<=W0.heap.size:=Ly hB HB0.o.size;have HC:=Hd (qfT 17 _ W0 B _ (by omega) HR.o hsz);generalize zcA 17 (.mk op n k kid)=d at HC;clear h4;have c0:W0.cell? ⟨w.heap.size,0,none⟩=some (.int .i64 op):=by rw[hW0];exact Ro _ _ 0 _ _ _ (Hn w _)
  have c1:W0.cell? ⟨w.heap.size,1,none⟩=some (.int .i64 n):=by rw[hW0];exact Ro _ _ 1 _ _ _ (Hn w _)
  have c2:W0.cell? ⟨w.heap.size,2,none⟩=some (.slice A k c):=by rw[hW0];exact Ro _ _ 2 _ _ _ (Hn w _)
  go_enter func102,ntmps102;go_wp2_with((try rw[<-hW0]);go_at_call 141;refine HC.o.mono ?_;rintro e w2 ⟨rfl,hb2⟩;have HB2:=Hd hb2;clear hb2);go_ret;exact⟨rfl,HB0.o.tm HB2.o⟩
open Go.RowKit Go.PlainAid
theorem zmF:(prog.info? 9).bind (λi=>i.zero.map λz=>(i.size,i.bytes,z.cells.size))=some (1,16,1):=by kernel_rfl
theorem zX:∃(i:TypeInfo) (z:Value),prog.info? 9=some i/\i.zero=some z/\i.size=1/\i.bytes=16/\z.cells.size=1:=by
 have h:=zmF;rcases hi:prog.info? 9 with _|i
 ·rw[hi]at h;simp at h
 ·rw[hi]at h;rcases hz:i.zero with _|z
  ·simp[hz]at h
  ·simp[hz]at h;exact⟨i,z,rfl,hz,h.1,h.2.1,h.2.2⟩
structure LwS(w:World)(acc:List ByteArray)(O:OA)(cO:Nat)(W:World):Prop where
 bel:Bw w W
 own:W.ownsRow w.heap.size 9 1 (.slice O acc.length cO) acc.length (acc.map .string)
theorem LwS.push{w W W3 w1:World}{acc:List ByteArray}{O:OA}{cO g cap:Nat}{x:ByteArray}(h:LwS w acc O cO W)(hb:Bw W W3)
 (ho:w1.ownsRow w.heap.size 9 1 (.slice (some ⟨g,0,none⟩) (acc.length+1) cap) (acc.length+1) (acc.map .string++[.string x])) (hg:W3.grownBy w1 (Value.slice O acc.length cO).ownBlock):
 LwS w (acc++[x]) (some ⟨g,0,none⟩) cap w1:=by
 have k:=bF hb hg;have hs:=hb.size;have hgs:=hg.size;have hc:=h.bel.size;refine⟨⟨hg.os.trans (hb.os.trans h.bel.os),hg.tape.trans (hb.tape.trans h.bel.tape),hg.output.trans (hb.output.trans h.bel.output),by omega,λq hq=>(k q (by omega) (λe=>by have:=(aI h.own e).1;omega)).trans (h.bel.block q hq)⟩,?_⟩;have e:(acc++[x]).map Value.string=acc.map .string++[.string x]:=by simp
 rw[e];simpa using ho
def zmY(s:ByteArray)(w:World)(e:Ending)(w':World):Prop:=
 ∃(O:OA) (cO:Nat),e=.returned (.slice O (zcF s).length cO)/\LwS w (zcF s) O cO w'
def zlS(s:ByteArray)(w:World)(o f i:Value)(W:World):Prop:=
 ∃(acc:List ByteArray) (fr k:Nat) (O:OA) (cO:Nat),o=.slice O acc.length cO/\f=.int .i64 (fr:Int)/\i=.int .i64 (k:Int)/\fr<=k/\k<=s.size/\acc.length<=k/\LwS w acc O cO W/\zcF s=acc++zeE s (s.size-k) fr k
theorem qkB(s:ByteArray)(hs:s.size<=70000)(w:World):Calls prog 66 #[.string s] w (zmY s w):=by
 have hbt:=get_bt s;have HR0:Hid (zlS s w (.slice none 0 0) (.int .i64 0) (.int .i64 0) w):=⟨[],0,0,none,0,rfl,rfl,rfl,by omega,by omega,by simp,⟨Bf _ _,World.ownsRow_nil _ _ _ _⟩,rfl⟩;obtain⟨iT,zT,hiT,hT0,hT1,hT2,hTs⟩:=zX;have HIT:=Hd hiT;have HZT:=Hd hT0;clear hiT hT0;go_enter func66,ntmps66;go_wp2_with fail;go_loopw[3,4,5] (zlS s w) (λ_ _ i _=>s.size-(intOf i).toNat)
 case atStart=>exact HR0.o
 case round=>
  obtain⟨acc,fr,k,O,cO,rfl,rfl,rfl,hfk,hk,hal,hS,htx⟩:=hrel;have HS:=Hd hS;have HTX:=Hd htx;have hwsz:=hS.bel.size;have HOW:Hid (wr.ownsRow w.heap.size 9 1 (.slice O acc.length cO) acc.length (acc.map .string)):=hS.own;clear hS htx HR0;have f0:(0:Int)<=(fr:Int):=by omega
  have f1:(fr:Int)<=(k:Int):=by omega
  have f2:(k:Int)<=(s.size:Int):=by omega
  by_cases hlt:k<s.size
  ·have c0:=bt_nonneg s k;have c1:=bt_le s k;have k0:(0:Int)<=(k:Int):=by omega
   have k1:(k:Int)<(s.size:Int):=by omega
   have hst:zeE s (s.size-k) fr k=if bt s k=10 then s.extract fr k::zeE s (s.size-(k+1)) (k+1) (k+1)else zeE s (s.size-(k+1)) fr (k+1):=by
    rw[show s.size-k=(s.size-(k+1))+1 by omega,zeE]
   have HST:=Hd hst;clear hst;rcases h10:(bt s k==10)with _|_
   ·have E:=Hd (show zcF s=acc++zeE s (s.size-(k+1)) fr (k+1)by rw[HTX.o,HST.o,Iq (by simpa using h10)]);go_wp2_with fail;exact⟨⟨acc,fr,k+1,O,cO,rfl,rfl,by go_num,by omega,by omega,by omega,HS.o,E.o⟩,by simp only[intOf];omega⟩
   ·have E:=Hd (show zcF s=(acc++[s.extract fr k])++zeE s (s.size-(k+1)) (k+1) (k+1)by rw[HTX.o,HST.o,Ip (by simpa using h10)];simp);go_wp2_with(at_builtin;refine wpList_append_lies _ rfl (.tmp 16) (.tmp 21) 122 rfl w.heap.size 9 iT zT 1 16 underlying122 HIT.o HZT.o hT1 hT2 hTs (by omega) (.slice O acc.length cO) acc.length (acc.map .string) rfl (HOW.o.alloc _) ⟨wr.heap.size,0,none⟩ 1 1 [.string (s.extract fr k)] rfl rfl (Nk (Hn wr _)) (by intro u hu;simp only[Mt]at hu;rw[hu];rfl) (by omega) (by unfold maxLen;omega) (by omega) (by simp;omega) _ rfl ?_;intro g9 c9 w9 ho9 hg9 hl9 hlt9;have HNX:=Hd (HS.o.push ((Bf wr.heap.size wr).alloc (Le _) _) (by first|exact ho9|simpa using ho9) (by first|exact hg9|simpa using hg9));clear ho9 hg9 hl9 hlt9);exact⟨⟨acc++[s.extract fr k],k+1,k+1,some ⟨g9,0,none⟩,c9,by simp,by go_num,by go_num,by omega,by omega,by simp;omega,HNX.o,E.o⟩,by simp only[intOf];omega⟩
  ·have hke:k=s.size:=by omega
   subst hke;have hst:zeE s (s.size-s.size) fr s.size=if fr<s.size then[s.extract fr s.size]else[]:=by rw[Nat.sub_self];rfl
   have HST:=Hd hst;clear hst;by_cases hf:fr<s.size
   ·have E:=Hd (show zcF s=acc++[s.extract fr s.size]by rw[HTX.o,HST.o,Ip hf]);have hf1:decide ((fr:Int)<(s.size:Int))=true:=Dt (by omega);go_wp2_with(at_builtin;refine wpList_append_lies _ rfl (.tmp 29) (.tmp 33) 122 rfl w.heap.size 9 iT zT 1 16 underlying122 HIT.o HZT.o hT1 hT2 hTs (by omega) (.slice O acc.length cO) acc.length (acc.map .string) rfl (HOW.o.alloc _) ⟨wr.heap.size,0,none⟩ 1 1 [.string (s.extract fr s.size)] rfl rfl (Nk (Hn wr _)) (by intro u hu;simp only[Mt]at hu;rw[hu];rfl) (by omega) (by unfold maxLen;omega) (by omega) (by simp;omega) _ rfl ?_;intro g9 c9 w9 ho9 hg9 hl9 hlt9;have HNX:=Hd (HS.o.push ((Bf wr.heap.size wr).alloc (Le _) _) (by first|exact ho9|simpa using ho9) (by first|exact hg9|simpa using hg9));clear ho9 hg9 hl9 hlt9);go_ret;exact⟨some ⟨g9,0,none⟩,c9,by rw[E.o];simp,by rw[E.o];exact HNX.o⟩
   ·have E:=Hd (show zcF s=acc by rw[HTX.o,HST.o,Iq hf,List.append_nil]);have hf1:decide ((fr:Int)<(s.size:Int))=false:=Df (by omega);go_wp2_with fail;go_ret;exact⟨O,cO,by rw[E.o];rfl,by rw[E.o];exact HS.o⟩
