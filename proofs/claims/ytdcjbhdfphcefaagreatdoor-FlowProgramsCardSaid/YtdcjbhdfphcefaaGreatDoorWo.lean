/- The contract. -/
import Derived.Test.YtdcjbhdfphcefaaGreatDoorPa
import Derived.Test.YtdcjbhdfphcefaaGreatDoorNv
namespace Go.Proofs.YtdcjbhdfphcefaaGreatDoor
set_option linter.all false
set_option maxRecDepth 100000
set_option maxHeartbeats 16000000
open Go.Proofs.Tryz
open Go.RowKit
def zfT(n:Int):Tr:=if n<0 then .mk 2 0 1 (λ_=>zhR (-n))else zhR n
theorem fL{n:Int}(h:0<=n):zfT n=zhR n:=by unfold zfT;rw[Iq (by omega)]
def zmS(c n:Int)(w:World)(e:Ending)(w':World):Prop:=
 ∃x y z:Value,e=.returned (.agg #[.int .i64 c,x,y,z])/\Rz w' (λg=>w.heap.size<=g) (zfT n) (.agg #[x,y,z])/\Bw w w'
theorem fA(w:World)(c n:Int)(h0: -1000000000000000<=n)(h1:n<=1000000000000000):Calls prog 41 #[.int .i64 c,.int .i64 n] w (zmS c n w):=by
 have w1:IntKind.i64.wrap (-n)= -n:=IntWalk.i64_in _ (by omega);by_cases hn:n<0
 ·have g0:decide (n<0)=true:=Dt hn;have m1:max n (-n)= -n:=by omega
  have e:zfT n=.mk 2 0 1 (λ_=>zhR (-n)):=by unfold zfT;rw[Ip hn]
  go_enter func41,ntmps41;go_wp2_with fail;have hb1:(((w.alloc (.cells #[.int .i64 c,.int .i64 2,.int .i64 0,.slice (some ⟨w.heap.size+1+1,0,none⟩) 1 1] 57)).alloc (.cells #[.int .i64 2,.int .i64 0,.slice (some ⟨w.heap.size+1+1,0,none⟩) 1 1] 52)).alloc (.cells #[.int .i64 0,.int .i64 (-n),.slice none 0 0] 52)).heap[w.heap.size]? =some (.cells #[.int .i64 c,.int .i64 2,.int .i64 0,.slice (some ⟨w.heap.size+1+1,0,none⟩) 1 1] 57 (0,0)):=
   (Bm _ _ _ (by simp;omega)).trans ((Bm _ _ _ (by simp)).trans (Hn w _))
  have hb2:(((w.alloc (.cells #[.int .i64 c,.int .i64 2,.int .i64 0,.slice (some ⟨w.heap.size+1+1,0,none⟩) 1 1] 57)).alloc (.cells #[.int .i64 2,.int .i64 0,.slice (some ⟨w.heap.size+1+1,0,none⟩) 1 1] 52)).alloc (.cells #[.int .i64 0,.int .i64 (-n),.slice none 0 0] 52)).heap[w.heap.size+1+1]? =some (.cells #[.int .i64 0,.int .i64 (-n),.slice none 0 0] 52 (0,0)):=by
   have q:=Hn ((w.alloc (.cells #[.int .i64 c,.int .i64 2,.int .i64 0,.slice (some ⟨w.heap.size+1+1,0,none⟩) 1 1] 57)).alloc (.cells #[.int .i64 2,.int .i64 0,.slice (some ⟨w.heap.size+1+1,0,none⟩) 1 1] 52)) (.cells #[.int .i64 0,.int .i64 (-n),.slice none 0 0] 52);simpa using q
  refine bodyPost_ret (aN results41 _ _ w.heap.size _ _ _ _ rfl hb1 underlying57 (by kernel_rfl)) rfl ⟨_,_,_,rfl,?_,(nB _ _).alloc (by simp) _|>.alloc (by simp;omega) _⟩;rw[e];exact⟨_,_,rfl,by unfold I64;omega,by unfold I64;omega,by unfold maxLen;omega,.inr ⟨_,rfl,by dsimp only;omega,hlS hb2,λi hi=>by
   obtain rfl:i=0:=by omega
   exact⟨_,_,_,Ro _ _ 0 _ _ _ hb2,Ro _ _ 1 _ _ _ hb2,Ro _ _ 2 _ _ _ hb2,bN _ _ _ (by unfold I64;omega)⟩⟩⟩
 ·have g0:decide (n<0)=false:=Df hn;have m1:max n (-n)=n:=by omega
  go_enter func41,ntmps41;go_wp2_with fail;have hb1:((w.alloc (.cells #[.int .i64 c,.int .i64 0,.int .i64 n,.slice none 0 0] 57)).alloc (.cells #[.int .i64 0,.int .i64 n,.slice none 0 0] 52)).heap[w.heap.size]? =some (.cells #[.int .i64 c,.int .i64 0,.int .i64 n,.slice none 0 0] 57 (0,0)):=
   (Bm _ _ _ (by simp)).trans (Hn w _)
  refine bodyPost_ret (aN results41 _ _ w.heap.size _ _ _ _ rfl hb1 underlying57 (by kernel_rfl)) rfl ⟨_,_,_,rfl,?_,(nB _ _).alloc (by simp) _⟩;rw[fL hn];exact bN _ _ _ (by unfold I64;omega)
def zeA(ps:LI):Bk:=⟨0,0,false,ps.map λp=>(p.1,zfT p.2),zhR 0,zhR 0,0⟩
structure WOwn(W:World)(b:Nat)(I:Nat->Prop)(C:OA)(cw:Nat)(ps:LI)(ys:LV):Prop where
 own:W.ownsRow b 57 4 (.slice C ps.length cw) ps.length ys
 ownI:∀q,(Value.slice C ps.length cw).ownBlock=some q->I q
 words:∀(i:Nat) (c m:Int),ps[i]? =some (c,m)->ys[i*4]? =some (.int .i64 c)/\∃x y z:Value,ys[i*4+1]? =some x/\ys[i*4+2]? =some y/\ys[i*4+3]? =some z/\Rz W (λq=>I q/\some q≠(Value.slice C ps.length cw).ownBlock) (zfT m) (.agg #[x,y,z])
theorem qhB{w:World}{b b':Nat}{e:TypeId}{s n:Nat}{v:Value}{xs:LV}(h:w.ownsRow b e s v n xs)(hb:b'<=b):w.ownsRow b' e s v n xs:=
 ⟨h.1,h.2.imp id λ⟨g,cap,cur,e1,e2,e3⟩=>⟨g,cap,cur,e1,Ly hb e2,e3⟩⟩
def zoA(ps:LI)(w:World)(e:Ending)(w':World):Prop:=
 ∃(C:OA) (cw:Nat) (l0 l1 l2 x0 x1 x2:Value),e=.returned (.agg #[.int .i64 0,.int .i64 0,.bool false,.slice C ps.length cw,l0,l1,l2,x0,x1,x2,.int .i64 0])/\Bz w' (λg=>w.heap.size<=g) (zeA ps) C ps.length l0 l1 l2 x0 x1 x2/\Bw w w'/\∃ys,WOwn w' w.heap.size (λg=>w.heap.size<=g) C cw ps ys
theorem qlG(w:World)(ps:LI):CdI w (zeA ps) 0 none 0 [] (w.alloc (.cells #[.int .i64 0,.int .i64 0,.bool false,.slice none 0 0,.int .i64 0,.int .i64 0,.slice none 0 0,.int .i64 0,.int .i64 0,.slice none 0 0,.int .i64 0] 54)):=
 ⟨nB _ _,⟨_,_,_,_,_,_,Hn w _,bN _ _ _ (by unfold I64;omega),bN _ _ _ (by unfold I64;omega)⟩,World.ownsRow_nil _ _ _ _,λi c t hi=>absurd hi (by omega)⟩
theorem CdI.wz{wr W:World}{b:Bk}{C:OA}{cw n:Nat}{ys:LV}(h:CdI wr b n C cw ys W)(hn:n=b.words.length)(hl:n<=maxLen)(hc:∀x∈b.words,I64 x.1):Wz W (λg=>wr.heap.size<g) C n b.words:=by
 subst hn;refine⟨rfl,hl,hc,?_⟩;rcases h.own.2 with⟨e1,e2⟩|⟨gw,cap',cur,e1,q1,q2,q3,q4,q5,q6⟩
 ·simp only[Vs]at e1;exact .inl ⟨e1.1,e2⟩
 ·simp only[Vs,true_and]at e1;obtain⟨rfl,rfl⟩:=e1;refine .inr ⟨gw,rfl,by omega,hlS q2,λi' c t hx=> ?_⟩;have hil:=(Gu.1 hx).1;obtain⟨c0,x',y',z',c1,c2,c3,hr'⟩:=h.words i' c t hil hx;have hca:∀j,j<b.words.length*4->W.cell? ⟨gw,j,none⟩=ys[j]? :=λj hj=>h.own.cellAt j hj;exact⟨(hca _ (by omega)).trans c0,x',y',z',(hca _ (by omega)).trans c1,(hca _ (by omega)).trans c2,(hca _ (by omega)).trans c3,hr'.keep (Le _) (λ_ _ q=>q.1) λ_ _ _=>rfl⟩
theorem oB(w:World)(ab off c0:Nat)(ps:LI)(n:Nat)(hn:n=2*ps.length)(hps:∀(i:Nat) (c m:Int),ps[i]? =some (c,m)->w.cell? ⟨ab,off+2*i,none⟩=some (.int .i64 c)/\w.cell? ⟨ab,off+(2*i+1),none⟩=some (.int .i64 m)/\I64 c/\-1000000000000000<=m/\m<=1000000000000000)(hab:ab<w.heap.size)(hpl:ps.length<=1000):
 Calls prog 24 #[.slice (some ⟨ab,off,none⟩) n c0] w (zoA ps w):=by
 have HP:=Hd hps;clear hps;obtain⟨W1,hW1,HB1,-⟩:=newW w #[.int .i64 0,.int .i64 0,.bool false,.slice none 0 0,.int .i64 0,.int .i64 0,.slice none 0 0,.int .i64 0,.int .i64 0,.slice none 0 0,.int .i64 0] 54;have HR1:Hid (W1.heap[w.heap.size]? =some (.cells ⟨zaW (zeA []) none 0 0 (.int .i64 0) (.int .i64 0) (.slice none 0 0) (.int .i64 0) (.int .i64 0) (.slice none 0 0)⟩ 54 (0,0))):=by unfold Hid;rw[hW1];exact Hn w _
 have HS1:Hid (W1.heap.size=w.heap.size+1):=by unfold Hid;rw[hW1];simp
 have hs1:w.heap.size<W1.heap.size:=by have:=HS1.o;omega
 obtain⟨W2,hW2⟩:∃W2,W2=W1.alloc (.cells #[.int .i64 0,.int .i64 0,.bool false,.slice none 0 0,.int .i64 0,.int .i64 0,.slice none 0 0,.int .i64 0,.int .i64 0,.slice none 0 0,.int .i64 0] 54):=⟨_,rfl⟩;have HI2:Hid (CdI W1 (zeA ps) 0 none 0 [] W2):=by unfold Hid;rw[hW2];exact qlG W1 ps
 have hw2:W2=(w.alloc (.cells #[.int .i64 0,.int .i64 0,.bool false,.slice none 0 0,.int .i64 0,.int .i64 0,.slice none 0 0,.int .i64 0,.int .i64 0,.slice none 0 0,.int .i64 0] 54)).alloc (.cells #[.int .i64 0,.int .i64 0,.bool false,.slice none 0 0,.int .i64 0,.int .i64 0,.slice none 0 0,.int .i64 0,.int .i64 0,.slice none 0 0,.int .i64 0] 54):=by rw[hW2,hW1]
 obtain⟨iW,zW,hiW,hW0,hWa,hWb,hWs⟩:=cY;have HIW:=Hd hiW;have HZW:=Hd hW0;clear hW2 hW1 hiW hW0;go_enter func24,ntmps24;go_wp2_with fail;rw[<-hw2];rw[show w.heap.size+1=W1.heap.size from HS1.o.symm];have HN:=Hd hn;clear hw2 hn;have HR0:Hid (∃(k:Nat) (C:OA) (cw:Nat) (ys:LV),k<=ps.length/\Value.int .i64 0=.int .i64 ((2*k:Nat):Int)/\CdI W1 (zeA ps) k C cw ys W2):=⟨0,none,0,[],by omega,rfl,HI2.o⟩;go_loopw[4] (λi W=>∃(k:Nat) (C:OA) (cw:Nat) (ys:LV),k<=ps.length/\i=.int .i64 ((2*k:Nat):Int)/\CdI W1 (zeA ps) k C cw ys W) (λi _=>2*ps.length-(intOf i).toNat)
 case atStart=>exact HR0.o
 case round=>
  obtain⟨k,C,cw,ys,hk,rfl,hI⟩:=hrel;have HI:=Hd hI;have hbw:=hI.bel.size;obtain⟨l0,l1,l2,x0,x1,x2,hblk,hL,hX⟩:=hI.ex;obtain⟨lo,ln,lA,lk,lc,rfl,rfl,rfl⟩:=hL.form;obtain⟨xo,xn,xA,xk,xc,rfl,rfl,rfl⟩:=hX.form;have HBK:=Hd hblk;have HLL:=Hd hL;have HXX:=Hd hX;clear hI HR0 HI2 hblk hL hX;obtain⟨q,hq⟩:∃q,q=2*k:=⟨_,rfl⟩;rw[<-hq];have HQ:=Hd hq;by_cases hlt:k<ps.length
  ·obtain⟨⟨cc,nn⟩,hx⟩:∃p,ps[k]? =some p:=⟨_,Gg hlt⟩;obtain⟨p0,p1,hcc,hn1,hn2⟩:=HP.o k cc nn hx;rw[<-hq]at p0 p1;have hbel:=HB1.o.tm HI.o.bel;have z0:wr.cell? ⟨ab,off+q,none⟩=some (.int .i64 cc):=hbel.ct hab p0;have z1:wr.cell? ⟨ab,off+(q+1),none⟩=some (.int .i64 nn):=hbel.ct hab p1;have HXW:Hid ((zeA ps).words[k]? =some (cc,zfT nn)):=by unfold Hid zeA;simp[hx]
   have HCC:=Hd hcc;have hn:=HN.o;have i0:(0:Int)<=(q:Int):=by omega
   have i1:(q:Int)<(n:Int):=by omega
   have i2:(0:Int)<=(q:Int)+1:=by omega
   have i3:(q:Int)+1<(n:Int):=by omega
   have w1:IntKind.i64.wrap ((q:Int)+1)=(q:Int)+1:=IntWalk.i64_in _ (by omega);have t1:((q:Int)+1).toNat=q+1:=by omega
   have w2':IntKind.i64.wrap ((q:Int)+2)=(q:Int)+2:=IntWalk.i64_in _ (by omega);have g0:decide ((q:Int)+1<(n:Int))=true:=Dt i3;have habr:ab<wr.heap.size:=by have:=hbel.size;omega
   have habn:ab≠W1.heap.size:=by omega
   have y2:wr.cell? ⟨W1.heap.size,3,none⟩=some (.slice C k cw):=Ro wr _ 3 _ _ _ HBK.o;have e0:W1.heap.size<wr.heap.size:=hlS HBK.o;have HWC:=Hd (fA wr.drew cc nn hn1 hn2);clear p0 p1 hx hbel hcc hq hn;go_upto_region 5 with(fail)
   refine wp_region_noPanic ?_;refine wp_region_held_drew (S:=(λw'=>w'.cell? ⟨ab,off+q,none⟩=some (.int .i64 cc)/\w'.cell? ⟨ab,off+(q+1),none⟩=some (.int .i64 nn))) (by kernel_rfl) ⟨z0,z1⟩ (λhH=> ?_);refine tkA 0 ?_;refine tkA 2 ?_;refine tkA 3 ?_;refine tkA 4 ?_;refine tkA 5 ?_;refine tkA 6 ?_;refine tkA 7 ?_;refine tkA 8 ?_;refine tkA 9 ?_;refine tkA 10 ?_;try simp only[Act.put,L0,L4,L5]
   refine rd2 1 11 rfl rfl (λK hK=> ?_) λK hK=> ?_;go_simp;refine hK.o _ _ ?_ (λhH=> ?_)
   ·exact⟨z0,z1⟩
   clear hK K;try simp only[Act.put,L0,L4,L5]
   refine rd1 11 rfl λK hK=> ?_;go_simp;go_at_call 41;refine HWC.o.mono ?_;rintro e w2 ⟨x',y',z',rfl,hr3,hb3⟩;obtain⟨o2,n2,A3,k3,d3,rfl,rfl,rfl⟩:=hr3.form;have HB3:Hid (Bw wr w2):=(unB hb3);have HRZ:Hid (Rz w2 (λq=>wr.heap.size<=q) (zfT nn) (.agg #[.int .i64 o2,.int .i64 n2,.slice A3 k3 d3])):=hr3;have S2:Hid (w2.cell? ⟨ab,off+q,none⟩=some (.int .i64 cc)/\w2.cell? ⟨ab,off+(q+1),none⟩=some (.int .i64 nn)):=⟨HB3.o.ct habr z0,HB3.o.ct habr z1⟩;have y22:=HB3.o.ct e0 y2;obtain⟨W3,hW3⟩:∃W3,W3=w2.alloc (.cells #[.int .i64 cc,.int .i64 o2,.int .i64 n2,.slice A3 k3 d3] 57):=⟨_,rfl⟩;have HW3:=Hd hW3;have HB4:Hid (Bw w2 W3):=by{unfold Hid;rw[hW3];exact nB _ _}
   have hw2s:=HB3.o.size;have y23:W3.cell? ⟨W1.heap.size,3,none⟩=some (.slice C k cw):=HB4.o.ct (by omega) y22;have S3:Hid (W3.cell? ⟨ab,off+q,none⟩=some (.int .i64 cc)/\W3.cell? ⟨ab,off+(q+1),none⟩=some (.int .i64 nn)):=⟨HB4.o.ct (by omega) S2.o.1,HB4.o.ct (by omega) S2.o.2⟩;have HNW:Hid (W3.heap[w2.heap.size]? =some (.cells #[.int .i64 cc,.int .i64 o2,.int .i64 n2,.slice A3 k3 d3] 57 (0,0))):=by{unfold Hid;rw[hW3];exact Hn _ _}
   have hW3s:W3.heap.size=w2.heap.size+1:=by rw[hW3];simp
   have HOW:Hid (W3.ownsRow (W1.heap.size+1) 57 4 (.slice C k cw) k ys):=aC HI.o.own λg hg _=>(HB4.o.block g (by omega)).trans (HB3.o.block g hg);clear hb3 hr3 hW3;refine hK.o _ _ ?_ (λhH=> ?_)
   ·exact S2.o
   clear hK K;try simp only[Act.put,L0,L4,L5]
   refine rd1 12 rfl λK hK=> ?_;go_simp;rw[<-HW3.o];refine hK.o _ _ ?_ (λhH=> ?_)
   ·exact S3.o
   clear hK K;try simp only[Act.put,L0,L4,L5]
   rotate_left;go_simp;go_at_call 41;refine HWC.o.mono ?_;rintro e w2 ⟨x',y',z',rfl,hr3,hb3⟩;obtain⟨o2,n2,A3,k3,d3,rfl,rfl,rfl⟩:=hr3.form;have HB3:Hid (Bw wr w2):=(unB hb3);have HRZ:Hid (Rz w2 (λq=>wr.heap.size<=q) (zfT nn) (.agg #[.int .i64 o2,.int .i64 n2,.slice A3 k3 d3])):=hr3;have S2:Hid (w2.cell? ⟨ab,off+q,none⟩=some (.int .i64 cc)/\w2.cell? ⟨ab,off+(q+1),none⟩=some (.int .i64 nn)):=⟨HB3.o.ct habr z0,HB3.o.ct habr z1⟩;have y22:=HB3.o.ct e0 y2;obtain⟨W3,hW3⟩:∃W3,W3=w2.alloc (.cells #[.int .i64 cc,.int .i64 o2,.int .i64 n2,.slice A3 k3 d3] 57):=⟨_,rfl⟩;have HW3:=Hd hW3;have HB4:Hid (Bw w2 W3):=by{unfold Hid;rw[hW3];exact nB _ _}
   have hw2s:=HB3.o.size;have y23:W3.cell? ⟨W1.heap.size,3,none⟩=some (.slice C k cw):=HB4.o.ct (by omega) y22;have S3:Hid (W3.cell? ⟨ab,off+q,none⟩=some (.int .i64 cc)/\W3.cell? ⟨ab,off+(q+1),none⟩=some (.int .i64 nn)):=⟨HB4.o.ct (by omega) S2.o.1,HB4.o.ct (by omega) S2.o.2⟩;have HNW:Hid (W3.heap[w2.heap.size]? =some (.cells #[.int .i64 cc,.int .i64 o2,.int .i64 n2,.slice A3 k3 d3] 57 (0,0))):=by{unfold Hid;rw[hW3];exact Hn _ _}
   have hW3s:W3.heap.size=w2.heap.size+1:=by rw[hW3];simp
   have HOW:Hid (W3.ownsRow (W1.heap.size+1) 57 4 (.slice C k cw) k ys):=aC HI.o.own λg hg _=>(HB4.o.block g (by omega)).trans (HB3.o.block g hg);clear hb3 hr3 hW3;refine hK.o _ _ ?_ (λhH=> ?_)
   ·exact S2.o
   clear hK K;try simp only[Act.put,L0,L4,L5]
   refine rd2 1 12 rfl rfl (λK hK=> ?_) λK hK=> ?_;go_simp;refine hK.o _ _ ?_ (λhH=> ?_)
   ·exact S2.o
   clear hK K;try simp only[Act.put,L0,L4,L5]
   refine rd1 12 rfl λK hK=> ?_;go_simp;rw[<-HW3.o];refine hK.o _ _ ?_ (λhH=> ?_)
   ·exact S3.o
   clear hK K;try simp only[Act.put,L0,L4,L5]
   rotate_left;go_simp;rw[<-HW3.o];refine hK.o _ _ ?_ (λhH=> ?_)
   ·exact S3.o
   clear hK K;try simp only[Act.put,L0,L4,L5]
   refine rd1 1 rfl λK hK=> ?_;go_simp;refine hK.o _ _ ?_ (λhH=> ?_)
   ·exact S3.o
   clear hK K;try simp only[Act.put,L0,L4,L5]
   all_goals
    refine rd1 13 rfl λK hK=> ?_;refine step_append_lies _ rfl (.tmp 13) (.tmp 24) 49 rfl (W1.heap.size+1) 57 iW zW 4 48 underlying49 HIW.o HZW.o hWa hWb hWs (by omega) (.slice C k cw) k ys (by simp[Act.eval,Act.put]) HOW.o ⟨w2.heap.size,0,none⟩ 1 1 [.int .i64 cc,.int .i64 o2,.int .i64 n2,.slice A3 k3 d3] (by simp[Act.eval,Act.put]) rfl (Nk HNW.o) (by intro u hu;simp at hu;rcases hu with rfl|rfl|rfl|rfl<;>rfl) (by omega) (by unfold maxLen;omega) (by omega) (by omega) _ rfl ?_;intro g9 c9 w9 ho9 hg9 hl9 hlt9;have HNX:=Hd (HI.o.next HXW.o HB3.o HRZ.o (λq hq=>HB4.o.block q hq) ⟨HB4.o.os,HB4.o.tape,HB4.o.output⟩ hW3s ho9 hg9 hl9);have hnob:∀q,q<W1.heap.size+1->some q≠(Value.slice C k cw).ownBlock:=λq hq e=>by have:=aI HI.o.own e.symm;omega
    have k9:∀q,q<W1.heap.size+1->w9.heap[q]? =W3.heap[q]? :=λq hq=>hg9.block q (by omega) (hnob q hq);have y24:w9.cell? ⟨W1.heap.size,3,none⟩=some (.slice C k cw):=(aB (k9 _ (by omega))).trans y23;have y2f:w9.frozen? ⟨W1.heap.size,3,none⟩=false:=(cekF W1.heap.size 3 ((k9 W1.heap.size (by omega)).trans ((HB4.o.block W1.heap.size (by omega)).trans (HB3.o.block W1.heap.size (by omega))))).trans (by simp[World.frozen?,HBK.o]);have habx:ab<W1.heap.size+1:=by omega
    have S4:Hid (w9.cell? ⟨ab,off+q,none⟩=some (.int .i64 cc)/\w9.cell? ⟨ab,off+(q+1),none⟩=some (.int .i64 nn)):=⟨(aB (k9 _ habx)).trans S3.o.1,(aB (k9 _ habx)).trans S3.o.2⟩;have kS:∀(v:Value) (q o:Nat),q≠W1.heap.size->(w9.setCell ⟨W1.heap.size,3,none⟩ v).cell? ⟨q,o,none⟩=w9.cell? ⟨q,o,none⟩:=λv q o hq=>aB (Bj _ _ _ q hq);have S5:Hid (∀v:Value,(w9.setCell ⟨W1.heap.size,3,none⟩ v).cell? ⟨ab,off+q,none⟩=some (.int .i64 cc)/\(w9.setCell ⟨W1.heap.size,3,none⟩ v).cell? ⟨ab,off+(q+1),none⟩=some (.int .i64 nn)):=λv=>⟨(kS v _ _ habn).trans S4.o.1,(kS v _ _ habn).trans S4.o.2⟩;clear ho9 hg9 hl9 hlt9 k9 kS;refine hK.o _ _ ?_ (λhH=> ?_)
    ·exact S4.o
    clear hK K;try simp only[Act.put,L0,L4,L5]
    refine tkA 14 ?_;try simp only[Act.put,L0,L4,L5]
    refine rd1 15 rfl λK hK=> ?_;go_simp;refine hK.o _ _ ?_ (λhH=> ?_)
    ·exact S5.o _
    clear hK K;try simp only[Act.put,L0,L4,L5]
    refine wpAnyH_done (by kernel_rfl) ?_ _;refine NoPanic.normal ?_;go_wp2_with fail;exact⟨⟨k+1,_,_,_,by omega,by rw[HQ.o];go_num,HNX.o⟩,by rw[HQ.o];simp only[intOf];omega⟩
  ·have hke:k=ps.length:=by omega
   subst hke;have hn:=HN.o;have g0:decide ((q:Int)+1<(n:Int))=false:=Df (by omega);have w1:IntKind.i64.wrap ((q:Int)+1)=(q:Int)+1:=IntWalk.i64_in _ (by omega);have b0:wr.cell? ⟨W1.heap.size,0,none⟩=some (.int .i64 0):=Ro wr _ 0 _ _ _ HBK.o;have b1:wr.cell? ⟨W1.heap.size,1,none⟩=some (.int .i64 0):=Ro wr _ 1 _ _ _ HBK.o;have b2:wr.cell? ⟨W1.heap.size,2,none⟩=some (.bool false):=Ro wr _ 2 _ _ _ HBK.o;have b3:wr.cell? ⟨W1.heap.size,3,none⟩=some (.slice C ps.length cw):=Ro wr _ 3 _ _ _ HBK.o;have b4:wr.cell? ⟨W1.heap.size,4,none⟩=some (.int .i64 lo):=Ro wr _ 4 _ _ _ HBK.o;have b5:wr.cell? ⟨W1.heap.size,5,none⟩=some (.int .i64 ln):=Ro wr _ 5 _ _ _ HBK.o;have b6:wr.cell? ⟨W1.heap.size,6,none⟩=some (.slice lA lk lc):=Ro wr _ 6 _ _ _ HBK.o;have b7:wr.cell? ⟨W1.heap.size,7,none⟩=some (.int .i64 xo):=Ro wr _ 7 _ _ _ HBK.o;have b8:wr.cell? ⟨W1.heap.size,8,none⟩=some (.int .i64 xn):=Ro wr _ 8 _ _ _ HBK.o;have b9:wr.cell? ⟨W1.heap.size,9,none⟩=some (.slice xA xk xc):=Ro wr _ 9 _ _ _ HBK.o;have b10:wr.cell? ⟨W1.heap.size,10,none⟩=some (.int .i64 0):=Ro wr _ 10 _ _ _ HBK.o;have HRR:Hid (wr.heap[w.heap.size]? =some (.cells ⟨zaW (zeA []) none 0 0 (.int .i64 0) (.int .i64 0) (.slice none 0 0) (.int .i64 0) (.int .i64 0) (.slice none 0 0)⟩ 54 (0,0))):=(HI.o.bel.block _ (by omega)).trans HR1.o;have bf:∀i,wr.frozen? ⟨w.heap.size,i,none⟩=false:=λi=>by simp[World.frozen?,HRR.o]
   have r0:wr.cell? ⟨w.heap.size,0,none⟩=some (.int .i64 0):=Ro wr _ 0 _ _ _ HRR.o;have r1:wr.cell? ⟨w.heap.size,1,none⟩=some (.int .i64 0):=Ro wr _ 1 _ _ _ HRR.o;have r2:wr.cell? ⟨w.heap.size,2,none⟩=some (.bool false):=Ro wr _ 2 _ _ _ HRR.o;have r3:wr.cell? ⟨w.heap.size,3,none⟩=some (.slice none 0 0):=Ro wr _ 3 _ _ _ HRR.o;have r4:wr.cell? ⟨w.heap.size,4,none⟩=some (.int .i64 0):=Ro wr _ 4 _ _ _ HRR.o;have r5:wr.cell? ⟨w.heap.size,5,none⟩=some (.int .i64 0):=Ro wr _ 5 _ _ _ HRR.o;have r6:wr.cell? ⟨w.heap.size,6,none⟩=some (.slice none 0 0):=Ro wr _ 6 _ _ _ HRR.o;have r7:wr.cell? ⟨w.heap.size,7,none⟩=some (.int .i64 0):=Ro wr _ 7 _ _ _ HRR.o;have r8:wr.cell? ⟨w.heap.size,8,none⟩=some (.int .i64 0):=Ro wr _ 8 _ _ _ HRR.o;have r9:wr.cell? ⟨w.heap.size,9,none⟩=some (.slice none 0 0):=Ro wr _ 9 _ _ _ HRR.o;have r10:wr.cell? ⟨w.heap.size,10,none⟩=some (.int .i64 0):=Ro wr _ 10 _ _ _ HRR.o;have bw:w.heap.size<wr.heap.size:=by omega
   clear hq hn;go_wp2_with fail;refine bodyPost_ret (aN results24 _ _ w.heap.size _ _ _ _ rfl (jA HRR.o) underlying54 (by kernel_rfl)) rfl ⟨C,cw,.int .i64 lo,.int .i64 ln,.slice lA lk lc,.int .i64 xo,.int .i64 xn,.slice xA xk xc,rfl,?_,?_,ys,?_⟩
   ·have hz:Bz wr (λg=>W1.heap.size<g) (zeA ps) C ps.length (.int .i64 lo) (.int .i64 ln) (.slice lA lk lc) (.int .i64 xo) (.int .i64 xn) (.slice xA xk xc):=
     ⟨by show I64 0;unfold I64;omega,by show I64 0;unfold I64;omega,by show I64 0;unfold I64;omega,HI.o.wz (by simp[zeA]) (by unfold maxLen;omega) (λx hx=>by
      unfold zeA at hx
      obtain⟨p,hp,rfl⟩:=List.mem_map.1 hx
      obtain⟨i,hi⟩:=List.getElem?_of_mem hp
      exact(HP.o i p.1 p.2 hi).2.2.1),HLL.o.keep (Le _) (λ_ _ q=>q.1) (λ_ _ _=>rfl),HXX.o.keep (Le _) (λ_ _ q=>q.1) (λ_ _ _=>rfl)⟩
    exact hz.keep (Nat.le_of_eq (fO wr w.heap.size _ _ _ _ _ _ _ _ _ _ _).symm) (λg _ hg=>by have q:W1.heap.size<g:=hg;show w.heap.size<=g;omega) (λg _ hg=>gW wr w.heap.size g _ _ _ _ _ _ _ _ _ _ _ (by have q:W1.heap.size<g:=hg;omega))
   ·exact gF (HB1.o.tm HI.o.bel) (Le _) _ _ _ _ _ _ _ _ _ _ _
   ·refine⟨qhB (aC HI.o.own λq _ hv=>gW wr w.heap.size q _ _ _ _ _ _ _ _ _ _ _ (by have:=(aI HI.o.own hv).1;omega)) (by omega),λq hq=> ?_,λi c m hi=> ?_⟩
    ·have:=(aI HI.o.own hq).1;show w.heap.size<=q;omega
    ·obtain⟨a1,x,y,z,a2,a3,a4,a5⟩:=HI.o.words i c (zfT m) (Gu.1 hi).1 (by simp[zeA,hi]);exact⟨a1,x,y,z,a2,a3,a4,a5.keep (Nat.le_of_eq (fO wr w.heap.size _ _ _ _ _ _ _ _ _ _ _).symm) (λg _ hg=>⟨by have:=hg.1;show w.heap.size<=g;omega,hg.2⟩) (λg _ hg=>gW wr w.heap.size g _ _ _ _ _ _ _ _ _ _ _ (by have:=hg.1;omega))⟩
