/- The contract. -/
import Derived.Test.YtdcjbhdfphcefaaGreatDoorCp
import Derived.Test.YtdcjbhdfphcefaaGreatDoorRm
namespace Go.Proofs.YtdcjbhdfphcefaaGreatDoor
set_option linter.all false
set_option maxRecDepth 100000
set_option maxHeartbeats 8000000
open Go.Proofs.Tryz
open Go.RowKit
structure CqR(w:World)(op n:Int)(kid:Nat->Tr)(A:OA)(m c k:Nat)(C:OA)(cp:Nat)(xs:LV)(W:World):Prop where
 bel:Bw w W
 x0:W.heap[w.heap.size]? =some (.cells #[.int .i64 op,.int .i64 n,.slice A m c] 52 (0,0))
 r0:W.heap[w.heap.size+1]? =some (.cells #[.int .i64 0,.int .i64 0,.slice none 0 0] 52 (0,0))
 y0:W.heap[w.heap.size+2]? =some (.cells #[.int .i64 op,.int .i64 n,.slice C k cp] 52 (0,0))
 own:W.ownsRow (w.heap.size+3) 52 3 (.slice C k cp) k xs
 parts:∀i,i<k->∃x y z:Value,xs[i*3]? =some x/\xs[i*3+1]? =some y/\xs[i*3+2]? =some z/\Rz W (λg=>w.heap.size+3<=g/\some g≠(Value.slice C k cp).ownBlock) (kid i) (.agg #[x,y,z])
theorem qgH{xs ys:LV}{k j i n:Nat}(h:xs.length=k*n)(hj:j<k*n):(xs++ys)[j]? =xs[j]? :=Gc (by omega)
theorem dV{xs ys:LV}{k j n:Nat}(h:xs.length=k*n):(xs++ys)[k*n+j]? =ys[j]? :=by rw[Ga (by omega)];congr 1;omega
theorem aI{W:World}{b:Nat}{e:TypeId}{s:Nat}{C:OA}{k cp:Nat}{xs:LV}(h:W.ownsRow b e s (.slice C k cp) k xs){g:Nat}(hg:(Value.slice C k cp).ownBlock=some g):b<=g/\g<W.heap.size:=by
 rcases h.2 with⟨e1,_⟩|⟨g',cap,cur,e1,h1,h2,_⟩
 ·simp only[Vs]at e1;obtain⟨rfl,_⟩:=e1;simp[Value.ownBlock]at hg
 ·simp only[Vs,true_and]at e1;obtain⟨rfl,_⟩:=e1;simp[Value.ownBlock]at hg;subst hg;exact⟨h1,hlS h2⟩
theorem CqR.next{w:World}{op n:Int}{kid:Nat->Tr}{A:OA}{m c k:Nat}{C:OA}{cp:Nat}{xs:LV}{W W2 W3 w1:World}{x y z:Value}{g cap:Nat}
 (h:CqR w op n kid A m c k C cp xs W) (hb:Bw W W2) (hr:Rz W2 (λj=>W.heap.size<=j) (kid k) (.agg #[x,y,z])) (h3:∀j,j<W2.heap.size->W3.heap[j]? =W2.heap[j]?) (hos:W3.os=W2.os/\W3.tape=W2.tape/\W3.output=W2.output) (hs3:W3.heap.size=W2.heap.size+1)
 (ho:w1.ownsRow (w.heap.size+3) 52 3 (.slice (some ⟨g,0,none⟩) (k+1) cap) (k+1) (xs++[x,y,z])) (hg:W3.grownBy w1 (Value.slice C k cp).ownBlock) (hl:(Value.slice C k cp).ownBlock=some g\/g=W3.heap.size):
 CqR w op n kid A m c (k+1) (some ⟨g,0,none⟩) cap (xs++[x,y,z]) (w1.setCell ⟨w.heap.size+2,2,none⟩ (.slice (some ⟨g,0,none⟩) (k+1) cap)):=by
 have e0:=hlS h.x0;have e1:=hlS h.r0;have e2:=hlS h.y0;have hbs:=hb.size;have hgs:=hg.size;have hob:∀j,(Value.slice C k cp).ownBlock=some j->w.heap.size+3<=j/\j<W.heap.size:=λj hj=>aI h.own hj;have kp:∀j,j<W.heap.size->(Value.slice C k cp).ownBlock≠some j->w1.heap[j]? =W.heap[j]? :=λj hj hn=>(hg.block j (by omega) (λe=>hn e.symm)).trans ((h3 j (by omega)).trans (hb.block j hj));have kp2:∀j,j<W2.heap.size->(Value.slice C k cp).ownBlock≠some j->w1.heap[j]? =W2.heap[j]? :=λj hj hn=>(hg.block j (by omega) (λe=>hn e.symm)).trans (h3 j (by omega));have nb:∀j,j<w.heap.size+3->(Value.slice C k cp).ownBlock≠some j:=λj hj e=>by have:=hob j e;omega
 have ks:∀j,j≠w.heap.size+2->(w1.setCell ⟨w.heap.size+2,2,none⟩ (.slice (some ⟨g,0,none⟩) (k+1) cap)).heap[j]? =w1.heap[j]? :=λj hj=>Bj _ _ _ j hj;have hgge:w.heap.size+3<=g:=by
  rcases hl with e|e
  ·exact(hob g e).1
  ·omega
 have hle:=h.bel.size;have hsz1:w1.heap.size<=(w1.setCell ⟨w.heap.size+2,2,none⟩ (.slice (some ⟨g,0,none⟩) (k+1) cap)).heap.size:=by simp[World.setCell]
 refine⟨⟨?_,?_,?_,by omega,λj hj=>(ks j (by omega)).trans ((kp j (by omega) (nb j (by omega))).trans (h.bel.block j hj))⟩,(ks _ (by omega)).trans ((kp _ e0 (nb _ (by omega))).trans h.x0),(ks _ (by omega)).trans ((kp _ e1 (nb _ (by omega))).trans h.r0),?_,aC ho λj _ hj=>ks j ?_,λi hi=> ?_⟩
 ·exact hg.os.trans (hos.1.trans (hb.os.trans h.bel.os))
 ·exact hg.tape.trans (hos.2.1.trans (hb.tape.trans h.bel.tape))
 ·exact hg.output.trans (hos.2.2.trans (hb.output.trans h.bel.output))
 ·have:=aD (i:=2) (u:=.slice (some ⟨g,0,none⟩) (k+1) cap) ((kp _ e2 (nb _ (by omega))).trans h.y0);exact this
 ·simp[Value.ownBlock]at hj;omega
 ·have hxl:=h.own.1;by_cases e:i=k
  ·subst e;refine⟨x,y,z,(dV (j:=0) hxl).trans rfl,(dV (j:=1) hxl).trans rfl,(dV (j:=2) hxl).trans rfl,hr.keep (by omega) (λj hj hj2=>⟨by have q:W.heap.size<=j:=hj2;omega,λe=> ?_⟩) λj hj hj2=>(ks j (by have q:W.heap.size<=j:=hj2;omega)).trans (kp2 j hj λe=>by have:=hob j e;have q:W.heap.size<=j:=hj2;omega)⟩;simp only[Value.ownBlock,Oi]at e;subst e;rcases hl with q|q
   ·have:=hob j q;have q:W.heap.size<=j:=hj2;omega
   ·omega
  ·obtain⟨x',y',z',c0,c1,c2,hr'⟩:=h.parts i (by omega);refine⟨x',y',z',(qgH (i:=0) hxl (by omega)).trans c0,(qgH (i:=0) hxl (by omega)).trans c1,(qgH (i:=0) hxl (by omega)).trans c2,hr'.keep (by omega) (λj hj hj2=>⟨hj2.1,λe=> ?_⟩) λj hj hj2=>(ks j (by have:=hj2.1;omega)).trans (kp j hj λe=>hj2.2 e.symm)⟩;simp only[Value.ownBlock,Oi]at e;subst e;rcases hl with q|q
   ·exact hj2.2 q.symm
   ·omega
theorem CqR.rz{w:World}{op n:Int}{kid:Nat->Tr}{A:OA}{m c:Nat}{C:OA}{cp:Nat}{xs:LV}{W:World}{x y z:Value}(h:CqR w op n kid A m c m C cp xs W)(h1:I64 op)(h2:I64 n)(h3:m<=maxLen):
 Rz (set3 W (w.heap.size+1) 0 x y z) (λg=>w.heap.size<=g) (.mk op n m kid) (.agg #[.int .i64 op,.int .i64 n,.slice C m cp]):=by
 refine⟨C,cp,rfl,h1,h2,h3,?_⟩;rcases h.own.2 with⟨e1,e2⟩|⟨g,cap,cur,e1,hge,hgb,_⟩
 ·simp only[Vs]at e1;exact .inl ⟨e1.1,e2⟩
 ·simp only[Vs,true_and]at e1;obtain⟨rfl,rfl⟩:=e1;refine .inr ⟨g,rfl,by omega,by rw[bJ];exact hlS hgb,λi hi=> ?_⟩;obtain⟨x,y,z,c0,c1,c2,hr⟩:=h.parts i hi;have e:=aL W (w.heap.size+1) 0 g;have hca:=λj (hj:j<m*3)=>(h.own.cellAt j hj);exact⟨x,y,z,(aB (e _ _ _ (by omega))).trans ((hca _ (by omega)).trans c0),(aB (e _ _ _ (by omega))).trans ((hca _ (by omega)).trans c1),(aB (e _ _ _ (by omega))).trans ((hca _ (by omega)).trans c2),hr.keep (by rw[bJ];exact Le _) (λj _ hj=>(by have:=hj.1;omega:w.heap.size<=j)) λj _ hj=>aL _ _ _ _ _ _ _ (by have:=hj.1;omega)⟩
theorem qbU:∀(t:Tr) (w:World) (B:Nat) (v:Value),zfW t->Rd w B t v->B<=w.heap.size->Calls prog 85 #[v] w (zjI w t):=by
 intro t;induction t with
 |none_=>intro w B v _ h;exact h.elim
 |mk op n m kid ih=>
  intro w B v hsl h hB;obtain⟨A,c,rfl,hop,hn,hm,hex⟩:=h;have hm1:m<=1000:=hsl.1;have HSL:=Hd hsl.2;have HEX:=Hd hex;obtain⟨W0,hW0⟩:∃W0,W0=((w.alloc (.cells #[.int .i64 op,.int .i64 n,.slice A m c] 52)).alloc (.cells #[.int .i64 0,.int .i64 0,.slice none 0 0] 52)).alloc (.cells #[.int .i64 op,.int .i64 n,.slice none 0 0] 52):=⟨_,rfl⟩;have HB0:Hid (Bw w W0):=by unfold Hid;rw[hW0];exact((nB _ _).alloc (by simp) _).alloc (by simp;omega) _
  have HR0:Hid (CqR w op n kid A m c 0 none 0 [] W0):=by
   refine⟨HB0.o,?_,?_,?_,World.ownsRow_nil _ _ _ _,λi hi=>absurd hi (by omega)⟩
   ·rw[hW0];exact(Bm _ _ _ (by simp;omega)).trans ((Bm _ _ _ (by simp)).trans (Hn w _))
   ·rw[hW0];have:=Hn (w.alloc (.cells #[.int .i64 op,.int .i64 n,.slice A m c] 52)) (.cells #[.int .i64 0,.int .i64 0,.slice none 0 0] 52);exact(Bm _ _ _ (by simp)).trans (by simpa using this)
   ·rw[hW0];have:=Hn ((w.alloc (.cells #[.int .i64 op,.int .i64 n,.slice A m c] 52)).alloc (.cells #[.int .i64 0,.int .i64 0,.slice none 0 0] 52)) (.cells #[.int .i64 op,.int .i64 n,.slice none 0 0] 52);simpa using this
  clear hsl hex;go_enter func85,ntmps85;go_wp2_with fail;rw[<-hW0];clear hW0;go_loopw[4] (λi W=>∃(k:Nat) (C:OA) (cp:Nat) (xs:LV),k<=m/\i=.int .i64 (k:Int)/\CqR w op n kid A m c k C cp xs W) (λi _=>m-(intOf i).toNat)
  case atStart=>exact⟨0,none,0,[],by omega,rfl,HR0.o⟩
  case round=>
   obtain⟨k,C,cp,xs,hk,rfl,hR⟩:=hrel;have HR:=Hd hR;clear hR;have e0:=hlS HR.o.x0;have e2:=hlS HR.o.y0;have x2:wr.cell? ⟨w.heap.size,2,none⟩=some (.slice A m c):=Ro wr _ 2 _ _ _ HR.o.x0;by_cases hlt:k<m
   ·obtain⟨ab,off,rfl,hab,hkd⟩:=HEX.o (by omega);obtain⟨x,y,z,c0,c1,c2,hr⟩:=hkd k hlt;obtain⟨o1,n1,A1,k1,d1,rfl,rfl,rfl⟩:=hr.form;have hab1:ab<w.heap.size:=by omega
    have z0:=HR.o.bel.ct hab1 c0;have z1:=HR.o.bel.ct hab1 c1;have z2:=HR.o.bel.ct hab1 c2;have HIH:=Hd (ih k wr.drew B _ (HSL.o k hlt) (hr.below ((aA HR.o.bel 1).mono hB) (Le _)) (Ly hB HR.o.bel.size));have y2:wr.cell? ⟨w.heap.size+2,2,none⟩=some (.slice C k cp):=Ro wr _ 2 _ _ _ HR.o.y0;obtain⟨i1,zz,hi1,hy0,hy1,hy2,hys⟩:=pC;have HI1:=Hd hi1;have HY0:=Hd hy0;have habr:ab<wr.heap.size:=Lt hab1 HR.o.bel.size;have i1':(0:Int)<=(k:Int):=by omega
    have i2':(k:Int)<(m:Int):=by omega
    clear hkd c0 c1 c2 hr hi1 hy0;go_upto_region 5 with(fail)
    refine wp_region_noPanic ?_;refine wp_region_held_drew (S:=(λw'=>w'.cell? ⟨w.heap.size,2,none⟩=some (.slice (some ⟨ab,off,none⟩) m c)/\w'.cell? ⟨ab,off+k*3,none⟩=some (.int .i64 o1)/\w'.cell? ⟨ab,off+k*3+1,none⟩=some (.int .i64 n1)/\w'.cell? ⟨ab,off+k*3+2,none⟩=some (.slice A1 k1 d1))) (by kernel_rfl) ⟨x2,z0,z1,z2⟩ (λhH=> ?_);refine tkA 0 ?_;refine tkA 2 ?_;refine tkA 3 ?_;refine tkA 4 ?_;refine tkA 5 ?_;refine tkA 6 ?_;try simp only[Act.put,L0,L4,L5]
    refine rd2 1 7 rfl rfl (λK hK=> ?_) λK hK=> ?_
    ·go_simp;refine hK.o _ _ ?_ (λhH=> ?_)
     ·exact⟨x2,z0,z1,z2⟩
     clear hK K;try simp only[Act.put,L0,L4,L5]
     refine rd1 7 rfl λK hK=> ?_;go_simp;go_at_call 85;refine HIH.o.mono ?_;rintro e w2 ⟨x',y',z',rfl,hr3,hb3⟩;obtain⟨o2,n2,A2,k2,d2,rfl,rfl,rfl⟩:=hr3.form;have HB3:Hid (Bw wr w2):=(unB hb3);have HRZ:Hid (Rz w2 (λj=>wr.heap.size<=j) (kid k) (.agg #[.int .i64 o2,.int .i64 n2,.slice A2 k2 d2])):=hr3;have S2:Hid (w2.cell? ⟨w.heap.size,2,none⟩=some (.slice (some ⟨ab,off,none⟩) m c)/\w2.cell? ⟨ab,off+k*3,none⟩=some (.int .i64 o1)/\w2.cell? ⟨ab,off+k*3+1,none⟩=some (.int .i64 n1)/\w2.cell? ⟨ab,off+k*3+2,none⟩=some (.slice A1 k1 d1)):=
      ⟨HB3.o.ct e0 x2,HB3.o.ct habr z0,HB3.o.ct habr z1,HB3.o.ct habr z2⟩
     have y22:=HB3.o.ct e2 y2;obtain⟨W3,hW3⟩:∃W3,W3=w2.alloc (.cells #[.int .i64 o2,.int .i64 n2,.slice A2 k2 d2] 52):=⟨_,rfl⟩;have HW3:=Hd hW3;have HB4:Hid (Bw w2 W3):=by{unfold Hid;rw[hW3];exact nB _ _}
     have hw2s:=HB3.o.size;have y23:W3.cell? ⟨w.heap.size+2,2,none⟩=some (.slice C k cp):=HB4.o.ct (by omega) y22;have S3:Hid (W3.cell? ⟨w.heap.size,2,none⟩=some (.slice (some ⟨ab,off,none⟩) m c)/\W3.cell? ⟨ab,off+k*3,none⟩=some (.int .i64 o1)/\W3.cell? ⟨ab,off+k*3+1,none⟩=some (.int .i64 n1)/\W3.cell? ⟨ab,off+k*3+2,none⟩=some (.slice A1 k1 d1)):=
      ⟨HB4.o.ct (by omega) S2.o.1,HB4.o.ct (by omega) S2.o.2.1,HB4.o.ct (by omega) S2.o.2.2.1,HB4.o.ct (by omega) S2.o.2.2.2⟩
     have HNW:Hid (W3.heap[w2.heap.size]? =some (.cells #[.int .i64 o2,.int .i64 n2,.slice A2 k2 d2] 52 (0,0))):=by{unfold Hid;rw[hW3];exact Hn _ _}
     have hW3s:W3.heap.size=w2.heap.size+1:=by rw[hW3];simp
     have HOW:Hid (W3.ownsRow (w.heap.size+3) 52 3 (.slice C k cp) k xs):=aC HR.o.own λg hg _=>(HB4.o.block g (by omega)).trans (HB3.o.block g hg);clear hb3 hr3 hW3;refine hK.o _ _ ?_ (λhH=> ?_)
     ·exact S2.o
     clear hK K;try simp only[Act.put,L0,L4,L5]
     refine rd1 8 rfl λK hK=> ?_;go_simp;rw[<-HW3.o];refine hK.o _ _ ?_ (λhH=> ?_)
     ·exact S3.o
     clear hK K;try simp only[Act.put,L0,L4,L5]
     refine rd1 9 rfl λK hK=> ?_;refine step_append_lies _ rfl (.tmp 18) (.tmp 25) 50 rfl (w.heap.size+3) 52 i1 zz 3 40 underlying50 HI1.o HY0.o hy1 hy2 hys (by omega) (.slice C k cp) k xs (by simp[Act.eval,Act.put]) HOW.o ⟨w2.heap.size,0,none⟩ 1 1 [.int .i64 o2,.int .i64 n2,.slice A2 k2 d2] (by simp[Act.eval,Act.put]) rfl (Nk HNW.o) (by intro u hu;simp at hu;rcases hu with rfl|rfl|rfl<;>rfl) (by omega) (by unfold maxLen;omega) (by omega) (by omega) _ rfl ?_;intro g9 c9 w9 ho9 hg9 hl9 hlt9;have HNX:=Hd (HR.o.next HB3.o HRZ.o (λj hj=>HB4.o.block j hj) ⟨HB4.o.os,HB4.o.tape,HB4.o.output⟩ hW3s ho9 hg9 hl9);have hnob:∀j,j<w.heap.size+3->some j≠(Value.slice C k cp).ownBlock:=λj hj e=>by have:=aI HR.o.own e.symm;omega
     have k9:∀j,j<w.heap.size+3->w9.heap[j]? =W3.heap[j]? :=λj hj=>hg9.block j (by omega) (hnob j hj);have y24:w9.cell? ⟨w.heap.size+2,2,none⟩=some (.slice C k cp):=(aB (k9 _ (by omega))).trans y23;have y2f:w9.frozen? ⟨w.heap.size+2,2,none⟩=false:=(cekF (w.heap.size+2) 2 ((k9 (w.heap.size+2) (by omega)).trans ((HB4.o.block (w.heap.size+2) (by omega)).trans (HB3.o.block (w.heap.size+2) (by omega))))).trans (by simp[World.frozen?,HR.o.y0]);have S4:Hid (w9.cell? ⟨w.heap.size,2,none⟩=some (.slice (some ⟨ab,off,none⟩) m c)/\w9.cell? ⟨ab,off+k*3,none⟩=some (.int .i64 o1)/\w9.cell? ⟨ab,off+k*3+1,none⟩=some (.int .i64 n1)/\w9.cell? ⟨ab,off+k*3+2,none⟩=some (.slice A1 k1 d1)):=
      ⟨(aB (k9 _ (by omega))).trans S3.o.1,(aB (k9 _ (by omega))).trans S3.o.2.1,(aB (k9 _ (by omega))).trans S3.o.2.2.1,(aB (k9 _ (by omega))).trans S3.o.2.2.2⟩
     have kS:∀(v:Value) (j o:Nat),j≠w.heap.size+2->(w9.setCell ⟨w.heap.size+2,2,none⟩ v).cell? ⟨j,o,none⟩=w9.cell? ⟨j,o,none⟩:=λv j o hj=>aB (Bj _ _ _ j hj);have S5:Hid (∀v:Value,(w9.setCell ⟨w.heap.size+2,2,none⟩ v).cell? ⟨w.heap.size,2,none⟩=some (.slice (some ⟨ab,off,none⟩) m c)/\(w9.setCell ⟨w.heap.size+2,2,none⟩ v).cell? ⟨ab,off+k*3,none⟩=some (.int .i64 o1)/\(w9.setCell ⟨w.heap.size+2,2,none⟩ v).cell? ⟨ab,off+k*3+1,none⟩=some (.int .i64 n1)/\(w9.setCell ⟨w.heap.size+2,2,none⟩ v).cell? ⟨ab,off+k*3+2,none⟩=some (.slice A1 k1 d1)):=λv=>
      ⟨(kS v _ _ (by omega)).trans S4.o.1,(kS v _ _ (by omega)).trans S4.o.2.1,(kS v _ _ (by omega)).trans S4.o.2.2.1,(kS v _ _ (by omega)).trans S4.o.2.2.2⟩
     clear ho9 hg9 hl9 hlt9 k9 kS;refine hK.o _ _ ?_ (λhH=> ?_)
     ·exact S4.o
     clear hK K;try simp only[Act.put,L0,L4,L5]
     refine tkA 10 ?_;try simp only[Act.put,L0,L4,L5]
     refine rd1 11 rfl λK hK=> ?_;go_simp;refine hK.o _ _ ?_ (λhH=> ?_)
     ·exact S5.o _
     clear hK K;try simp only[Act.put,L0,L4,L5]
     refine wpAnyH_done (by kernel_rfl) ?_ _;refine NoPanic.normal ?_;go_wp2_with fail;exact⟨⟨k+1,_,_,_,by omega,by go_num,HNX.o⟩,by simp only[intOf];omega⟩
    ·go_simp;go_at_call 85;refine HIH.o.mono ?_;rintro e w2 ⟨x',y',z',rfl,hr3,hb3⟩;obtain⟨o2,n2,A2,k2,d2,rfl,rfl,rfl⟩:=hr3.form;have HB3:Hid (Bw wr w2):=(unB hb3);have HRZ:Hid (Rz w2 (λj=>wr.heap.size<=j) (kid k) (.agg #[.int .i64 o2,.int .i64 n2,.slice A2 k2 d2])):=hr3;have S2:Hid (w2.cell? ⟨w.heap.size,2,none⟩=some (.slice (some ⟨ab,off,none⟩) m c)/\w2.cell? ⟨ab,off+k*3,none⟩=some (.int .i64 o1)/\w2.cell? ⟨ab,off+k*3+1,none⟩=some (.int .i64 n1)/\w2.cell? ⟨ab,off+k*3+2,none⟩=some (.slice A1 k1 d1)):=
      ⟨HB3.o.ct e0 x2,HB3.o.ct habr z0,HB3.o.ct habr z1,HB3.o.ct habr z2⟩
     have y22:=HB3.o.ct e2 y2;obtain⟨W3,hW3⟩:∃W3,W3=w2.alloc (.cells #[.int .i64 o2,.int .i64 n2,.slice A2 k2 d2] 52):=⟨_,rfl⟩;have HW3:=Hd hW3;have HB4:Hid (Bw w2 W3):=by{unfold Hid;rw[hW3];exact nB _ _}
     have hw2s:=HB3.o.size;have y23:W3.cell? ⟨w.heap.size+2,2,none⟩=some (.slice C k cp):=HB4.o.ct (by omega) y22;have S3:Hid (W3.cell? ⟨w.heap.size,2,none⟩=some (.slice (some ⟨ab,off,none⟩) m c)/\W3.cell? ⟨ab,off+k*3,none⟩=some (.int .i64 o1)/\W3.cell? ⟨ab,off+k*3+1,none⟩=some (.int .i64 n1)/\W3.cell? ⟨ab,off+k*3+2,none⟩=some (.slice A1 k1 d1)):=
      ⟨HB4.o.ct (by omega) S2.o.1,HB4.o.ct (by omega) S2.o.2.1,HB4.o.ct (by omega) S2.o.2.2.1,HB4.o.ct (by omega) S2.o.2.2.2⟩
     have HNW:Hid (W3.heap[w2.heap.size]? =some (.cells #[.int .i64 o2,.int .i64 n2,.slice A2 k2 d2] 52 (0,0))):=by{unfold Hid;rw[hW3];exact Hn _ _}
     have hW3s:W3.heap.size=w2.heap.size+1:=by rw[hW3];simp
     have HOW:Hid (W3.ownsRow (w.heap.size+3) 52 3 (.slice C k cp) k xs):=aC HR.o.own λg hg _=>(HB4.o.block g (by omega)).trans (HB3.o.block g hg);clear hb3 hr3 hW3;refine hK.o _ _ ?_ (λhH=> ?_)
     ·exact S2.o
     clear hK K;try simp only[Act.put,L0,L4,L5]
     refine rd2 1 8 rfl rfl (λK hK=> ?_) λK hK=> ?_
     ·go_simp;refine hK.o _ _ ?_ (λhH=> ?_)
      ·exact S2.o
      clear hK K;try simp only[Act.put,L0,L4,L5]
      refine rd1 8 rfl λK hK=> ?_;go_simp;rw[<-HW3.o];refine hK.o _ _ ?_ (λhH=> ?_)
      ·exact S3.o
      clear hK K;try simp only[Act.put,L0,L4,L5]
      refine rd1 9 rfl λK hK=> ?_;refine step_append_lies _ rfl (.tmp 18) (.tmp 25) 50 rfl (w.heap.size+3) 52 i1 zz 3 40 underlying50 HI1.o HY0.o hy1 hy2 hys (by omega) (.slice C k cp) k xs (by simp[Act.eval,Act.put]) HOW.o ⟨w2.heap.size,0,none⟩ 1 1 [.int .i64 o2,.int .i64 n2,.slice A2 k2 d2] (by simp[Act.eval,Act.put]) rfl (Nk HNW.o) (by intro u hu;simp at hu;rcases hu with rfl|rfl|rfl<;>rfl) (by omega) (by unfold maxLen;omega) (by omega) (by omega) _ rfl ?_;intro g9 c9 w9 ho9 hg9 hl9 hlt9;have HNX:=Hd (HR.o.next HB3.o HRZ.o (λj hj=>HB4.o.block j hj) ⟨HB4.o.os,HB4.o.tape,HB4.o.output⟩ hW3s ho9 hg9 hl9);have hnob:∀j,j<w.heap.size+3->some j≠(Value.slice C k cp).ownBlock:=λj hj e=>by have:=aI HR.o.own e.symm;omega
      have k9:∀j,j<w.heap.size+3->w9.heap[j]? =W3.heap[j]? :=λj hj=>hg9.block j (by omega) (hnob j hj);have y24:w9.cell? ⟨w.heap.size+2,2,none⟩=some (.slice C k cp):=(aB (k9 _ (by omega))).trans y23;have y2f:w9.frozen? ⟨w.heap.size+2,2,none⟩=false:=(cekF (w.heap.size+2) 2 ((k9 (w.heap.size+2) (by omega)).trans ((HB4.o.block (w.heap.size+2) (by omega)).trans (HB3.o.block (w.heap.size+2) (by omega))))).trans (by simp[World.frozen?,HR.o.y0]);have S4:Hid (w9.cell? ⟨w.heap.size,2,none⟩=some (.slice (some ⟨ab,off,none⟩) m c)/\w9.cell? ⟨ab,off+k*3,none⟩=some (.int .i64 o1)/\w9.cell? ⟨ab,off+k*3+1,none⟩=some (.int .i64 n1)/\w9.cell? ⟨ab,off+k*3+2,none⟩=some (.slice A1 k1 d1)):=
       ⟨(aB (k9 _ (by omega))).trans S3.o.1,(aB (k9 _ (by omega))).trans S3.o.2.1,(aB (k9 _ (by omega))).trans S3.o.2.2.1,(aB (k9 _ (by omega))).trans S3.o.2.2.2⟩
      have kS:∀(v:Value) (j o:Nat),j≠w.heap.size+2->(w9.setCell ⟨w.heap.size+2,2,none⟩ v).cell? ⟨j,o,none⟩=w9.cell? ⟨j,o,none⟩:=λv j o hj=>aB (Bj _ _ _ j hj);have S5:Hid (∀v:Value,(w9.setCell ⟨w.heap.size+2,2,none⟩ v).cell? ⟨w.heap.size,2,none⟩=some (.slice (some ⟨ab,off,none⟩) m c)/\(w9.setCell ⟨w.heap.size+2,2,none⟩ v).cell? ⟨ab,off+k*3,none⟩=some (.int .i64 o1)/\(w9.setCell ⟨w.heap.size+2,2,none⟩ v).cell? ⟨ab,off+k*3+1,none⟩=some (.int .i64 n1)/\(w9.setCell ⟨w.heap.size+2,2,none⟩ v).cell? ⟨ab,off+k*3+2,none⟩=some (.slice A1 k1 d1)):=λv=>
       ⟨(kS v _ _ (by omega)).trans S4.o.1,(kS v _ _ (by omega)).trans S4.o.2.1,(kS v _ _ (by omega)).trans S4.o.2.2.1,(kS v _ _ (by omega)).trans S4.o.2.2.2⟩
      clear ho9 hg9 hl9 hlt9 k9 kS;refine hK.o _ _ ?_ (λhH=> ?_)
      ·exact S4.o
      clear hK K;try simp only[Act.put,L0,L4,L5]
      refine tkA 10 ?_;try simp only[Act.put,L0,L4,L5]
      refine rd1 11 rfl λK hK=> ?_;go_simp;refine hK.o _ _ ?_ (λhH=> ?_)
      ·exact S5.o _
      clear hK K;try simp only[Act.put,L0,L4,L5]
      refine wpAnyH_done (by kernel_rfl) ?_ _;refine NoPanic.normal ?_;go_wp2_with fail;exact⟨⟨k+1,_,_,_,by omega,by go_num,HNX.o⟩,by simp only[intOf];omega⟩
     ·go_simp;rw[<-HW3.o];refine hK.o _ _ ?_ (λhH=> ?_)
      ·exact S3.o
      clear hK K;try simp only[Act.put,L0,L4,L5]
      refine rd1 1 rfl λK hK=> ?_;go_simp;refine hK.o _ _ ?_ (λhH=> ?_)
      ·exact S3.o
      clear hK K;try simp only[Act.put,L0,L4,L5]
      refine rd1 9 rfl λK hK=> ?_;refine step_append_lies _ rfl (.tmp 18) (.tmp 25) 50 rfl (w.heap.size+3) 52 i1 zz 3 40 underlying50 HI1.o HY0.o hy1 hy2 hys (by omega) (.slice C k cp) k xs (by simp[Act.eval,Act.put]) HOW.o ⟨w2.heap.size,0,none⟩ 1 1 [.int .i64 o2,.int .i64 n2,.slice A2 k2 d2] (by simp[Act.eval,Act.put]) rfl (Nk HNW.o) (by intro u hu;simp at hu;rcases hu with rfl|rfl|rfl<;>rfl) (by omega) (by unfold maxLen;omega) (by omega) (by omega) _ rfl ?_;intro g9 c9 w9 ho9 hg9 hl9 hlt9;have HNX:=Hd (HR.o.next HB3.o HRZ.o (λj hj=>HB4.o.block j hj) ⟨HB4.o.os,HB4.o.tape,HB4.o.output⟩ hW3s ho9 hg9 hl9);have hnob:∀j,j<w.heap.size+3->some j≠(Value.slice C k cp).ownBlock:=λj hj e=>by have:=aI HR.o.own e.symm;omega
      have k9:∀j,j<w.heap.size+3->w9.heap[j]? =W3.heap[j]? :=λj hj=>hg9.block j (by omega) (hnob j hj);have y24:w9.cell? ⟨w.heap.size+2,2,none⟩=some (.slice C k cp):=(aB (k9 _ (by omega))).trans y23;have y2f:w9.frozen? ⟨w.heap.size+2,2,none⟩=false:=(cekF (w.heap.size+2) 2 ((k9 (w.heap.size+2) (by omega)).trans ((HB4.o.block (w.heap.size+2) (by omega)).trans (HB3.o.block (w.heap.size+2) (by omega))))).trans (by simp[World.frozen?,HR.o.y0]);have S4:Hid (w9.cell? ⟨w.heap.size,2,none⟩=some (.slice (some ⟨ab,off,none⟩) m c)/\w9.cell? ⟨ab,off+k*3,none⟩=some (.int .i64 o1)/\w9.cell? ⟨ab,off+k*3+1,none⟩=some (.int .i64 n1)/\w9.cell? ⟨ab,off+k*3+2,none⟩=some (.slice A1 k1 d1)):=
       ⟨(aB (k9 _ (by omega))).trans S3.o.1,(aB (k9 _ (by omega))).trans S3.o.2.1,(aB (k9 _ (by omega))).trans S3.o.2.2.1,(aB (k9 _ (by omega))).trans S3.o.2.2.2⟩
      have kS:∀(v:Value) (j o:Nat),j≠w.heap.size+2->(w9.setCell ⟨w.heap.size+2,2,none⟩ v).cell? ⟨j,o,none⟩=w9.cell? ⟨j,o,none⟩:=λv j o hj=>aB (Bj _ _ _ j hj);have S5:Hid (∀v:Value,(w9.setCell ⟨w.heap.size+2,2,none⟩ v).cell? ⟨w.heap.size,2,none⟩=some (.slice (some ⟨ab,off,none⟩) m c)/\(w9.setCell ⟨w.heap.size+2,2,none⟩ v).cell? ⟨ab,off+k*3,none⟩=some (.int .i64 o1)/\(w9.setCell ⟨w.heap.size+2,2,none⟩ v).cell? ⟨ab,off+k*3+1,none⟩=some (.int .i64 n1)/\(w9.setCell ⟨w.heap.size+2,2,none⟩ v).cell? ⟨ab,off+k*3+2,none⟩=some (.slice A1 k1 d1)):=λv=>
       ⟨(kS v _ _ (by omega)).trans S4.o.1,(kS v _ _ (by omega)).trans S4.o.2.1,(kS v _ _ (by omega)).trans S4.o.2.2.1,(kS v _ _ (by omega)).trans S4.o.2.2.2⟩
      clear ho9 hg9 hl9 hlt9 k9 kS;refine hK.o _ _ ?_ (λhH=> ?_)
      ·exact S4.o
      clear hK K;try simp only[Act.put,L0,L4,L5]
      refine tkA 10 ?_;try simp only[Act.put,L0,L4,L5]
      refine rd1 11 rfl λK hK=> ?_;go_simp;refine hK.o _ _ ?_ (λhH=> ?_)
      ·exact S5.o _
      clear hK K;try simp only[Act.put,L0,L4,L5]
      refine wpAnyH_done (by kernel_rfl) ?_ _;refine NoPanic.normal ?_;go_wp2_with fail;exact⟨⟨k+1,_,_,_,by omega,by go_num,HNX.o⟩,by simp only[intOf];omega⟩
   ·have hke:k=m:=by omega
    subst hke;have y0:=Ro wr _ 0 _ _ _ HR.o.y0;have y1:=Ro wr _ 1 _ _ _ HR.o.y0;have y2:=Ro wr _ 2 _ _ _ HR.o.y0;have r0:=Ro wr _ 0 _ _ _ HR.o.r0;have r1:=Ro wr _ 1 _ _ _ HR.o.r0;have r2:=Ro wr _ 2 _ _ _ HR.o.r0;have rf:∀i,wr.frozen? ⟨w.heap.size+1,i,none⟩=false:=λi=>by simp[World.frozen?,HR.o.r0]
    go_wp2_with fail;exact bodyPost_ret (results_cell_row results85 _ _ (w.heap.size+1) _ _ _ _ rfl (cL HR.o.r0) underlying52 rfl (by kernel_rfl)) rfl
     ⟨_,_,_,rfl,CqR.rz HR.o hop hn hm,aQ HR.o.bel (by omega) 0 _ _ _⟩
