/- The contract. -/
import Derived.Test.YtdcjbhdfphcefaaGreatDoorXl
import Derived.Test.YtdcjbhdfphcefaaGreatDoorPa
namespace Go.Proofs.YtdcjbhdfphcefaaGreatDoor
set_option linter.all false
set_option maxRecDepth 100000
set_option maxHeartbeats 16000000
open Go.Proofs.Tryz
open Go.RowKit
def zgC(l:List Tk)(r:Rs):Rs:=if r.1<l.length then zfE r else r
structure CtI(w:World)(B rb bb:Nat)(A:OA)(c:Nat)(l:List Tk)(r':Rs)(b:Bk)(wa:OA)(wn wc:Nat)(l0 l1 l2 x0 x1 x2:Value)(W:World):Prop where
 rx:RX W B rb A c l r'
 ch:Chg (λg=>g=rb\/g=bb) w W
 bk:W.heap[bb]? =some (.cells ⟨zaW b wa wn wc l0 l1 l2 x0 x1 x2⟩ 54 (0,0))
 bz:Bz W (λg=>w.heap.size<=g) b wa wn l0 l1 l2 x0 x1 x2
section
variable {w W W':World} {B rb bb:Nat} {A:OA} {c:Nat} {l:List Tk} {r' r2:Rs} {b:Bk} {wa:OA} {wn wc:Nat} {l0 l1 l2 x0 x1 x2:Value}
theorem CtI.start{sk:Bool}{lb:Int}{r:Rs}(h:RX w B rb A c l r)(hbb:w.heap[bb]? =some (.cells (zdW sk lb) 54 (0,0)))(hI:I64 lb):CtI w B rb bb A c l r ⟨0,lb,sk,[],zcL,zcL,0⟩ none 0 0 (.int .i64 0) (.int .i64 0) (.slice none 0 0) (.int .i64 0) (.int .i64 0) (.slice none 0 0) w:=
 ⟨h,Chg.refl _ _,hbb,by show I64 0;unfold I64;omega,hI,by show I64 0;unfold I64;omega,mW _ _,bN _ _ _ (by unfold I64;omega),bN _ _ _ (by unfold I64;omega)⟩
theorem CtI.lt(h:CtI w B rb bb A c l r' b wa wn wc l0 l1 l2 x0 x1 x2 W):bb<W.heap.size:=hlS h.bk
theorem CtI.mv(h:CtI w B rb bb A c l r' b wa wn wc l0 l1 l2 x0 x1 x2 W)(hr:RP B rb A c l r2 W W')(hne:bb≠rb)(hb:rb<w.heap.size):CtI w B rb bb A c l r2 b wa wn wc l0 l1 l2 x0 x1 x2 W':=
 ⟨hr.1,h.ch.trans (eY hr.2),(hr.2.2.2.2.2 _ h.lt hne).trans h.bk,h.bz.keep hr.2.2.2.2.1 (λ_ _ q=>q) λg hg (hi:w.heap.size<=g)=>hr.2.2.2.2.2 g hg (by omega)⟩
theorem CtI.bl(h:CtI w B rb bb A c l r' b wa wn wc l0 l1 l2 x0 x1 x2 W)(hb:Bw W W'):CtI w B rb bb A c l r' b wa wn wc l0 l1 l2 x0 x1 x2 W':=
 ⟨h.rx.below hb,h.ch.trans (Chg.of_below hb),(hb.block _ h.lt).trans h.bk,h.bz.keep hb.size (λ_ _ q=>q) λg hg _=>hb.block g hg⟩
theorem CtI.cells(h:CtI w B rb bb A c l r' b wa wn wc l0 l1 l2 x0 x1 x2 W):(∀(i:Nat) (v:Value),(zaW b wa wn wc l0 l1 l2 x0 x1 x2)[i]? =some v->W.cell? ⟨bb,i,none⟩=some v)/\∀i,W.frozen? ⟨bb,i,none⟩=false:=
 ⟨λi v hv=>(Ro W bb i _ _ _ h.bk).trans (by rw[List.getElem?_toArray];exact hv),λi=>by simp[World.frozen?,h.bk]⟩
theorem CtI.one(h:CtI w B rb bb A c l r' b wa wn wc l0 l1 l2 x0 x1 x2 W)(hne:bb≠rb)(hB:B<=bb)(hb:bb<w.heap.size){b2:Bk}(i:Nat)(v:Value)(he:(⟨zaW b wa wn wc l0 l1 l2 x0 x1 x2⟩:Array Value).setIfInBounds i v=⟨zaW b2 wa wn wc l0 l1 l2 x0 x1 x2⟩)(hz:∀V,Bz V (λg=>w.heap.size<=g) b wa wn l0 l1 l2 x0 x1 x2->Bz V (λg=>w.heap.size<=g) b2 wa wn l0 l1 l2 x0 x1 x2):CtI w B rb bb A c l r' b2 wa wn wc l0 l1 l2 x0 x1 x2 (W.setCell ⟨bb,i,none⟩ v):=
 ⟨h.rx.put hne hB i v,h.ch.trans (aH _ _ _ _ _ (.inr rfl)),by rw[<-he];exact aD h.bk,hz _ (h.bz.keep (by simp[World.setCell]) (λ_ _ q=>q) λg hg (hi:w.heap.size<=g)=>Bj _ _ _ g (by show g≠bb;omega))⟩
theorem CtI.kind(h:CtI w B rb bb A c l r' b wa wn wc l0 l1 l2 x0 x1 x2 W)(hne:bb≠rb)(hB:B<=bb)(hb:bb<w.heap.size){k:Int}(hk:I64 k):CtI w B rb bb A c l r' {b with kind:=k} wa wn wc l0 l1 l2 x0 x1 x2 (W.setCell ⟨bb,0,none⟩ (.int .i64 k)):=
 h.one hne hB hb 0 _ rfl λV z=>⟨hk,z.label,z.n,z.words,z.left,z.x⟩
theorem CtI.num(h:CtI w B rb bb A c l r' b wa wn wc l0 l1 l2 x0 x1 x2 W)(hne:bb≠rb)(hB:B<=bb)(hb:bb<w.heap.size){k:Int}(hk:I64 k):CtI w B rb bb A c l r' {b with n:=k} wa wn wc l0 l1 l2 x0 x1 x2 (W.setCell ⟨bb,10,none⟩ (.int .i64 k)):=
 h.one hne hB hb 10 _ rfl λV z=>⟨z.kind,z.label,hk,z.words,z.left,z.x⟩
theorem CtI.three(h:CtI w B rb bb A c l r' b wa wn wc l0 l1 l2 x0 x1 x2 W)(hne:bb≠rb)(hB:B<=bb)(hb:bb<w.heap.size){b2:Bk}{m0 m1 m2 y0 y1 y2 x y z:Value}(i:Nat)(he:(((⟨zaW b wa wn wc l0 l1 l2 x0 x1 x2⟩:Array Value).setIfInBounds i x).setIfInBounds (i+1) y).setIfInBounds (i+2) z=⟨zaW b2 wa wn wc m0 m1 m2 y0 y1 y2⟩)(hz:∀V,Bz V (λg=>w.heap.size<=g) b wa wn l0 l1 l2 x0 x1 x2->(∀t u,Rz W (λg=>w.heap.size<=g) t u->Rz V (λg=>w.heap.size<=g) t u)->Bz V (λg=>w.heap.size<=g) b2 wa wn m0 m1 m2 y0 y1 y2):
 CtI w B rb bb A c l r' b2 wa wn wc m0 m1 m2 y0 y1 y2 (((W.setCell ⟨bb,i,none⟩ x).setCell ⟨bb,i+1,none⟩ y).setCell ⟨bb,i+2,none⟩ z):=by
 have kk:∀g,w.heap.size<=g->(((W.setCell ⟨bb,i,none⟩ x).setCell ⟨bb,i+1,none⟩ y).setCell ⟨bb,i+2,none⟩ z).heap[g]? =W.heap[g]? :=λg hg=>aL W bb i g x y z (by omega);have ks:(((W.setCell ⟨bb,i,none⟩ x).setCell ⟨bb,i+1,none⟩ y).setCell ⟨bb,i+2,none⟩ z).heap.size=W.heap.size:=bJ W bb i x y z;refine⟨((h.rx.put hne hB i x).put hne hB (i+1) y).put hne hB (i+2) z,h.ch.trans (((aH _ _ _ _ _ (.inr rfl)).trans (aH _ _ _ _ _ (.inr rfl))).trans (aH _ _ _ _ _ (.inr rfl))),by rw[<-he];exact aD (aD (aD h.bk)),hz _ (h.bz.keep (Nat.le_of_eq ks.symm) (λ_ _ q=>q) λg hg hi=>kk g hi) λt u q=>q.keep (Nat.le_of_eq ks.symm) (λ_ _ q=>q) λg hg hi=>kk g hi⟩
theorem CtI.lf(h:CtI w B rb bb A c l r' b wa wn wc l0 l1 l2 x0 x1 x2 W)(hne:bb≠rb)(hB:B<=bb)(hb:bb<w.heap.size){x y z:Value}{t:Tr}(ht:Rz W (λg=>w.heap.size<=g) t (.agg #[x,y,z])):CtI w B rb bb A c l r' {b with left:=t} wa wn wc x y z x0 x1 x2 (((W.setCell ⟨bb,4,none⟩ x).setCell ⟨bb,5,none⟩ y).setCell ⟨bb,6,none⟩ z):=
 h.three hne hB hb 4 rfl λV q k=>⟨q.kind,q.label,q.n,q.words,k _ _ ht,q.x⟩
theorem CtI.ex(h:CtI w B rb bb A c l r' b wa wn wc l0 l1 l2 x0 x1 x2 W)(hne:bb≠rb)(hB:B<=bb)(hb:bb<w.heap.size){x y z:Value}{t:Tr}(ht:Rz W (λg=>w.heap.size<=g) t (.agg #[x,y,z])):CtI w B rb bb A c l r' {b with x:=t} wa wn wc l0 l1 l2 x y z (((W.setCell ⟨bb,7,none⟩ x).setCell ⟨bb,8,none⟩ y).setCell ⟨bb,9,none⟩ z):=
 h.three hne hB hb 7 rfl λV q k=>⟨q.kind,q.label,q.n,q.words,q.left,k _ _ ht⟩
theorem CtI.up(h:CtI w B rb bb A c l r' b wa wn wc l0 l1 l2 x0 x1 x2 W){t:Tr}{v:Value}{V:World}(hz:Rz V (λg=>W.heap.size<=g) t v):Rz V (λg=>w.heap.size<=g) t v:=
 hz.keep (Le _) (λg _ (q:W.heap.size<=g)=>Ly h.ch.size q) λ_ _ _=>rfl
theorem CtI.post(h:CtI w B rb bb A c l r' b wa wn wc l0 l1 l2 x0 x1 x2 W):zkQ B rb bb A c l b r' w (.returned (.tuple #[])) W:=⟨rfl,h.rx,h.ch,wa,wn,wc,l0,l1,l2,x0,x1,x2,h.bk,h.bz⟩
end
theorem qrX{l:List Tk}{r:Rs}{most:Int}(hm:0<=most)(hm2:most<=1000000):I64 (zfB l most r).1:=by
 unfold zfB;dsimp only;split
 ·show I64 0;unfold I64;omega
 ·show I64 (zaY _).1;unfold I64;omega
theorem iQ{xs ys:LV}{n j:Nat}(hl:xs.length=n):(xs++ys)[n+j]? =ys[j]? :=by
 subst hl;rw[Ga (Nat.le_add_right _ _),Nc]
theorem fX{w:World}{b:Nat}{e:TypeId}{s g n cap:Nat}{xs:LV}(h:w.ownsRow b e s (.slice (some ⟨g,0,none⟩) n cap) n xs){j:Nat}{v:Value}(hj:xs[j]? =some v):w.cell? ⟨g,j,none⟩=some v:=by
 rcases h.2 with⟨q,_⟩|⟨g',cap',cur,p1,p2,p3,p4,p5,p6,p7⟩
 ·cases q
 simp only[Vs,Oi,Addr.mk.injEq,true_and,and_true]at p1;obtain⟨rfl,rfl⟩:=p1;rw[Ro w g j _ _ _ p3];rw[<-p7,Gt]at hj;split at hj
 ·rw[<-hj,At]
 ·cases hj
def zeO(l:List Tk):Nat->Rs->List (Int×Tr)->List (Int×Tr)×Rs
 |0,r,acc=>(acc,r)
 |k+1,r,acc=>if(zcO l r).kind=1/\zgB l r 78=false/\zgB l r 79=false then zeO l k (zeS l (nxt r)).2 (acc++[((zcO l r).n,(zeS l (nxt r)).1)])else(acc,r)
theorem qoS(l:List Tk)(r:Rs):zaX l (zeS l r).2<=zaX l r:=by
 unfold zeS;split
 ·exact Ly (gJ l .cel (nxt r)) (dX l r)
 ·split
  ·exact Ly (gJ l .cel (nxt r)) (dX l r)
  ·exact gJ l .cel r
structure CwI(w:World)(B rb bb:Nat)(A:OA)(c:Nat)(l:List Tk)(r:Rs)(sk:Bool)(lb:Int)(r':Rs)(acc:List (Int×Tr))(wa:OA)(wc:Nat)(ys:LV)(W:World):Prop where
 rx:RX W B rb A c l r'
 ch:Chg (λg=>g=rb\/g=bb) w W
 bk:W.heap[bb]? =some (.cells ⟨zaW ⟨0,lb,sk,acc,zcL,zcL,0⟩ wa acc.length wc (.int .i64 0) (.int .i64 0) (.slice none 0 0) (.int .i64 0) (.int .i64 0) (.slice none 0 0)⟩ 54 (0,0))
 own:W.ownsRow w.heap.size 57 4 (.slice wa acc.length wc) acc.length ys
 len:acc.length+zaX l r'<=zaX l r
 i64:∀x∈acc,I64 x.1
 parts:∀(i:Nat) (cc:Int) (t:Tr),acc[i]? =some (cc,t)->ys[i*4]? =some (.int .i64 cc)/\∃x y z:Value,ys[i*4+1]? =some x/\ys[i*4+2]? =some y/\ys[i*4+3]? =some z/\Rz W (λg=>w.heap.size<=g/\wa.map (·.block)≠some g) t (.agg #[x,y,z])
section
variable {w W W' W5 W7 W8 w9:World} {B rb bb:Nat} {A:OA} {c:Nat} {l:List Tk} {r r' r2:Rs} {sk:Bool} {lb:Int} {acc:List (Int×Tr)} {wa:OA} {wc:Nat} {ys:LV}
theorem CwI.start(h:RX w B rb A c l r)(hbb:w.heap[bb]? =some (.cells (zdW sk lb) 54 (0,0))):CwI w B rb bb A c l r sk lb r [] none 0 [] w:=
 ⟨h,Chg.refl _ _,hbb,World.ownsRow_nil _ _ _ _,by simp,λx hx=>(by cases hx),λi cc t hx=>(by cases hx)⟩
theorem CwI.bl(h:CwI w B rb bb A c l r sk lb r' acc wa wc ys W)(hb:Bw W W'):CwI w B rb bb A c l r sk lb r' acc wa wc ys W':=
 ⟨h.rx.below hb,h.ch.trans (Chg.of_below hb),(hb.block _ (hlS h.bk)).trans h.bk,aC h.own λg hg _=>hb.block g hg,h.len,h.i64,λi cc t hx=>by
  obtain⟨p0,x,y,z,p1,p2,p3,p4⟩:=h.parts i cc t hx
  exact⟨p0,x,y,z,p1,p2,p3,p4.keep hb.size (λ_ _ q=>q) λg hg _=>hb.block g hg⟩⟩
theorem CwI.cells(h:CwI w B rb bb A c l r sk lb r' acc wa wc ys W):W.cell? ⟨bb,3,none⟩=some (.slice wa acc.length wc)/\∀i,W.frozen? ⟨bb,i,none⟩=false:=
 ⟨(Ro W bb 3 _ _ _ h.bk).trans rfl,λi=>by simp[World.frozen?,h.bk]⟩
theorem CwI.push{cc xo xn:Int}{xA:OA}{xk xc g9 c9:Nat}{t:Tr}(h:CwI w B rb bb A c l r sk lb r' acc wa wc ys W5)(h7:RX W7 B rb A c l r2)(o7:zaZ rb W5 W7)(hz:Rz W7 (λg=>W5.heap.size<g) t (.agg #[.int .i64 xo,.int .i64 xn,.slice xA xk xc]))(hb8:Bw W7 W8)
 (ho9:w9.ownsRow w.heap.size 57 4 (.slice (some ⟨g9,0,none⟩) (acc.length+1) c9) (acc.length+1) (ys++[.int .i64 cc,.int .i64 xo,.int .i64 xn,.slice xA xk xc])) (hg9:W8.grownBy w9 (wa.map (·.block))) (hl9:wa.map (·.block)=some g9\/g9=W8.heap.size)
 (hne:bb≠rb) (hrb:rb<w.heap.size) (hbb:bb<w.heap.size) (hBb:B<=bb) (hcc:I64 cc) (hlen:acc.length+1+zaX l r2<=zaX l r):
 CwI w B rb bb A c l r sk lb r2 (acc++[(cc,t)]) (some ⟨g9,0,none⟩) c9 (ys++[.int .i64 cc,.int .i64 xo,.int .i64 xn,.slice xA xk xc]) (w9.setCell ⟨bb,3,none⟩ (.slice (some ⟨g9,0,none⟩) (acc.length+1) c9)):=by
 have hs7:=o7.2.2.2.1;have hs8:=hb8.size;have hs9:=hg9.size;have hsw:=h.ch.size;have hlenA:(acc++[(cc,t)]).length=acc.length+1:=by simp
 have hol:∀q,wa.map (·.block)=some q->w.heap.size<=q/\q<W5.heap.size:=λq hq=>aI h.own (by rw[aU];exact hq);have hg9w:w.heap.size<=g9/\g9<w9.heap.size:=aI ho9 rfl;obtain⟨V,hV⟩:∃V,V=w9.setCell ⟨bb,3,none⟩ (.slice (some ⟨g9,0,none⟩) (acc.length+1) c9):=⟨_,rfl⟩;rw[<-hV];have hVs:V.heap.size=w9.heap.size:=by rw[hV];simp[World.setCell]
 have kV:∀q,q≠bb->V.heap[q]? =w9.heap[q]? :=λq hq=>by rw[hV];exact Bj _ _ _ q hq
 have k9:∀q,q<W7.heap.size->wa.map (·.block)≠some q->w9.heap[q]? =W7.heap[q]? :=λq hq hn=>(hg9.block q (by omega) (λe=>hn e.symm)).trans (hb8.block q hq);have k5:∀q,q<W5.heap.size->wa.map (·.block)≠some q->q≠rb->q≠bb->V.heap[q]? =W5.heap[q]? :=λq hq hn h1 h2=>(kV q h2).trans ((k9 q (by omega) hn).trans (o7.2.2.2.2 q hq h1));have nb:∀q,q<w.heap.size->wa.map (·.block)≠some q:=λq hq e=>by have:=(hol q e).1;omega
 have hge:=h7.ge;have hlt7:=h7.lt;have hbk9:w9.heap[bb]? =some (.cells ⟨zaW ⟨0,lb,sk,acc,zcL,zcL,0⟩ wa acc.length wc (.int .i64 0) (.int .i64 0) (.slice none 0 0) (.int .i64 0) (.int .i64 0) (.slice none 0 0)⟩ 54 (0,0)):=(k9 bb (by omega) (nb bb hbb)).trans ((o7.2.2.2.2 bb (by omega) hne).trans h.bk);refine⟨⟨h7.ge,(kV rb (λe=>hne e.symm)).trans ((k9 rb hlt7 (nb rb hrb)).trans h7.blk),h7.tok.keep (λp hp=>Wb ((kV p.block (by omega)).trans (k9 p.block (by omega) (nb _ (by omega))))) (Le _),h7.pos,h7.bad⟩,?_,?_,?_,by rw[hlenA];exact hlen,λx hx=> ?_,λi c2 t2 hx=> ?_⟩
 ·refine⟨?_,?_,?_,by omega,λq hq hz=>(k5 q (by omega) (nb q hq) (λe=>hz (.inl e)) (λe=>hz (.inr e))).trans (h.ch.block q hq hz)⟩
  ·rw[hV];exact hg9.os.trans (hb8.os.trans (o7.1.trans h.ch.os))
  ·rw[hV];exact hg9.tape.trans (hb8.tape.trans (o7.2.1.trans h.ch.tape))
  ·rw[hV];exact hg9.output.trans (hb8.output.trans (o7.2.2.1.trans h.ch.output))
 ·rw[hV,hlenA];exact aD hbk9
 ·rw[hlenA];exact aC ho9 λq hq hv=>kV q (by
   simp only[Value.ownBlock,Oi]at hv
   omega)
 ·rcases Ma.1 hx with hx|hx
  ·exact h.i64 x hx
  ·rw[Mt.1 hx];exact hcc
 ·have l1:=h.own.1;by_cases hi:i<acc.length
  ·rw[Gc hi]at hx;obtain⟨p0,x,y,z,p1,p2,p3,p4⟩:=h.parts i c2 t2 hx;refine⟨by rw[Gc (by omega)];exact p0,x,y,z,by rw[Gc (by omega)];exact p1,by rw[Gc (by omega)];exact p2,by rw[Gc (by omega)];exact p3,p4.keep (by omega) (λq hq hI=>⟨hI.1,λe=> ?_⟩) λq hq hI=>k5 q hq hI.2 (by have:=hI.1;omega) (by have:=hI.1;omega)⟩;simp only[Om,Oi]at e;rcases hl9 with e1|e1
   ·exact hI.2 (e1.trans (by rw[e]))
   ·omega
  ·have hie:i=acc.length:=by
    have:=(Gu.1 hx).1;rw[hlenA]at this;omega
   subst hie;rw[Ga (Le _),Nat.sub_self]at hx;simp only[List.getElem?_cons_zero,Oi,Pj]at hx;obtain⟨rfl,rfl⟩:=hx;refine⟨by rw[show acc.length*4=acc.length*4+0 by omega,iQ l1];rfl,_,_,_,by rw[iQ l1];rfl,by rw[iQ l1];rfl,by rw[iQ l1];rfl,hz.keep (by omega) (λq hq hi=>⟨by have q2:W5.heap.size<q:=hi;omega,λe=> ?_⟩) λq hq hi=>(kV q (by have q2:W5.heap.size<q:=hi;omega)).trans (k9 q hq λe=>by have q2:W5.heap.size<q:=hi;have:=(hol q e).2;omega)⟩;simp only[Om,Oi]at e;have q2:W5.heap.size<q:=hi;rcases hl9 with e1|e1
   ·have:=(hol g9 e1).2;omega
   ·omega
theorem CwI.done(h:CwI w B rb bb A c l r sk lb r' acc wa wc ys W)(hI:I64 lb)(hm:acc.length<=maxLen):CtI w B rb bb A c l r' ⟨0,lb,sk,acc,zcL,zcL,0⟩ wa acc.length wc (.int .i64 0) (.int .i64 0) (.slice none 0 0) (.int .i64 0) (.int .i64 0) (.slice none 0 0) W:=by
 refine⟨h.rx,h.ch,h.bk,by show I64 0;unfold I64;omega,hI,by show I64 0;unfold I64;omega,⟨rfl,hm,h.i64,?_⟩,bN _ _ _ (by unfold I64;omega),bN _ _ _ (by unfold I64;omega)⟩;rcases h.own.2 with⟨q,h0⟩|⟨g,cap,cur,p1,p2,p3,p4,p5,p6,p7⟩
 ·simp only[Vs]at q;exact .inl ⟨q.1,h0⟩
 ·simp only[Vs,true_and]at p1;obtain⟨rfl,rfl⟩:=p1;refine .inr ⟨g,rfl,p2,hlS p3,λi cc t hx=> ?_⟩;obtain⟨q0,x,y,z,q1,q2,q3,q4⟩:=h.parts i cc t hx;exact⟨fX h.own q0,x,y,z,fX h.own q1,fX h.own q2,fX h.own q3,q4.keep (Le _) (λ_ _ q=>q.1) λ_ _ _=>rfl⟩
end
def CwR(w:World)(B rb bb:Nat)(A:OA)(c:Nat)(l:List Tk)(r:Rs)(sk:Bool)(lb:Int)(W:World):Prop:=
 ∃(k:Nat) (r':Rs) (acc:List (Int×Tr)) (wa:OA) (wc:Nat) (ys:LV),CwI w B rb bb A c l r sk lb r' acc wa wc ys W/\zaX l r'<=k/\zeO l (zaX l r) r []=zeO l k r' acc
theorem qsZ{w:World}{B rb:Nat}{A:OA}{c:Nat}{l:List Tk}{r:Rs}(h:RX w B rb A c l r):I64 (zcO l r).n:=by
 unfold zcO;split
 ·show I64 0;unfold I64;omega
 ·rename_i q;rw[Gd,Gg (by omega)];exact(h.tok.2.1 _ (List.getElem_mem _)).2.1
def zfF(l:List Tk)(r:Rs)(sk:Bool)(lb:Int):Bk×Rs:=
 if isA l r ⟨#[35]⟩=true then(⟨1,lb,sk,[],(EX l .cel (nxt r)).1,(EX l (.lev 0) (zbY l (EX l .cel (nxt r)).2 ⟨#[61]⟩)).1,0⟩,zgC l (EX l (.lev 0) (zbY l (EX l .cel (nxt r)).2 ⟨#[61]⟩)).2)
 else if isA l r ⟨#[73,70]⟩=true then(⟨3,lb,sk,[],(zeS l (zbY l (EX l .brk (nxt r)).2 ⟨#[71,79,84,79]⟩)).1,(EX l .brk (nxt r)).1,0⟩,zgC l (zeS l (zbY l (EX l .brk (nxt r)).2 ⟨#[71,79,84,79]⟩)).2)
 else if isA l r ⟨#[71,79,84,79]⟩=true then(⟨2,lb,sk,[],zcL,(zeS l (nxt r)).1,0⟩,zgC l (zeS l (nxt r)).2)
 else if isA l r ⟨#[87,72,73,76,69]⟩=true then(⟨4,lb,sk,[],zcL,(EX l .brk (nxt r)).1,(zfB l 3 (zbY l (EX l .brk (nxt r)).2 ⟨#[68,79]⟩)).1⟩,zgC l (zfB l 3 (zbY l (EX l .brk (nxt r)).2 ⟨#[68,79]⟩)).2)
 else if isA l r ⟨#[69,78,68]⟩=true then(⟨5,lb,sk,[],zcL,zcL,(zfB l 3 (nxt r)).1⟩,zgC l (zfB l 3 (nxt r)).2)
 else if zgB l r 79=true then(⟨6,lb,sk,[],zcL,zcL,(zfB l 99999 (nxt r)).1⟩,zgC l (zfB l 99999 (nxt r)).2)
 else(⟨0,lb,sk,(zeO l (zaX l r) r []).1,zcL,zcL,0⟩,zgC l (zeO l (zaX l r) r []).2)
theorem ziU(w:World)(B rb bb:Nat)(A:OA)(c:Nat)(l:List Tk)(r:Rs)(sk:Bool)(lb:Int)(h:RX w B rb A c l r)(hbb:w.heap[bb]? =some (.cells (zdW sk lb) 54 (0,0)))(hne:bb≠rb)(hBb:B<=bb)(hI:I64 lb):
 Calls prog 101 #[.pointer (some ⟨rb,0,none⟩),.pointer (some ⟨bb,0,none⟩)] w (zkQ B rb bb A c l (zfF l r sk lb).1 (zfF l r sk lb).2 w):=by
 have HC:=Hd (CtI.start h hbb hI);have hrb:=h.lt;have hbl:=hlS hbb;have hml:l.length<=100000:=h.tok.1;obtain⟨cq,hcq⟩:∃q,zfF l r sk lb=q:=⟨_,rfl⟩;rw[hcq];have HQ:=Hd hcq;clear h hcq;go_enter func101,ntmps101;go_wp2_with fail;by_cases n0:isA l r ⟨#[35]⟩=true
 focus
  refine(dI n0 HC.o.rx).mono ?_;rintro e w1 ⟨rfl,hrp⟩;have HCn:=Hd (HC.o.mv hrp hne hrb);clear HC hrp;have HC:=Hd HCn.o;clear HCn;have HEQ:Hid (cq=(⟨1,lb,sk,[],(EX l .cel (nxt r)).1,(EX l (.lev 0) (zbY l (EX l .cel (nxt r)).2 ⟨#[61]⟩)).1,0⟩,zgC l (EX l (.lev 0) (zbY l (EX l .cel (nxt r)).2 ⟨#[61]⟩)).2)):=by unfold Hid;rw[<-HQ.o];unfold zfF;simp only[n0,if_true,if_false,Bool.false_eq_true]
  clear n0 hbb HQ;obtain⟨fc,ff⟩:=HC.o.cells;have f0:=fc 0 _ rfl;clear fc;have HCn:=Hd (HC.o.kind hne hBb hbl (k:=1) (by unfold I64;omega));clear HC;have HC:=Hd HCn.o;clear HCn;go_wp2_with fail;refine(qbV _ _ _ _ _ _ _ HC.o.rx).mono ?_;rintro e w2 ⟨x,y,z,rfl,hz,hrp⟩;obtain⟨xo,xn,xA,xk,xc,rfl,rfl,rfl⟩:=hz.form;have HZ:=Hd (HC.o.up hz);have HCn:=Hd (HC.o.mv hrp hne hrb);clear HC hrp hz;have HC:=Hd HCn.o;clear HCn;clear ff f0;obtain⟨fc,ff⟩:=HC.o.cells;have f4:=fc 4 _ rfl;have f5:=fc 5 _ rfl;have f6:=fc 6 _ rfl;clear fc;have HCn:=Hd (HC.o.lf hne hBb hbl HZ.o);clear HC;have HC:=Hd HCn.o;clear HCn;go_wp2_with fail;refine(lC _ _ _ _ _ _ _ _ HC.o.rx).mono ?_;rintro e w3 ⟨rfl,hrp⟩;have HCn:=Hd (HC.o.mv hrp hne hrb);clear HC hrp;have HC:=Hd HCn.o;clear HCn;clear ff f4 f5 f6;clear HZ;go_wp2_with fail;refine(qtU _ _ _ _ _ _ _ HC.o.rx).mono ?_;rintro e w4 ⟨x,y,z,rfl,hz,hrp⟩;obtain⟨xo,xn,xA,xk,xc,rfl,rfl,rfl⟩:=hz.form;have HZ:=Hd (HC.o.up hz);have HCn:=Hd (HC.o.mv hrp hne hrb);clear HC hrp hz;have HC:=Hd HCn.o;clear HCn;obtain⟨fc,ff⟩:=HC.o.cells;have f7:=fc 7 _ rfl;have f8:=fc 8 _ rfl;have f9:=fc 9 _ rfl;clear fc;have HCn:=Hd (HC.o.ex hne hBb hbl HZ.o);clear HC;have HC:=Hd HCn.o;clear HCn;go_upto_region 30 with(fail)
  clear ff f7 f8 f9;generalize EX l (.lev 0) (zbY l (EX l .cel (nxt r)).2 ⟨#[61]⟩)=q at*
  obtain⟨qt,re⟩:=q;dsimp only at*
 rotate_left;replace n0:=eq_false_of_ne_true n0;refine(aR n0 HC.o.rx).mono ?_;rintro e wn0 ⟨rfl,hrp⟩;have HCn:=Hd (HC.o.mv hrp hne hrb);clear HC hrp;have HC:=Hd HCn.o;clear HCn;go_wp2_with fail;by_cases n1:isA l r ⟨#[73,70]⟩=true
 focus
  refine(dI n1 HC.o.rx).mono ?_;rintro e w1 ⟨rfl,hrp⟩;have HCn:=Hd (HC.o.mv hrp hne hrb);clear HC hrp;have HC:=Hd HCn.o;clear HCn;have HEQ:Hid (cq=(⟨3,lb,sk,[],(zeS l (zbY l (EX l .brk (nxt r)).2 ⟨#[71,79,84,79]⟩)).1,(EX l .brk (nxt r)).1,0⟩,zgC l (zeS l (zbY l (EX l .brk (nxt r)).2 ⟨#[71,79,84,79]⟩)).2)):=by unfold Hid;rw[<-HQ.o];unfold zfF;simp only[n0,n1,if_true,if_false,Bool.false_eq_true]
  clear n0 n1 hbb HQ;obtain⟨fc,ff⟩:=HC.o.cells;have f0:=fc 0 _ rfl;clear fc;have HCn:=Hd (HC.o.kind hne hBb hbl (k:=3) (by unfold I64;omega));clear HC;have HC:=Hd HCn.o;clear HCn;go_wp2_with fail;refine(qgX _ _ _ _ _ _ _ HC.o.rx).mono ?_;rintro e w2 ⟨x,y,z,rfl,hz,hrp⟩;obtain⟨xo,xn,xA,xk,xc,rfl,rfl,rfl⟩:=hz.form;have HZ:=Hd (HC.o.up hz);have HCn:=Hd (HC.o.mv hrp hne hrb);clear HC hrp hz;have HC:=Hd HCn.o;clear HCn;clear ff f0;obtain⟨fc,ff⟩:=HC.o.cells;have f7:=fc 7 _ rfl;have f8:=fc 8 _ rfl;have f9:=fc 9 _ rfl;clear fc;have HCn:=Hd (HC.o.ex hne hBb hbl HZ.o);clear HC;have HC:=Hd HCn.o;clear HCn;go_wp2_with fail;refine(lC _ _ _ _ _ _ _ _ HC.o.rx).mono ?_;rintro e w3 ⟨rfl,hrp⟩;have HCn:=Hd (HC.o.mv hrp hne hrb);clear HC hrp;have HC:=Hd HCn.o;clear HCn;clear ff f7 f8 f9;clear HZ;go_wp2_with fail;refine(yH _ _ _ _ _ _ _ HC.o.rx).mono ?_;rintro e w4 ⟨x,y,z,rfl,hz,hrp⟩;obtain⟨xo,xn,xA,xk,xc,rfl,rfl,rfl⟩:=hz.form;have HZ:=Hd (HC.o.up hz);have HCn:=Hd (HC.o.mv hrp hne hrb);clear HC hrp hz;have HC:=Hd HCn.o;clear HCn;obtain⟨fc,ff⟩:=HC.o.cells;have f4:=fc 4 _ rfl;have f5:=fc 5 _ rfl;have f6:=fc 6 _ rfl;clear fc;have HCn:=Hd (HC.o.lf hne hBb hbl HZ.o);clear HC;have HC:=Hd HCn.o;clear HCn;go_upto_region 30 with(fail)
  clear ff f4 f5 f6;generalize zeS l (zbY l (EX l .brk (nxt r)).2 ⟨#[71,79,84,79]⟩)=q at*
  obtain⟨qt,re⟩:=q;dsimp only at*
 rotate_left;replace n1:=eq_false_of_ne_true n1;refine(aR n1 HC.o.rx).mono ?_;rintro e wn1 ⟨rfl,hrp⟩;have HCn:=Hd (HC.o.mv hrp hne hrb);clear HC hrp;have HC:=Hd HCn.o;clear HCn;go_wp2_with fail;by_cases n2:isA l r ⟨#[71,79,84,79]⟩=true
 focus
  refine(dI n2 HC.o.rx).mono ?_;rintro e w1 ⟨rfl,hrp⟩;have HCn:=Hd (HC.o.mv hrp hne hrb);clear HC hrp;have HC:=Hd HCn.o;clear HCn;have HEQ:Hid (cq=(⟨2,lb,sk,[],zcL,(zeS l (nxt r)).1,0⟩,zgC l (zeS l (nxt r)).2)):=by unfold Hid;rw[<-HQ.o];unfold zfF;simp only[n0,n1,n2,if_true,if_false,Bool.false_eq_true]
  clear n0 n1 n2 hbb HQ;obtain⟨fc,ff⟩:=HC.o.cells;have f0:=fc 0 _ rfl;clear fc;have HCn:=Hd (HC.o.kind hne hBb hbl (k:=2) (by unfold I64;omega));clear HC;have HC:=Hd HCn.o;clear HCn;go_wp2_with fail;refine(yH _ _ _ _ _ _ _ HC.o.rx).mono ?_;rintro e w2 ⟨x,y,z,rfl,hz,hrp⟩;obtain⟨xo,xn,xA,xk,xc,rfl,rfl,rfl⟩:=hz.form;have HZ:=Hd (HC.o.up hz);have HCn:=Hd (HC.o.mv hrp hne hrb);clear HC hrp hz;have HC:=Hd HCn.o;clear HCn;clear ff f0;obtain⟨fc,ff⟩:=HC.o.cells;have f7:=fc 7 _ rfl;have f8:=fc 8 _ rfl;have f9:=fc 9 _ rfl;clear fc;have HCn:=Hd (HC.o.ex hne hBb hbl HZ.o);clear HC;have HC:=Hd HCn.o;clear HCn;go_upto_region 30 with(fail)
  clear ff f7 f8 f9;generalize zeS l (nxt r)=q at*
  obtain⟨qt,re⟩:=q;dsimp only at*
 rotate_left;replace n2:=eq_false_of_ne_true n2;refine(aR n2 HC.o.rx).mono ?_;rintro e wn2 ⟨rfl,hrp⟩;have HCn:=Hd (HC.o.mv hrp hne hrb);clear HC hrp;have HC:=Hd HCn.o;clear HCn;go_wp2_with fail;by_cases n3:isA l r ⟨#[87,72,73,76,69]⟩=true
 focus
  refine(dI n3 HC.o.rx).mono ?_;rintro e w1 ⟨rfl,hrp⟩;have HCn:=Hd (HC.o.mv hrp hne hrb);clear HC hrp;have HC:=Hd HCn.o;clear HCn;have HEQ:Hid (cq=(⟨4,lb,sk,[],zcL,(EX l .brk (nxt r)).1,(zfB l 3 (zbY l (EX l .brk (nxt r)).2 ⟨#[68,79]⟩)).1⟩,zgC l (zfB l 3 (zbY l (EX l .brk (nxt r)).2 ⟨#[68,79]⟩)).2)):=by unfold Hid;rw[<-HQ.o];unfold zfF;simp only[n0,n1,n2,n3,if_true,if_false,Bool.false_eq_true]
  clear n0 n1 n2 n3 hbb HQ;obtain⟨fc,ff⟩:=HC.o.cells;have f0:=fc 0 _ rfl;clear fc;have HCn:=Hd (HC.o.kind hne hBb hbl (k:=4) (by unfold I64;omega));clear HC;have HC:=Hd HCn.o;clear HCn;go_wp2_with fail;refine(qgX _ _ _ _ _ _ _ HC.o.rx).mono ?_;rintro e w2 ⟨x,y,z,rfl,hz,hrp⟩;obtain⟨xo,xn,xA,xk,xc,rfl,rfl,rfl⟩:=hz.form;have HZ:=Hd (HC.o.up hz);have HCn:=Hd (HC.o.mv hrp hne hrb);clear HC hrp hz;have HC:=Hd HCn.o;clear HCn;clear ff f0;obtain⟨fc,ff⟩:=HC.o.cells;have f7:=fc 7 _ rfl;have f8:=fc 8 _ rfl;have f9:=fc 9 _ rfl;clear fc;have HCn:=Hd (HC.o.ex hne hBb hbl HZ.o);clear HC;have HC:=Hd HCn.o;clear HCn;go_wp2_with fail;refine(lC _ _ _ _ _ _ _ _ HC.o.rx).mono ?_;rintro e w3 ⟨rfl,hrp⟩;have HCn:=Hd (HC.o.mv hrp hne hrb);clear HC hrp;have HC:=Hd HCn.o;clear HCn;clear ff f7 f8 f9;clear HZ;go_wp2_with fail;refine(nT _ _ _ _ _ _ _ 3 HC.o.rx).mono ?_;rintro e w4 ⟨rfl,hrp⟩;have HCn:=Hd (HC.o.mv hrp hne hrb);have HBD:=Hd (qrX (l:=l) (r:=zbY l (EX l .brk (nxt r)).2 ⟨#[68,79]⟩) (most:=3) (by omega) (by omega));clear HC hrp;have HC:=Hd HCn.o;clear HCn;obtain⟨fc,ff⟩:=HC.o.cells;have f10:=fc 10 _ rfl;clear fc;have HCn:=Hd (HC.o.num hne hBb hbl HBD.o);clear HC;have HC:=Hd HCn.o;clear HCn;go_upto_region 30 with(fail)
  clear ff f10;generalize zfB l 3 (zbY l (EX l .brk (nxt r)).2 ⟨#[68,79]⟩)=q at*
  obtain⟨qt,re⟩:=q;dsimp only at*
 rotate_left;replace n3:=eq_false_of_ne_true n3;refine(aR n3 HC.o.rx).mono ?_;rintro e wn3 ⟨rfl,hrp⟩;have HCn:=Hd (HC.o.mv hrp hne hrb);clear HC hrp;have HC:=Hd HCn.o;clear HCn;go_wp2_with fail;by_cases n4:isA l r ⟨#[69,78,68]⟩=true
 focus
  refine(dI n4 HC.o.rx).mono ?_;rintro e w1 ⟨rfl,hrp⟩;have HCn:=Hd (HC.o.mv hrp hne hrb);clear HC hrp;have HC:=Hd HCn.o;clear HCn;have HEQ:Hid (cq=(⟨5,lb,sk,[],zcL,zcL,(zfB l 3 (nxt r)).1⟩,zgC l (zfB l 3 (nxt r)).2)):=by unfold Hid;rw[<-HQ.o];unfold zfF;simp only[n0,n1,n2,n3,n4,if_true,if_false,Bool.false_eq_true]
  clear n0 n1 n2 n3 n4 hbb HQ;obtain⟨fc,ff⟩:=HC.o.cells;have f0:=fc 0 _ rfl;clear fc;have HCn:=Hd (HC.o.kind hne hBb hbl (k:=5) (by unfold I64;omega));clear HC;have HC:=Hd HCn.o;clear HCn;go_wp2_with fail;refine(nT _ _ _ _ _ _ _ 3 HC.o.rx).mono ?_;rintro e w2 ⟨rfl,hrp⟩;have HCn:=Hd (HC.o.mv hrp hne hrb);have HBD:=Hd (qrX (l:=l) (r:=nxt r) (most:=3) (by omega) (by omega));clear HC hrp;have HC:=Hd HCn.o;clear HCn;clear ff f0;obtain⟨fc,ff⟩:=HC.o.cells;have f10:=fc 10 _ rfl;clear fc;have HCn:=Hd (HC.o.num hne hBb hbl HBD.o);clear HC;have HC:=Hd HCn.o;clear HCn;go_upto_region 30 with(fail)
  clear ff f10;generalize zfB l 3 (nxt r)=q at*
  obtain⟨qt,re⟩:=q;dsimp only at*
 rotate_left;replace n4:=eq_false_of_ne_true n4;refine(aR n4 HC.o.rx).mono ?_;rintro e wn4 ⟨rfl,hrp⟩;have HCn:=Hd (HC.o.mv hrp hne hrb);clear HC hrp;have HC:=Hd HCn.o;clear HCn;go_wp2_with fail;by_cases n5:zgB l r 79=true
 focus
  have hlt:r.1<l.length:=by
   refine gG (λe=> ?_);unfold zgB at n5;rw[e]at n5;simp at n5
  refine(dJ n5 HC.o.rx).mono ?_;rintro e w1 ⟨rfl,hb⟩;have HCn:=Hd (HC.o.bl hb);clear HC hb;have HC:=Hd HCn.o;clear HCn;have HEQ:Hid (cq=(⟨6,lb,sk,[],zcL,zcL,(zfB l 99999 (nxt r)).1⟩,zgC l (zfB l 99999 (nxt r)).2)):=by unfold Hid;rw[<-HQ.o];unfold zfF;simp only[n0,n1,n2,n3,n4,n5,if_true,if_false,Bool.false_eq_true]
  clear n0 n1 n2 n3 n4 n5 hbb HQ;obtain⟨c0,c1,c2,cf⟩:=HC.o.rx.cells;have HCn:=Hd (HC.o.mv ⟨HC.o.rx.next hlt,HC.o.rx.only 1 _⟩ hne hrb);clear HC;have HC:=Hd HCn.o;clear HCn;obtain⟨fc,ff⟩:=HC.o.cells;have f0:=fc 0 _ rfl;clear fc;have HCn:=Hd (HC.o.kind hne hBb hbl (k:=6) (by unfold I64;omega));clear HC;have HC:=Hd HCn.o;clear HCn;go_wp2_with fail;refine(nT _ _ _ _ _ _ _ 99999 HC.o.rx).mono ?_;rintro e w2 ⟨rfl,hrp⟩;have HCn:=Hd (HC.o.mv hrp hne hrb);have HBD:=Hd (qrX (l:=l) (r:=nxt r) (most:=99999) (by omega) (by omega));clear HC hrp;have HC:=Hd HCn.o;clear HCn;clear ff f0;obtain⟨fc,ff⟩:=HC.o.cells;have f10:=fc 10 _ rfl;clear fc;have HCn:=Hd (HC.o.num hne hBb hbl HBD.o);clear HC;have HC:=Hd HCn.o;clear HCn;go_upto_region 30 with(fail)
  clear ff f10;generalize zfB l 99999 (nxt r)=q at*
  obtain⟨qt,re⟩:=q;dsimp only at*
 rotate_left;replace n5:=eq_false_of_ne_true n5
 focus
  refine(dJ n5 HC.o.rx).mono ?_;rintro e w1 ⟨rfl,hb⟩;have HCn:=Hd (HC.o.bl hb);clear HC hb;have HC:=Hd HCn.o;have HEQ:Hid (cq=(⟨0,lb,sk,(zeO l (zaX l r) r []).1,zcL,zcL,0⟩,zgC l (zeO l (zaX l r) r []).2)):=by unfold Hid;rw[<-HQ.o];unfold zfF;simp only[n0,n1,n2,n3,n4,n5,if_false,Bool.false_eq_true]
  clear n0 n1 n2 n3 n4 n5 HQ;have HR0:Hid (CwR w B rb bb A c l r sk lb w1):=⟨zaX l r,r,[],none,0,[],⟨HC.o.rx,HC.o.ch,HC.o.bk,World.ownsRow_nil _ _ _ _,by simp,λx hx=>(by cases hx),λi cc t hx=>(by cases hx)⟩,Le _,rfl⟩;clear HCn HC hbb;go_wp2_with fail;go_loopw[] (λW=>CwR w B rb bb A c l r sk lb W) (λW=>lfM rb l W)
  case atStart=>exact HR0.o
  obtain⟨k,r',acc,wa,wc,ys,hC,hk,hw⟩:=hrel;have HC:=Hd hC;have HW:=Hd hw;have HMS:=Hd (zK hC.rx);have HTI:=Hd (qsZ hC.rx);have HLT:Hid ((zcO l r').kind≠0->r'.1<l.length):=gG;have HKL:Hid ((zcO l r').kind≠0->zaX l r'=zaX l (nxt r')+1/\0<zaX l (nxt r')):=qR;obtain⟨⟨tk,tn,tp,tx⟩,ht⟩:∃t,zcO l r'=t:=⟨_,rfl⟩;have HTK:Hid (∀W,RX W B rb A c l r'->Calls prog 133 #[.pointer (some ⟨rb,0,none⟩)] W λe w'=>e=.returned (.agg #[.int .i64 tk,.int .i64 tn,.int .i64 tp,.string tx])/\Bw W w'):=λW hx=>by
   have q:=eA W B rb A c l r' hx;rw[ht]at q;exact q
  have HT:=Hd ht;rw[ht]at HTI HLT HKL;dsimp only at HTI HLT HKL;have fd0:=qD (.int .i64 tk) (.int .i64 tn) (.int .i64 tp) (.string tx);have fd1:=wG (.int .i64 tk) (.int .i64 tn) (.int .i64 tp) (.string tx);clear hC hw ht HR0;by_cases hgo:tk=1/\zgB l r' 78=false/\zgB l r' 79=false;rotate_left
  focus
   have hw2:zeO l (zaX l r) r []=(acc,r'):=by
    rw[HW.o];rcases k with _|k
    ·rfl
    ·rw[zeO,Iq];rw[HT.o];exact hgo
   obtain⟨re,hre⟩:∃re,re=r':=⟨_,rfl⟩;rw[<-hre]at hw2;have HWW:=Hd hw2;have HTK2:=Hd HTK.o;rw[<-hre]at HC;rw[<-hre]at HTK2 hgo;clear HTK HLT HKL HW HMS HT hw2 hre hk HTI;have HTK:=Hd HTK2.o;clear HTK2;by_cases h1:tk=1
   focus
    have g1:(tk==1)=true:=beq_iff_eq.2 h1;rcases h78:zgB l re 78 with _|_
    focus
     have h79:zgB l re 79=true:=by
      rcases h:zgB l re 79 with _|_
      ·exact absurd ⟨h1,h78,h⟩ hgo
      ·rfl
     have tok1:=trivial;have H78:=Hd h78;have H79:=Hd h79;clear h78 h79 hgo h1;go_upto_region 30 with(first|(go_at_call 133;refine(HTK.o _ HC.o.rx).mono ?_;rintro e w2 ⟨rfl,hb⟩;have HCn:=Hd (HC.o.bl hb);clear HC hb;have HC:=Hd HCn.o;clear HCn)|(clear tok1;go_at_call 99;refine(dJ H78.o HC.o.rx).mono ?_;rintro e w3 ⟨rfl,hb⟩;have HCn:=Hd (HC.o.bl hb);clear HC hb;have HC:=Hd HCn.o;clear HCn)|(go_at_call 99;refine(dJ H79.o HC.o.rx).mono ?_;rintro e w4 ⟨rfl,hb⟩;have HCn:=Hd (HC.o.bl hb);clear HC hb;have HC:=Hd HCn.o;clear HCn))
    rotate_left
    focus
     have H78:=Hd h78;clear h78 hgo h1;go_upto_region 30 with(first|(go_at_call 133;refine(HTK.o _ HC.o.rx).mono ?_;rintro e w2 ⟨rfl,hb⟩;have HCn:=Hd (HC.o.bl hb);clear HC hb;have HC:=Hd HCn.o;clear HCn)|(go_at_call 99;refine(dJ H78.o HC.o.rx).mono ?_;rintro e w3 ⟨rfl,hb⟩;have HCn:=Hd (HC.o.bl hb);clear HC hb;have HC:=Hd HCn.o;clear HCn))
   rotate_left 2
   focus
    have g1:(tk==1)=false:=beq_eq_false_iff_ne.2 h1;clear hgo h1;go_upto_region 30 with(first|(go_at_call 133;refine(HTK.o _ HC.o.rx).mono ?_;rintro e w2 ⟨rfl,hb⟩;have HCn:=Hd (HC.o.bl hb);clear HC hb;have HC:=Hd HCn.o;clear HCn))
  rotate_left 3
  ·obtain⟨h1,h78,h79⟩:=hgo;have hlt:=HLT.o (by omega);have hkl:=HKL.o (by omega);have hlv:=qoS l (nxt r');have HW2:Hid (∃j,zaX l (zeS l (nxt r')).2<=j/\zeO l (zaX l r) r []=zeO l j (zeS l (nxt r')).2 (acc++[(tn,(zeS l (nxt r')).1)])):=by
    rcases k with _|k
    ·omega
    ·refine⟨k,by omega,?_⟩;rw[HW.o,zeO,Ip (by rw[HT.o];exact⟨h1,h78,h79⟩),HT.o]
   have HLN:Hid (acc.length+1+zaX l (zeS l (nxt r')).2<=zaX l r):=by have:=HC.o.len;unfold Hid;omega
   have HMN:Hid (zaX l (zeS l (nxt r')).2<zaX l r'):=by unfold Hid;omega
   have g1:(tk==1)=true:=beq_iff_eq.2 h1;have HVAL:Hid (∀W,RX W B rb A c l (nxt r')->Calls prog 140 #[.pointer (some ⟨rb,0,none⟩)] W (XP B rb A c l (zeS l (nxt r')) W)):=λW hx=>yH W B rb A c l (nxt r') hx;obtain⟨qv,hqv⟩:∃q,zeS l (nxt r')=q:=⟨_,rfl⟩;rw[hqv]at HW2 HLN HMN HVAL;have H78:=Hd h78;have H79:=Hd h79;have tok1:=trivial;have tok2:=trivial;have tok3:=trivial;have h6l:zaX l r<=l.length+1:=by unfold zaX;split<;>omega
   have hal:acc.length<=100001:=by have:=HC.o.len;omega
   clear h1 h78 h79 hkl hlv hqv HW HLT HKL HT hk;go_upto_region 3 with(first|(clear tok1;go_at_call 133;refine(HTK.o _ HC.o.rx).mono ?_;rintro e w2 ⟨rfl,hb⟩;have HCn:=Hd (HC.o.bl hb);clear HC hb;have HC:=Hd HCn.o;clear HCn)|(clear tok2;go_at_call 99;refine(dJ H78.o HC.o.rx).mono ?_;rintro e w3 ⟨rfl,hb⟩;have HCn:=Hd (HC.o.bl hb);clear HC hb;have HC:=Hd HCn.o;clear HCn)|(clear tok3;go_at_call 99;refine(dJ H79.o HC.o.rx).mono ?_;rintro e w4 ⟨rfl,hb⟩;have HCn:=Hd (HC.o.bl hb);clear HC hb;have HC:=Hd HCn.o;clear HCn)|(go_at_call 133;refine(HTK.o _ HC.o.rx).mono ?_;rintro e w5 ⟨rfl,hb⟩;have HB5:=Hd (hb.alloc hb.size (.cells #[.int .i64 tn,.int .i64 0,.int .i64 0,.slice none 0 0] 57));have HC5:=Hd (HC.o.bl hb);have HX5:=Hd (HC.o.rx.below HB5.o);obtain⟨c0,c1,c2,cf⟩:=HX5.o.cells;have hml5:=HX5.o.tok.1;clear hb))
   obtain⟨wg,hwg⟩:∃wg,wg=w5.heap.size:=⟨_,rfl⟩;obtain⟨W6,hW6⟩:∃W6,W6=(w5.setCell ⟨rb,1,none⟩ (.int .i64 ((r'.1:Int)+1))).alloc (.cells #[.int .i64 tn,.int .i64 0,.int .i64 0,.slice none 0 0] 57):=⟨_,rfl⟩;have hrb5:rb<w5.heap.size:=HC5.o.rx.lt;have hbb5:bb<w5.heap.size:=hlS HC5.o.bk;have hbs:Below (w5.setCell ⟨rb,1,none⟩ (.int .i64 ((r'.1:Int)+1))).heap.size (w5.setCell ⟨rb,1,none⟩ (.int .i64 ((r'.1:Int)+1))) W6:=by rw[hW6];exact nB _ _
   have HX6:Hid (RX W6 B rb A c l (nxt r')):=(HC5.o.rx.next hlt).below hbs;have h6s:W6.heap.size=wg+1:=by rw[hW6,hwg];simp[World.setCell]
   have h6w:W6.heap[wg]? =some (.cells #[.int .i64 tn,.int .i64 0,.int .i64 0,.slice none 0 0] 57 (0,0)):=by
    have q:=Hn (w5.setCell ⟨rb,1,none⟩ (.int .i64 ((r'.1:Int)+1))) (.cells #[.int .i64 tn,.int .i64 0,.int .i64 0,.slice none 0 0] 57);rw[<-hW6]at q;rw[hwg];simpa[World.setCell]using q
   have HO6:Hid (zaZ rb w5 W6):=(HC5.o.rx.only 1 _).trans (zaZ.of_below hbs);clear hbs;have H6W:=Hd h6w;have HWG:=Hd hwg;have HV6:=Hd (HVAL.o W6 HX6.o);clear c0 c1 c2 cf h6w;go_wp2_with fail;try rw[<-hW6]
   clear hW6;refine HV6.o.mono ?_;rintro e w6 ⟨x,y,z,rfl,hz,hrp⟩;obtain⟨xo,xn,xA,xk,xc,rfl,rfl,rfl⟩:=hz.form;have HZ:=Hd hz;have HX7:=Hd hrp.1;have HO7:=Hd hrp.2;have HWD6:Hid (w6.heap[wg]? =some (.cells #[.int .i64 tn,.int .i64 0,.int .i64 0,.slice none 0 0] 57 (0,0))):=(hrp.2.2.2.2.2 wg (by omega) (by omega)).trans H6W.o;have HWD5:=Hd HWD6.o;rw[hwg]at HWD5;have e1:w6.cell? ⟨w5.heap.size,1,none⟩=some (.int .i64 0):=Ro w6 _ 1 _ _ _ HWD5.o;have e2:w6.cell? ⟨w5.heap.size,2,none⟩=some (.int .i64 0):=Ro w6 _ 2 _ _ _ HWD5.o;have e3:w6.cell? ⟨w5.heap.size,3,none⟩=some (.slice none 0 0):=Ro w6 _ 3 _ _ _ HWD5.o;have ef:∀i,w6.frozen? ⟨w5.heap.size,i,none⟩=false:=λi=>by simp[World.frozen?,HWD5.o]
   clear hz hrp HV6;go_upto_region 4 with(fail)
   obtain⟨W7,hW7⟩:∃W7,W7=((w6.setCell ⟨wg,1,none⟩ (.int .i64 xo)).setCell ⟨wg,2,none⟩ (.int .i64 xn)).setCell ⟨wg,3,none⟩ (.slice xA xk xc):=⟨_,rfl⟩;rw[<-hwg,<-hW7];clear e1 e2 e3 ef HWD5;have hk7:∀q,q≠wg->W7.heap[q]? =w6.heap[q]? :=λq hq=>by rw[hW7];exact aL w6 wg 1 q _ _ _ hq
   have hs7:W7.heap.size=w6.heap.size:=by rw[hW7];simp[World.setCell]
   have hs6:=HO7.o.2.2.2.1;have HX8:Hid (RX W7 B rb A c l qv.2):=by
    have hg:=HX7.o.ge;unfold Hid;rw[hW7];exact((HX7.o.put (show wg≠rb by omega) (by omega) 1 _).put (show wg≠rb by omega) (by omega) 2 _).put (show wg≠rb by omega) (by omega) 3 _
   have HO8:Hid (zaZ rb w5 W7):=by
    have o:=HO6.o.trans HO7.o;exact⟨by rw[<-o.1,hW7];rfl,by rw[<-o.2.1,hW7];rfl,by rw[<-o.2.2.1,hW7];rfl,by rw[hs7];exact o.2.2.2.1,λg hg hb=>(hk7 g (by omega)).trans (o.2.2.2.2 g hg hb)⟩
   have HWD7:Hid (W7.heap[wg]? =some (.cells #[.int .i64 tn,.int .i64 xo,.int .i64 xn,.slice xA xk xc] 57 (0,0))):=by
    have q1:=aD (i:=1) (u:=.int .i64 xo) HWD6.o;have q2:=aD (i:=2) (u:=.int .i64 xn) q1;have q3:=aD (i:=3) (u:=.slice xA xk xc) q2;unfold Hid;rw[hW7];simpa using q3
   have HZ7:Hid (Rz W7 (λg=>w5.heap.size<g) qv.1 (.agg #[.int .i64 xo,.int .i64 xn,.slice xA xk xc])):=HZ.o.keep (by omega) (λg _ hg=>by have q:W6.heap.size<=g:=hg;show w5.heap.size<g;omega) λg _ hg=>hk7 g (by have q:W6.heap.size<=g:=hg;omega);have hwg7:wg<W7.heap.size:=hlS HWD7.o;have HWD8:=Hd HWD7.o;rw[hwg]at HWD8;have hwg8:w5.heap.size<W7.heap.size:=hlS HWD8.o;have y0:W7.cell? ⟨w5.heap.size,0,none⟩=some (.int .i64 tn):=Ro W7 _ 0 _ _ _ HWD8.o;have y1:W7.cell? ⟨w5.heap.size,1,none⟩=some (.int .i64 xo):=Ro W7 _ 1 _ _ _ HWD8.o;have y2:W7.cell? ⟨w5.heap.size,2,none⟩=some (.int .i64 xn):=Ro W7 _ 2 _ _ _ HWD8.o;have y3:W7.cell? ⟨w5.heap.size,3,none⟩=some (.slice xA xk xc):=Ro W7 _ 3 _ _ _ HWD8.o;have HBK7:Hid (W7.heap[bb]? =w5.heap[bb]?):=HO8.o.2.2.2.2 bb hbb5 hne;have z3:W7.cell? ⟨bb,3,none⟩=some (.slice wa acc.length wc):=(aB HBK7.o).trans HC5.o.cells.1;have hbb7:bb<W7.heap.size:=by omega
   have HOW:Hid (W7.ownsRow w.heap.size 57 4 (.slice wa acc.length wc) acc.length ys):=aC HC5.o.own λq hq hv=>HO8.o.2.2.2.2 q hq (by have:=(aI HC5.o.own hv).1;omega);have hsw7:w.heap.size<=W7.heap.size:=Ly HC5.o.ch.size HO8.o.2.2.2.1;obtain⟨iW,zW,hiW,hW0,hWa,hWb,hWs⟩:=cY;have HIW:=Hd hiW;have HZW:=Hd hW0;have HOA:Hid (∀q,wa.map (·.block)=some q->w.heap.size<=q):=λq hq=>(aI HC5.o.own (by rw[aU];exact hq)).1;clear hiW hW0 hW7 hk7 hs7 H6W HWD6 HZ HX7 HO7 HX6 HO6 HX5 HB5 HC HTK HVAL;go_region_law(first|(refine step_append_lies _ rfl (.tmp 37) (.tmp 39) 49 rfl w.heap.size 57 iW zW 4 48 underlying49 HIW.o HZW.o hWa hWb hWs (by omega) (.slice wa acc.length wc) acc.length ys (by simp[Act.eval,Act.put]) (HOW.o.alloc _) ⟨W7.heap.size,0,none⟩ 1 1 [.int .i64 tn,.int .i64 xo,.int .i64 xn,.slice xA xk xc] (by simp[Act.eval,Act.put]) rfl (Nk (Hn W7 _)) (by intro u hu;simp at hu;rcases hu with rfl|rfl|rfl|rfl<;>rfl) (by omega) (by unfold maxLen;omega) (by omega) (by simp;omega) _ rfl ?_;intro g9 c9 w9 ho9 hg9 hl9 hlt9;rw[aU]at hg9 hl9;have HO9:=Hd ho9;have HG9:=Hd hg9;have HL9:=Hd hl9;have hbk9:=(hg9.block bb (by simp;omega) (λe=>by have:=HOA.o bb e.symm;omega)).trans ((Bm _ _ _ hbb7).trans HBK7.o);have z39:w9.cell? ⟨bb,3,none⟩=some (.slice wa acc.length wc):=(aB hbk9).trans HC5.o.cells.1;have zf9:∀i,w9.frozen? ⟨bb,i,none⟩=false:=(λi=>(cekF bb i hbk9).trans (HC5.o.cells.2 i));clear ho9 hg9 hl9 hlt9 hbk9));all_goals
    go_wp2_with fail;obtain⟨j,hj1,hj2⟩:=HW2.o;have hb8:Bw W7 (W7.alloc (.cells #[.int .i64 tn,.int .i64 xo,.int .i64 xn,.slice xA xk xc] 57)).drew:=aA (nB _ _) 1;have hP:=HC5.o.push (cc:=tn) HX8.o HO8.o HZ7.o hb8 HO9.o HG9.o HL9.o hne hrb hbl hBb HTI.o HLN.o;exact⟨⟨j,qv.2,_,_,_,_,hP,hj1,hj2⟩,by rw[zK hP.rx,HMS.o];exact HMN.o⟩
  all_goals
   have HC2:=Hd (HC.o.done hI (by have:=HC.o.len;have h6:zaX l r<=l.length+1:=(by unfold zaX;split<;>omega);unfold maxLen;omega));clear HC;have HC:=Hd HC2.o;clear HC2;have HEn:Hid (cq=(⟨0,lb,sk,acc,zcL,zcL,0⟩,zgC l re)):=by unfold Hid;rw[HEQ.o,HWW.o]
   clear HEQ HWW;have HEQ:=Hd HEn.o;clear HEn
 all_goals
  obtain⟨p0,p1,p2,pf⟩:=HC.o.rx.cells;by_cases he:re.1<l.length
  ·have hge:decide ((re.1:Int)<(l.length:Int))=true:=Dt (by omega);go_quiet(fail);go_wp2_with(go_at_call 135;refine(dB _ _ _ _ _ _ _ (HC.o.rx.below (aA (Bf _ _) nq))).mono ?_;rintro e wf ⟨rfl,hrp⟩;have HCn:=Hd ((HC.o.bl (aA (Bf _ _) nq)).mv hrp hne hrb);clear hrp);have hee:zgC l re=zfE re:=Ip he;rw[HEQ.o,hee];exact bodyPost_end (results_none results101 _ _ _) rfl HCn.o.post
  ·have hge:decide ((re.1:Int)<(l.length:Int))=false:=Df (by omega);go_quiet(fail);go_wp2_with fail;have hee:zgC l re=re:=Iq he;rw[HEQ.o,hee];exact bodyPost_end (results_none results101 _ _ _) rfl (HC.o.bl (aA (Bf _ _) nq)).post
def zdQ(s:ByteArray)(b:Bk):Prop:=∃(l:List Tk) (n0:Int) (r2:Rs),zfV s=(l,n0,0)/\isA l (0,-1) ⟨#[47]⟩=false/\zgB l (0,-1) 78=false/\zfF l (0,-1) false 0=(b,r2)/\r2.2<0/\b.words.length<=24/\zcA 17 b.left<=16/\zcA 17 b.x<=16/\∀p∈b.words,zcA 17 p.2<=16
def zkN(s:ByteArray)(w:World)(e:Ending)(w':World):Prop:=zkO (λb er=>∀b0,zdQ s b0->b=b0/\er=0) w e w'
theorem zfK{s:ByteArray}{w W:World}(hb:Bw w W)(n er:Int)(hq:∀b0,¬zdQ s b0):zkN s w (.returned (.tuple #[.agg #[.int .i64 0,.int .i64 0,.bool false,.slice none 0 0,.int .i64 0,.int .i64 0,.slice none 0 0,.int .i64 0,.int .i64 0,.slice none 0 0,.int .i64 0],.int .i64 n,.int .i64 er])) (zgI W w.heap.size (.int .i64 0) (.int .i64 0) (.bool false) (.slice none 0 0) (.int .i64 0) (.int .i64 0) (.slice none 0 0) (.int .i64 0) (.int .i64 0) (.slice none 0 0) (.int .i64 0)):=
 ⟨⟨0,0,false,[],zcL,zcL,0⟩,n,er,none,0,0,_,_,_,_,_,_,λb0 h=>absurd h (hq b0),rfl,⟨by show I64 0;unfold I64;omega,by show I64 0;unfold I64;omega,by show I64 0;unfold I64;omega,mW _ _,bN _ _ _ (by unfold I64;omega),bN _ _ _ (by unfold I64;omega)⟩,gF hb (Le _) _ _ _ _ _ _ _ _ _ _ _⟩
theorem zjD{i:Nat}{x:ByteArray}:(zdW false 0)[i]?≠some (.string x):=by
 intro h;unfold zdW at h;rcases i with _|_|_|_|_|_|_|_|_|_|_|i<;>simp at h
theorem zeD{W:World}{g:Nat}{T:TypeId}(h:W.heap[g]? =some (.cells (zdW false 0) T (0,0))):W.cell? ⟨g,0,none⟩=some (.int .i64 0)/\W.cell? ⟨g,1,none⟩=some (.int .i64 0)/\W.cell? ⟨g,2,none⟩=some (.bool false)/\W.cell? ⟨g,3,none⟩=some (.slice none 0 0)/\W.cell? ⟨g,4,none⟩=some (.int .i64 0)/\W.cell? ⟨g,5,none⟩=some (.int .i64 0)/\W.cell? ⟨g,6,none⟩=some (.slice none 0 0)/\W.cell? ⟨g,7,none⟩=some (.int .i64 0)/\W.cell? ⟨g,8,none⟩=some (.int .i64 0)/\W.cell? ⟨g,9,none⟩=some (.slice none 0 0)/\W.cell? ⟨g,10,none⟩=some (.int .i64 0)/\∀i,W.frozen? ⟨g,i,none⟩=false:=
 ⟨Ro W g 0 _ _ _ h,Ro W g 1 _ _ _ h,Ro W g 2 _ _ _ h,Ro W g 3 _ _ _ h,Ro W g 4 _ _ _ h,Ro W g 5 _ _ _ h,Ro W g 6 _ _ _ h,Ro W g 7 _ _ _ h,Ro W g 8 _ _ _ h,Ro W g 9 _ _ _ h,Ro W g 10 _ _ _ h,λi=>by simp[World.frozen?,h]⟩
structure LyI(w:World)(rb:Nat)(O:OA)(cO:Nat)(l:List Tk)(r:Rs)(v:Bool)(lb:Int)(W:World):Prop where
 rx:RX W rb rb O cO l r
 bk:W.heap[rb+1]? =some (.cells (zdW v lb) 54 (0,0))
 bel:Bw w W
 zero:W.heap[w.heap.size]? =some (.cells (zdW false 0) 54 (0,0))
 lt:w.heap.size<rb
section
variable {w W W':World} {rb:Nat} {O:OA} {cO:Nat} {l:List Tk} {r r2:Rs} {v v':Bool} {lb lb':Int}
theorem LyI.mv(h:LyI w rb O cO l r v lb W)(hr:RP rb rb O cO l r2 W W'):LyI w rb O cO l r2 v lb W':=
 ⟨hr.1,(hr.2.2.2.2.2 _ (hlS h.bk) (by omega)).trans h.bk,h.bel.trans (hr.2.below (Ll h.lt) h.bel.size),(hr.2.2.2.2.2 _ (hlS h.zero) (Nat.ne_of_lt h.lt)).trans h.zero,h.lt⟩
theorem LyI.bl(h:LyI w rb O cO l r v lb W)(hb:Bw W W'):LyI w rb O cO l r v lb W':=
 ⟨h.rx.below hb,(hb.block _ (hlS h.bk)).trans h.bk,h.bel.tm hb,(hb.block _ (hlS h.zero)).trans h.zero,h.lt⟩
theorem LyI.put(h:LyI w rb O cO l r v lb W)(i:Nat)(u:Value)(he:(zdW v lb).setIfInBounds i u=zdW v' lb'):LyI w rb O cO l r v' lb' (W.setCell ⟨rb+1,i,none⟩ u):=by
 have hlt:=h.lt;refine⟨h.rx.put (by omega) (by omega) i u,?_,h.bel.setCell (p:=⟨rb+1,i,none⟩) (by show w.heap.size<=rb+1;omega) u,(Bj _ _ _ _ (show w.heap.size≠rb+1 by omega)).trans h.zero,hlt⟩;rw[<-he];exact aD h.bk
theorem LyI.facts(h:LyI w rb O cO l r v lb W):W.cell? ⟨rb+1,1,none⟩=some (.int .i64 lb)/\W.cell? ⟨rb+1,2,none⟩=some (.bool v)/\∀i,W.frozen? ⟨rb+1,i,none⟩=false:=
 ⟨Ro W _ 1 _ _ _ h.bk,Ro W _ 2 _ _ _ h.bk,λi=>by simp[World.frozen?,h.bk]⟩
end
theorem zjX(s:ByteArray)(hs:s.size<=65536)(w:World):Calls prog 67 #[.string s] w (zkN s w):=by
 obtain⟨W0,hW0,HB0,-⟩:=newW w #[.int .i64 0,.int .i64 0,.bool false,.slice none 0 0,.int .i64 0,.int .i64 0,.slice none 0 0,.int .i64 0,.int .i64 0,.slice none 0 0,.int .i64 0] 54;have H0:Hid (W0.heap[w.heap.size]? =some (.cells (zdW false 0) 54 (0,0))):=by unfold Hid;rw[hW0];exact Hn w _
 have hs0:=hlS H0.o;have g0:decide ((s.size:Int)>65536)=false:=Df (by omega);have HTK:=qeD s (by omega) W0;unfold zkJ at HTK;generalize htq:zfV s=q at HTK;obtain⟨l,n0,er⟩:=q;have HLK:Hid (∀b0,zdQ s b0->∃r2:Rs,er=0/\isA l (0,-1) ⟨#[47]⟩=false/\zgB l (0,-1) 78=false/\zfF l (0,-1) false 0=(b0,r2)/\r2.2<0/\b0.words.length<=24/\zcA 17 b0.left<=16/\zcA 17 b0.x<=16/\∀p∈b0.words,zcA 17 p.2<=16):=λb0 h=>by
  obtain⟨l',n',r2,e1,h⟩:=h;rw[htq]at e1;cases e1;exact⟨r2,rfl,h⟩
 clear htq;dsimp only at HTK;have HT:=Hd HTK;clear HTK;by_cases he:er=0
 case neg=>
  have g1:(er !=0)=true:=bne_iff_ne.2 he;have HNB:Hid (∀b0,¬zdQ s b0):=λb0 h=>by
   obtain⟨_,e,_⟩:=HLK.o b0 h;exact he e
  clear he;go_enter func67,ntmps67;go_upto_region 1 with(fail)
  rw[<-hW0];clear hW0;go_wp2_with fail;refine HT.o.mono ?_;rintro e w1 ⟨O,cO,rfl,_,hb⟩;have HQ:=Hd ((hb.block _ hs0).trans H0.o);have HB:=Hd (HB0.o.tm hb);obtain⟨m0,m1,m2,m3,m4,m5,m6,m7,m8,m9,m10,mf⟩:=zeD HQ.o;clear hb;go_wp2_with fail;exact bodyPost_ret (qbT results67 _ _ w.heap.size _ _ _ _ rfl (jA HQ.o) underlying54 (by kernel_rfl)) rfl (zfK HB.o _ _ HNB.o)
 subst he;go_enter func67,ntmps67;go_upto_region 1 with(fail)
 rw[<-hW0];clear hW0;go_wp2_with fail;refine HT.o.mono ?_;rintro e w1 ⟨O,cO,rfl,hrt,hb⟩;obtain⟨W2,hW2⟩:∃W2,W2=(w1.alloc (.cells #[.slice O l.length cO,.int .i64 0,.int .i64 (-1)] 153)).alloc (.cells #[.int .i64 0,.int .i64 0,.bool false,.slice none 0 0,.int .i64 0,.int .i64 0,.slice none 0 0,.int .i64 0,.int .i64 0,.slice none 0 0,.int .i64 0] 54):=⟨_,rfl⟩;have HB2:Hid (Bw w1 W2):=by unfold Hid;rw[hW2];exact(nB _ _).alloc (by simp) _
 have HX2:Hid (RX W2 w1.heap.size w1.heap.size O cO l (0,-1)):=by
  refine⟨Le _,?_,hrt.keep (λp hp=>HB2.o.cell hp) (Le _),Lq _,by omega,by omega⟩;rw[hW2];exact(Bm _ _ _ (by simp)).trans (Hn w1 _)
 have HK2:Hid (W2.heap[w1.heap.size+1]? =some (.cells (zdW false 0) 54 (0,0))):=by
  unfold Hid;have q:=Hn (w1.alloc (.cells #[.slice O l.length cO,.int .i64 0,.int .i64 (-1)] 153)) (.cells #[.int .i64 0,.int .i64 0,.bool false,.slice none 0 0,.int .i64 0,.int .i64 0,.slice none 0 0,.int .i64 0,.int .i64 0,.slice none 0 0,.int .i64 0] 54);rw[hW2];rw[World.size_alloc]at q;exact q
 have HBW:Hid (Bw w W2):=(HB0.o.tm hb).trans (HB2.o.mono (Ly HB0.o.size hb.size));have HQ2:Hid (W2.heap[w.heap.size]? =some (.cells (zdW false 0) 54 (0,0))):=(HB2.o.block _ (Lt hs0 hb.size)).trans ((hb.block _ hs0).trans H0.o);have hwr:w.heap.size<w1.heap.size:=Lt hs0 hb.size;go_upto_region 8 with(fail)
 rw[<-hW2];generalize w1.heap.size=rb at HX2 HK2 hwr⊢
 have HI:Hid (LyI w rb O cO l (0,-1) false 0 W2):=⟨HX2.o,HK2.o,HBW.o,HQ2.o,hwr⟩;clear hW2 HB2 HX2 HK2 HBW HQ2 hrt hb;obtain⟨v,hv⟩:∃v,isA l (0,-1) ⟨#[47]⟩=v:=⟨_,rfl⟩;go_wp2_with fail;refine(qtC hv HI.o.rx).mono ?_;rintro e w2 ⟨rfl,hrp⟩;generalize hr1:(if v=true then nxt (0,-1)else((0,-1):Rs))=r1 at hrp;have HL2:Hid (∀b0,zdQ s b0->v=false/\r1=(0,-1)):=λb0 h=>by
  obtain⟨_,_,e,_⟩:=HLK.o b0 h;have ev:v=false:=hv.symm.trans e;exact⟨ev,by rw[<-hr1,ev];rfl⟩
 have HI2:=Hd (HI.o.mv hrp);obtain⟨f1,f2,ff⟩:=HI2.o.facts;have HI3:Hid (LyI w rb O cO l r1 v 0 (w2.setCell ⟨rb+1,2,none⟩ (.bool v))):=HI2.o.put 2 _ (by cases v<;>rfl);clear hrp HI hv hr1;obtain⟨u,hu⟩:∃u,zgB l r1 78=u:=⟨_,rfl⟩;go_upto_if 33 with(go_at_call 99;refine(dJ hu HI3.o.rx).mono ?_;rintro e w4 ⟨rfl,hb⟩;have HI4:=Hd (HI3.o.bl hb);clear hb HI3 HI2 f1 f2 ff)
 go_cut[] (λW=>∃(r3:Rs) (lb:Int),LyI w rb O cO l r3 v lb W/\I64 lb/\∀b0,zdQ s b0->v=false/\lb=0/\r3=(0,-1))
 case first=>
  rcases u with _|_
  ·go_wp2_with fail;go_meet;exact⟨r1,0,HI4.o,by unfold I64;omega,λb0 h=>⟨(HL2.o b0 h).1,rfl,(HL2.o b0 h).2⟩⟩
  ·have hlt:r1.1<l.length:=by
    refine gG (λe=> ?_);unfold zgB at hu;rw[e]at hu;simp at hu
   obtain⟨c0,c1,c2,cf⟩:=HI4.o.rx.cells;have hml:=HI4.o.rx.tok.1;have HI5:=Hd (HI4.o.mv ⟨HI4.o.rx.next hlt,HI4.o.rx.only 1 _⟩);clear HI4;go_wp2_with fail;refine(nT _ _ _ _ _ _ _ 99999 HI5.o.rx).mono ?_;rintro e w5 ⟨rfl,hrp⟩;have HI6:=Hd (HI5.o.mv hrp);obtain⟨f1,f2,ff⟩:=HI6.o.facts;have HBD:=Hd (qrX (l:=l) (r:=nxt r1) (most:=99999) (by omega) (by omega));generalize zfB l 99999 (nxt r1)=q at HI6 HBD⊢
   obtain⟨lb,r3⟩:=q;dsimp only at HI6 HBD;have HI7:Hid (LyI w rb O cO l r3 v lb (w5.setCell ⟨rb+1,1,none⟩ (.int .i64 lb))):=HI6.o.put 1 _ rfl;clear hrp HI5 HI6 hlt hml c0 c1 c2 cf;go_wp2_with fail;go_meet;exact⟨r3,lb,HI7.o,HBD.o,λb0 h=>by
    have q:=HL2.o b0 h
    obtain⟨_,_,_,e,_⟩:=HLK.o b0 h
    rw[q.2,e]at hu
    cases hu⟩
 case rest=>
 obtain⟨r3,lb,hI7,hbd,hpre⟩:=hcut;have HI7:=Hd hI7;have HBD:=Hd hbd;have HPRE:=Hd hpre;clear hI7 hbd hpre HL2;clear HT H0 HB0 hs0 g0;have hlt:=HI7.o.lt;have HCA:=ziU wc rb rb (rb+1) O cO l r3 v lb HI7.o.rx HI7.o.bk (by omega) (by omega) HBD.o;generalize hcq:zfF l r3 v lb=cq at HCA;obtain⟨b,r2⟩:=cq;have HFIN:Hid (∀b0,zdQ s b0->b=b0/\r2.2<0/\b.words.length<=24/\zcA 17 b.left<=16/\zcA 17 b.x<=16/\∀p∈b.words,zcA 17 p.2<=16):=λb0 h=>by
  obtain⟨e1,e2,e3⟩:=HPRE.o b0 h;obtain⟨rq,_,_,_,e4,h5⟩:=HLK.o b0 h;rw[e1,e2,e3,e4]at hcq;cases hcq;exact⟨rfl,h5⟩
 have HCC:=Hd HCA;clear hcq HPRE HLK HCA;go_wp2_with fail;refine HCC.o.mono ?_;rintro e w5 ⟨rfl,hx,hc,A6,k6,c6,l0,l1,l2,x0,x1,x2,hbk,hbz⟩;have hsc:=hc.size;have hsW:=HI7.o.bel.size;have hsb:=hlS HI7.o.bk;have HB5:Hid (Bw w w5):=⟨hc.os.trans HI7.o.bel.os,hc.tape.trans HI7.o.bel.tape,hc.output.trans HI7.o.bel.output,by omega,λg hg=>(hc.block g (by omega) (by omega)).trans (HI7.o.bel.block g hg)⟩;have HZ5:Hid (w5.heap[w.heap.size]? =some (.cells (zdW false 0) 54 (0,0))):=(hc.block _ (hlS HI7.o.zero) (by omega)).trans HI7.o.zero;have HX5:=Hd hx;obtain⟨m0,m1,m2,mf⟩:=hx.cells;have HBK:=Hd hbk;have HBZ:=Hd hbz;obtain⟨lo,ln,lA,lk,lc,rfl,rfl,rfl⟩:=hbz.left.form;obtain⟨xo,xn,xA,xk,xc,rfl,rfl,rfl⟩:=hbz.x.form;have hml:=hx.tok.1;have hbd:=hx.bad;have HTO:=Hd hx.tok;clear hx hc hbk hbz HI7;by_cases hbad:0<=r2.2
 ·have g2:decide (r2.2≥0)=true:=Dt hbad;have HNB:Hid (∀b0,¬zdQ s b0):=λb0 h=>by
   have:=(HFIN.o b0 h).2.1;omega
  by_cases hin:r2.2<(l.length:Int)
  ·have g3:decide (r2.2<(l.length:Int))=true:=Dt hin;obtain⟨ab,off,rfl,hab,hct⟩:=HTO.o.2.2 (by omega);obtain⟨j,hj⟩:∃j:Nat,r2.2=(j:Int):=⟨r2.2.toNat,by omega⟩;rw[hj]at m2 g2 g3 hin;obtain⟨⟨tk,tn,tp,tx⟩,ht⟩:∃t,l[j]? =some t:=⟨_,Gg (by omega)⟩;have z2:=(hct j _ ht).2.2.1;have hne2:¬(ab=w.heap.size):=λe=>by
    have z3:=(hct j _ ht).2.2.2;rw[e]at z3;exact zjD ((Ro w5 w.heap.size (off+j*4+3) _ _ _ HZ5.o).symm.trans z3)
   have i0:(0:Int)<=(j:Int):=by omega
   dsimp only at z2;clear hct ht HTO hbad;go_wp2_with fail;obtain⟨a0,a1,a2,a3,a4,a5,a6,a7,a8,a9,a10,af⟩:=zeD HZ5.o;have hne1:¬(rb=w.heap.size):=by omega
   obtain⟨Wd,hWd⟩:∃Wd,Wd=w5.drew:=⟨_,rfl⟩;have HBD5:Hid (Bw w Wd):=by unfold Hid;rw[hWd];exact aA HB5.o 1
   have HZD:Hid (Wd.heap[w.heap.size]? =some (.cells (zdW false 0) 54 (0,0))):=by unfold Hid;rw[hWd];exact HZ5.o
   obtain⟨a0,a1,a2,a3,a4,a5,a6,a7,a8,a9,a10,af⟩:=zeD HZD.o;have HS:Hid ((λW=>W.cell? ⟨rb,2,none⟩=some (.int .i64 (j:Int))/\W.cell? ⟨ab,off+j*4+2,none⟩=some (.int .i64 tp)) Wd):=by unfold Hid;rw[hWd];exact⟨m2,z2⟩
   refine wp_region_noPanic ?_;refine wp_region_held_drew (S:=λW=>W.cell? ⟨rb,2,none⟩=some (.int .i64 (j:Int))/\W.cell? ⟨ab,off+j*4+2,none⟩=some (.int .i64 tp)) (by kernel_rfl) (by rw[hWd]at HS;exact HS.o) (λhH=> ?_);clear hH;rw[<-hWd];clear hWd HB5 HZ5 HX5 HBK HBZ m0 m1 m2 z2 mf;refine tkA 0 ?_ (hS:=HS.o);refine tkA 1 ?_ (hS:=HS.o);refine tkA 2 ?_ (hS:=HS.o);refine tkA 3 ?_ (hS:=HS.o);refine tkA 4 ?_ (hS:=HS.o);refine tkA 5 ?_ (hS:=HS.o);refine tkA 6 ?_ (hS:=HS.o);refine tkA 7 ?_ (hS:=HS.o);refine tkA 8 ?_ (hS:=HS.o);try simp only[Act.put,L0,L4,L5]
   refine rd1 9 rfl λK hK=> ?_;go_simp;have HS2:Hid ((λW=>W.cell? ⟨rb,2,none⟩=some (.int .i64 (j:Int))/\W.cell? ⟨ab,off+j*4+2,none⟩=some (.int .i64 tp)) (zgI Wd w.heap.size (.int .i64 0) (.int .i64 0) (.bool false) (.slice none 0 0) (.int .i64 0) (.int .i64 0) (.slice none 0 0) (.int .i64 0) (.int .i64 0) (.slice none 0 0) (.int .i64 0))):=⟨(cekC rb 2 (gW Wd w.heap.size rb _ _ _ _ _ _ _ _ _ _ _ hne1)).trans HS.o.1,(cekC ab (off+j*4+2) (gW Wd w.heap.size ab _ _ _ _ _ _ _ _ _ _ _ hne2)).trans HS.o.2⟩;refine hK.o _ _ HS2.o (λhH=> ?_);clear hK K hH HS;have HS:=HS2;try simp only[Act.put,L0,L4,L5]
   refine tkA 10 ?_ (hS:=HS.o);refine tkA 11 ?_ (hS:=HS.o);try simp only[Act.put,L0,L4,L5]
   refine wpAnyH_done (by decide+kernel) ?_ _;refine NoPanic.normal ?_;go_wp2_with fail;exact bodyPost_ret (qbT results67 _ _ w.heap.size _ _ _ _ rfl (jA HZD.o) underlying54 (by kernel_rfl)) rfl (zfK HBD5.o _ _ HNB.o)
  ·have g3:decide (r2.2<(l.length:Int))=false:=Df hin;obtain⟨a0,a1,a2,a3,a4,a5,a6,a7,a8,a9,a10,af⟩:=zeD HZ5.o;go_wp2_with fail;exact bodyPost_ret (qbT results67 _ _ w.heap.size _ _ _ _ rfl (jA HZ5.o) underlying54 (by kernel_rfl)) rfl (zfK HB5.o _ _ HNB.o)
 ·have g2:decide (r2.2≥0)=false:=Df hbad;have HK7:=Hd HBZ.o.words.1;have HK6:=Hd HBZ.o.words.2.1;have HCL:Hid (∀W,Bw w5 W->W.cell? ⟨rb+1,3,none⟩=some (.slice A6 k6 c6)/\W.cell? ⟨rb+1,4,none⟩=some (.int .i64 lo)/\W.cell? ⟨rb+1,5,none⟩=some (.int .i64 ln)/\W.cell? ⟨rb+1,6,none⟩=some (.slice lA lk lc)/\W.cell? ⟨rb+1,7,none⟩=some (.int .i64 xo)/\W.cell? ⟨rb+1,8,none⟩=some (.int .i64 xn)/\W.cell? ⟨rb+1,9,none⟩=some (.slice xA xk xc)):=λW hW=>by
   have q:=(hW.block _ (hlS HBK.o)).trans HBK.o;exact⟨Ro W _ 3 _ _ _ q,Ro W _ 4 _ _ _ q,Ro W _ 5 _ _ _ q,Ro W _ 6 _ _ _ q,Ro W _ 7 _ _ _ q,Ro W _ 8 _ _ _ q,Ro W _ 9 _ _ _ q⟩
  obtain⟨y3,y4,y5,y6,y7,y8,y9⟩:=HCL.o w5 (Bf _ _);by_cases h24:k6<=24;rotate_left;have g4:decide ((k6:Int)>24)=true:=Dt (by omega);obtain⟨a0,a1,a2,a3,a4,a5,a6,a7,a8,a9,a10,af⟩:=zeD HZ5.o;go_wp2_with fail;exact bodyPost_ret (qbT results67 _ _ w.heap.size _ _ _ _ rfl (jA HZ5.o) underlying54 (by kernel_rfl)) rfl (zfK HB5.o _ _ λb0 h=>by have:=(HFIN.o b0 h).2.2.1;have:=HK7.o;omega);have g4:decide ((k6:Int)>24)=false:=Df (by omega);have HD1:=Hd (nX b.left w5 _ _ HBZ.o.left.rd (Le _));have HF1:Hid (∀b0,zdQ s b0->zcA 17 b.left<=16):=λb0 h=>(HFIN.o b0 h).2.2.2.1;generalize zcA 17 b.left=d1 at HD1 HF1;by_cases hd1:d1<=16;rotate_left;have g5:decide ((d1:Int)>16)=true:=Dt (by omega);go_wp2_with fail;refine HD1.o.mono ?_;rintro e w6 ⟨rfl,hb⟩;have HZ6:=Hd ((hb.block _ (hlS HZ5.o)).trans HZ5.o);have HB6:=Hd (HB5.o.tm hb);clear hb;obtain⟨a0,a1,a2,a3,a4,a5,a6,a7,a8,a9,a10,af⟩:=zeD HZ6.o;go_wp2_with fail;exact bodyPost_ret (qbT results67 _ _ w.heap.size _ _ _ _ rfl (jA HZ6.o) underlying54 (by kernel_rfl)) rfl (zfK HB6.o _ _ λb0 h=>hd1 (HF1.o b0 h));have g5:decide ((d1:Int)>16)=false:=Df (by omega);go_wp2_with fail;refine HD1.o.mono ?_;rintro e w6 ⟨rfl,hb⟩;have HZ6:=Hd ((hb.block _ (hlS HZ5.o)).trans HZ5.o);have HB6:=Hd (HB5.o.tm hb);have HB56:=Hd hb;clear y3 y4 y5 y6 y7 y8 y9 hb;obtain⟨y3,y4,y5,y6,y7,y8,y9⟩:=HCL.o w6 HB56.o;have HD2:=Hd (nX b.x w6 _ _ (HBZ.o.x.below HB56.o).rd (Le _));have HF2:Hid (∀b0,zdQ s b0->zcA 17 b.x<=16):=λb0 h=>(HFIN.o b0 h).2.2.2.2.1;generalize zcA 17 b.x=d2 at HD2 HF2;by_cases hd2:d2<=16;rotate_left;have g6:decide ((d2:Int)>16)=true:=Dt (by omega);go_wp2_with fail;refine HD2.o.mono ?_;rintro e w7 ⟨rfl,hb⟩;have HZ7:=Hd ((hb.block _ (hlS HZ6.o)).trans HZ6.o);have HB7:=Hd (HB6.o.tm hb);clear hb;obtain⟨a0,a1,a2,a3,a4,a5,a6,a7,a8,a9,a10,af⟩:=zeD HZ7.o;go_wp2_with fail;exact bodyPost_ret (qbT results67 _ _ w.heap.size _ _ _ _ rfl (jA HZ7.o) underlying54 (by kernel_rfl)) rfl (zfK HB7.o _ _ λb0 h=>hd2 (HF2.o b0 h));have g6:decide ((d2:Int)>16)=false:=Df (by omega);go_wp2_with fail;refine HD2.o.mono ?_;rintro e w7 ⟨rfl,hb⟩;have HB7:=Hd (HB56.o.tm hb);clear y3 y4 y5 y6 y7 y8 y9 hb;go_wp2_with fail;go_loopw[10] (λi W=>∃j:Nat,j<=k6/\i=.int .i64 (j:Int)/\Bw w5 W) (λi _=>k6-(intOf i).toNat)
  case atStart=>exact⟨0,by omega,rfl,HB7.o⟩
  case round=>
   obtain⟨j,hj,rfl,hbj⟩:=hrel;have HBJ:=Hd hbj;obtain⟨y3,y4,y5,y6,y7,y8,y9⟩:=HCL.o wr hbj;have HZR:=Hd ((hbj.block _ (hlS HZ5.o)).trans HZ5.o);have HBR:=Hd (HB5.o.tm hbj);clear hbj;by_cases hjl:j<k6
   ·have hlt2:decide ((j:Int)<(k6:Int))=true:=Dt (by omega);rcases HBZ.o.words.2.2.2 with⟨_,q⟩|⟨g,hgA,_,hgl,hgc⟩
    ·omega
    subst hgA;obtain⟨⟨cc,t⟩,hx⟩:∃x,b.words[j]? =some x:=⟨_,Gg (by have:=HK7.o;omega)⟩;obtain⟨v0,x,y,z,v1,v2,v3,hr⟩:=hgc j cc t hx;obtain⟨to_,tn,tA,tk,tc,rfl,rfl,rfl⟩:=hr.form;have z1:=HBJ.o.ct hgl v1;have z2:=HBJ.o.ct hgl v2;have z3:=HBJ.o.ct hgl v3;have HDC:=Hd (nX t wr _ _ (hr.below HBJ.o).rd (Le _));have j1:(0:Int)<=(j:Int):=by omega
    have j2:(j:Int)<(k6:Int):=by omega
    have HF3:Hid (∀b0,zdQ s b0->zcA 17 t<=16):=λb0 h=>(HFIN.o b0 h).2.2.2.2.2 _ (Mg hx);clear hgc v0 v1 v2 v3 hr hx;generalize zcA 17 t=d at HDC HF3;by_cases hd3:d<=16
    ·have gd3:decide ((d:Int)>16)=false:=Df (by omega);go_wp2_with(go_at_call 102;(refine HDC.o.mono ?_);rintro e w8 ⟨rfl,hb⟩;have HB8:=Hd (HBJ.o.tm hb);clear hb);exact⟨⟨j+1,by omega,by go_num,HB8.o⟩,by simp only[intOf];omega⟩
    ·have gd3:decide ((d:Int)>16)=true:=Dt (by omega);go_wp2_with fail;refine HDC.o.mono ?_;rintro e w8 ⟨rfl,hb⟩;have HZ8:=Hd ((hb.block _ (hlS HZR.o)).trans HZR.o);have HB8:=Hd (HBR.o.tm hb);clear hb;obtain⟨a0,a1,a2,a3,a4,a5,a6,a7,a8,a9,a10,af⟩:=zeD HZ8.o;go_wp2_with fail;exact bodyPost_ret (qbT results67 _ _ w.heap.size _ _ _ _ rfl (jA HZ8.o) underlying54 (by kernel_rfl)) rfl (zfK HB8.o _ _ λb0 h=>hd3 (HF3.o b0 h))
   ·have hlt2:decide ((j:Int)<(k6:Int))=false:=Df (by omega);have qb:=(HBJ.o.block _ (hlS HBK.o)).trans HBK.o;have y0:wr.cell? ⟨rb+1,0,none⟩=some (.int .i64 b.kind):=Ro wr _ 0 _ _ _ qb;have y1:wr.cell? ⟨rb+1,1,none⟩=some (.int .i64 b.label):=Ro wr _ 1 _ _ _ qb;have y2:wr.cell? ⟨rb+1,2,none⟩=some (.bool b.skip):=Ro wr _ 2 _ _ _ qb;have y10:wr.cell? ⟨rb+1,10,none⟩=some (.int .i64 b.n):=Ro wr _ 10 _ _ _ qb;obtain⟨a0,a1,a2,a3,a4,a5,a6,a7,a8,a9,a10,af⟩:=zeD HZR.o;have hne:¬(rb+1=w.heap.size):=by omega
    clear qb;go_wp2_with fail;refine bodyPost_ret (qbT results67 _ _ w.heap.size _ _ _ _ rfl (jA HZR.o) underlying54 (by kernel_rfl)) rfl ⟨b,_,_,A6,k6,c6,_,_,_,_,_,_,λb0 h=>⟨(HFIN.o b0 h).1,rfl⟩,rfl,?_,gF HBR.o (Le _) _ _ _ _ _ _ _ _ _ _ _⟩;refine Bz.keep (w:=wr) (Nat.le_of_eq (fO _ _ _ _ _ _ _ _ _ _ _ _ _).symm) (λg _ hg=> ?_) (λg _ hg=> ?_) (Bz.keep HBJ.o.size (λ_ _ h=>h) (λg hg _=>HBJ.o.block g hg) HBZ.o)
    ·have q:wc.heap.size<=g:=hg;show w.heap.size<=g;omega
    ·have q:wc.heap.size<=g:=hg;exact gW _ _ _ _ _ _ _ _ _ _ _ _ _ _ (by omega)
theorem zjW(s:ByteArray):∀(k fr i:Nat),∀x∈zeE s k fr i,x.size<=s.size:=by
 have hx:∀a b,(s.extract a b).size<=s.size:=λa b=>by rw[ByteArray.size_extract];omega
 intro k;induction k with
 |zero=>
  intro fr i x h;unfold zeE at h;split at h
  ·rw[Mt.1 h];exact hx _ _
  ·cases h
 |succ k ih=>
  intro fr i x h;unfold zeE at h;split at h
  ·rcases List.mem_cons.1 h with h|h
   ·rw[h];exact hx _ _
   ·exact ih _ _ x h
  ·exact ih _ _ x h
def LnQ(s:ByteArray)(i:Nat)(b:Bk)(er:Int):Prop:=∀x b0,(zcF s)[i]? =some x->zdQ x b0->b=b0/\er=0
theorem zjQ(s:ByteArray)(w:World):Calls prog 40 #[.string s] w (zjG (PaQ s (LnQ s)) w):=
 zjP s (LnQ s) (λhs i x hx w=>(zjX x (Ly (zjW s _ _ _ x (Mg hx)) hs) w).mono λe w' ⟨b,n,er,A,k,c,l0,l1,l2,x0,x1,x2,hq,h⟩=>
  ⟨b,n,er,A,k,c,l0,l1,l2,x0,x1,x2,λx' b0 hx' h0=>hq b0 (by rw[hx]at hx';cases hx';exact h0),h⟩) w
