/- The contract. -/
import Derived.Test.YtdcjbhdfphcefaaGreatDoorBk
import Derived.Test.YtdcjbhdfphcefaaGreatDoorLk
namespace Go.Proofs.YtdcjbhdfphcefaaGreatDoor
set_option linter.all false
set_option maxRecDepth 100000
set_option maxHeartbeats 16000000
open Go.Proofs.Tryz
open Go.RowKit
theorem BkS.pushJ{W W3 w1:World}{base:Nat}{I J:Nat→Prop}{C:OA}{cp:Nat}{bs:List Bk}{xs:LV}{b:Bk}{A:OA}{n c g cap:Nat}{l0 l1 l2 x0 x1 x2:Value}(h:BkS W base I C cp bs xs)
 (hb:Bz W J b A n l0 l1 l2 x0 x1 x2) (hJ:∀q,q<W.heap.size→J q→I q∧some q≠(Value.slice C bs.length cp).ownBlock) (hI:I W3.heap.size) (hs3:W.heap.size≤W3.heap.size) (k3:∀q,q<W.heap.size→W3.heap[q]? =W.heap[q]?)
 (ho:w1.ownsRow base 54 11 (.slice (some ⟨g,0,none⟩) (bs.length+1) cap) (bs.length+1) (xs++cellsB b A n c l0 l1 l2 x0 x1 x2)) (hg:W3.grownBy w1 (Value.slice C bs.length cp).ownBlock) (hl:(Value.slice C bs.length cp).ownBlock=some g∨g=W3.heap.size):
 BkS w1 base I (some ⟨g,0,none⟩) cap (bs++[b]) (xs++cellsB b A n c l0 l1 l2 x0 x1 x2):=by
 have hgs:=hg.size;have hlen:(bs++[b]).length=bs.length+1:=by simp
 have hob:∀q,(Value.slice C bs.length cp).ownBlock=some q→base≤q∧q<W.heap.size:=fun q hq=>aI h.own hq;have kp:∀q,q<W.heap.size→(Value.slice C bs.length cp).ownBlock≠some q→w1.heap[q]? =W.heap[q]? :=fun q hq hn=>(hg.block q (by omega) (fun e=>hn e.symm)).trans (k3 q hq);have hgI:I g:=by
  rcases hl with e|e
  ·exact h.ownI g e
  ·rw[e];exact hI
 have hgne:∀q,q<W.heap.size→some q≠(Value.slice C bs.length cp).ownBlock→some q≠(Value.slice (some ⟨g,0,none⟩) (bs++[b]).length cap).ownBlock:=fun q hq hn e=>by
  simp only[Value.ownBlock,Oi]at e;subst e;rcases hl with e|e
  ·exact hn e.symm
  ·omega
 refine⟨by rw[hlen];exact ho,fun q hq=> ?_,fun i b' hb'=> ?_⟩
 ·simp only[Value.ownBlock,Oi]at hq;rw[←hq];exact hgI
 have hxl:=h.own.1;have hil:=(Gu.1 hb').1;rw[hlen]at hil;by_cases e:i=bs.length
 ·subst e;have e2:b'=b:=by
   rw[Ga (Le _),Nat.sub_self]at hb';simpa using hb'.symm
  subst e2;refine⟨A,n,c,l0,l1,l2,x0,x1,x2,fun j v hv=>by rw[dV hxl];exact hv,hb.keep (by omega) (fun q hq hi=>⟨(hJ q hq hi).1,hgne q hq (hJ q hq hi).2⟩) fun q hq hi=>kp q hq fun e=>(hJ q hq hi).2 e.symm⟩
 ·rw[Gc (by omega)]at hb';obtain⟨A,n,c,m0,m1,m2,y0,y1,y2,hp1,hp2⟩:=h.parts i b' hb';refine⟨A,n,c,m0,m1,m2,y0,y1,y2,fun j v hv=> ?_,hp2.keep (by omega) (fun q hq hi=>⟨hi.1,hgne q hq hi.2⟩) fun q hq hi=>kp q hq fun e=>hi.2 e.symm⟩;have hj:j<11:=by have:=(Gu.1 hv).1;simpa[cellsB]using this
  exact(fJ hxl (by omega)).trans (hp1 j v hv)
def fc(f:Fb):LV:=[.int .i64 f.kind,.int .i64 f.label,.bool false,.slice none 0 0,.int .i64 0,.int .i64 f.left,.slice none 0 0,.int .i64 0,.int .i64 f.x,.slice none 0 0,.int .i64 f.n]
structure CV(B tb:Nat)(A:OA)(n c:Nat)(w:World)(I:Nat→Prop)(W:World):Prop where
 tp:TapeOK W B tb A n c
 only:Only tb w W
 res:W.heap[w.heap.size+1]? =some (.cells ⟨[.int .i64 0,.int .i64 0,.bool false,.slice none 0 0,.int .i64 0,.int .i64 0,.slice none 0 0,.int .i64 0,.int .i64 0,.slice none 0 0,.int .i64 0]⟩ 54 (0,0))
 blk:∃(bk:Bk) (Aw:OA) (kw cw:Nat) (lo ln:Int) (lA:OA) (lk lc:Nat) (xo xn:Int) (xA:OA) (xk xc:Nat),W.heap[w.heap.size]? =some (.cells #[.int .i64 bk.kind,.int .i64 bk.label,.bool bk.skip,.slice Aw kw cw,.int .i64 lo,.int .i64 ln,.slice lA lk lc,.int .i64 xo,.int .i64 xn,.slice xA xk xc,.int .i64 bk.n] 54 (0,0))∧I64 bk.kind∧I64 bk.label∧I64 bk.n∧Wz W (fun q=>I q∨w.heap.size+1<q) Aw kw bk.words∧Rz W I bk.left (.agg #[.int .i64 lo,.int .i64 ln,.slice lA lk lc])∧Rz W I bk.x (.agg #[.int .i64 xo,.int .i64 xn,.slice xA xk xc])
section
variable {B tb:Nat} {A:OA} {n c:Nat} {w:World} {I:Nat→Prop} {W:World}
theorem CV.cellsAt(h:CV B tb A n c w I W):W.heap[w.heap.size]? =some (.cells ((W.heap[w.heap.size]?).elim #[] fun o=>match o with| .cells cs _ _=>cs|_=> #[]) 54 (0,0)):=by
 obtain⟨bk,Aw,kw,cw,lo,ln,lA,lk,lc,xo,xn,xA,xk,xc,hbk,_⟩:=h.blk;rw[hbk];rfl
theorem CV.call{w1:World}(h:CV B tb A n c w I W)(htb:tb<w.heap.size)(hI:∀q,I q→q<w.heap.size∧q≠tb)(ho:Only tb W w1)(htp:TapeOK w1 B tb A n c):CV B tb A n c w I w1:=by
 obtain⟨bk,Aw,kw,cw,lo,ln,lA,lk,lc,xo,xn,xA,xk,xc,hbk,i1,i2,i3,hw,h1,h2⟩:=h.blk;have kI:∀q,q<W.heap.size→I q→w1.heap[q]? =W.heap[q]? :=fun q hq hi=>ho.2.2.2.2 q hq (hI q hi).2;exact⟨htp,h.only.trans ho,(ho.2.2.2.2 _ (hlS h.res) (by omega)).trans h.res,bk,Aw,kw,cw,lo,ln,lA,lk,lc,xo,xn,xA,xk,xc,(ho.2.2.2.2 _ (hlS hbk) (by omega)).trans hbk,i1,i2,i3,hw.keep ho.size (fun _ _ h=>h) (fun q hq hi=>ho.2.2.2.2 q hq (by rcases hi with hi|hi;exact(hI q hi).2;omega)),h1.keep ho.size (fun _ _ h=>h) kI,h2.keep ho.size (fun _ _ h=>h) kI⟩
theorem CV.words{w1 w9:World}{D:OA}{k cp:Nat}{ws:List (Int×Tr)}(h:CV B tb A n c w I w1)(htb:tb<w.heap.size)(hI:∀q,I q→q<w.heap.size∧q≠tb)(hk9:∀q,q<w.heap.size+2→w9.heap[q]? =w1.heap[q]?)(hs9:w1.heap.size≤w9.heap.size)(ho9:w9.os=w1.os∧w9.tape=w1.tape∧w9.output=w1.output)(hw:Wz w9 (fun q=>w.heap.size+1<q) D k ws):CV B tb A n c w I (w9.setCell ⟨w.heap.size,3,none⟩ (.slice D k cp)):=by
 obtain⟨bk,Aw,kw,cw,lo,ln,lA,lk,lc,xo,xn,xA,xk,xc,hbk,i1,i2,i3,_,h1,h2⟩:=h.blk;have hk:∀q,q≠w.heap.size→(w9.setCell ⟨w.heap.size,3,none⟩ (.slice D k cp)).heap[q]? =w9.heap[q]? :=fun q hq=>Bj _ _ _ q hq;have hs:(w9.setCell ⟨w.heap.size,3,none⟩ (.slice D k cp)).heap.size=w9.heap.size:=by simp[World.setCell]
 have kI:∀q,q<w1.heap.size→I q→(w9.setCell ⟨w.heap.size,3,none⟩ (.slice D k cp)).heap[q]? =w1.heap[q]? :=fun q _ hi=>(hk q (by have:=(hI q hi).1;omega)).trans (hk9 q (by have:=(hI q hi).1;omega));refine⟨h.tp.keep ((hk _ (by omega)).trans (hk9 _ (by omega))),⟨ho9.1.trans h.only.1,ho9.2.1.trans h.only.2.1,ho9.2.2.trans h.only.2.2.1,by have:=h.only.size;omega,fun q hq h2=>(hk q (by omega)).trans ((hk9 q (by omega)).trans (h.only.2.2.2.2 q hq h2))⟩,(hk _ (by omega)).trans ((hk9 _ (by omega)).trans h.res),{bk with words:=ws},D,k,cp,lo,ln,lA,lk,lc,xo,xn,xA,xk,xc,?_,i1,i2,i3,hw.keep (Nat.le_of_eq hs.symm) (fun q _ hq=>.inr hq) (fun q hq hi=>hk q (by omega)),h1.keep (by omega) (fun _ _ h=>h) kI,h2.keep (by omega) (fun _ _ h=>h) kI⟩;have q:=aD (i:=3) (u:=.slice D k cp) ((hk9 _ (by omega)).trans hbk);simpa using q
end
theorem kL{z z':World}{a b tb:Nat}{t:Tr}{v:Value}(h:Rz z (fun g=>a≤g) t v)(ho:Only tb z z')(h1:tb<a)(h2:b<a):Rz z' (fun q=>b<q) t v:=
 Rz.keep ho.size (fun q _ hq=>by have q1:a≤q:=hq;show b<q;omega) (fun q hq hi=>ho.2.2.2.2 q hq (by have q1:a≤q:=hi;omega)) h
theorem qdS{w:World}{b:Nat}{ws:List (Int×Tr)}{L:List (LV)}(hb:b<w.heap.size)(hL:L.length=ws.length)(hl:ws.length≤1000)(h:∀(i:Nat) (cc:Int) (t:Tr),ws[i]? =some (cc,t)→I64 cc∧∃x y z:Value,L[i]? =some [.int .i64 cc,x,y,z]∧Rz w (fun q=>b<q) t (.agg #[x,y,z])):
 Wz (w.alloc (.cells ⟨L.flatten⟩ 57)) (fun q=>b<q) (some ⟨w.heap.size,0,none⟩) ws.length ws:=by
 have hn:=Hn w (.cells ⟨L.flatten⟩ 57);have hbw:Bw w (w.alloc (.cells ⟨L.flatten⟩ 57)):=nB _ _;have h4:∀l∈L,l.length=4:=by
  intro l hl;obtain⟨i,hi⟩:=List.getElem?_of_mem hl;have hil:=(Gu.1 hi).1;obtain⟨_,x,y,z,e,_⟩:=h i (ws[i]'(by omega)).1 (ws[i]'(by omega)).2 (Gg _);rw[hi]at e;injection e with e
  rw[e];rfl
 have hf:∀(L:List (LV)),(∀l∈L,l.length=4)→∀(i j:Nat) (l:LV),L[i]? =some l→j<4→L.flatten[i*4+j]? =l[j]? :=by
  intro L;induction L with
  |nil=>intro _ i j l h;simp at h
  |cons a r ih=>
   intro hl i j l h hj;have ha:a.length=4:=hl a (Mu ..);rw[List.flatten_cons];rcases i with _|i
   ·simp only[List.getElem?_cons_zero,Oi]at h;subst h;rw[show 0*4+j=j by omega,Gc (by omega)]
   ·rw[List.getElem?_cons_succ]at h;rw[Ga (by omega),ha,show(i+1)*4+j-4=i*4+j by omega];exact ih (fun l hl'=>hl l (Mm _ hl')) i j l h hj
 refine⟨rfl,by unfold maxLen;omega,fun x hx=> ?_,.inr ⟨_,rfl,hb,hlS hn,fun i cc t hi=> ?_⟩⟩
 ·obtain⟨i,hi⟩:=List.getElem?_of_mem hx;exact(h i x.1 x.2 hi).1
 ·obtain⟨_,x,y,z,e,hr⟩:=h i cc t hi;have hc:∀j,j<4→(w.alloc (.cells ⟨L.flatten⟩ 57)).cell? ⟨w.heap.size,i*4+j,none⟩=[.int .i64 cc,x,y,z][j]? :=fun j hj=>(Ro _ _ (i*4+j) _ _ _ hn).trans (by rw[List.getElem?_toArray];exact hf L h4 i j _ e hj);exact⟨hc 0 (by omega),x,y,z,hc 1 (by omega),hc 2 (by omega),hc 3 (by omega),hr.keep hbw.size (fun _ _ h=>h) fun q hq _=>hbw.block q hq⟩
def CzPost(B tb:Nat)(A:OA)(n c:Nat)(I:Nat→Prop)(w:World)(e:Ending)(w':World):Prop:=
 ∃(bk:Bk) (Aw:OA) (kw cw:Nat) (lo ln:Int) (lA:OA) (lk lc:Nat) (xo xn:Int) (xA:OA) (xk xc:Nat),e=.returned (.agg #[.int .i64 bk.kind,.int .i64 bk.label,.bool bk.skip,.slice Aw kw cw,.int .i64 lo,.int .i64 ln,.slice lA lk lc,.int .i64 xo,.int .i64 xn,.slice xA xk xc,.int .i64 bk.n])∧Bz w' (fun q=>I q∨w.heap.size<q) bk Aw kw (.int .i64 lo) (.int .i64 ln) (.slice lA lk lc) (.int .i64 xo) (.int .i64 xn) (.slice xA xk xc)∧TapeOK w' B tb A n c∧Only tb w w'
theorem qgE(B tb:Nat)(A:OA)(n c:Nat)(w:World)(I:Nat→Prop)(bk:Bk)(Aw:OA)(kw cw:Nat)(lo ln:Int)(lA:OA)(lk lc:Nat)(xo xn:Int)(xA:OA)(xk xc:Nat)(hz:Bz w I bk Aw kw (.int .i64 lo) (.int .i64 ln) (.slice lA lk lc) (.int .i64 xo) (.int .i64 xn) (.slice xA xk xc))(hI:∀q,I q→q<w.heap.size∧q≠tb)
 (hl:LOK w B A n) (ht:TapeOK w B tb A n c) (hw:B≤w.heap.size):Calls prog 37 #[.pointer (some ⟨tb,0,none⟩),.agg #[.int .i64 bk.kind,.int .i64 bk.label,.bool bk.skip,.slice Aw kw cw,.int .i64 lo,.int .i64 ln,.slice lA lk lc,.int .i64 xo,.int .i64 xn,.slice xA xk xc,.int .i64 bk.n]] w (CzPost B tb A n c I w):=by
 have HL:=Hd hl;have htb:=ht.lt;have hBt:=ht.1;have HI:=Hd hI;obtain⟨W0,hW0⟩:∃W0,W0=(w.alloc (.cells #[.int .i64 bk.kind,.int .i64 bk.label,.bool bk.skip,.slice Aw kw cw,.int .i64 lo,.int .i64 ln,.slice lA lk lc,.int .i64 xo,.int .i64 xn,.slice xA xk xc,.int .i64 bk.n] 54)).alloc (.cells #[.int .i64 0,.int .i64 0,.bool false,.slice none 0 0,.int .i64 0,.int .i64 0,.slice none 0 0,.int .i64 0,.int .i64 0,.slice none 0 0,.int .i64 0] 54):=⟨_,rfl⟩;have HV:Hid (CV B tb A n c w I W0):=by
  have h1:Bw w W0:=by rw[hW0];exact(nB _ _).alloc (by simp) _
  unfold Hid;refine⟨ht.below h1,Only.of_below h1,?_,bk,Aw,kw,cw,lo,ln,lA,lk,lc,xo,xn,xA,xk,xc,?_,hz.kind,hz.label,hz.n,hz.words.keep h1.size (fun _ _ h=>.inl h) (fun q hq _=>h1.block q hq),hz.left.keep h1.size (fun _ _ h=>h) (fun q hq _=>h1.block q hq),hz.x.keep h1.size (fun _ _ h=>h) (fun q hq _=>h1.block q hq)⟩
  ·rw[hW0];have q:=Hn (w.alloc (.cells #[.int .i64 bk.kind,.int .i64 bk.label,.bool bk.skip,.slice Aw kw cw,.int .i64 lo,.int .i64 ln,.slice lA lk lc,.int .i64 xo,.int .i64 xn,.slice xA xk xc,.int .i64 bk.n] 54)) (.cells #[.int .i64 0,.int .i64 0,.bool false,.slice none 0 0,.int .i64 0,.int .i64 0,.slice none 0 0,.int .i64 0,.int .i64 0,.slice none 0 0,.int .i64 0] 54);simpa using q
  ·rw[hW0];exact(Bm _ _ _ (by simp)).trans (Hn w _)
 have HN1:=Hd (aW B tb A n c 6 W0 (HL.o.only HV.o.only hBt hw) HV.o.tp (by omega) (by omega));clear hl ht hz hI;go_enter func37,ntmps37;go_upto_block 0 with(rw[←hW0];clear hW0;go_at_call 25;refine HN1.o.mono ?_;rintro e y1 ⟨r,rfl,r0,r1,htp,ho⟩;have HVN:=Hd (HV.o.call htb HI.o ho htp);clear htp ho HV;have HV:=Hd HVN.o;clear HVN)
 clear HN1;go_cut[] (fun W=>CV B tb A n c w I W)
 case first=>
  by_cases hr3:r<3
  ·have hr:r=0∨r=1∨r=2:=by omega
   rcases hr with rfl|rfl|rfl
   ·have hsz0:w.heap.size+1<y1.heap.size:=hlS HV.o.res;have tok0:=trivial;have tok1:=trivial;have tok2:=trivial;go_upto_region 4 with(first|(clear tok0;go_at_call 41;refine(fA y1 77 98000000 (by omega) (by omega)).mono ?_;rintro e z0 ⟨x0,x0',x0'',rfl,hr,hb⟩;obtain⟨o0,n0,A0,k0,c0,rfl,rfl,rfl⟩:=hr.form;have HR0:=Hd hr;have HO0:Hid (Only tb y1 z0):=Only.of_below hb;have HV0:=Hd (HV.o.call htb HI.o HO0.o (HV.o.tp.below hb));have hz0:w.heap.size+1<z0.heap.size:=hlS HV0.o.res;clear hr hb)|(clear tok1;go_at_call 28;refine(cC B tb A n c 0 3 z0 (HL.o.only HV0.o.only hBt hw) HV0.o.tp (by omega) (by omega) (by omega)).mono ?_;rintro e z1 ⟨ra,rfl,ra0,ra1,htp,ho⟩;have wra:IntKind.i64.wrap (ra*1000000)=ra*1000000:=IntWalk.i64_in _ (by omega);have HO1:Hid (Only tb z0 z1):=ho;have HV1:=Hd (HV0.o.call htb HI.o ho htp);have hz1:w.heap.size+1<z1.heap.size:=hlS HV1.o.res;clear htp ho)|(clear tok2;go_at_call 41;refine(fA z1 80 (ra*1000000) (by omega) (by omega)).mono ?_;rintro e z2 ⟨x2,x2',x2'',rfl,hr,hb⟩;obtain⟨o2,n2,A2,k2,c2,rfl,rfl,rfl⟩:=hr.form;have HR2:=Hd hr;have HO2:Hid (Only tb z1 z2):=Only.of_below hb;have HV2:=Hd (HV1.o.call htb HI.o HO2.o (HV1.o.tp.below hb));have hz2:w.heap.size+1<z2.heap.size:=hlS HV2.o.res;clear hr hb;obtain⟨bk2,Aw2,kw2,cw2,lo2,ln2,lA2,lk2,lc2,xo2,xn2,xA2,xk2,xc2,hbk2,-⟩:=HV2.o.blk;have d3:∀o:Obj,(z2.alloc o).cell? ⟨w.heap.size,3,none⟩=some (.slice Aw2 kw2 cw2):=(fun o=>Ro _ _ 3 _ _ _ ((Bm _ _ _ (hlS hbk2)).trans hbk2));have df:∀(o:Obj) i,(z2.alloc o).frozen? ⟨w.heap.size,i,none⟩=false:=(fun o i=>by simp[World.frozen?,(Bm _ o _ (hlS hbk2)).trans hbk2]);clear hbk2))
    have hlit:Wz (z2.alloc (.cells ⟨([[.int .i64 77,.int .i64 o0,.int .i64 n0,.slice A0 k0 c0],[.int .i64 80,.int .i64 o2,.int .i64 n2,.slice A2 k2 c2]]:List (LV)).flatten⟩ 57)) (fun q=>w.heap.size+1<q) (some ⟨z2.heap.size,0,none⟩) 2 [(77,wordT 98000000),(80,wordT (ra*1000000))]:=qdS (b:=w.heap.size+1) (ws:=[(77,wordT 98000000),(80,wordT (ra*1000000))]) hz2 rfl (by simp) (fun i cc t hi=>by
     have hi2:i<2:=(Gu.1 hi).1
     have h5:i=0∨i=1:=by omega
     rcases h5 with rfl|rfl<;>(injection hi with hi;injection hi with h6 h7;subst h6 h7)
     ·exact⟨by unfold I64;omega,_,_,_,rfl,kL HR0.o (HO1.o.trans HO2.o) (by omega) (by omega)⟩
     ·exact⟨by unfold I64;omega,_,_,_,rfl,kL HR2.o (Only.refl tb _) (by omega) (by omega)⟩)
    have hcl:=(HV2.o.call htb HI.o (Only.of_below (nB _ _)) (HV2.o.tp.below (nB _ _))).words (cp:=2) htb HI.o (fun _ _=>rfl) (Le _) ⟨rfl,rfl,rfl⟩ hlit;refine mV fun X hX=> ?_;have HVX:Hid (CV B tb A n c w I X):=by unfold Hid;rw[hX];exact hcl
    have kX:∀q,q<z2.heap.size→q≠w.heap.size→X.heap[q]? =z2.heap[q]? :=fun q h1 h2=>by rw[hX];exact(Bj _ _ _ q h2).trans (Bm _ _ _ h1)
    have sX:X.heap.size=z2.heap.size+1:=by rw[hX];simp[World.setCell]
    have HOX:Hid (X.ownsRow (w.heap.size+2) 57 4 (.slice (some ⟨z2.heap.size,0,none⟩) 2 2) 2 [.int .i64 77,.int .i64 o0,.int .i64 n0,.slice A0 k0 c0,.int .i64 80,.int .i64 o2,.int .i64 n2,.slice A2 k2 c2]):=
     ⟨rfl,.inr ⟨z2.heap.size,2,⟨[.int .i64 77,.int .i64 o0,.int .i64 n0,.slice A0 k0 c0,.int .i64 80,.int .i64 o2,.int .i64 n2,.slice A2 k2 c2]⟩,rfl,by omega,by rw[hX];exact(Bj _ _ _ _ (show z2.heap.size≠w.heap.size by omega)).trans (Hn _ _),Le _,by unfold maxLen;omega,rfl,rfl⟩⟩
    have hrx:∀(t:Tr) (v:Value),Rz z2 (fun q=>w.heap.size+1<q) t v→Rz X (fun q=>w.heap.size+1<q∧q≠z2.heap.size) t v:=fun t v h=>Rz.keep (by omega) (fun q hq hi=>⟨hi,by omega⟩) (fun q hq hi=>kX q hq (by have q1:w.heap.size+1<q:=hi;omega)) h;have HRA:=Hd (hrx _ _ (kL HR0.o (HO1.o.trans HO2.o) (by omega) (by omega)));have HRB:=Hd (hrx _ _ (kL HR2.o (Only.refl tb _) (by omega) (by omega)));have c3X:X.cell? ⟨w.heap.size,3,none⟩=some (.slice (some ⟨z2.heap.size,0,none⟩) 2 2):=by rw[hX];exact World.cell?_setCell_same _ _ _ (d3 _)
    have hgl:w.heap.size+1<z2.heap.size:=hz2;have hglX:z2.heap.size<X.heap.size:=by omega
    generalize z2.heap.size=gl at HOX HRA HRB c3X hgl hglX⊢
    clear hX hrx kX sX hcl hlit d3 df HR0 HR2 HO0 HO1 HO2 HV0 HV1 HV2 hz0 hz1 hz2 HV;have hsX:w.heap.size+1<X.heap.size:=by omega
    have HNX:=Hd (aW B tb A n c 2 X (HL.o.only HVX.o.only hBt hw) HVX.o.tp (by omega) (by omega));go_upto_if 18 with(go_at_call 25;refine HNX.o.mono ?_;rintro e y5 ⟨r18,rfl,r180,r181,htp,ho⟩;have HO5:=Hd ho;have HV5:=Hd (HVX.o.call htb HI.o ho htp);have c35:y5.cell? ⟨w.heap.size,3,none⟩=some (.slice (some ⟨gl,0,none⟩) 2 2):=(aB (ho.2.2.2.2 w.heap.size (by omega) (by omega))).trans c3X;have HOW5:Hid (y5.ownsRow (w.heap.size+2) 57 4 (.slice (some ⟨gl,0,none⟩) 2 2) 2 [.int .i64 77,.int .i64 o0,.int .i64 n0,.slice A0 k0 c0,.int .i64 80,.int .i64 o2,.int .i64 n2,.slice A2 k2 c2]):=aC HOX.o (fun q hq hv=>ho.2.2.2.2 q hq (by have:=(aI HOX.o hv).1;omega));have hs5:X.heap.size≤y5.heap.size:=ho.size;clear htp ho)
    by_cases h18:r18=0
    ·have g18:(r18==0)=true:=by simp[h18]
     clear h18 r180 r181 c3X;have HRG:=Hd (cC B tb A n c 1 3 y5.drew (HL.o.only (HV5.o.only.trans (Only.of_below (aA (Bf _ _) 1))) hBt hw) (HV5.o.tp.below (aA (Bf _ _) 1)) (by omega) (by omega) (by omega));obtain⟨iW,zW,hiW,hW0,hWa,hWb,hWs⟩:=cY;have HIW:=Hd hiW;have HZW:=Hd hW0;clear hiW hW0;go_upto_region 5 with(fail)
     go_region_law(first|(refine step_append_lies _ rfl (.tmp 20) (.tmp 25) 49 rfl (w.heap.size+2) 57 iW zW 4 48 underlying49 HIW.o HZW.o hWa hWb hWs (by omega) (.slice (some ⟨gl,0,none⟩) 2 2) 2 [.int .i64 77,.int .i64 o0,.int .i64 n0,.slice A0 k0 c0,.int .i64 80,.int .i64 o2,.int .i64 n2,.slice A2 k2 c2] (by simp[Act.eval,Act.put]) (HOW7.o.alloc _) ⟨y7.heap.size,0,none⟩ 1 1 [.int .i64 76,.int .i64 o7,.int .i64 n7,.slice A7 k7 c7] (by simp[Act.eval,Act.put]) rfl (Nk (Hn y7 _)) (by intro u hu;simp at hu;rcases hu with rfl|rfl|rfl|rfl<;>rfl) (by omega) (by unfold maxLen;omega) (by omega) (by simp;omega) _ rfl ?_;intro g9 c9 w9 ho9 hg9 hl9 hlt9;have HO9:=Hd ho9;have HG9:=Hd hg9;have HL9:=Hd hl9;have hbk9:=(hg9.block w.heap.size (by simp;omega) (fun e=>by simp[Value.ownBlock]at e;omega)).trans ((Bm _ _ _ (by omega)).trans HBK7.o);have c39:w9.cell? ⟨w.heap.size,3,none⟩=some (.slice (some ⟨gl,0,none⟩) 2 2):=(aB (hg9.block w.heap.size (by simp;omega) (fun e=>by simp[Value.ownBlock]at e;omega))).trans ((aB (Bm _ _ _ (by omega))).trans c37);have f39:∀i,w9.frozen? ⟨w.heap.size,i,none⟩=false:=(fun i=>by simp[World.frozen?,hbk9]);clear ho9 hg9 hl9 hbk9)|(go_simp;(first|(go_at_call 28;refine HRG.o.mono ?_;rintro e y6 ⟨rb,rfl,rb0,rb1,htp,ho⟩;have HO6:Hid (Only tb y5 y6):=(Only.of_below (aA (Bf _ _) 1)).trans ho;have HV6:=Hd (HV5.o.call htb HI.o HO6.o htp);have c36:y6.cell? ⟨w.heap.size,3,none⟩=some (.slice (some ⟨gl,0,none⟩) 2 2):=(aB (HO6.o.2.2.2.2 w.heap.size (by omega) (by omega))).trans c35;have hs6:y5.heap.size≤y6.heap.size:=HO6.o.size;have wrb:IntKind.i64.wrap (rb*1000000)=rb*1000000:=IntWalk.i64_in _ (by omega);have HWD:=Hd (fA y6 76 (rb*1000000) (by omega) (by omega));clear htp ho)|(go_at_call 41;(first|refine HWD.o.mono ?_|(rw[wrb];refine HWD.o.mono ?_));rintro e y7 ⟨x7,x7',x7'',rfl,hr,hb⟩;obtain⟨o7,n7,A7,k7,c7,rfl,rfl,rfl⟩:=hr.form;have HR7:=Hd hr;have HO7:Hid (Only tb y5 y7):=HO6.o.trans (Only.of_below hb);have HV7:=Hd (HV6.o.call htb HI.o (Only.of_below hb) (HV6.o.tp.below hb));have hs7:y6.heap.size≤y7.heap.size:=hb.size;have c37:y7.cell? ⟨w.heap.size,3,none⟩=some (.slice (some ⟨gl,0,none⟩) 2 2):=(aB (HO7.o.2.2.2.2 w.heap.size (by omega) (by omega))).trans c35;have c37o:∀o:Obj,(y7.alloc o).cell? ⟨w.heap.size,3,none⟩=some (.slice (some ⟨gl,0,none⟩) 2 2):=(fun o=>(aB (Bm _ _ _ (by omega))).trans c37);have HOW7:Hid (y7.ownsRow (w.heap.size+2) 57 4 (.slice (some ⟨gl,0,none⟩) 2 2) 2 [.int .i64 77,.int .i64 o0,.int .i64 n0,.slice A0 k0 c0,.int .i64 80,.int .i64 o2,.int .i64 n2,.slice A2 k2 c2]):=aC HOW5.o (fun q hq hv=>HO7.o.2.2.2.2 q hq (by have:=(aI HOW5.o hv).1;omega));have HBK7:=Hd (HV7.o.cellsAt);clear hr hb))));all_goals go_wp2_with fail
     all_goals go_meet
     all_goals
      have hk79:∀q,q<y7.heap.size→q≠gl→w9.heap[q]? =y7.heap[q]? :=fun q h1 h2=>(HG9.o.block q (by simp;omega) (fun e=>h2 (by simpa[Value.ownBlock]using e))).trans (Bm _ _ _ h1);have hsz9:y7.heap.size+1≤w9.heap.size:=by have:=HG9.o.size;simpa using this
      have hg9:w.heap.size+2≤g9∧g9<w9.heap.size:=aI HO9.o rfl;have hkX:∀q,q<X.heap.size→w.heap.size+1<q∧q≠gl→w9.heap[q]? =X.heap[q]? :=fun q h1 h2=>(hk79 q (by omega) h2.2).trans ((HO7.o.2.2.2.2 q (by omega) (by omega)).trans (HO5.o.2.2.2.2 q h1 (by omega)));have hra:=Rz.keep (I':=fun q=>w.heap.size+1<q) (by omega) (fun _ _ h=>h.1) hkX HRA.o;have hrb:=Rz.keep (I':=fun q=>w.heap.size+1<q) (by omega) (fun _ _ h=>h.1) hkX HRB.o;have hr7:=Rz.keep (w':=w9) (I':=fun q=>w.heap.size+1<q) (by omega) (fun q _ hq=>by have q1:y6.heap.size≤q:=hq;omega) (fun q hq hi=>hk79 q hq (by have q1:y6.heap.size≤q:=hi;omega)) HR7.o;have ca:∀j,j<12→w9.cell? ⟨g9,j,none⟩=([.int .i64 77,.int .i64 o0,.int .i64 n0,.slice A0 k0 c0,.int .i64 80,.int .i64 o2,.int .i64 n2,.slice A2 k2 c2]++[.int .i64 76,.int .i64 o7,.int .i64 n7,.slice A7 k7 c7])[j]? :=fun j hj=>HO9.o.cellAt j (by omega);have hw9:Wz w9 (fun q=>w.heap.size+1<q) (some ⟨g9,0,none⟩) 3 [(77,wordT 98000000),(80,wordT (ra*1000000)),(76,wordT (rb*1000000))]:=by
       refine⟨rfl,by unfold maxLen;omega,fun x hx=> ?_,.inr ⟨g9,rfl,by omega,hg9.2,fun i cc t hi=> ?_⟩⟩
       ·simp only[List.mem_cons,List.not_mem_nil,or_false]at hx;rcases hx with rfl|rfl|rfl<;>(unfold I64;dsimp only;omega)
       ·have hi3:i<3:=(Gu.1 hi).1;have h5:i=0∨i=1∨i=2:=by omega
        rcases h5 with rfl|rfl|rfl<;>(injection hi with hi;injection hi with h6 h7;subst h6 h7)
        ·exact⟨ca 0 (by omega),_,_,_,ca 1 (by omega),ca 2 (by omega),ca 3 (by omega),hra⟩
        ·exact⟨ca 4 (by omega),_,_,_,ca 5 (by omega),ca 6 (by omega),ca 7 (by omega),hrb⟩
        ·exact⟨ca 8 (by omega),_,_,_,ca 9 (by omega),ca 10 (by omega),ca 11 (by omega),hr7⟩
      exact HV7.o.words (cp:=c9) htb HI.o (fun q hq=>hk79 q (by omega) (by omega)) (by omega) ⟨HG9.o.os,HG9.o.tape,HG9.o.output⟩ hw9
    ·have g18:(r18==0)=false:=by simp[h18]
     go_wp2_with fail;go_meet;exact HV5.o
   ·have hsz0:w.heap.size+1<y1.heap.size:=hlS HV.o.res;have tok0:=trivial;have tok1:=trivial;have tok2:=trivial;have tok3:=trivial;have tok4:=trivial;have tok5:=trivial;have tok6:=trivial;go_wp2_with(first|(clear tok0;go_at_call 41;refine(fA y1 71 65000000 (by omega) (by omega)).mono ?_;rintro e z0 ⟨x0,x0',x0'',rfl,hr,hb⟩;obtain⟨o0,n0,A0,k0,c0,rfl,rfl,rfl⟩:=hr.form;have HR0:=Hd hr;have HO0:Hid (Only tb y1 z0):=Only.of_below hb;have HV0:=Hd (HV.o.call htb HI.o HO0.o (HV.o.tp.below hb));have hz0:w.heap.size+1<z0.heap.size:=hlS HV0.o.res;clear hr hb)|(clear tok1;go_at_call 28;refine(cC B tb A n c 1 2 z0 (HL.o.only HV0.o.only hBt hw) HV0.o.tp (by omega) (by omega) (by omega)).mono ?_;rintro e z1 ⟨ra,rfl,ra0,ra1,htp,ho⟩;have wra:IntKind.i64.wrap (ra*1000000)=ra*1000000:=IntWalk.i64_in _ (by omega);have HO1:Hid (Only tb z0 z1):=ho;have HV1:=Hd (HV0.o.call htb HI.o ho htp);have hz1:w.heap.size+1<z1.heap.size:=hlS HV1.o.res;clear htp ho)|(clear tok2;go_at_call 41;refine(fA z1 80 (ra*1000000) (by omega) (by omega)).mono ?_;rintro e z2 ⟨x2,x2',x2'',rfl,hr,hb⟩;obtain⟨o2,n2,A2,k2,c2,rfl,rfl,rfl⟩:=hr.form;have HR2:=Hd hr;have HO2:Hid (Only tb z1 z2):=Only.of_below hb;have HV2:=Hd (HV1.o.call htb HI.o HO2.o (HV1.o.tp.below hb));have hz2:w.heap.size+1<z2.heap.size:=hlS HV2.o.res;clear hr hb)|(clear tok3;go_at_call 29;refine(eX B tb A n c z2 (HL.o.only HV2.o.only hBt hw) HV2.o.tp (Ly hw HV2.o.only.size)).mono ?_;rintro e z3 ⟨va,rfl,va0,va1,htp,ho⟩;have HO3:Hid (Only tb z2 z3):=ho;have HV3:=Hd (HV2.o.call htb HI.o ho htp);have hz3:w.heap.size+1<z3.heap.size:=hlS HV3.o.res;clear htp ho)|(clear tok4;go_at_call 41;refine(fA z3 65 va (by omega) (by omega)).mono ?_;rintro e z4 ⟨x4,x4',x4'',rfl,hr,hb⟩;obtain⟨o4,n4,A4,k4,c4,rfl,rfl,rfl⟩:=hr.form;have HR4:=Hd hr;have HO4:Hid (Only tb z3 z4):=Only.of_below hb;have HV4:=Hd (HV3.o.call htb HI.o HO4.o (HV3.o.tp.below hb));have hz4:w.heap.size+1<z4.heap.size:=hlS HV4.o.res;clear hr hb)|(clear tok5;go_at_call 29;refine(eX B tb A n c z4 (HL.o.only HV4.o.only hBt hw) HV4.o.tp (Ly hw HV4.o.only.size)).mono ?_;rintro e z5 ⟨vb,rfl,vb0,vb1,htp,ho⟩;have HO5:Hid (Only tb z4 z5):=ho;have HV5:=Hd (HV4.o.call htb HI.o ho htp);have hz5:w.heap.size+1<z5.heap.size:=hlS HV5.o.res;clear htp ho)|(clear tok6;go_at_call 41;refine(fA z5 66 vb (by omega) (by omega)).mono ?_;rintro e z6 ⟨x6,x6',x6'',rfl,hr,hb⟩;obtain⟨o6,n6,A6,k6,c6,rfl,rfl,rfl⟩:=hr.form;have HR6:=Hd hr;have HO6:Hid (Only tb z5 z6):=Only.of_below hb;have HV6:=Hd (HV5.o.call htb HI.o HO6.o (HV5.o.tp.below hb));have hz6:w.heap.size+1<z6.heap.size:=hlS HV6.o.res;clear hr hb;obtain⟨bk2,Aw2,kw2,cw2,lo2,ln2,lA2,lk2,lc2,xo2,xn2,xA2,xk2,xc2,hbk2,-⟩:=HV6.o.blk;have d3:∀o:Obj,(z6.alloc o).cell? ⟨w.heap.size,3,none⟩=some (.slice Aw2 kw2 cw2):=(fun o=>Ro _ _ 3 _ _ _ ((Bm _ _ _ (hlS hbk2)).trans hbk2));have df:∀(o:Obj) i,(z6.alloc o).frozen? ⟨w.heap.size,i,none⟩=false:=(fun o i=>by simp[World.frozen?,(Bm _ o _ (hlS hbk2)).trans hbk2]);clear hbk2));go_meet;have hlit:Wz (z6.alloc (.cells ⟨([[.int .i64 71,.int .i64 o0,.int .i64 n0,.slice A0 k0 c0],[.int .i64 80,.int .i64 o2,.int .i64 n2,.slice A2 k2 c2],[.int .i64 65,.int .i64 o4,.int .i64 n4,.slice A4 k4 c4],[.int .i64 66,.int .i64 o6,.int .i64 n6,.slice A6 k6 c6]]:List (LV)).flatten⟩ 57)) (fun q=>w.heap.size+1<q) (some ⟨z6.heap.size,0,none⟩) 4 [(71,wordT 65000000),(80,wordT (ra*1000000)),(65,wordT va),(66,wordT vb)]:=qdS (b:=w.heap.size+1) (ws:=[(71,wordT 65000000),(80,wordT (ra*1000000)),(65,wordT va),(66,wordT vb)]) hz6 rfl (by simp) (fun i cc t hi=>by
     have hi4:i<4:=(Gu.1 hi).1
     have h5:i=0∨i=1∨i=2∨i=3:=by omega
     rcases h5 with rfl|rfl|rfl|rfl<;>(injection hi with hi;injection hi with h6 h7;subst h6 h7)
     ·exact⟨by unfold I64;omega,_,_,_,rfl,kL HR0.o (((((HO1.o.trans HO2.o).trans HO3.o).trans HO4.o).trans HO5.o).trans HO6.o) (by omega) (by omega)⟩
     ·exact⟨by unfold I64;omega,_,_,_,rfl,kL HR2.o (((HO3.o.trans HO4.o).trans HO5.o).trans HO6.o) (by omega) (by omega)⟩
     ·exact⟨by unfold I64;omega,_,_,_,rfl,kL HR4.o (HO5.o.trans HO6.o) (by omega) (by omega)⟩
     ·exact⟨by unfold I64;omega,_,_,_,rfl,kL HR6.o (Only.refl tb _) (by omega) (by omega)⟩)
    have hcl:=(HV6.o.call htb HI.o (Only.of_below (nB _ _)) (HV6.o.tp.below (nB _ _))).words (cp:=4) htb HI.o (fun _ _=>rfl) (Le _) ⟨rfl,rfl,rfl⟩ hlit;exact hcl
   ·have hsz0:w.heap.size+1<y1.heap.size:=hlS HV.o.res;have tok0:=trivial;go_wp2_with(first|(clear tok0;go_at_call 41;refine(fA y1 77 99000000 (by omega) (by omega)).mono ?_;rintro e z0 ⟨x0,x0',x0'',rfl,hr,hb⟩;obtain⟨o0,n0,A0,k0,c0,rfl,rfl,rfl⟩:=hr.form;have HR0:=Hd hr;have HO0:Hid (Only tb y1 z0):=Only.of_below hb;have HV0:=Hd (HV.o.call htb HI.o HO0.o (HV.o.tp.below hb));have hz0:w.heap.size+1<z0.heap.size:=hlS HV0.o.res;clear hr hb;obtain⟨bk2,Aw2,kw2,cw2,lo2,ln2,lA2,lk2,lc2,xo2,xn2,xA2,xk2,xc2,hbk2,-⟩:=HV0.o.blk;have d3:∀o:Obj,(z0.alloc o).cell? ⟨w.heap.size,3,none⟩=some (.slice Aw2 kw2 cw2):=(fun o=>Ro _ _ 3 _ _ _ ((Bm _ _ _ (hlS hbk2)).trans hbk2));have df:∀(o:Obj) i,(z0.alloc o).frozen? ⟨w.heap.size,i,none⟩=false:=(fun o i=>by simp[World.frozen?,(Bm _ o _ (hlS hbk2)).trans hbk2]);clear hbk2));go_meet;have hlit:Wz (z0.alloc (.cells ⟨([[.int .i64 77,.int .i64 o0,.int .i64 n0,.slice A0 k0 c0]]:List (LV)).flatten⟩ 57)) (fun q=>w.heap.size+1<q) (some ⟨z0.heap.size,0,none⟩) 1 [(77,wordT 99000000)]:=qdS (b:=w.heap.size+1) (ws:=[(77,wordT 99000000)]) hz0 rfl (by simp) (fun i cc t hi=>by
     have hi1:i<1:=(Gu.1 hi).1
     have h5:i=0:=by omega
     subst h5
     (injection hi with hi;injection hi with h6 h7;subst h6 h7)
     ·exact⟨by unfold I64;omega,_,_,_,rfl,kL HR0.o (Only.refl tb _) (by omega) (by omega)⟩)
    have hcl:=(HV0.o.call htb HI.o (Only.of_below (nB _ _)) (HV0.o.tp.below (nB _ _))).words (cp:=1) htb HI.o (fun _ _=>rfl) (Le _) ⟨rfl,rfl,rfl⟩ hlit;exact hcl
  ·have e0:(r==0)=false:=by simpa using(show r≠0 by omega)
   have e1:(r==1)=false:=by simpa using(show r≠1 by omega)
   have e2:(r==2)=false:=by simpa using(show r≠2 by omega)
   go_wp2_with fail;go_meet;exact HV.o
 case rest=>
 have HV:=Hd hcut;clear hcut;obtain⟨bk,Aw,kw,cw,lo,ln,lA,lk,lc,xo,xn,xA,xk,xc,hbk,i1,i2,i3,hbw,hb1,hb2⟩:=HV.o.blk;have HBK:=Hd hbk;have HBZ:Hid (Bz wc (fun q=>I q∨w.heap.size+1<q) bk Aw kw (.int .i64 lo) (.int .i64 ln) (.slice lA lk lc) (.int .i64 xo) (.int .i64 xn) (.slice xA xk xc)):=⟨i1,i2,i3,hbw,hb1.keep (Le _) (fun _ _ h=>.inl h) (fun _ _ _=>rfl),hb2.keep (Le _) (fun _ _ h=>.inl h) (fun _ _ _=>rfl)⟩;have HRS:=Hd HV.o.res;have hbl:=hlS hbk;have hrl:=hlS HRS.o;have b0:wc.cell? ⟨w.heap.size,0,none⟩=some (.int .i64 bk.kind):=Ro wc _ 0 _ _ _ hbk;have b1:wc.cell? ⟨w.heap.size,1,none⟩=some (.int .i64 bk.label):=Ro wc _ 1 _ _ _ hbk;have b2:wc.cell? ⟨w.heap.size,2,none⟩=some (.bool bk.skip):=Ro wc _ 2 _ _ _ hbk;have b3:wc.cell? ⟨w.heap.size,3,none⟩=some (.slice Aw kw cw):=Ro wc _ 3 _ _ _ hbk;have b4:wc.cell? ⟨w.heap.size,4,none⟩=some (.int .i64 lo):=Ro wc _ 4 _ _ _ hbk;have b5:wc.cell? ⟨w.heap.size,5,none⟩=some (.int .i64 ln):=Ro wc _ 5 _ _ _ hbk;have b6:wc.cell? ⟨w.heap.size,6,none⟩=some (.slice lA lk lc):=Ro wc _ 6 _ _ _ hbk;have b7:wc.cell? ⟨w.heap.size,7,none⟩=some (.int .i64 xo):=Ro wc _ 7 _ _ _ hbk;have b8:wc.cell? ⟨w.heap.size,8,none⟩=some (.int .i64 xn):=Ro wc _ 8 _ _ _ hbk;have b9:wc.cell? ⟨w.heap.size,9,none⟩=some (.slice xA xk xc):=Ro wc _ 9 _ _ _ hbk;have b10:wc.cell? ⟨w.heap.size,10,none⟩=some (.int .i64 bk.n):=Ro wc _ 10 _ _ _ hbk;have rf:∀i,wc.frozen? ⟨w.heap.size+1,i,none⟩=false:=fun i=>by simp[World.frozen?,HRS.o]
 have r0:wc.cell? ⟨w.heap.size+1,0,none⟩=some (.int .i64 0):=Ro wc _ 0 _ _ _ HRS.o;have r1:wc.cell? ⟨w.heap.size+1,1,none⟩=some (.int .i64 0):=Ro wc _ 1 _ _ _ HRS.o;have r2:wc.cell? ⟨w.heap.size+1,2,none⟩=some (.bool false):=Ro wc _ 2 _ _ _ HRS.o;have r3:wc.cell? ⟨w.heap.size+1,3,none⟩=some (.slice none 0 0):=Ro wc _ 3 _ _ _ HRS.o;have r4:wc.cell? ⟨w.heap.size+1,4,none⟩=some (.int .i64 0):=Ro wc _ 4 _ _ _ HRS.o;have r5:wc.cell? ⟨w.heap.size+1,5,none⟩=some (.int .i64 0):=Ro wc _ 5 _ _ _ HRS.o;have r6:wc.cell? ⟨w.heap.size+1,6,none⟩=some (.slice none 0 0):=Ro wc _ 6 _ _ _ HRS.o;have r7:wc.cell? ⟨w.heap.size+1,7,none⟩=some (.int .i64 0):=Ro wc _ 7 _ _ _ HRS.o;have r8:wc.cell? ⟨w.heap.size+1,8,none⟩=some (.int .i64 0):=Ro wc _ 8 _ _ _ HRS.o;have r9:wc.cell? ⟨w.heap.size+1,9,none⟩=some (.slice none 0 0):=Ro wc _ 9 _ _ _ HRS.o;have r10:wc.cell? ⟨w.heap.size+1,10,none⟩=some (.int .i64 0):=Ro wc _ 10 _ _ _ HRS.o;clear hbk hbw hb1 hb2;go_wp2_with fail;obtain⟨WF,hWF⟩:∃WF,WF=set11 wc (w.heap.size+1) (.int .i64 bk.kind) (.int .i64 bk.label) (.bool bk.skip) (.slice Aw kw cw) (.int .i64 lo) (.int .i64 ln) (.slice lA lk lc) (.int .i64 xo) (.int .i64 xn) (.slice xA xk xc) (.int .i64 bk.n):=⟨_,rfl⟩;have hfin:WF.heap[w.heap.size+1]? =some (.cells ⟨[.int .i64 bk.kind,.int .i64 bk.label,.bool bk.skip,.slice Aw kw cw,.int .i64 lo,.int .i64 ln,.slice lA lk lc,.int .i64 xo,.int .i64 xn,.slice xA xk xc,.int .i64 bk.n]⟩ 54 (0,0)):=by rw[hWF];exact jA HRS.o
 have kF:∀q,q≠w.heap.size+1→WF.heap[q]? =wc.heap[q]? :=fun q hq=>by rw[hWF];exact gW wc (w.heap.size+1) q (.int .i64 bk.kind) (.int .i64 bk.label) (.bool bk.skip) (.slice Aw kw cw) (.int .i64 lo) (.int .i64 ln) (.slice lA lk lc) (.int .i64 xo) (.int .i64 xn) (.slice xA xk xc) (.int .i64 bk.n) hq
 have sF:WF.heap.size=wc.heap.size:=by rw[hWF];exact fO wc (w.heap.size+1) (.int .i64 bk.kind) (.int .i64 bk.label) (.bool bk.skip) (.slice Aw kw cw) (.int .i64 lo) (.int .i64 ln) (.slice lA lk lc) (.int .i64 xo) (.int .i64 xn) (.slice xA xk xc) (.int .i64 bk.n)
 have oF:WF.os=wc.os∧WF.tape=wc.tape∧WF.output=wc.output:=by
  have q:=gF (Bf w.heap.size wc) (Nat.le_succ w.heap.size) (.int .i64 bk.kind) (.int .i64 bk.label) (.bool bk.skip) (.slice Aw kw cw) (.int .i64 lo) (.int .i64 ln) (.slice lA lk lc) (.int .i64 xo) (.int .i64 xn) (.slice xA xk xc) (.int .i64 bk.n);rw[hWF];exact⟨q.os,q.tape,q.output⟩
 unfold set11 at hWF;rw[←hWF];refine bodyPost_ret (aN results37 _ _ (w.heap.size+1) _ _ _ _ rfl hfin underlying54 (by kernel_rfl)) rfl ⟨bk,Aw,kw,cw,lo,ln,lA,lk,lc,xo,xn,xA,xk,xc,rfl,?_,HV.o.tp.keep (kF tb (by omega)),?_⟩
 ·refine HBZ.o.keep (Nat.le_of_eq sF.symm) (fun q _ hq=> ?_) (fun q hq hi=>kF q ?_)
  ·rcases hq with hq|hq
   ·exact .inl hq
   ·exact .inr (by omega)
  ·rcases hi with hi|hi
   ·have:=(HI.o q hi).1;omega
   ·omega
 ·exact⟨oF.1.trans HV.o.only.1,oF.2.1.trans HV.o.only.2.1,oF.2.2.trans HV.o.only.2.2.1,by rw[sF];exact HV.o.only.size,fun q hq h2=>(kF q (by omega)).trans (HV.o.only.2.2.2.2 q hq h2)⟩
structure FI(B tb:Nat)(A:OA)(n c:Nat)(w:World)(lst:List Int)(bl:List Bk)(C:OA)(cp:Nat)(xs:LV)(D:OA)(dp:Nat)(W:World):Prop where
 tp:TapeOK W B tb A n c
 only:Only tb w W
 bk:BkS W w.heap.size (fun g=>w.heap.size≤g∧some g≠(Value.slice D lst.length dp).ownBlock) C cp bl xs
 wt:W.ownsRow w.heap.size 3 1 (.slice D lst.length dp) lst.length (ints lst)
structure FM(B tb:Nat)(A:OA)(n c:Nat)(w wr:World)(lst:List Int)(bl:List Bk)(C:OA)(cp:Nat)(xs:LV)(D0:Option Nat)(D:OA)(dp bb:Nat)(bk:Bk)(Aw:OA)(kw cw:Nat)(lo ln:Int)(lA:OA)(lk lc:Nat)(xo xn:Int)(xA:OA)(xk xc:Nat)(W:World):Prop where
 tp:TapeOK W B tb A n c
 only:Only tb w W
 bk0:BkS wr w.heap.size (fun g=>w.heap.size≤g∧some g≠D0) C cp bl xs
 wle:w.heap.size≤wr.heap.size
 hs:wr.heap.size≤bb
 kb:∀q,q<wr.heap.size→w.heap.size≤q→some q≠D0→W.heap[q]? =wr.heap[q]?
 d:(Value.slice D lst.length dp).ownBlock=D0∨∃g,(Value.slice D lst.length dp).ownBlock=some g∧wr.heap.size≤g
 dbb:(Value.slice D lst.length dp).ownBlock≠some bb
 wt:W.ownsRow w.heap.size 3 1 (.slice D lst.length dp) lst.length (ints lst)
 blk:W.heap[bb]? =some (.cells #[.int .i64 bk.kind,.int .i64 bk.label,.bool bk.skip,.slice Aw kw cw,.int .i64 lo,.int .i64 ln,.slice lA lk lc,.int .i64 xo,.int .i64 xn,.slice xA xk xc,.int .i64 bk.n] 54 (0,0))
 bz:Bz W (fun q=>wr.heap.size≤q∧q≠bb∧some q≠(Value.slice D lst.length dp).ownBlock) bk Aw kw (.int .i64 lo) (.int .i64 ln) (.slice lA lk lc) (.int .i64 xo) (.int .i64 xn) (.slice xA xk xc)
section
variable {B tb:Nat} {A:OA} {n c:Nat} {w wr:World} {lst:List Int} {bl:List Bk} {C:OA} {cp:Nat} {xs:LV} {D0:Option Nat} {D:OA} {dp bb:Nat} {bk:Bk} {Aw:OA} {kw cw:Nat} {lo ln:Int} {lA:OA} {lk lc:Nat} {xo xn:Int} {xA:OA} {xk xc:Nat} {W:World}
theorem FM.start{y:World}(h:FI B tb A n c w lst bl C cp xs D dp wr)(htb:tb<w.heap.size)(htp:TapeOK y B tb A n c)(ho:Only tb wr y)(hz:Bz y (fun q=>wr.heap.size<q) bk Aw kw (.int .i64 lo) (.int .i64 ln) (.slice lA lk lc) (.int .i64 xo) (.int .i64 xn) (.slice xA xk xc)):
 FM B tb A n c w wr lst bl C cp xs (Value.slice D lst.length dp).ownBlock D dp y.heap.size bk Aw kw cw lo ln lA lk lc xo xn xA xk xc (y.alloc (.cells #[.int .i64 bk.kind,.int .i64 bk.label,.bool bk.skip,.slice Aw kw cw,.int .i64 lo,.int .i64 ln,.slice lA lk lc,.int .i64 xo,.int .i64 xn,.slice xA xk xc,.int .i64 bk.n] 54)):=by
 have hb:Bw y (y.alloc (.cells #[.int .i64 bk.kind,.int .i64 bk.label,.bool bk.skip,.slice Aw kw cw,.int .i64 lo,.int .i64 ln,.slice lA lk lc,.int .i64 xo,.int .i64 xn,.slice xA xk xc,.int .i64 bk.n] 54)):=nB _ _;have hws:=h.only.size;have hys:=ho.size;have hD:∀q,(Value.slice D lst.length dp).ownBlock=some q→w.heap.size≤q∧q<wr.heap.size:=fun q hq=>aI h.wt hq;have kk:∀q,q<wr.heap.size→w.heap.size≤q→(y.alloc (.cells #[.int .i64 bk.kind,.int .i64 bk.label,.bool bk.skip,.slice Aw kw cw,.int .i64 lo,.int .i64 ln,.slice lA lk lc,.int .i64 xo,.int .i64 xn,.slice xA xk xc,.int .i64 bk.n] 54)).heap[q]? =wr.heap[q]? :=fun q h1 h2=>(hb.block q (by omega)).trans (ho.2.2.2.2 q h1 (by omega));exact⟨htp.below hb,(h.only.trans ho).trans (Only.of_below hb),h.bk,hws,hys,fun q h1 h2 _=>kk q h1 h2,.inl rfl,fun e=>by have:=hD _ e;omega,aC h.wt fun q hq hv=>kk q hq (hD q hv).1,Hn _ _,hz.keep hb.size (fun q hq hi=>⟨by omega,by omega,fun e=>by have:=hD q e.symm;omega⟩) fun q hq _=>hb.block q hq⟩
theorem FM.call{w1:World}(h:FM B tb A n c w wr lst bl C cp xs D0 D dp bb bk Aw kw cw lo ln lA lk lc xo xn xA xk xc W)(htb:tb<w.heap.size)(ho:Only tb W w1)(htp:TapeOK w1 B tb A n c):FM B tb A n c w wr lst bl C cp xs D0 D dp bb bk Aw kw cw lo ln lA lk lc xo xn xA xk xc w1:=by
 have hwl:=h.wle;have hhs:=h.hs;have hbl:=hlS h.blk;have kk:∀q,q<W.heap.size→w.heap.size≤q→w1.heap[q]? =W.heap[q]? :=fun q h1 h2=>ho.2.2.2.2 q h1 (by omega);exact⟨htp,h.only.trans ho,h.bk0,h.wle,h.hs,fun q h1 h2 h3=>(kk q (by omega) h2).trans (h.kb q h1 h2 h3),h.d,h.dbb,aC h.wt fun q hq hv=>kk q hq (aI h.wt hv).1,(kk _ hbl (by omega)).trans h.blk,h.bz.keep ho.size (fun _ _ h=>h) fun q hq hi=>kk q hq (by omega)⟩
theorem FM.put{bk':Bk}{Aw':OA}{kw' cw':Nat}{lo' ln':Int}{lA':OA}{lk' lc':Nat}{xo' xn':Int}{xA':OA}{xk' xc':Nat}(h:FM B tb A n c w wr lst bl C cp xs D0 D dp bb bk Aw kw cw lo ln lA lk lc xo xn xA xk xc W)(htb:tb<w.heap.size)(l:List (Nat×Value))
 (hz:Bz W (fun q=>wr.heap.size≤q∧q≠bb∧some q≠(Value.slice D lst.length dp).ownBlock) bk' Aw' kw' (.int .i64 lo') (.int .i64 ln') (.slice lA' lk' lc') (.int .i64 xo') (.int .i64 xn') (.slice xA' xk' xc')) (e:setA #[.int .i64 bk.kind,.int .i64 bk.label,.bool bk.skip,.slice Aw kw cw,.int .i64 lo,.int .i64 ln,.slice lA lk lc,.int .i64 xo,.int .i64 xn,.slice xA xk xc,.int .i64 bk.n] l= #[.int .i64 bk'.kind,.int .i64 bk'.label,.bool bk'.skip,.slice Aw' kw' cw',.int .i64 lo',.int .i64 ln',.slice lA' lk' lc',.int .i64 xo',.int .i64 xn',.slice xA' xk' xc',.int .i64 bk'.n]):
 FM B tb A n c w wr lst bl C cp xs D0 D dp bb bk' Aw' kw' cw' lo' ln' lA' lk' lc' xo' xn' xA' xk' xc' (setQ W bb l):=by
 have hwl:=h.wle;have hhs:=h.hs;have hbl:=hlS h.blk;have hk:∀q,q≠bb→(setQ W bb l).heap[q]? =W.heap[q]? :=fun q hq=>wR _ q hq _ _;have hsz:=wO bb l W;refine⟨h.tp.keep (hk _ (by omega)),wQ (by omega) _ _ h.only,h.bk0,h.wle,h.hs,fun q h1 h2 h3=>(hk q (by omega)).trans (h.kb q h1 h2 h3),h.d,h.dbb,aC h.wt fun q hq hv=>hk q (fun e=>h.dbb (by rw[←e];exact hv)),?_,hz.keep (Nat.le_of_eq hsz.symm) (fun _ _ h=>h) fun q hq hi=>hk q hi.2.1⟩;rw[←e];exact qbL _ _ _ h.blk
theorem FM.push{W3 w1:World}{x:Int}{g cap:Nat}(h:FM B tb A n c w wr lst bl C cp xs D0 D dp bb bk Aw kw cw lo ln lA lk lc xo xn xA xk xc W)(htb:tb<w.heap.size)(hb:Bw W W3)(ho:w1.ownsRow w.heap.size 3 1 (.slice (some ⟨g,0,none⟩) (lst.length+1) cap) (lst.length+1) (ints lst++[.int .i64 x]))(hg:W3.grownBy w1 (Value.slice D lst.length dp).ownBlock)(hl:(Value.slice D lst.length dp).ownBlock=some g∨g=W3.heap.size):
 FM B tb A n c w wr (lst++[x]) bl C cp xs D0 (some ⟨g,0,none⟩) cap bb bk Aw kw cw lo ln lA lk lc xo xn xA xk xc w1:=by
 have k:=bF hb hg;have hbs:=hb.size;have hgs:=hg.size;have hwl:=h.wle;have hhs:=h.hs;have hbl:=hlS h.blk;have hge:∀q,(Value.slice D lst.length dp).ownBlock=some q→w.heap.size≤q:=fun q hq=>(aI h.wt hq).1;have hd:∀q,q<wr.heap.size→some q≠D0→(Value.slice D lst.length dp).ownBlock≠some q:=fun q hq hn e=>by
  rcases h.d with e2|⟨g,e2,e3⟩
  ·exact hn (by rw[←e2,e])
  ·rw[e2]at e;cases e;omega
 refine⟨h.tp.keep (k _ (by have:=h.only.size;omega) fun e=>by have:=hge _ e;omega),?_,h.bk0,hwl,hhs,fun q h1 h2 h3=>(k q (by omega) (hd q h1 h3)).trans (h.kb q h1 h2 h3),?_,?_,?_,(k _ hbl h.dbb).trans h.blk,?_⟩
 ·exact⟨hg.os.trans (hb.os.trans h.only.1),hg.tape.trans (hb.tape.trans h.only.2.1),hg.output.trans (hb.output.trans h.only.2.2.1),by have:=h.only.size;omega,fun q hq h2=>(k q (by have:=h.only.size;omega) (fun e=>by have:=hge _ e;omega)).trans (h.only.2.2.2.2 q hq h2)⟩
 ·rcases hl with e|e
  ·rcases h.d with e2|⟨g',e2,e3⟩
   ·left;rw[←e2,e];rfl
   ·right;rw[e2]at e;cases e;exact⟨g,rfl,e3⟩
  ·right;exact⟨g,rfl,by omega⟩
 ·intro e;simp only[Value.ownBlock,Oi]at e;rcases hl with e2|e2
  ·exact h.dbb (by rw[e2,e])
  ·omega
 ·have e:ints (lst++[x])=ints lst++[.int .i64 x]:=by simp[ints]
  rw[e];simpa using ho
 ·refine h.bz.keep (by omega) (fun q hq hi=>⟨hi.1,hi.2.1,fun e=> ?_⟩) fun q hq hi=>k q hq fun e=>hi.2.2 e.symm;simp only[Value.ownBlock,Oi]at e;subst e;rcases hl with e|e
  ·exact hi.2.2 e.symm
  ·omega
theorem FM.pop{x:Int}(h:FM B tb A n c w wr (lst++[x]) bl C cp xs D0 D dp bb bk Aw kw cw lo ln lA lk lc xo xn xA xk xc W):FM B tb A n c w wr lst bl C cp xs D0 D dp bb bk Aw kw cw lo ln lA lk lc xo xn xA xk xc W:=by
 have e:∀m:Nat,(Value.slice D m dp).ownBlock=D.map (·.block):=fun m=>aU;have hw:=h.wt;have hl:(lst++[x]).length=lst.length+1:=by simp
 rw[hl]at hw;have q:=yS hw;have e2:(ints (lst++[x])).take (lst.length*1)=ints lst:=by unfold ints;simp
 rw[e2]at q;exact⟨h.tp,h.only,h.bk0,h.wle,h.hs,h.kb,by have:=h.d;rw[e]at this⊢;exact this,by have:=h.dbb;rw[e]at this⊢;exact this,q,h.blk,by have:=h.bz;rw[e]at this⊢;exact this⟩
theorem FM.fin{W3 w1:World}{g cap:Nat}(h:FM B tb A n c w wr lst bl C cp xs D0 D dp bb bk Aw kw cw lo ln lA lk lc xo xn xA xk xc W)(htb:tb<w.heap.size)(hb:Bw W W3)(ho:w1.ownsRow w.heap.size 54 11 (.slice (some ⟨g,0,none⟩) (bl.length+1) cap) (bl.length+1) (xs++cellsB bk Aw kw cw (.int .i64 lo) (.int .i64 ln) (.slice lA lk lc) (.int .i64 xo) (.int .i64 xn) (.slice xA xk xc)))(hg:W3.grownBy w1 (Value.slice C bl.length cp).ownBlock)(hl:(Value.slice C bl.length cp).ownBlock=some g∨g=W3.heap.size):
 FI B tb A n c w lst (bl++[bk]) (some ⟨g,0,none⟩) cap (xs++cellsB bk Aw kw cw (.int .i64 lo) (.int .i64 ln) (.slice lA lk lc) (.int .i64 xo) (.int .i64 xn) (.slice xA xk xc)) D dp w1:=by
 have k:=bF hb hg;have hbs:=hb.size;have hgs:=hg.size;have hwl:=h.wle;have hhs:=h.hs;have hbl:=hlS h.blk;have hge:∀q,(Value.slice C bl.length cp).ownBlock=some q→w.heap.size≤q∧q<wr.heap.size:=fun q hq=>aI h.bk0.own hq;have hCI:∀q,(Value.slice C bl.length cp).ownBlock=some q→some q≠D0:=fun q hq=>(h.bk0.ownI q hq).2;have hne:∀q,(Value.slice D lst.length dp).ownBlock=some q→(Value.slice C bl.length cp).ownBlock≠some q:=fun q hq e=>by
  rcases h.d with e2|⟨g,e2,e3⟩
  ·exact hCI q e (by rw[←e2,hq])
  ·rw[e2]at hq;cases hq;have:=hge _ e;omega
 have hb1:BkS W w.heap.size (fun g=>w.heap.size≤g∧some g≠(Value.slice D lst.length dp).ownBlock) C cp bl xs:=by
  have q1:=h.bk0.mono (I':=fun g=>w.heap.size≤g∧g<wr.heap.size∧some g≠D0) fun g hg hi=>⟨hi.1,hg,hi.2⟩;have q2:=q1.keep (by omega) fun g hg hi=>h.kb g hg hi.1 hi.2.2;refine q2.mono fun g hg hi=>⟨hi.1,fun e=> ?_⟩;rcases h.d with e2|⟨g',e2,e3⟩
  ·exact hi.2.2 (by rw[e,e2])
  ·rw[e2]at e;cases e;have:=hi.2.1;omega
 refine⟨h.tp.keep (k _ (by have:=h.only.size;omega) fun e=>by have:=hge _ e;omega),?_,?_,aC h.wt fun q hq hv=>k q hq (hne q hv)⟩
 ·exact⟨hg.os.trans (hb.os.trans h.only.1),hg.tape.trans (hb.tape.trans h.only.2.1),hg.output.trans (hb.output.trans h.only.2.2.1),by have:=h.only.size;omega,fun q hq h2=>(k q (by have:=h.only.size;omega) (fun e=>by have:=hge _ e;omega)).trans (h.only.2.2.2.2 q hq h2)⟩
 ·refine hb1.pushJ h.bz (fun q hq hi=>⟨⟨by have:=hi.1;omega,hi.2.2⟩,fun e=>by have:=hge q e.symm;have:=hi.1;omega⟩) ⟨by have:=h.only.size;omega,fun e=> ?_⟩ hbs (fun q hq=>hb.block q hq) ho hg hl;have:=(aI h.wt e.symm).2;omega
end
section
variable {B tb:Nat} {A:OA} {n c:Nat} {w:World} {lst:List Int} {bl:List Bk} {C:OA} {cp:Nat} {xs:LV} {D:OA} {dp:Nat} {W:World}
theorem FI.call{w1:World}(h:FI B tb A n c w lst bl C cp xs D dp W)(htb:tb<w.heap.size)(ho:Only tb W w1)(htp:TapeOK w1 B tb A n c):FI B tb A n c w lst bl C cp xs D dp w1:=
 ⟨htp,h.only.trans ho,h.bk.keep ho.size fun q hq hi=>ho.2.2.2.2 q hq (by have:=hi.1;omega),aC h.wt fun q hq hv=>ho.2.2.2.2 q hq (by have:=(aI h.wt hv).1;omega)⟩
theorem FI.add{W3 w1:World}{g cap:Nat}{f:Fb}(h:FI B tb A n c w lst bl C cp xs D dp W)(htb:tb<w.heap.size)(hf:fok f)(hb:Bw W W3)(ho:w1.ownsRow w.heap.size 54 11 (.slice (some ⟨g,0,none⟩) (bl.length+1) cap) (bl.length+1) (xs++fc f))(hg:W3.grownBy w1 (Value.slice C bl.length cp).ownBlock)(hl:(Value.slice C bl.length cp).ownBlock=some g∨g=W3.heap.size):
 FI B tb A n c w lst (bl++[fb f]) (some ⟨g,0,none⟩) cap (xs++fc f) D dp w1:=by
 have k:=bF hb hg;have hbs:=hb.size;have hgs:=hg.size;have hws:=h.only.size;have hge:∀q,(Value.slice C bl.length cp).ownBlock=some q→w.heap.size≤q:=fun q hq=>(aI h.bk.own hq).1;have hne:∀q,(Value.slice D lst.length dp).ownBlock=some q→(Value.slice C bl.length cp).ownBlock≠some q:=fun q hq e=>(h.bk.ownI q e).2 hq.symm;refine⟨h.tp.keep (k _ (by omega) fun e=>by have:=hge _ e;omega),?_,?_,aC h.wt fun q hq hv=>k q hq (hne q hv)⟩
 ·exact⟨hg.os.trans (hb.os.trans h.only.1),hg.tape.trans (hb.tape.trans h.only.2.1),hg.output.trans (hb.output.trans h.only.2.2.1),by omega,fun q hq h2=>(k q (by omega) (fun e=>by have:=hge _ e;omega)).trans (h.only.2.2.2.2 q hq h2)⟩
 ·exact h.bk.pushJ (J:=fun _=>False) (c:=0) (xT W _ f hf) (fun q _ hi=>hi.elim) ⟨by omega,fun e=>by have:=(aI h.wt e.symm).2;omega⟩ hbs (fun q hq=>hb.block q hq) ho hg hl
theorem FI.pop{x:Int}(h:FI B tb A n c w (lst++[x]) bl C cp xs D dp W):FI B tb A n c w lst bl C cp xs D dp W:=by
 have e:∀m:Nat,(Value.slice D m dp).ownBlock=D.map (·.block):=fun m=>aU;have hw:=h.wt;have hl:(lst++[x]).length=lst.length+1:=by simp
 rw[hl]at hw;have q:=yS hw;have e2:(ints (lst++[x])).take (lst.length*1)=ints lst:=by unfold ints;simp
 rw[e2]at q;exact⟨h.tp,h.only,by have:=h.bk;rw[e]at this⊢;exact this,q⟩
theorem FI.start0{bk:Bk}{Aw:OA}{kw cw:Nat}{lo ln:Int}{lA:OA}{lk lc:Nat}{xo xn:Int}{xA:OA}{xk xc:Nat}{y:World}(h:FI B tb A n c w lst bl C cp xs D dp W)(htb:tb<w.heap.size)(htp:TapeOK y B tb A n c)(ho:Only tb W y)(hz:Bz y (fun q=>W.heap.size<q) bk Aw kw (.int .i64 lo) (.int .i64 ln) (.slice lA lk lc) (.int .i64 xo) (.int .i64 xn) (.slice xA xk xc)):
 FM B tb A n c w W lst bl C cp xs (Value.slice D lst.length dp).ownBlock D dp y.heap.size bk Aw kw cw lo ln lA lk lc xo xn xA xk xc (y.alloc (.cells #[.int .i64 bk.kind,.int .i64 bk.label,.bool bk.skip,.slice Aw kw cw,.int .i64 lo,.int .i64 ln,.slice lA lk lc,.int .i64 xo,.int .i64 xn,.slice xA xk xc,.int .i64 bk.n] 54)):=FM.start h htb htp ho hz
theorem setA11(u0 u1 u2 u3 u4 u5 u6 u7 u8 u9 u10 v0 v1 v2 v3 v4 v5 v6 v7 v8 v9 v10:Value):setA #[u0,u1,u2,u3,u4,u5,u6,u7,u8,u9,u10] [(0,v0),(1,v1),(2,v2),(3,v3),(4,v4),(5,v5),(6,v6),(7,v7),(8,v8),(9,v9),(10,v10)]= #[v0,v1,v2,v3,v4,v5,v6,v7,v8,v9,v10]:=by simp[setA]
theorem FM.drop{wr:World}{D0:Option Nat}{bb:Nat}{bk:Bk}{Aw:OA}{kw cw:Nat}{lo ln:Int}{lA:OA}{lk lc:Nat}{xo xn:Int}{xA:OA}{xk xc:Nat}(h:FM B tb A n c w wr lst bl C cp xs D0 D dp bb bk Aw kw cw lo ln lA lk lc xo xn xA xk xc W)(htb:tb<w.heap.size):FI B tb A n c w lst bl C cp xs D dp W:=by
 have hbl:=hlS h.blk;have hhs:=h.hs;refine⟨h.tp,h.only,?_,h.wt⟩;have q1:=h.bk0.mono (I':=fun g=>w.heap.size≤g∧g<wr.heap.size∧some g≠D0) fun g hg hi=>⟨hi.1,hg,hi.2⟩;have q2:=q1.keep (by omega) fun g hg hi=>h.kb g hg hi.1 hi.2.2;refine q2.mono fun g hg hi=>⟨hi.1,fun e=> ?_⟩;rcases h.d with e2|⟨g',e2,e3⟩
 ·exact hi.2.2 (by rw[e,e2])
 ·rw[e2]at e;cases e;have:=hi.2.1;omega
theorem FM.ownC{wr:World}{D0:Option Nat}{bb:Nat}{bk:Bk}{Aw:OA}{kw cw:Nat}{lo ln:Int}{lA:OA}{lk lc:Nat}{xo xn:Int}{xA:OA}{xk xc:Nat}(h:FM B tb A n c w wr lst bl C cp xs D0 D dp bb bk Aw kw cw lo ln lA lk lc xo xn xA xk xc W):W.ownsRow w.heap.size 54 11 (.slice C bl.length cp) bl.length xs:=
 aC h.bk0.own fun q hq hv=>h.kb q hq (aI h.bk0.own hv).1 (h.bk0.ownI q hv).2
theorem rz_n{w:World}{I:Nat→Prop}{t:Tr}{o n n':Int}{A:OA}{k c:Nat}(h:Rz w I t (.agg #[.int .i64 o,.int .i64 n,.slice A k c]))(hn:I64 n'):∃t',Rz w I t' (.agg #[.int .i64 o,.int .i64 n',.slice A k c]):=by
 cases t with
 |none_=>exact h.elim
 |mk op m k' kid=>
  obtain⟨A',c',e,h1,_,h3,h4⟩:=h;simp only[Value.agg.injEq,Array.mk.injEq,List.cons.injEq,and_true,Value.int.injEq,Vs,true_and]at e;obtain⟨rfl,rfl,rfl,rfl,rfl⟩:=e;exact⟨.mk o n' k kid,A,c,rfl,h1,hn,h3,h4⟩
theorem FI.fresh(h:FI B tb A n c w lst bl C cp xs D dp W):FI B tb A n c w [] bl C cp xs none 0 W:=
 ⟨h.tp,h.only,h.bk.mono fun g _ hi=>⟨hi.1,by simp[Value.ownBlock]⟩,World.ownsRow_nil _ _ _ _⟩
end
theorem qgR(l:List Int):l=[]∨∃(m:List Int) (x:Int),l=m++[x]:=by
 rcases l.eq_nil_or_concat with h|⟨m,x,h⟩
 ·exact .inl h
 ·exact .inr ⟨m,x,by simpa using h⟩
def lenOf(v:Value):Nat:=match v with
 | .slice _ n _=>n
 |_=>0
def FlRel1(B tb:Nat)(A:OA)(n c:Nat)(w:World)(o lb p:Value)(W:World):Prop:=
 ∃(k:Nat) (lab:Int) (bl:List Bk) (C:OA) (cp:Nat) (xs:LV),k≤3∧0≤lab∧lab≤7*k∧bl.length≤11*k∧o=.slice C bl.length cp∧lb=.int .i64 lab∧p=.int .i64 (k:Int)∧FI B tb A n c w [] bl C cp xs none 0 W
def FlRel2(B tb:Nat)(A:OA)(n c:Nat)(w:World)(k:Nat)(o lb op nn:Value)(W:World):Prop:=
 ∃(j lab:Int) (lst:List Int) (bl:List Bk) (C:OA) (cp:Nat) (xs:LV) (D:OA) (dp:Nat),0≤j∧j≤7∧0≤lab∧lab+j≤7*k+7∧bl.length+j≤11*k+8∧lst.length≤3∧(∀x∈lst,1≤x∧x≤3)∧o=.slice C bl.length cp∧lb=.int .i64 lab∧op=.slice D lst.length dp∧nn=.int .i64 j∧FI B tb A n c w lst bl C cp xs D dp W
def FlRel3(B tb:Nat)(A:OA)(n c:Nat)(w:World)(k:Nat)(o op:Value)(W:World):Prop:=
 ∃(lst:List Int) (bl:List Bk) (C:OA) (cp:Nat) (xs:LV) (D:OA) (dp:Nat),bl.length+lst.length≤11*k+11∧lst.length≤3∧(∀x∈lst,1≤x∧x≤3)∧o=.slice C bl.length cp∧op=.slice D lst.length dp∧FI B tb A n c w lst bl C cp xs D dp W
def FlPost(B tb:Nat)(A:OA)(n c:Nat)(w:World)(e:Ending)(w':World):Prop:=
 ∃(bl:List Bk) (C:OA) (cp:Nat) (xs:LV),e=.returned (.slice C bl.length cp)∧bl.length≤33∧BkS w' w.heap.size (fun g=>w.heap.size≤g) C cp bl xs∧TapeOK w' B tb A n c∧Only tb w w'
theorem lV(B tb:Nat)(A:OA)(n c:Nat)(w:World)(hl:LOK w B A n)(ht:TapeOK w B tb A n c)(hw:B≤w.heap.size):Calls prog 16 #[.pointer (some ⟨tb,0,none⟩)] w (FlPost B tb A n c w):=by
 have HL:=Hd hl;have htb:=ht.lt;have hBt:=ht.1;obtain⟨iB,zB,hiB,hB0,hB1,hB2,hBs⟩:=eG;have HIB:=Hd hiB;have HZB:=Hd hB0;have HR0:Hid (FlRel1 B tb A n c w (.slice none 0 0) (.int .i64 0) (.int .i64 0) w):=⟨0,0,[],none,0,[],by omega,by omega,by omega,by simp,rfl,rfl,rfl,ht,Only.refl _ _,BkS.nil _ _ _,World.ownsRow_nil _ _ _ _⟩;clear hl ht hiB hB0;go_enter func16,ntmps16;go_wp2_with fail;go_loopw[3,4,5] (FlRel1 B tb A n c w) (fun _ _ p _=>3-(intOf p).toNat)
 case atStart=>exact HR0.o
 case round=>
  obtain⟨k,lab,bl,C,cp,xs,hk,hlab0,hlab1,hbl,rfl,rfl,rfl,hF⟩:=hrel;have HF:=Hd hF;clear hF HR0;by_cases hlt:k<3
  ·have g0:decide ((k:Int)<3)=true:=Dt (by omega);go_upto_if 14 with(fail)
   go_cut[3] (fun s3 W=>∃(bl:List Bk) (C:OA) (cp:Nat) (xs:LV),s3=.slice C bl.length cp∧bl.length≤11*k+1∧FI B tb A n c w [] bl C cp xs none 0 W)
   case first=>
    by_cases hp:k=0
    ·have g1:decide ((k:Int)>0)=false:=Df (by omega);have g2:decide (0<k)=false:=Df (by omega);have g3:¬0<k:=by omega
     clear hp;go_wp2_with fail;go_meet;exact⟨bl,C,cp,xs,rfl,by omega,HF.o⟩
    ·have g1:decide ((k:Int)>0)=true:=Dt (by omega);have g2:decide (0<k)=true:=Dt (by omega);have g3:0<k:=by omega
     clear hp;have HOC:=Hd HF.o.bk.own;go_wp2_with(at_builtin;refine wpList_append_lies _ rfl (.tmp 15) (.tmp 18) 29 rfl w.heap.size 54 iB zB 11 136 underlying29 HIB.o HZB.o hB1 hB2 hBs (by omega) (.slice C bl.length cp) bl.length xs rfl (HOC.o.alloc _) ⟨wr.heap.size,0,none⟩ 1 1 [.int .i64 6,.int .i64 0,.bool false,.slice none 0 0,.int .i64 0,.int .i64 0,.slice none 0 0,.int .i64 0,.int .i64 0,.slice none 0 0,.int .i64 (k:Int)] rfl rfl (Nk (Hn wr _)) (by intro u hu;simp only[List.mem_cons,List.not_mem_nil,or_false]at hu;rcases hu with rfl|rfl|rfl|rfl|rfl|rfl|rfl|rfl|rfl|rfl|rfl<;>rfl) (by omega) (by unfold maxLen;omega) (by omega) (by have:=HF.o.only.size;simp;omega) _ rfl ?_;intro g9 c9 w9 ho9 hg9 hl9 hlt9;have HF9:=Hd (HF.o.add (f:=⟨6,0,0,0,(k:Int)⟩) htb (by unfold fok I64;dsimp only;omega) (nB _ _) ho9 hg9 hl9);clear ho9 hg9 hl9 hlt9);go_meet;exact⟨_,_,_,_,by simp,by simp;omega,HF9.o⟩
   case rest=>
   obtain⟨bl1,C1,cp1,xs1,rfl,hbl1,hF⟩:=hcut;have HF:=Hd hF;clear hF;have HRG:=Hd (cC B tb A n c 1 7 wc (HL.o.only HF.o.only hBt hw) HF.o.tp (by omega) (by omega) (by omega));go_wp2_with(go_at_call 28;refine HRG.o.mono ?_;rintro e y1 ⟨m,rfl,m0,m1,htp,ho⟩;have HFN:=Hd (HF.o.call htb ho htp);clear htp ho HF;have HF:=Hd HFN.o;clear HFN);have HR2:Hid (FlRel2 B tb A n c w k (.slice C1 bl1.length cp1) (.int .i64 lab) (.slice none 0 0) (.int .i64 m) y1):=⟨m,lab,[],bl1,C1,cp1,xs1,none,0,by omega,by omega,by omega,by omega,by omega,by simp,fun x hx=>by simp at hx,rfl,rfl,rfl,rfl,HF.o⟩;clear HRG HF m0 m1;go_loopw[3,4,6,7] (FlRel2 B tb A n c w k) (fun _ _ _ nn _=>(intOf nn).toNat)
   case atStart=>exact HR2.o
   case round=>
    obtain⟨j,lab2,lst,bl2,C2,cp2,xs2,D,dp,hj0,hj7,hl0,hl7,hb7,hls,hlx,rfl,rfl,rfl,rfl,hF⟩:=hrel;have HF:=Hd hF;clear hF HR2;by_cases hj:j>0
    ·have gj:decide (j>0)=true:=Dt hj;have gj2:decide (0<j)=true:=Dt hj;have wj:IntKind.i64.wrap (j-1)=j-1:=IntWalk.i64_in _ (by omega);have wl:IntKind.i64.wrap (lab2+1)=lab2+1:=IntWalk.i64_in _ (by omega);have hwr:=HF.o.only.size;have HBC:=Hd (qlI B tb A n c wr (HL.o.only HF.o.only hBt hw) HF.o.tp (Ly hw hwr));go_upto_region 13 with(go_at_call 36;refine HBC.o.mono ?_;rintro e y ⟨bk,Aw,kw,cw,lo,ln,lA,lk,lc,xo,xn,xA,xk,xc,rfl,hz,htp,ho⟩;have HZ:=Hd hz;have HT:=Hd htp;have HO:=Hd ho;clear hz htp ho)
     refine mV fun X1 hX1=> ?_;obtain⟨bb,hbb⟩:∃bb,bb=y.heap.size:=⟨_,rfl⟩;have HM:Hid (FM B tb A n c w wr lst bl2 C2 cp2 xs2 (Value.slice D lst.length dp).ownBlock D dp bb bk Aw kw cw lo ln lA lk lc xo xn xA xk xc X1):=by unfold Hid;rw[hX1,hbb];exact HF.o.start0 htb HT.o HO.o HZ.o
     have HFF:=Hd HF.o;rw[←hbb];clear hX1 hbb HZ HT HO HBC HF;have d1:X1.cell? ⟨bb,1,none⟩=some (.int .i64 bk.label):=Ro X1 _ 1 _ _ _ HM.o.blk;have df:∀i,X1.frozen? ⟨bb,i,none⟩=false:=fun i=>by simp[World.frozen?,HM.o.blk]
     go_upto_region 14 with(fail)
     refine mV fun X2 hX2=> ?_;have HM2:Hid (FM B tb A n c w wr lst bl2 C2 cp2 xs2 (Value.slice D lst.length dp).ownBlock D dp bb {bk with label:=0} Aw kw cw lo ln lA lk lc xo xn xA xk xc X2):=by
      have hz:=HM.o.bz;unfold Hid;rw[hX2];exact HM.o.put htb [(1,.int .i64 0)] (bk':={bk with label:=0}) ⟨hz.kind,by show I64 0;unfold I64;omega,hz.n,hz.words,hz.left,hz.x⟩ rfl
     clear hX2 d1 df HM;have HNX:=Hd (aW B tb A n c 2 X2 (HL.o.only HM2.o.only hBt hw) HM2.o.tp (by omega) (by omega));go_upto_if 33 with(go_at_call 25;refine HNX.o.mono ?_;rintro e y2 ⟨r33,rfl,r330,r331,htp,ho⟩;have HM:=Hd (HM2.o.call htb ho htp);clear htp ho)
     clear HM2 HNX r330 r331;go_cut[] (fun W=>∃(bk:Bk) (Aw:OA) (kw cw:Nat) (lo ln:Int) (lA:OA) (lk lc:Nat) (xo xn:Int) (xA:OA) (xk xc:Nat),FM B tb A n c w wr lst bl2 C2 cp2 xs2 (Value.slice D lst.length dp).ownBlock D dp bb bk Aw kw cw lo ln lA lk lc xo xn xA xk xc W)
     case first=>
      by_cases h33:r33=0
      ·have g33:(r33==0)=true:=by simp[h33]
       have e1:y2.cell? ⟨bb,1,none⟩=some (.int .i64 0):=Ro y2 _ 1 _ _ _ HM.o.blk;have df:∀i,y2.frozen? ⟨bb,i,none⟩=false:=fun i=>by simp[World.frozen?,HM.o.blk]
       clear h33;go_wp2_with fail;go_meet;have hz:=HM.o.bz;exact⟨_,_,_,_,_,_,_,_,_,_,_,_,_,_,HM.o.put htb [(1,.int .i64 (lab2+1))] (bk':={bk with label:=lab2+1}) ⟨hz.kind,by show I64 (lab2+1);unfold I64;omega,hz.n,hz.words,hz.left,hz.x⟩ rfl⟩
      ·have g33:(r33==0)=false:=by simp[h33]
       go_wp2_with fail;go_meet;exact⟨_,_,_,_,_,_,_,_,_,_,_,_,_,_,HM.o⟩
     case rest=>
     obtain⟨bk,Aw,kw,cw,lo,ln,lA,lk,lc,xo,xn,xA,xk,xc,hM⟩:=hcut;have HM:=Hd hM;clear hM;have d0:wc.cell? ⟨bb,0,none⟩=some (.int .i64 bk.kind):=Ro wc _ 0 _ _ _ HM.o.blk;have df:∀i,wc.frozen? ⟨bb,i,none⟩=false:=fun i=>by simp[World.frozen?,HM.o.blk]
     go_upto_block 4 with(fail)
     clear d0 df;go_cut[6] (fun s6 W=>∃(lst':List Int) (D':OA) (dp':Nat),s6=.slice D' lst'.length dp'∧lst'.length≤3∧(∀x∈lst',1≤x∧x≤3)∧∃(bk:Bk) (Aw:OA) (kw cw:Nat) (lo ln:Int) (lA:OA) (lk lc:Nat) (xo xn:Int) (xA:OA) (xk xc:Nat),FM B tb A n c w wr lst' bl2 C2 cp2 xs2 (Value.slice D lst.length dp).ownBlock D' dp' bb bk Aw kw cw lo ln lA lk lc xo xn xA xk xc W)
     case first=>
      by_cases h6:bk.kind=6
      ·have e6:(bk.kind==6)=true:=by simpa using h6
       clear h6;have d0:wc.cell? ⟨bb,0,none⟩=some (.int .i64 bk.kind):=Ro wc _ 0 _ _ _ HM.o.blk;have d1:wc.cell? ⟨bb,1,none⟩=some (.int .i64 bk.label):=Ro wc _ 1 _ _ _ HM.o.blk;have d2:wc.cell? ⟨bb,2,none⟩=some (.bool bk.skip):=Ro wc _ 2 _ _ _ HM.o.blk;have d3:wc.cell? ⟨bb,3,none⟩=some (.slice Aw kw cw):=Ro wc _ 3 _ _ _ HM.o.blk;have d4:wc.cell? ⟨bb,4,none⟩=some (.int .i64 lo):=Ro wc _ 4 _ _ _ HM.o.blk;have d5:wc.cell? ⟨bb,5,none⟩=some (.int .i64 ln):=Ro wc _ 5 _ _ _ HM.o.blk;have d6:wc.cell? ⟨bb,6,none⟩=some (.slice lA lk lc):=Ro wc _ 6 _ _ _ HM.o.blk;have d7:wc.cell? ⟨bb,7,none⟩=some (.int .i64 xo):=Ro wc _ 7 _ _ _ HM.o.blk;have d8:wc.cell? ⟨bb,8,none⟩=some (.int .i64 xn):=Ro wc _ 8 _ _ _ HM.o.blk;have d9:wc.cell? ⟨bb,9,none⟩=some (.slice xA xk xc):=Ro wc _ 9 _ _ _ HM.o.blk;have d10:wc.cell? ⟨bb,10,none⟩=some (.int .i64 bk.n):=Ro wc _ 10 _ _ _ HM.o.blk;have df:∀i,wc.frozen? ⟨bb,i,none⟩=false:=fun i=>by simp[World.frozen?,HM.o.blk]
       go_wp2_with fail;go_meet;exact⟨lst,D,dp,rfl,hls,hlx,_,_,_,_,_,_,_,_,_,_,_,_,_,_,HM.o.put htb [(0,.int .i64 0),(1,.int .i64 0),(2,.bool false),(3,.slice none 0 0),(4,.int .i64 0),(5,.int .i64 0),(6,.slice none 0 0),(7,.int .i64 0),(8,.int .i64 0),(9,.slice none 0 0),(10,.int .i64 0)] (bk':=⟨0,0,false,[],numT 0,numT 0,0⟩) ⟨by show I64 0;unfold I64;omega,by show I64 0;unfold I64;omega,by show I64 0;unfold I64;omega,mW _ _,bN _ _ _ (by unfold I64;omega),bN _ _ _ (by unfold I64;omega)⟩ (setA11 ..)⟩
      have e6':(bk.kind==6)=false:=by simpa using h6
      clear h6;by_cases h4:bk.kind=4
      ·have e4:(bk.kind==4)=true:=by simpa using h4
       clear h4;by_cases hl3:lst.length=3
       ·have g3:((lst.length:Int)==3)=true:=by simp[hl3]
        have hl3':(lst.length:Int)=3:=by omega
        clear hl3;go_wp2_with fail;exact⟨⟨j-1,lab2+1,lst,bl2,C2,cp2,xs2,D,dp,by omega,by omega,by omega,by omega,by omega,hls,hlx,rfl,rfl,rfl,by go_num,HM.o.drop htb⟩,by simp only[intOf];omega⟩
       ·have g3:((lst.length:Int)==3)=false:=by
         have:(lst.length:Int)≠3:=by omega
         simpa using this
        have wn:IntKind.i64.wrap ((lst.length:Int)+1)=(lst.length:Int)+1:=IntWalk.i64_in _ (by omega);have d10:wc.cell? ⟨bb,10,none⟩=some (.int .i64 bk.n):=Ro wc _ 10 _ _ _ HM.o.blk;have df:∀i,wc.frozen? ⟨bb,i,none⟩=false:=fun i=>by simp[World.frozen?,HM.o.blk]
        go_upto_region 23 with(fail)
        refine mV fun X3 hX3=> ?_;have HM3:Hid (FM B tb A n c w wr lst bl2 C2 cp2 xs2 (Value.slice D lst.length dp).ownBlock D dp bb {bk with n:=(lst.length:Int)+1} Aw kw cw lo ln lA lk lc xo xn xA xk xc X3):=by
         have hz:=HM.o.bz;unfold Hid;rw[hX3];exact HM.o.put htb [(10,.int .i64 ((lst.length:Int)+1))] (bk':={bk with n:=(lst.length:Int)+1}) ⟨hz.kind,hz.label,by show I64 ((lst.length:Int)+1);unfold I64;omega,hz.words,hz.left,hz.x⟩ rfl
        have m10:X3.cell? ⟨bb,10,none⟩=some (.int .i64 ((lst.length:Int)+1)):=Ro X3 _ 10 _ _ _ HM3.o.blk;obtain⟨iI,zI,hiI,hI0,hI1,hI2,hIs⟩:=gK;have HII:=Hd hiI;have HZI:=Hd hI0;have HWT:=Hd HM3.o.wt;have hsx:=HM3.o.only.size;obtain⟨N,hN⟩:∃N,N=lst.length:=⟨_,rfl⟩;clear hX3 d10 df hiI hI0;go_wp2_with(at_builtin;refine wpList_append_lies _ rfl (.tmp 50) (.tmp 53) 22 rfl w.heap.size 3 iI zI 1 8 underlying22 HII.o HZI.o hI1 hI2 hIs (by omega) (.slice D lst.length dp) lst.length (ints lst) rfl (HWT.o.alloc _) ⟨X3.heap.size,0,none⟩ 1 1 [.int .i64 ((lst.length:Int)+1)] rfl rfl (Nk (Hn X3 _)) (by intro u hu;simp only[Mt]at hu;rw[hu];rfl) (by omega) (by unfold maxLen;omega) (by omega) (by simp;omega) _ rfl ?_;intro g9 c9 w9 ho9 hg9 hl9 hlt9;have HM9:=Hd (HM3.o.push (x:=(lst.length:Int)+1) htb (nB _ _) ho9 hg9 hl9);clear ho9 hg9 hl9 hlt9);go_meet;exact⟨lst++[(lst.length:Int)+1],some ⟨g9,0,none⟩,c9,by simp,by simp;omega,fun x hx=>by rcases Ma.1 hx with h|h;exact hlx x h;(simp at h;omega),_,_,_,_,_,_,_,_,_,_,_,_,_,_,HM9.o⟩
      have e4':(bk.kind==4)=false:=by simpa using h4
      clear h4;by_cases h5:bk.kind=5
      ·have e5:(bk.kind==5)=true:=by simpa using h5
       clear h5;rcases qgR lst with rfl|⟨l',x,rfl⟩
       ·go_wp2_with fail;exact⟨⟨j-1,lab2+1,[],bl2,C2,cp2,xs2,D,dp,by omega,by omega,by omega,by omega,by omega,hls,hlx,rfl,rfl,rfl,by go_num,HM.o.drop htb⟩,by simp only[intOf];omega⟩
       ·have hx:=hlx x (by simp);have hlx4:∀y∈l',1≤y∧y≤3:=fun y hy=>hlx y (by simp[hy]);have hlen:(l'++[x]).length=l'.length+1:=by simp
        have hw:=HM.o.wt;obtain⟨N,hN⟩:∃N,N=l'.length:=⟨_,rfl⟩;rw[hlen,←hN]at hw;obtain⟨gD,hgD,q1,q2,q3,q4,_⟩:=dQ hw (by omega);subst hgD;have cx:wc.cell? ⟨gD,N,none⟩=some (.int .i64 x):=by
         rw[hw.cellAt N (by omega)];unfold ints;rw[Gm,Ga (by omega),show N-l'.length=0 by omega];rfl
        have hgb:gD≠bb:=fun e=>HM.o.dbb (by rw[e];rfl);rw[hlen,←hN]at hls;have HNN:=Hd hN;have HX4:=Hd hlx4;have n1:IntKind.i64.wrap (((N+1:Nat):Int)-1)=(N:Int):=by rw[show((N+1:Nat):Int)-1=(N:Int)by omega];exact IntWalk.i64_in _ (by omega)
        have n2:((N+1:Nat):Int)=(N:Int)+1:=by omega
        have n3:IntKind.i64.wrap ((N:Int)+1-1)=(N:Int):=by rw[show(N:Int)+1-1=(N:Int)by omega];exact IntWalk.i64_in _ (by omega)
        have n4:(0:Int)≤(N:Int):=by omega
        have n5:(N:Int)<(N:Int)+1:=by omega
        have n6:(N:Int)≤(dp:Int):=by omega
        have n7:N≤dp:=by omega
        have g1:(((N:Int)+1)==0)=false:=by
         have:(N:Int)+1≠0:=by omega
         simpa using this
        rw[hlen,←hN];have d10:wc.cell? ⟨bb,10,none⟩=some (.int .i64 bk.n):=Ro wc _ 10 _ _ _ HM.o.blk;have df:∀i,wc.frozen? ⟨bb,i,none⟩=false:=fun i=>by simp[World.frozen?,HM.o.blk]
        clear hN hw hlx hlx4;have HLE:=Hd hlen;clear hlen;go_wp2_with fail;go_meet;have hz:=HM.o.bz;exact⟨l',some ⟨gD,0,none⟩,dp,by rw[HNN.o],by have:=HNN.o;omega,HX4.o,_,_,_,_,_,_,_,_,_,_,_,_,_,_,(HM.o.put htb [(10,.int .i64 x)] (bk':={bk with n:=x}) ⟨hz.kind,hz.label,by show I64 x;unfold I64;omega,hz.words,hz.left,hz.x⟩ rfl).pop⟩
      have e5':(bk.kind==5)=false:=by simpa using h5
      clear h5;by_cases h2:bk.kind=2
      ·have e2:(bk.kind==2)=true:=by simpa using h2
       clear h2;have w2:IntKind.i64.wrap (lab2+1+1)=lab2+1+1:=IntWalk.i64_in _ (by omega);have HRG:=Hd (cC B tb A n c 1 (lab2+1+1) wc (HL.o.only HM.o.only hBt hw) HM.o.tp (by omega) (by omega) (by omega));go_wp2_with(go_at_call 28;refine HRG.o.mono ?_;rintro e y3 ⟨ra,rfl,ra0,ra1,htp,ho⟩;have HM3:=Hd (HM.o.call htb ho htp);have wa:IntKind.i64.wrap (ra*1000000)=ra*1000000:=IntWalk.i64_in _ (by omega);have d8:y3.cell? ⟨bb,8,none⟩=some (.int .i64 xn):=Ro y3 _ 8 _ _ _ HM3.o.blk;have df:∀i,y3.frozen? ⟨bb,i,none⟩=false:=(fun i=>by simp[World.frozen?,HM3.o.blk]);clear htp ho);go_meet;have hz:=HM3.o.bz;obtain⟨t',ht'⟩:=rz_n (n':=ra*1000000) hz.x (by unfold I64;omega);exact⟨lst,D,dp,rfl,hls,hlx,_,_,_,_,_,_,_,_,_,_,_,_,_,_,HM3.o.put htb [(8,.int .i64 (ra*1000000))] (bk':={bk with x:=t'}) ⟨hz.kind,hz.label,hz.n,hz.words,hz.left,ht'⟩ rfl⟩
      have e2':(bk.kind==2)=false:=by simpa using h2
      clear h2;by_cases h3:bk.kind=3
      ·have e3:(bk.kind==3)=true:=by simpa using h3
       clear h3;have w2:IntKind.i64.wrap (lab2+1+1)=lab2+1+1:=IntWalk.i64_in _ (by omega);have HRG:=Hd (cC B tb A n c 1 (lab2+1+1) wc (HL.o.only HM.o.only hBt hw) HM.o.tp (by omega) (by omega) (by omega));go_wp2_with(go_at_call 28;refine HRG.o.mono ?_;rintro e y3 ⟨ra,rfl,ra0,ra1,htp,ho⟩;have HM3:=Hd (HM.o.call htb ho htp);have wa:IntKind.i64.wrap (ra*1000000)=ra*1000000:=IntWalk.i64_in _ (by omega);have d5:y3.cell? ⟨bb,5,none⟩=some (.int .i64 ln):=Ro y3 _ 5 _ _ _ HM3.o.blk;have df:∀i,y3.frozen? ⟨bb,i,none⟩=false:=(fun i=>by simp[World.frozen?,HM3.o.blk]);clear htp ho);go_meet;have hz:=HM3.o.bz;obtain⟨t',ht'⟩:=rz_n (n':=ra*1000000) hz.left (by unfold I64;omega);exact⟨lst,D,dp,rfl,hls,hlx,_,_,_,_,_,_,_,_,_,_,_,_,_,_,HM3.o.put htb [(5,.int .i64 (ra*1000000))] (bk':={bk with left:=t'}) ⟨hz.kind,hz.label,hz.n,hz.words,ht',hz.x⟩ rfl⟩
      have e3':(bk.kind==3)=false:=by simpa using h3
      clear h3;by_cases h0:bk.kind=0
      ·have e0:(bk.kind==0)=true:=by simpa using h0
       clear h0;have d0:wc.cell? ⟨bb,0,none⟩=some (.int .i64 bk.kind):=Ro wc _ 0 _ _ _ HM.o.blk;have d1:wc.cell? ⟨bb,1,none⟩=some (.int .i64 bk.label):=Ro wc _ 1 _ _ _ HM.o.blk;have d2:wc.cell? ⟨bb,2,none⟩=some (.bool bk.skip):=Ro wc _ 2 _ _ _ HM.o.blk;have d3:wc.cell? ⟨bb,3,none⟩=some (.slice Aw kw cw):=Ro wc _ 3 _ _ _ HM.o.blk;have d4:wc.cell? ⟨bb,4,none⟩=some (.int .i64 lo):=Ro wc _ 4 _ _ _ HM.o.blk;have d5:wc.cell? ⟨bb,5,none⟩=some (.int .i64 ln):=Ro wc _ 5 _ _ _ HM.o.blk;have d6:wc.cell? ⟨bb,6,none⟩=some (.slice lA lk lc):=Ro wc _ 6 _ _ _ HM.o.blk;have d7:wc.cell? ⟨bb,7,none⟩=some (.int .i64 xo):=Ro wc _ 7 _ _ _ HM.o.blk;have d8:wc.cell? ⟨bb,8,none⟩=some (.int .i64 xn):=Ro wc _ 8 _ _ _ HM.o.blk;have d9:wc.cell? ⟨bb,9,none⟩=some (.slice xA xk xc):=Ro wc _ 9 _ _ _ HM.o.blk;have d10:wc.cell? ⟨bb,10,none⟩=some (.int .i64 bk.n):=Ro wc _ 10 _ _ _ HM.o.blk;have df:∀i,wc.frozen? ⟨bb,i,none⟩=false:=fun i=>by simp[World.frozen?,HM.o.blk]
       have hbw:=hlS HM.o.blk;have hhs:=HM.o.hs;have HZC:Hid (Bz wc (fun q=>q<wc.heap.size∧wr.heap.size≤q∧q≠bb∧some q≠(Value.slice D lst.length dp).ownBlock) bk Aw kw (.int .i64 lo) (.int .i64 ln) (.slice lA lk lc) (.int .i64 xo) (.int .i64 xn) (.slice xA xk xc)):=HM.o.bz.keep (Le _) (fun q hq hi=>⟨hq,hi⟩) (fun _ _ _=>rfl);have HCC:=Hd (qgE B tb A n c wc _ bk Aw kw cw lo ln lA lk lc xo xn xA xk xc HZC.o (fun q hi=>⟨hi.1,by have:=hi.2.1;omega⟩) (HL.o.only HM.o.only hBt hw) HM.o.tp (Ly hw HM.o.only.size));go_wp2_with(go_at_call 37;refine HCC.o.mono ?_;rintro e y3 ⟨bk2,Aw2,kw2,cw2,lo2,ln2,lA2,lk2,lc2,xo2,xn2,xA2,xk2,xc2,rfl,hz2,htp,ho⟩;have HZ2:=Hd hz2;have HM3:=Hd (HM.o.call htb ho htp);have e0:y3.cell? ⟨bb,0,none⟩=some (.int .i64 bk.kind):=Ro y3 _ 0 _ _ _ HM3.o.blk;have e1:y3.cell? ⟨bb,1,none⟩=some (.int .i64 bk.label):=Ro y3 _ 1 _ _ _ HM3.o.blk;have e2:y3.cell? ⟨bb,2,none⟩=some (.bool bk.skip):=Ro y3 _ 2 _ _ _ HM3.o.blk;have e3:y3.cell? ⟨bb,3,none⟩=some (.slice Aw kw cw):=Ro y3 _ 3 _ _ _ HM3.o.blk;have e4:y3.cell? ⟨bb,4,none⟩=some (.int .i64 lo):=Ro y3 _ 4 _ _ _ HM3.o.blk;have e5:y3.cell? ⟨bb,5,none⟩=some (.int .i64 ln):=Ro y3 _ 5 _ _ _ HM3.o.blk;have e6:y3.cell? ⟨bb,6,none⟩=some (.slice lA lk lc):=Ro y3 _ 6 _ _ _ HM3.o.blk;have e7:y3.cell? ⟨bb,7,none⟩=some (.int .i64 xo):=Ro y3 _ 7 _ _ _ HM3.o.blk;have e8:y3.cell? ⟨bb,8,none⟩=some (.int .i64 xn):=Ro y3 _ 8 _ _ _ HM3.o.blk;have e9:y3.cell? ⟨bb,9,none⟩=some (.slice xA xk xc):=Ro y3 _ 9 _ _ _ HM3.o.blk;have e10:y3.cell? ⟨bb,10,none⟩=some (.int .i64 bk.n):=Ro y3 _ 10 _ _ _ HM3.o.blk;have ef:∀i,y3.frozen? ⟨bb,i,none⟩=false:=(fun i=>by simp[World.frozen?,HM3.o.blk]);clear hz2 htp ho);go_meet;have hwD:∀q,(Value.slice D lst.length dp).ownBlock=some q→q<wc.heap.size:=fun q hq=>(aI HM.o.wt hq).2;have hz:=HZ2.o.keep (I':=fun q=>wr.heap.size≤q∧q≠bb∧some q≠(Value.slice D lst.length dp).ownBlock) (Le _) (fun q hq hi=>by
        rcases hi with hi|hi
        ·exact hi.2
        ·exact⟨by omega,by omega,fun e=>by have:=hwD q e.symm;omega⟩) (fun _ _ _=>rfl)
       exact⟨lst,D,dp,rfl,hls,hlx,_,_,_,_,_,_,_,_,_,_,_,_,_,_,HM3.o.put htb [(0,.int .i64 bk2.kind),(1,.int .i64 bk2.label),(2,.bool bk2.skip),(3,.slice Aw2 kw2 cw2),(4,.int .i64 lo2),(5,.int .i64 ln2),(6,.slice lA2 lk2 lc2),(7,.int .i64 xo2),(8,.int .i64 xn2),(9,.slice xA2 xk2 xc2),(10,.int .i64 bk2.n)] (bk':=bk2) hz (setA11 ..)⟩
      have e0':(bk.kind==0)=false:=by simpa using h0
      clear h0;go_wp2_with fail;go_meet;exact⟨lst,D,dp,rfl,hls,hlx,_,_,_,_,_,_,_,_,_,_,_,_,_,_,HM.o⟩
     case rest=>
     clear HM;obtain⟨lst',D',dp',rfl,hls',hlx',bk,Aw,kw,cw,lo,ln,lA,lk,lc,xo,xn,xA,xk,xc,hM⟩:=hcut;have HM:=Hd hM;have HX':=Hd hlx';have hsw:=hM.only.size;have HOC:Hid (wc.ownsRow w.heap.size 54 11 (.slice C2 bl2.length cp2) bl2.length xs2):=hM.ownC;clear hM hlx' hlx HFF;have d0:wc.cell? ⟨bb,0,none⟩=some (.int .i64 bk.kind):=Ro wc _ 0 _ _ _ HM.o.blk;have d1:wc.cell? ⟨bb,1,none⟩=some (.int .i64 bk.label):=Ro wc _ 1 _ _ _ HM.o.blk;have d2:wc.cell? ⟨bb,2,none⟩=some (.bool bk.skip):=Ro wc _ 2 _ _ _ HM.o.blk;have d3:wc.cell? ⟨bb,3,none⟩=some (.slice Aw kw cw):=Ro wc _ 3 _ _ _ HM.o.blk;have d4:wc.cell? ⟨bb,4,none⟩=some (.int .i64 lo):=Ro wc _ 4 _ _ _ HM.o.blk;have d5:wc.cell? ⟨bb,5,none⟩=some (.int .i64 ln):=Ro wc _ 5 _ _ _ HM.o.blk;have d6:wc.cell? ⟨bb,6,none⟩=some (.slice lA lk lc):=Ro wc _ 6 _ _ _ HM.o.blk;have d7:wc.cell? ⟨bb,7,none⟩=some (.int .i64 xo):=Ro wc _ 7 _ _ _ HM.o.blk;have d8:wc.cell? ⟨bb,8,none⟩=some (.int .i64 xn):=Ro wc _ 8 _ _ _ HM.o.blk;have d9:wc.cell? ⟨bb,9,none⟩=some (.slice xA xk xc):=Ro wc _ 9 _ _ _ HM.o.blk;have d10:wc.cell? ⟨bb,10,none⟩=some (.int .i64 bk.n):=Ro wc _ 10 _ _ _ HM.o.blk;have df:∀i,wc.frozen? ⟨bb,i,none⟩=false:=fun i=>by simp[World.frozen?,HM.o.blk]
     go_wp2_with(at_builtin;refine wpList_append_lies _ rfl (.tmp 95) (.tmp 97) 29 rfl w.heap.size 54 iB zB 11 136 underlying29 HIB.o HZB.o hB1 hB2 hBs (by omega) (.slice C2 bl2.length cp2) bl2.length xs2 rfl (HOC.o.alloc _) ⟨wc.heap.size,0,none⟩ 1 1 [.int .i64 bk.kind,.int .i64 bk.label,.bool bk.skip,.slice Aw kw cw,.int .i64 lo,.int .i64 ln,.slice lA lk lc,.int .i64 xo,.int .i64 xn,.slice xA xk xc,.int .i64 bk.n] rfl rfl (Nk (Hn wc _)) (by intro u hu;simp only[List.mem_cons,List.not_mem_nil,or_false]at hu;rcases hu with rfl|rfl|rfl|rfl|rfl|rfl|rfl|rfl|rfl|rfl|rfl<;>rfl) (by omega) (by unfold maxLen;omega) (by omega) (by simp;omega) _ rfl ?_;intro g9 c9 w9 ho9 hg9 hl9 hlt9;have HF9:=Hd (HM.o.fin htb (nB _ _) ho9 hg9 hl9);clear ho9 hg9 hl9 hlt9);exact⟨⟨j-1,lab2+1,lst',_,_,_,_,D',dp',by omega,by omega,by omega,by omega,by simp only[La,Lc,List.length_nil];omega,hls',HX'.o,by simp,rfl,rfl,by go_num,HF9.o⟩,by simp only[intOf];omega⟩
    ·have gj:decide (j>0)=false:=Df hj;have gj2:decide (0<j)=false:=Df hj;go_wp2_with fail;have HR3:Hid (FlRel3 B tb A n c w k (.slice C2 bl2.length cp2) (.slice D lst.length dp) wr):=⟨lst,bl2,C2,cp2,xs2,D,dp,by omega,hls,hlx,rfl,rfl,HF.o⟩;clear HF hlx hls hb7;go_loopw[3,6] (FlRel3 B tb A n c w k) (fun _ op _=>lenOf op)
     case atStart=>exact HR3.o
     case round=>
      obtain⟨lst3,bl3,C3,cp3,xs3,D3,dp3,hb3,hls3,hlx3,rfl,rfl,hF⟩:=hrel;have HF:=Hd hF;clear hF HR3;rcases qgR lst3 with rfl|⟨l',x,rfl⟩
      ·go_wp2_with fail;exact⟨⟨k+1,lab2,bl3,C3,cp3,xs3,by omega,hl0,by omega,by simp at hb3;omega,rfl,rfl,by go_num,HF.o.fresh⟩,by simp only[intOf];omega⟩
      ·have hx:=hlx3 x (by simp);have hlx4:∀y∈l',1≤y∧y≤3:=fun y hy=>hlx3 y (by simp[hy]);have hlen:(l'++[x]).length=l'.length+1:=by simp
       rw[hlen]at hb3 hls3⊢
       obtain⟨N,hN⟩:∃N,N=l'.length:=⟨_,rfl⟩;have hw:=HF.o.wt;rw[hlen,←hN]at hw;obtain⟨gD,hgD,q1,q2,q3,q4,_⟩:=dQ hw (by omega);subst hgD;have cx:wr.cell? ⟨gD,N,none⟩=some (.int .i64 x):=by
        rw[hw.cellAt N (by omega)];unfold ints;rw[Gm,Ga (by omega),show N-l'.length=0 by omega];rfl
       rw[←hN]at hb3 hls3⊢
       have HNN:=Hd hN;have HX4:=Hd hlx4;have HOC:=Hd HF.o.bk.own;have n1:IntKind.i64.wrap (((N+1:Nat):Int)-1)=(N:Int):=by rw[show((N+1:Nat):Int)-1=(N:Int)by omega];exact IntWalk.i64_in _ (by omega)
       have n2:((N+1:Nat):Int)=(N:Int)+1:=by omega
       have n3:IntKind.i64.wrap ((N:Int)+1-1)=(N:Int):=by rw[show(N:Int)+1-1=(N:Int)by omega];exact IntWalk.i64_in _ (by omega)
       have n4:(0:Int)≤(N:Int):=by omega
       have n5:(N:Int)<(N:Int)+1:=by omega
       have n6:(N:Int)≤(dp3:Int):=by omega
       have n7:N≤dp3:=by omega
       have n8:(N:Int).toNat=N:=by omega
       have g1:decide ((N:Int)+1>0)=true:=Dt (by omega);have g2:decide (0<N+1)=true:=Dt (by omega);clear hN hw hlen hlx3 hlx4;go_wp2_with(at_builtin;refine wpList_append_lies _ rfl (.tmp 102) (.tmp 110) 29 rfl w.heap.size 54 iB zB 11 136 underlying29 HIB.o HZB.o hB1 hB2 hBs (by omega) (.slice C3 bl3.length cp3) bl3.length xs3 rfl (HOC.o.alloc _) ⟨wr.heap.size,0,none⟩ 1 1 [.int .i64 5,.int .i64 0,.bool false,.slice none 0 0,.int .i64 0,.int .i64 0,.slice none 0 0,.int .i64 0,.int .i64 0,.slice none 0 0,.int .i64 x] rfl rfl (Nk (Hn wr _)) (by intro u hu;simp only[List.mem_cons,List.not_mem_nil,or_false]at hu;rcases hu with rfl|rfl|rfl|rfl|rfl|rfl|rfl|rfl|rfl|rfl|rfl<;>rfl) (by omega) (by unfold maxLen;omega) (by omega) (by have:=HF.o.only.size;simp;omega) _ rfl ?_;intro g9 c9 w9 ho9 hg9 hl9 hlt9;have HF9:=Hd (HF.o.add (f:=⟨5,0,0,0,x⟩) htb (by unfold fok I64;dsimp only;omega) (nB _ _) ho9 hg9 hl9);clear ho9 hg9 hl9 hlt9);exact⟨⟨l',_,_,_,_,_,dp3,by simp only[La,Lc,List.length_nil];have:=HNN.o;omega,by have:=HNN.o;omega,HX4.o,by simp,by rw[HNN.o],HF9.o.pop⟩,by simp[lenOf]⟩
  ·go_wp2_with fail;go_ret;exact⟨bl,C,cp,xs,rfl,by omega,HF.o.bk.mono fun g _ hi=>hi.1,HF.o.tp,HF.o.only⟩
