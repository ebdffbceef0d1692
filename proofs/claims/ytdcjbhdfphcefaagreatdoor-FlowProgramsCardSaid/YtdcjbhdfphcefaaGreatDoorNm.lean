/- Laws for a w. -/
import Derived.Test.YtdcjbhdfphcefaaGreatDoorEn
import Derived.Test.YtdcjbhdfphcefaaGreatDoorXmc
namespace Go.Proofs.YtdcjbhdfphcefaaGreatDoor
set_option linter.all false
set_option maxRecDepth 100000
set_option maxHeartbeats 40000000
open Go.Proofs.Tryz
open Go.RowKit
theorem MX.hides{w W:World}{B:Nat}{F:Fp}{L:Lb}{sk:Bool}{m:MS}{l:List Nat}(h:MX w B F L sk m)(hb:Bw w W)(hs:∀s∈l,w.heap.size<=s/\s<W.heap.size):MX W B {F with av:=l++F.av} L sk m:=by
 have h':=h.below hb;obtain⟨A1,A2,A3,AC,c1,c2,c3,capc,xs,hbk,hL,ho,hf,ha,hc⟩:=h.ex;obtain⟨A1',A2',A3',AC',c1',c2',c3',capc',xs',hbk',hL',ho',hf',ha',hc'⟩:=h'.ex;have hmb:=h.lt;have e:=(hb.block _ hmb).trans hbk;rw[hbk']at e;simp only[Oi,Obj.cells.injEq,Array.mk.injEq,zdG,List.cons.injEq,Vs,true_and,and_true]at e;have hxs:xs'=xs:=by
  have q:=aC ho λg hg _=>hb.block g hg;obtain⟨_,_,_,⟨e1,e2⟩⟩:=e;subst e1 e2;exact jK ho' q
 refine⟨h'.mb_ge,h'.sb_ge,h'.lb_ge,h'.ne1,h'.ne2,λx hx=> ?_,h'.tab,h'.tabB,h'.tn,h'.tnB,h'.fine,h'.sto,h'.vf,h'.pos,h'.prog,h'.steps,h'.err,h'.few,h'.calls,A1',A2',A3',AC',c1',c2',c3',capc',xs',hbk',hL',ho',hf',ha',?_⟩
 ·rcases Ma.1 hx with q|q
  ·exact(hs x q).2
  ·exact h'.av x q
 ·rw[hxs];exact hc.keep hb.size (λg hg hI=>⟨hI.1,λhk=>by
   rcases Ma.1 hk with q|q
   ·have:=(hs g q).1;omega
   ·exact hI.2 q⟩) λg hg _=>hb.block g hg
theorem MX.keep3{w w':World}{B:Nat}{F:Fp}{L:Lb}{sk:Bool}{m:MS}{Z:Nat->Prop}(h:MX w B F L sk m)(hc:Chg Z w w')(hZ:∀s,Z s->s∈F.av/\B<=s/\¬F.own s):MX w' B F L sk m:=by
 have hlt:=h.lt;have hge:=h.mb_ge;have ko:∀g,F.own g->w'.heap[g]? =w.heap[g]? :=λg hg=>hc.block g (h.own_ge g hg).2 λe=>(hZ g e).2.2 hg;have kl:∀g,g<B->w'.heap[g]? =w.heap[g]? :=λg hg=>hc.block g (by omega) λe=>by have:=(hZ g e).2.1;omega
 obtain⟨A1,A2,A3,AC,c1,c2,c3,capc,xs,hb,hL,ho,hf,ha,hr⟩:=h.ex;obtain⟨t1,t2,t3⟩:=h.tab;obtain⟨n1,n2,n3⟩:=h.tn;refine⟨h.mb_ge,h.sb_ge,h.lb_ge,h.ne1,h.ne2,λx hx=>Lt (h.av x hx) hc.size,⟨t1,t2,(kl _ h.tabB).trans t3⟩,h.tabB,⟨n1,n2,(kl _ h.tnB).trans n3⟩,h.tnB,h.fine,h.sto.keep (ko _ (.inr (.inl rfl))) (ko _ (.inr (.inr (.inl rfl)))),h.vf,h.pos,h.prog,h.steps,h.err,h.few,h.calls,A1,A2,A3,AC,c1,c2,c3,capc,xs,(ko _ (.inl rfl)).trans hb,
  hL.keep (λp hp=>Wb (kl p.block hp)) (Le _),aC ho λg hg hv=>ko g (.inr (.inr (.inr ?_))),hf,ha,hr.keep hc.size (λ_ _ h=>h) λg hg hI=>hc.block g hg λe=>hI.2 (hZ g e).1⟩
 rcases AC with _|a
 ·simp[Value.ownBlock]at hv
 ·rw[<-ha];simpa[Value.ownBlock]using hv
theorem MP.err_cell{B:Nat}{F:Fp}{L:Lb}{sk:Bool}{m':MS}{w w':World}(k:MP B F L sk m' w w'):w'.cell? ⟨F.mb,10,none⟩=some (.int .i64 m'.err)/\w'.frozen? ⟨F.mb,10,none⟩=false:=by
 obtain⟨F',k1,k2,k3⟩:=k;obtain⟨A1,A2,A3,AC,c1,c2,c3,capc,xs,⟨-,-,-,-,-,-,-,-,-,-,d10⟩,-,-,-,-,hfr⟩:=k2.cells;rw[k1.mb]at d10 hfr;exact⟨d10,hfr 10⟩
theorem MP.set_err{B:Nat}{F:Fp}{L:Lb}{sk:Bool}{m':MS}{w w':World}{t:Int}(k:MP B F L sk m' w w'):MP B F L sk {m' with err:=t} w (w'.setCell ⟨F.mb,10,none⟩ (.int .i64 t)):=by
 obtain⟨F',k1,k2,k3⟩:=k;have q:=k2.set_err (t:=t);rw[k1.mb]at q;exact⟨F',k1,q,k3.trans (aH _ _ _ _ _ F.own_mb)⟩
def StpR(w':World)(n0:Nat)(t:Stp)(v:Value):Prop:=
 ∃(A:OA) (c:Nat),v=.agg #[.int .i64 t.1,.int .i64 t.2.1,.slice A t.2.2.length c]/\RdV w' (λg=>n0<=g) A t.2.2.length t.2.2/\t.2.2.length<=1000
def zlQ(B:Nat)(F:Fp)(L:Lb)(sk:Bool)(m':MS)(n1:Nat)(w w':World):Prop:=w.heap.size<=n1/\∃F',(∀g,F'.own g->g<n1)/\Mv w F F'/\MX w' B F' L sk m'/\Chg F.own w w'
def zjH(B:Nat)(F:Fp)(L:Lb)(sk:Bool)(m:MS)(w:World)(e:Ending)(w':World):Prop:=
 ∃v n1,e=.returned (.tuple #[v,.int .i64 (zcY L sk m).2.2])/\StpR w' n1 (zcY L sk m).2.1 v/\zlQ B F L sk (zcY L sk m).1 n1 w w'
theorem rW(w:World)(I:Nat->Prop)(A:OA):RdV w I A 0 []:=by
 unfold RdV;exact⟨rfl,by unfold maxLen;omega,by simp,λh=>absurd h (by omega)⟩
structure NxR(W0:World)(B:Nat)(F:Fp)(s:Nat)(L:Lb)(sk:Bool)(m:MS)(gk:Nat)(cur:MS)(F':Fp)(W:World):Prop where
 rest:zeB cur<=gk
 next:zcY L sk m=zfZ L sk gk cur
 mv:Mv W0 {F with av:=[s,s+1]++F.av} F'
 mx:MX W B F' L sk cur
 chg:Chg (λg=>F.own g\/g=s+1) W0 W
 st:W.heap[s]? =some (.cells zcT 40 (0,0))
 o:∃(o1 o2:Int) (A:OA) (n c:Nat),W.heap[s+1]? =some (.cells #[.int .i64 o1,.int .i64 o2,.slice A n c] 40 (0,0))
theorem NxR.fin{w W0 W W':World}{B:Nat}{F F':Fp}{L:Lb}{sk:Bool}{m cur:MS}(h:MX w B F L sk m)(hb:Bw w W0)(hs:w.heap.size+1<W0.heap.size)(hmv:Mv W0 {F with av:=[w.heap.size,w.heap.size+1]++F.av} F')(hmx:MX W B F' L sk cur)(hch:Chg (λg=>F.own g\/g=w.heap.size+1) W0 W)(hc:Chg (λg=>g=w.heap.size\/g=w.heap.size+1) W W'){n1:Nat}(hn1:w.heap.size<=n1)(hn2:∀g,F'.own g->g<n1):zlQ B F L sk cur n1 w W':=by
 have hno:∀s,w.heap.size<=s->s<W0.heap.size->¬F'.own s:=λs h1 h2 ho=>by
  have:F.own s:=hmv.own s h2 ho;have:=(h.own_ge s this).2;omega
 have hav:F'.av=[w.heap.size,w.heap.size+1]++F.av:=hmv.av;have hB:=h.Ble;have q:=(hmx.keep3 hc (λs hz=>by
  rcases hz with e|e
  ·subst e;exact⟨by rw[hav];simp,hB,hno _ (Le _) (by omega)⟩
  ·subst e;exact⟨by rw[hav];simp,by omega,hno _ (by omega) hs⟩)).unhide (av:=F.av) (λx hx=>by rw[hav];exact List.mem_append_right _ hx)
 refine⟨hn1,{F' with av:=F.av},hn2,⟨hmv.mb,hmv.sb,rfl,?_,?_⟩,q,⟨(hc.os.trans hch.os).trans hb.os,(hc.tape.trans hch.tape).trans hb.tape,(hc.output.trans hch.output).trans hb.output,Ly hb.size (Ly hch.size hc.size),λg hg ho=> ?_⟩⟩
 ·rcases hmv.lb with e|e
  ·exact .inl e
  ·exact .inr (Ly hb.size e)
 ·rcases hmv.ac with e|⟨g,e,e2⟩
  ·exact .inl e
  ·exact .inr ⟨g,e,Ly hb.size e2⟩
 ·have h1:=Lt hg hb.size;exact((hc.block g (Lt h1 hch.size) (by omega)).trans (hch.block g h1 (by rintro(k|k);exact ho k;omega))).trans (hb.block g hg)
theorem NxR.go{W0 W W2:World}{B:Nat}{F F' F2:Fp}{s:Nat}{L:Lb}{sk:Bool}{m cur cur2:MS}{gk:Nat}(h:NxR W0 B F s L sk m (gk+1) cur F' W)(hs:0<=cur.steps/\cur.steps<=20000)(hr:zbZ L sk cur=(cur2,none))(hsz:s+1<W0.heap.size)(hno:∀g,s<=g->¬F.own g)
 (k1:Mv W F' F2) (k2:MX W2 B F2 L sk cur2) (k3:Chg (λg=>F'.own g\/g=s+1) W W2) (hout:∃(o1 o2:Int) (A:OA) (n c:Nat),W2.heap[s+1]? =some (.cells #[.int .i64 o1,.int .i64 o2,.slice A n c] 40 (0,0))):NxR W0 B F s L sk m gk cur2 F2 W2:=by
 have hw:=h.chg.size;refine⟨?_,?_,h.mv.trans k1 hw,k2,?_,?_,hout⟩
 ·have:=nF L sk cur hs (by rw[hr]);rw[hr]at this;have:=h.rest;dsimp only at*
  omega
 ·rw[h.next,aY,hr]
 ·refine⟨k3.os.trans h.chg.os,k3.tape.trans h.chg.tape,k3.output.trans h.chg.output,Ly hw k3.size,λg hg ho=>(k3.block g (Lt hg hw) (by
   rintro(hk|hk)
   ·exact ho (.inl (h.mv.own g hg hk))
   ·exact ho (.inr hk))).trans (h.chg.block g hg ho)⟩
 ·exact(k3.block s (Lt (by omega) hw) (by
   rintro(hk|hk)
   ·exact hno s (Le _) (h.mv.own s (by omega) hk)
   ·omega)).trans h.st
theorem NxR.chg2{W0 W W2:World}{B:Nat}{F F':Fp}{s:Nat}{L:Lb}{sk:Bool}{m cur:MS}{gk:Nat}(h:NxR W0 B F s L sk m gk cur F' W)(k3:Chg (λg=>F'.own g\/g=s+1) W W2):Chg (λg=>F.own g\/g=s+1) W0 W2:=
 ⟨k3.os.trans h.chg.os,k3.tape.trans h.chg.tape,k3.output.trans h.chg.output,Ly h.chg.size k3.size,λg hg ho=>(k3.block g (Lt hg h.chg.size) (by
  rintro(hk|hk)
  ·exact ho (.inl (h.mv.own g hg hk))
  ·exact ho (.inr hk))).trans (h.chg.block g hg ho)⟩
theorem NxR.done{W0 W:World}{B:Nat}{F F':Fp}{s:Nat}{L:Lb}{sk:Bool}{m cur cur2:MS}{gk:Nat}{r:Stp×Int}(h:NxR W0 B F s L sk m (gk+1) cur F' W)(hr:zbZ L sk cur=(cur2,some r)):zcY L sk m=(cur2,r):=by
 rw[h.next,aY,hr]
theorem NxR.pos{W0 W:World}{B:Nat}{F F':Fp}{s:Nat}{L:Lb}{sk:Bool}{m cur:MS}{gk:Nat}(h:NxR W0 B F s L sk m gk cur F' W):∃k,gk=k+1:=⟨gk-1,by have:=h.rest;have:=oQ cur;omega⟩
theorem MX.exeA{B:Nat}{F':Fp}{L:Lb}{sk:Bool}{m2:MS}{w3:World}{s:Nat}{er:Int}(k2:MX w3 B F' L sk m2)(hav:s∈F'.av)(hB:B<=s)(hno:¬F'.own s)(a b c:Value):
 MX ((((w3.setCell ⟨s,0,none⟩ a).setCell ⟨s,1,none⟩ b).setCell ⟨s,2,none⟩ c).setCell ⟨F'.mb,10,none⟩ (.int .i64 er)) B F' L sk {m2 with err:=er}:=
 (k2.keep3 (aV a b c) (λx hx=>by subst hx;exact⟨hav,hB,hno⟩)).set_err (t:=er)
theorem MP.exeA{B:Nat}{F':Fp}{L:Lb}{sk:Bool}{m2:MS}{W w3:World}{s:Nat}{er:Int}(hmp:MP B F' L sk m2 W w3)(hav:s∈F'.av)(hB:B<=s)(hs:s<W.heap.size)(hno:¬F'.own s)(a b c:Value):
 ∃F2,Mv W F' F2/\MX ((((w3.setCell ⟨s,0,none⟩ a).setCell ⟨s,1,none⟩ b).setCell ⟨s,2,none⟩ c).setCell ⟨F'.mb,10,none⟩ (.int .i64 er)) B F2 L sk {m2 with err:=er}/\
  Chg (λg=>F'.own g\/g=s) W ((((w3.setCell ⟨s,0,none⟩ a).setCell ⟨s,1,none⟩ b).setCell ⟨s,2,none⟩ c).setCell ⟨F'.mb,10,none⟩ (.int .i64 er)):=by
 obtain⟨F2,k1,k2,k3⟩:=hmp;have q:=(k2.keep3 (aV a b c) (λx hx=>by subst hx;exact⟨by rw[k1.av];exact hav,hB,λho=>hno (k1.own _ hs ho)⟩)).set_err (t:=er);rw[k1.mb]at q;exact⟨F2,k1,q,((k3.mono λg _ hg=>.inl hg).trans ((aV a b c).mono λg _ hg=>.inr hg)).trans (aH _ _ _ _ _ (.inl F'.own_mb))⟩
theorem MP.exeB{B:Nat}{F':Fp}{L:Lb}{sk:Bool}{m2:MS}{W w3:World}{s:Nat}{er:Int}(hmp:MP B F' L sk m2 W w3)(hav:s∈F'.av)(hB:B<=s)(hs:s<W.heap.size)(hno:¬F'.own s)(a b c:Value):
 ∃F2,Mv W F' F2/\MX ((((w3.setCell ⟨F'.mb,10,none⟩ (.int .i64 er)).setCell ⟨s,0,none⟩ a).setCell ⟨s,1,none⟩ b).setCell ⟨s,2,none⟩ c) B F2 L sk {m2 with err:=er}/\
  Chg (λg=>F'.own g\/g=s) W ((((w3.setCell ⟨F'.mb,10,none⟩ (.int .i64 er)).setCell ⟨s,0,none⟩ a).setCell ⟨s,1,none⟩ b).setCell ⟨s,2,none⟩ c):=by
 obtain⟨F2,k1,k2,k3⟩:=hmp.set_err (t:=er);have q:=k2.keep3 (aV a b c) (λx hx=>by subst hx;exact⟨by rw[k1.av];exact hav,hB,λho=>hno (k1.own _ hs ho)⟩);exact⟨F2,k1,q,(k3.mono λg _ hg=>.inl hg).trans ((aV a b c).mono λg _ hg=>.inr hg)⟩
theorem dD{fn:Func}{p u:Tmp}{ty:TypeId}(h:fn.results= #[.cell p ty,.tmp u])(tmps:Array Value)(w:World)(g:Nat)(t:TypeId)(cs:Array Value)(fr:Nat×Nat)(fs:Array Field)
 (hp:tmps.getD p undef=.pointer (some ⟨g,0,none⟩)) (hg:w.heap[g]? =some (.cells cs t fr))
 (hu:prog.underlying ty=some (.struct fs)) (hi:(prog.info? ty).map (·.size)=some cs.size):
 (results fn tmps).run prog w=.ok (.tuple #[.agg cs,tmps.getD u undef]) w:=by
 have hp':tmps[p]?.getD undef=.pointer (some ⟨g,0,none⟩):=by simpa using hp
 simp[results,h,hp',asAddr,run_loadVar_row w g t ty cs fr (.struct fs) hg hu rfl hi]
theorem qM(w:World)(B:Nat)(F:Fp)(L:Lb)(sk:Bool)(m:MS)(h:MX w B F L sk m):
 Calls prog 19 #[.pointer (some ⟨F.mb,0,none⟩)] w (zjH B F L sk m w):=by
 have HX:=Hd h;have hBle:=h.Ble;have hmb:=h.lt;obtain⟨W0,hW0⟩:∃W0,W0=(w.alloc (.cells zcT 40)).alloc (.cells zcT 40):=⟨_,rfl⟩;have HB0:Hid (Bw w W0):=by unfold Hid;rw[hW0];exact(nB _ _).alloc (by simp) _
 have h0:W0.heap[w.heap.size]? =some (.cells zcT 40 (0,0)):=by rw[hW0];exact(Bm _ _ _ (by simp)).trans (Hn w _)
 have h1:W0.heap[w.heap.size+1]? =some (.cells zcT 40 (0,0)):=by
  rw[hW0];have:=Hn (w.alloc (.cells zcT 40)) (.cells zcT 40);simpa using this
 have hsz:w.heap.size+1<W0.heap.size:=hlS h1;have HSZ:=Hd hsz;have HR0:Hid (NxR W0 B F w.heap.size L sk m (zeB m) m {F with av:=[w.heap.size,w.heap.size+1]++F.av} W0):=
  ⟨Le _,rfl,Mv.refl _ _,h.hides HB0.o (λs hs=>by simp at hs;omega),Chg.refl _ _,h0,0,0,none,0,0,h1⟩
 have HNO:Hid (∀g,w.heap.size<=g->¬F.own g):=λg hg ho=>by have:=(HX.o.own_ge g ho).2;omega
 have HW0:Hid (W0=(w.alloc (.cells #[.int .i64 0,.int .i64 0,.slice none 0 0] 40)).alloc (.cells #[.int .i64 0,.int .i64 0,.slice none 0 0] 40)):=hW0;clear hW0 h0 h1 h hsz;go_enter func19,ntmps19;go_wp2_with fail;go_step3;go_wp2_with fail;go_step3;go_wp2_with fail;rw[<-HW0.o];go_loopg[5] (zeB m) (λgk fv W=>∃(cur:MS) (F':Fp),NxR W0 B F w.heap.size L sk m gk cur F' W)
 case atStart=>exact⟨m,_,HR0.o⟩
 case round=>
  obtain⟨cur,F',hR⟩:=hrel;obtain⟨gk',hgk⟩:=hR.pos;subst hgk;have HR:=Hd hR;have hst:=hR.st;have hmbe:F'.mb=F.mb:=hR.mv.mb;have hxc:=hR.mx;obtain⟨o1,o2,oA,on,oc,hout⟩:=hR.o;have HOUT:=Hd hout;have HST:=Hd hst;obtain⟨A1,A2,A3,AC,c1,c2,c3,capc,xs,⟨d0,d1,-,-,d4,d5,-,-,d8,d9,d10⟩,hL,-,-,-,hfr⟩:=hxc.cells;have hmw:=hxc.lt;have hsteps:=hxc.steps;have hprog:=hxc.prog;obtain⟨Ay,cy,aby,offy,y1,hAy,haby,-,y2,hfst,hply⟩:=hxc.prog_cells hprog;subst hAy;rw[hmbe]at d0 d1 d4 d5 d8 d9 d10 hfr hmw y1;have s0:wr.cell? ⟨w.heap.size,0,none⟩=some (.int .i64 0):=Ro wr _ 0 _ _ _ hst;have s1:wr.cell? ⟨w.heap.size,1,none⟩=some (.int .i64 0):=Ro wr _ 1 _ _ _ hst;have s2:wr.cell? ⟨w.heap.size,2,none⟩=some (.slice none 0 0):=Ro wr _ 2 _ _ _ hst;have sf:∀i,wr.frozen? ⟨w.heap.size,i,none⟩=false:=λi=>by simp[World.frozen?,hst]
  have HD:=Hd d0;clear hR hst hout hxc d1;by_cases he:cur.err=0
  case neg=>
   have he':(cur.err !=0)=true:=by simpa using he
   have ER:Hid (zcY L sk m=(cur,(0,0,[]),cur.err)):=HR.o.done (by rw[bM,Ip he]);clear he;go_wp2_with fail;go_region;go_wp2_with fail;rw[Exit.noGoto_ret];refine bodyPost_ret (dD rfl _ _ w.heap.size _ _ _ _ rfl (show(World.heap _)[_]? =_ from aS HST.o) underlying40 zbL) rfl ?_;refine⟨_,wr.heap.size,by rw[ER.o];rfl,⟨none,0,by rw[ER.o];rfl,by rw[ER.o];exact rW _ _ _,by rw[ER.o];exact Lq _⟩,?_⟩;rw[ER.o];exact NxR.fin HX.o HB0.o HSZ.o HR.o.mv HR.o.mx HR.o.chg (((aV _ _ _).mono λg _ hg=>.inl hg).trans (Chg.of_below (aA (Bf _ _) 1))) (Ly HB0.o.size HR.o.chg.size) (λg hg=>(HR.o.mx.own_ge g hg).2)
  by_cases hn:cur.ended=true
  ·rw[hn]at d9;have he':(cur.err !=0)=false:=by simpa using he
   have ER:Hid (zcY L sk m=(cur,(2,0,[]),0)):=HR.o.done (by rw[bM,Iq (by simpa using he),Ip hn]);clear he hn;go_wp2_with fail;rw[Exit.noGoto_ret];refine bodyPost_ret (dD rfl _ _ w.heap.size _ _ _ _ rfl (aS HST.o) underlying40 zbL) rfl ?_;refine⟨_,wr.heap.size,by rw[ER.o];rfl,⟨none,0,by rw[ER.o];rfl,by rw[ER.o];exact rW _ _ _,by rw[ER.o];exact Lq _⟩,?_⟩;rw[ER.o];exact NxR.fin HX.o HB0.o HSZ.o HR.o.mv HR.o.mx HR.o.chg ((aV _ _ _).mono λg _ hg=>.inl hg) (Ly HB0.o.size HR.o.chg.size) (λg hg=>(HR.o.mx.own_ge g hg).2)
  have hn0:cur.ended=false:=by simpa using hn
  clear hn;have hn:=hn0;clear hn0;rw[hn]at d9;have he':(cur.err !=0)=false:=by simpa using he
  by_cases h2:cur.steps=20000
  ·have h2':(cur.steps==20000)=true:=by simpa using h2
   have ER:Hid (zbZ L sk cur=({cur with err:=10},none)):=by unfold Hid;rw[bM,Iq (by simpa using he),hn];simp[h2]
   have f10:=hfr 10;clear he hn h2;go_wp2_with fail;have HXE:=HR.o.mx.set_err (t:=10);rw[hmbe]at HXE;have HCE:Chg (λg=>F'.own g\/g=w.heap.size+1) wr (wr.setCell ⟨F.mb,10,none⟩ (.int .i64 10)):=aH _ _ _ _ _ (.inl (by rw[<-hmbe];exact F'.own_mb));go_roundg gk'
   case measure=>omega
   case rel=>exact⟨_,_,HR.o.go hsteps ER.o HSZ.o HNO.o (Mv.refl _ _) HXE HCE ⟨o1,o2,oA,on,oc,(Bj _ _ _ _ (by show w.heap.size+1≠F.mb;omega)).trans HOUT.o⟩⟩
  have h2':(cur.steps==20000)=false:=by simpa using h2
  have ER0:Hid (zbZ L sk cur=zeL L sk {cur with steps:=cur.steps+1}):=by unfold Hid;rw[bM,Iq (by simpa using he),hn];simp[h2]
  obtain⟨W1,hW1⟩:∃W1,W1=wr.setCell ⟨F.mb,8,none⟩ (.int .i64 (cur.steps+1)):=⟨_,rfl⟩;have HX1:Hid (MX W1 B F' L sk {cur with steps:=cur.steps+1}):=by
   have q:=HR.o.mx.set_steps (t:=cur.steps+1) (by omega);rw[hmbe,<-hW1]at q;exact q
  have HC1:Hid (Chg (λg=>F'.own g\/g=w.heap.size+1) wr W1):=by unfold Hid;rw[hW1];exact aH _ _ _ _ _ (.inl (by rw[<-hmbe];exact F'.own_mb))
  have hS1:W1.heap[w.heap.size]? =some (.cells zcT 40 (0,0)):=by rw[hW1];exact(Bj _ _ _ _ (by show w.heap.size≠F.mb;omega)).trans HST.o
  have hO1:W1.heap[w.heap.size+1]? =some (.cells #[.int .i64 o1,.int .i64 o2,.slice oA on oc] 40 (0,0)):=by rw[hW1];exact(Bj _ _ _ _ (by show w.heap.size+1≠F.mb;omega)).trans HOUT.o
  have HS1:=Hd hS1;have HO1:=Hd hO1;obtain⟨B1,B2,B3,BC,b1,b2,b3,bapc,bxs,⟨x0,-,-,-,x4,x5,-,-,-,-,-⟩,xL,-,-,-,xfr⟩:=HX1.o.cells;obtain⟨Az,cz,abz,offz,z1,hAz,habz,-,z2,zfst,zply⟩:=HX1.o.prog_cells hprog;subst hAz;dsimp only at x4 x5;rw[hmbe]at x0 x4 x5 xfr z1;unfold maxLen at zply;have HXL:=Hd xL;have HFS:=Hd zfst;have x10:W1.cell? ⟨F.mb,10,none⟩=some (.int .i64 cur.err):=by
   obtain⟨_,_,_,_,_,_,_,_,_,⟨-,-,-,-,-,-,-,-,-,-,q⟩,-⟩:=HX1.o.cells;rw[hmbe]at q;exact q
  have f8:=hfr 8;have xf10:=xfr 10;have hsz1:w.heap.size+1<W1.heap.size:=hlS hO1;have hmin:min (L.prg cur.prog).stop (L.bl.length:Int)=(L.prg cur.prog).stop:=by have:=zfst.2.2;omega
  have hOF':F'.own F.mb:=by rw[<-hmbe];exact F'.own_mb
  have HNF:Hid (¬F'.own w.heap.size/\¬F'.own (w.heap.size+1)):=by
   have hs':=HSZ.o;exact⟨λk=>HNO.o _ (Le _) (HR.o.mv.own _ (by omega) k),λk=>HNO.o _ (by omega) (HR.o.mv.own _ (by omega) k)⟩
  have HAV:Hid (w.heap.size+1∈F'.av):=by unfold Hid;rw[HR.o.mv.av];simp
  have HSZR:Hid (wr.heap.size<=W1.heap.size):=HC1.o.size;have HMBE:=Hd hmbe;have HW1:=Hd hW1;have he0:Hid (cur.err=0):=he;clear hS1 hO1 xL xfr zfst he hn h2 hfr d0 d4 d5 y1 y2 s0 s1 s2 sf hW1;by_cases hp0:cur.pos<0
  ·have g1:decide (cur.pos<0)=true:=Dt hp0;have ER:Hid (zbZ L sk cur=({(zbJ L {cur with steps:=cur.steps+1}).1 with err:=(zbJ L {cur with steps:=cur.steps+1}).2},none)):=by
    unfold Hid;rw[ER0.o];unfold zeL;rw[Ip (.inl hp0)]
   have HLV:Hid (∀W,Bw W1 W->Calls prog 38 #[.pointer (some ⟨F.mb,0,none⟩)] W (ziH B F' L sk {cur with steps:=cur.steps+1} W)):=λW hb=>by
    have q:=qP W B F' L sk _ (HX1.o.below hb);rw[HMBE.o]at q;exact q
   clear hmbe;go_wp2_with fail;rw[<-HW1.o];go_quiet(fail);go_wp2_with(first|(go_at_call 38;refine(HLV.o _ (aA (Bf _ _) _)).mono ?_;rintro e w2 ⟨rfl,hmp⟩;have HEC:=hmp.err_cell;have HMP:=Hd hmp;rw[HMBE.o]at HEC;obtain⟨c10,c10f⟩:=HEC;clear hmp));have HM2:=HMP.o.set_err (t:=(zbJ L {cur with steps:=cur.steps+1}).2);rw[HMBE.o]at HM2;obtain⟨F2,k1,k2,k3⟩:=HM2;go_roundg gk'
   case measure=>omega
   case rel=>exact⟨_,F2,HR.o.go hsteps ER.o HSZ.o HNO.o (k1.of_size HSZR.o) k2 ((HC1.o.drewN _).trans (k3.mono λg _ hg=>.inl hg)) ⟨o1,o2,oA,on,oc,(k3.block _ hsz1 HNF.o.2).trans HO1.o⟩⟩
  have g1:decide (cur.pos<0)=false:=Df hp0;by_cases hp1:(L.prg cur.prog).stop<=cur.pos
  ·have g2:decide (cur.pos≥(L.prg cur.prog).stop)=true:=Dt hp1;have g3:decide ((L.prg cur.prog).stop<=cur.pos)=true:=Dt hp1;have ER:Hid (zbZ L sk cur=({(zbJ L {cur with steps:=cur.steps+1}).1 with err:=(zbJ L {cur with steps:=cur.steps+1}).2},none)):=by
    unfold Hid;rw[ER0.o];unfold zeL;rw[Ip (.inr hp1)]
   have HLV:Hid (∀W,Bw W1 W->Calls prog 38 #[.pointer (some ⟨F.mb,0,none⟩)] W (ziH B F' L sk {cur with steps:=cur.steps+1} W)):=λW hb=>by
    have q:=qP W B F' L sk _ (HX1.o.below hb);rw[HMBE.o]at q;exact q
   clear hmbe;go_wp2_with fail;rw[<-HW1.o];go_quiet(fail);go_wp2_with(first|(go_at_call 38;refine(HLV.o _ (aA (Bf _ _) _)).mono ?_;rintro e w2 ⟨rfl,hmp⟩;have HEC:=hmp.err_cell;have HMP:=Hd hmp;rw[HMBE.o]at HEC;obtain⟨c10,c10f⟩:=HEC;clear hmp));have HM2:=HMP.o.set_err (t:=(zbJ L {cur with steps:=cur.steps+1}).2);rw[HMBE.o]at HM2;obtain⟨F2,k1,k2,k3⟩:=HM2;go_roundg gk'
   case measure=>omega
   case rel=>exact⟨_,F2,HR.o.go hsteps ER.o HSZ.o HNO.o (k1.of_size HSZR.o) k2 ((HC1.o.drewN _).trans (k3.mono λg _ hg=>.inl hg)) ⟨o1,o2,oA,on,oc,(k3.block _ hsz1 HNF.o.2).trans HO1.o⟩⟩
  have g2:decide (cur.pos≥(L.prg cur.prog).stop)=false:=Df hp1;have g3:decide ((L.prg cur.prog).stop<=cur.pos)=false:=Df hp1;obtain⟨P,hP⟩:∃P:Nat,cur.pos=(P:Int):=⟨cur.pos.toNat,by omega⟩;have hbl:=HX.o.fine.bl;have hPl:P<L.bl.length:=by have:=HFS.o.2.2;omega
  have hP2:0<=cur.pos/\cur.pos<=1000000:=by omega
  obtain⟨x,hx⟩:∃x,L.bl[P]? =some x:=⟨_,Gg hPl⟩;have hbk:L.blk P=x:=by unfold Lb.blk;rw[Gd,hx];rfl
  obtain⟨_,hnb,hbd⟩:=HXL.o.bl;obtain⟨ab1,off1,hB1,hab1,hcd⟩:=hbd (by omega);subst hB1;obtain⟨A,k,c,l0,l1,l2,u0,u1,u2,hrb,y0,y1',y2',y3,y4,y5,y6,y7,y8,y9,y10⟩:=(hcd P x hx).cells;have hwl:x.words.length<=1000:=HX.o.fine.wl x (Mg hx);have hBle1:=HX1.o.Ble;have HEX:Hid (∀W,Bw W1 W->Calls prog 39 #[.pointer (some ⟨F.mb,0,none⟩),.agg ⟨zaW x A k c l0 l1 l2 u0 u1 u2⟩] W (zcB B F' L sk {cur with steps:=cur.steps+1} (zbK L sk {cur with steps:=cur.steps+1} x) W)):=λW hb=>by
   have q:=qvJ W B F' L sk {cur with steps:=cur.steps+1} x A k c l0 l1 l2 u0 u1 u2 (HX1.o.below hb) (hrb.keep (λp hq=>hb.cell (by omega)) (Le _)) hP2 hwl;rw[HMBE.o]at q;exact q
  have ER1:Hid (zbZ L sk cur=match(zbK L sk {cur with steps:=cur.steps+1} x).2.1 with
   |some l=>if(zbK L sk {cur with steps:=cur.steps+1} x).2.2=0 then({(zbK L sk {cur with steps:=cur.steps+1} x).1 with err:=(zbK L sk {cur with steps:=cur.steps+1} x).2.2},some ((1,cur.pos,l),0))else({(zbK L sk {cur with steps:=cur.steps+1} x).1 with err:=(zbK L sk {cur with steps:=cur.steps+1} x).2.2},none)
   |none=>({(zbK L sk {cur with steps:=cur.steps+1} x).1 with err:=(zbK L sk {cur with steps:=cur.steps+1} x).2.2},none)):=by
   have hb':L.blk cur.pos.toNat=x:=by rw[hP,It,hbk]
   unfold Hid;rw[ER0.o];unfold zeL;dsimp only;rw[Iq (by omega),hb'];rfl
  have HPP:=Hd hP;generalize zbK L sk {cur with steps:=cur.steps+1} x=r at HEX ER1;obtain⟨m2,o,er⟩:=r;dsimp only at HEX ER1;rw[hP]at x5 g1 g2 g3 hP2 hp0 hp1;have hne1:F.mb≠w.heap.size+1:=by omega
  have hne0:F.mb≠w.heap.size:=by omega
  have HGE:Hid (B<=w.heap.size+1):=by unfold Hid;omega
  clear hx hbk hnb hbd hcd hrb hmbe hP hp0 hp1 x10 xf10;rcases o with _|l
  ·have ER:Hid (zbZ L sk cur=({m2 with err:=er},none)):=ER1.o;go_wp2_with fail;rw[<-HW1.o];go_quiet(fail);go_wp2_with fail;go_region_with(go_at_call 39;refine(HEX.o _ (aA (aA (Bf _ _) _) 1)).mono ?_;rintro e w3 ⟨v,rfl,hv,hmp,-⟩;obtain rfl:v=.agg #[.int .i64 0,.int .i64 0,.slice none 0 0]:=hv;have hno3:∀g,g<W1.heap.size->¬F'.own g->w3.heap[g]? =W1.heap[g]? :=(by obtain⟨F2,k1,k2,k3⟩:=hmp;exact λg h1 h2=>k3.block g h1 h2);have hs3:=(hno3 w.heap.size (by omega) HNF.o.1).trans HS1.o;have ho3:=(hno3 (w.heap.size+1) hsz1 HNF.o.2).trans HO1.o;have HEC:=hmp.err_cell;rw[HMBE.o]at HEC;obtain⟨c10,c10f⟩:=HEC;have t0:w3.cell? ⟨w.heap.size+1,0,none⟩=some (.int .i64 o1):=Ro w3 _ 0 _ _ _ ho3;have t1:w3.cell? ⟨w.heap.size+1,1,none⟩=some (.int .i64 o2):=Ro w3 _ 1 _ _ _ ho3;have t2:w3.cell? ⟨w.heap.size+1,2,none⟩=some (.slice oA on oc):=Ro w3 _ 2 _ _ _ ho3;have tf:(∀i,w3.frozen? ⟨w.heap.size+1,i,none⟩=false):=(λi=>by simp[World.frozen?,ho3]);have q0:w3.cell? ⟨w.heap.size,0,none⟩=some (.int .i64 0):=Ro w3 _ 0 _ _ _ hs3;have q1:w3.cell? ⟨w.heap.size,1,none⟩=some (.int .i64 0):=Ro w3 _ 1 _ _ _ hs3;have q2:w3.cell? ⟨w.heap.size,2,none⟩=some (.slice none 0 0):=Ro w3 _ 2 _ _ _ hs3;have qf:(∀i,w3.frozen? ⟨w.heap.size,i,none⟩=false):=(λi=>by simp[World.frozen?,hs3]);have HS3:=Hd hs3;have HO3:=Hd ho3;have HMP:=Hd hmp;clear hno3 hs3 ho3 hmp);all_goals
    go_wp2_with fail;go_roundg gk'
    case measure=>omega
    case rel=>first|(obtain⟨F2,k1,k2,k3⟩:=MP.exeA (er:=er) HMP.o HAV.o HGE.o hsz1 HNF.o.2 (.int .i64 0) (.int .i64 0) (.slice none 0 0);rw[HMBE.o]at k2 k3;exact⟨_,F2,HR.o.go hsteps ER.o HSZ.o HNO.o (k1.of_size HSZR.o) k2 (((HC1.o.drewN _).drewN _).trans k3) ⟨_,_,_,_,_,(Bj _ _ _ _ (by show w.heap.size+1≠F.mb;omega)).trans (aS HO3.o)⟩⟩)|(obtain⟨F2,k1,k2,k3⟩:=MP.exeB (er:=er) HMP.o HAV.o HGE.o hsz1 HNF.o.2 (.int .i64 0) (.int .i64 0) (.slice none 0 0);rw[HMBE.o]at k2 k3;exact⟨_,F2,HR.o.go hsteps ER.o HSZ.o HNO.o (k1.of_size HSZR.o) k2 (((HC1.o.drewN _).drewN _).trans k3) ⟨_,_,_,_,_,aS ((Bj _ _ _ _ (by show w.heap.size+1≠F.mb;omega)).trans HO3.o)⟩⟩)
  ·by_cases hee:er=0
   case neg=>
    have ER:Hid (zbZ L sk cur=({m2 with err:=er},none)):=by unfold Hid;rw[ER1.o];exact Iq hee
    have hee':(er==0)=false:=by simpa using hee
    clear hee;go_wp2_with fail;rw[<-HW1.o];go_quiet(fail);go_wp2_with fail;go_region_with(go_at_call 39;refine(HEX.o _ (aA (aA (Bf _ _) _) 1)).mono ?_;rintro e w3 ⟨v,rfl,hv,hmp,-⟩;obtain⟨C,cp,hve,hrv,hll⟩:∃(C:OA) (cp:Nat),v=.agg #[.int .i64 1,.int .i64 cur.pos,.slice C l.length cp]/\RdV w3 (λg=>W1.heap.size<=g) C l.length l/\l.length<=1000:=hv;subst hve;have HRV:=Hd hrv;have HLL:=Hd hll;clear hrv hll;have hno3:∀g,g<W1.heap.size->¬F'.own g->w3.heap[g]? =W1.heap[g]? :=(by obtain⟨F2,k1,k2,k3⟩:=hmp;exact λg h1 h2=>k3.block g h1 h2);have hs3:=(hno3 w.heap.size (by omega) HNF.o.1).trans HS1.o;have ho3:=(hno3 (w.heap.size+1) hsz1 HNF.o.2).trans HO1.o;have HEC:=hmp.err_cell;rw[HMBE.o]at HEC;obtain⟨c10,c10f⟩:=HEC;have t0:w3.cell? ⟨w.heap.size+1,0,none⟩=some (.int .i64 o1):=Ro w3 _ 0 _ _ _ ho3;have t1:w3.cell? ⟨w.heap.size+1,1,none⟩=some (.int .i64 o2):=Ro w3 _ 1 _ _ _ ho3;have t2:w3.cell? ⟨w.heap.size+1,2,none⟩=some (.slice oA on oc):=Ro w3 _ 2 _ _ _ ho3;have tf:(∀i,w3.frozen? ⟨w.heap.size+1,i,none⟩=false):=(λi=>by simp[World.frozen?,ho3]);have q0:w3.cell? ⟨w.heap.size,0,none⟩=some (.int .i64 0):=Ro w3 _ 0 _ _ _ hs3;have q1:w3.cell? ⟨w.heap.size,1,none⟩=some (.int .i64 0):=Ro w3 _ 1 _ _ _ hs3;have q2:w3.cell? ⟨w.heap.size,2,none⟩=some (.slice none 0 0):=Ro w3 _ 2 _ _ _ hs3;have qf:(∀i,w3.frozen? ⟨w.heap.size,i,none⟩=false):=(λi=>by simp[World.frozen?,hs3]);have HS3:=Hd hs3;have HO3:=Hd ho3;have HMP:=Hd hmp;clear hno3 hs3 ho3 hmp);all_goals
     go_wp2_with fail;go_roundg gk'
     case measure=>omega
     case rel=>first|(obtain⟨F2,k1,k2,k3⟩:=MP.exeA (er:=er) HMP.o HAV.o HGE.o hsz1 HNF.o.2 (.int .i64 1) (.int .i64 cur.pos) (.slice C l.length cp);rw[HMBE.o]at k2 k3;exact⟨_,F2,HR.o.go hsteps ER.o HSZ.o HNO.o (k1.of_size HSZR.o) k2 (((HC1.o.drewN _).drewN _).trans k3) ⟨_,_,_,_,_,(Bj _ _ _ _ (by show w.heap.size+1≠F.mb;omega)).trans (aS HO3.o)⟩⟩)|(obtain⟨F2,k1,k2,k3⟩:=MP.exeB (er:=er) HMP.o HAV.o HGE.o hsz1 HNF.o.2 (.int .i64 1) (.int .i64 cur.pos) (.slice C l.length cp);rw[HMBE.o]at k2 k3;exact⟨_,F2,HR.o.go hsteps ER.o HSZ.o HNO.o (k1.of_size HSZR.o) k2 (((HC1.o.drewN _).drewN _).trans k3) ⟨_,_,_,_,_,aS ((Bj _ _ _ _ (by show w.heap.size+1≠F.mb;omega)).trans HO3.o)⟩⟩)
   subst hee;have ER:Hid (zcY L sk m=({m2 with err:=0},(1,cur.pos,l),0)):=HR.o.done (by rw[ER1.o];exact Ip rfl);go_wp2_with fail;rw[<-HW1.o];go_quiet(fail);go_wp2_with fail;go_region_with(go_at_call 39;refine(HEX.o _ (aA (aA (Bf _ _) _) 1)).mono ?_;rintro e w3 ⟨v,rfl,hv,hmp,hmq⟩;have HMQ:=Hd hmq;clear hmq;obtain⟨C,cp,hve,hrv,hll⟩:∃(C:OA) (cp:Nat),v=.agg #[.int .i64 1,.int .i64 cur.pos,.slice C l.length cp]/\RdV w3 (λg=>W1.heap.size<=g) C l.length l/\l.length<=1000:=hv;subst hve;have HRV:=Hd hrv;have HLL:=Hd hll;clear hrv hll;have hno3:∀g,g<W1.heap.size->¬F'.own g->w3.heap[g]? =W1.heap[g]? :=(by obtain⟨F2,k1,k2,k3⟩:=hmp;exact λg h1 h2=>k3.block g h1 h2);have hs3:=(hno3 w.heap.size (by omega) HNF.o.1).trans HS1.o;have ho3:=(hno3 (w.heap.size+1) hsz1 HNF.o.2).trans HO1.o;have HEC:=hmp.err_cell;rw[HMBE.o]at HEC;obtain⟨c10,c10f⟩:=HEC;have t0:w3.cell? ⟨w.heap.size+1,0,none⟩=some (.int .i64 o1):=Ro w3 _ 0 _ _ _ ho3;have t1:w3.cell? ⟨w.heap.size+1,1,none⟩=some (.int .i64 o2):=Ro w3 _ 1 _ _ _ ho3;have t2:w3.cell? ⟨w.heap.size+1,2,none⟩=some (.slice oA on oc):=Ro w3 _ 2 _ _ _ ho3;have tf:(∀i,w3.frozen? ⟨w.heap.size+1,i,none⟩=false):=(λi=>by simp[World.frozen?,ho3]);have q0:w3.cell? ⟨w.heap.size,0,none⟩=some (.int .i64 0):=Ro w3 _ 0 _ _ _ hs3;have q1:w3.cell? ⟨w.heap.size,1,none⟩=some (.int .i64 0):=Ro w3 _ 1 _ _ _ hs3;have q2:w3.cell? ⟨w.heap.size,2,none⟩=some (.slice none 0 0):=Ro w3 _ 2 _ _ _ hs3;have qf:(∀i,w3.frozen? ⟨w.heap.size,i,none⟩=false):=(λi=>by simp[World.frozen?,hs3]);have HS3:=Hd hs3;have HO3:=Hd ho3;have HMP:=Hd hmp;clear hno3 hs3 ho3 hmp);all_goals
    go_wp2_with fail;rw[Exit.noGoto_ret];obtain⟨F2,k1,k2,k3⟩:=MP.exeA (er:=0) HMP.o HAV.o HGE.o hsz1 HNF.o.2 (.int .i64 1) (.int .i64 cur.pos) (.slice C l.length cp);rw[HMBE.o]at k2 k3;have k4:=(HMQ.o rfl).exeA (er:=0) HAV.o HGE.o HNF.o.2 (.int .i64 1) (.int .i64 cur.pos) (.slice C l.length cp);rw[HMBE.o]at k4;refine bodyPost_ret (dD rfl _ _ w.heap.size _ _ _ _ rfl (aS ((Bj _ _ _ _ (by show w.heap.size≠F.mb;omega)).trans (((aV _ _ _).block w.heap.size (hlS HS3.o) (by omega)).trans HS3.o))) underlying40 zbL) rfl ?_;refine⟨_,W1.heap.size,by rw[ER.o];rfl,⟨C,cp,by rw[ER.o],by rw[ER.o];exact HRV.o.keep (by simp[World.setCell]) (λg _ q=>by omega) (λg hg hI=>((aV _ _ _).block g (by simpa[World.setCell]using hg) (by omega)).trans ((Bj _ _ _ _ (by show g≠F.mb;omega)).trans ((aV _ _ _).block g hg (by omega)))),by rw[ER.o];exact HLL.o⟩,?_⟩;rw[ER.o];exact NxR.fin HX.o HB0.o HSZ.o HR.o.mv k4 (HR.o.chg2 (((HC1.o.drewN _).drewN _).trans k3)) ((aV _ _ _).mono λg _ hg=>.inl hg) (Ly HB0.o.size (Ly HR.o.chg.size HSZR.o)) (λg hg=>Lt (HR.o.mx.own_ge g hg).2 HSZR.o)
