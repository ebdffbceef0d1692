/- The contract of flow's leave: the end of a program. Conditions: see MX. -/
import Derived.Test.YtdcjbhdfphcefaaGreatDoorJm
set_option linter.unusedVariables false
set_option linter.unusedSimpArgs false
namespace Go.Proofs.YtdcjbhdfphcefaaGreatDoor
open Go.RowKit
theorem MX.call{w:World}{B:Nat}{F:Fp}{L:Lb}{sk:Bool}{m:MS}(h:MX w B F L sk m){i:Nat}{c:Cl}(hi:m.calls[i]? =some c):∃(g cap:Nat) (cur:Array Value) (A:Option Addr) (cp:Nat),
 F.ac=some g∧w.heap[g]? =some (.cells cur 102 (0,0))∧m.calls.length≤cap∧cap≤maxLen∧cur.size=cap*6∧g≠F.mb∧g≠F.sb∧g≠F.lb∧w.cell? ⟨F.mb,6,none⟩=some (.slice (some ⟨g,0,none⟩) m.calls.length cap)∧
 (∀(j:Nat) (v:Value),(cellsC c A cp)[j]? =some v→w.cell? ⟨g,i*6+j,none⟩=some v)∧(∀k,w.frozen? ⟨g,k,none⟩=false)∧RdV w F.far A c.args.length c.args∧I64 c.back∧I64 c.left:=by
 obtain⟨A1,A2,A3,AC,c1,c2,c3,capc,xs,hb,hL,ho,hf,ha,hr⟩:=h.ex;have hil:i<m.calls.length:=(List.getElem?_eq_some_iff.1 hi).1;obtain⟨r1,r2,A,cp,r3,r4⟩:=hr i c hi;rcases ho.2 with⟨_,e⟩|⟨g,cap,cur,e1,e2,e3,e4,e5,e6,e7⟩
 ·omega
 ·simp only[Value.slice.injEq,true_and]at e1;obtain⟨rfl,rfl⟩:=e1;have hac:F.ac=some g:=by rw[←ha];rfl
  have hfg:=hf g hac;refine⟨g,capc,cur,A,cp,hac,e3,e4,e5,e6,hfg.1,hfg.2.1,hfg.2.2,(cell_of_row w F.mb 6 _ _ _ hb).trans rfl,fun j v hv=> ?_,fun k=>by simp[World.frozen?,e3],r3,r1,r2⟩;have hj:j<6:=by
   have:=(List.getElem?_eq_some_iff.1 hv).1;simpa[cellsC]using this
  rw[cell_of_row w g _ _ _ _ e3];have q:=r4 j v hv;rw[←e7,List.getElem?_take,if_pos (by omega)]at q;simpa using q
theorem MX.recall{w w':World}{B:Nat}{F:Fp}{L:Lb}{sk:Bool}{m:MS}{cs':List Cl}(h:MX w B F L sk m)(hs:w.heap.size≤w'.heap.size)
 (hk:∀g,g<w.heap.size→g≠F.mb→F.ac≠some g→w'.heap[g]? =w.heap[g]?) (hfew:cs'.length≤8) (hcs:∀c∈cs',c.prog<L.pr.length∧c.caller<L.pr.length∧0≤c.left)
 (hb:∀(A1 A2 A3 AC:Option Addr) (c1 c2 c3 capc:Nat) (xs:List Value),w.heap[F.mb]? =some (.cells ⟨cellsM A1 A2 A3 AC c1 c2 c3 capc F.sb L sk m⟩ 81 (0,0))→w.ownsRow B 102 6 (.slice AC m.calls.length capc) m.calls.length xs→RdC w F.far m.calls xs→AC.map (·.block)=F.ac→
  ∃(capc':Nat) (xs':List Value),w'.heap[F.mb]? =some (.cells ⟨cellsM A1 A2 A3 AC c1 c2 c3 capc' F.sb L sk {m with calls:=cs'}⟩ 81 (0,0))∧w'.ownsRow B 102 6 (.slice AC cs'.length capc') cs'.length xs'∧RdC w' F.far cs' xs'):
 MX w' B F L sk {m with calls:=cs'}:=by
 have hge:=h.mb_ge;have hsb:=h.sb_ge;have hlb:=h.lb_ge;have hn1:=h.ne1;have hn2:=h.ne2;have hlt:=h.lt;have hslt:=h.sto.lt;have hown:=h.own_ge;obtain⟨A1,A2,A3,AC,c1,c2,c3,capc,xs,hbk,hL,ho,hf,ha,hr⟩:=h.ex;have kl:∀g,g<B→w'.heap[g]? =w.heap[g]? :=fun g hg=>hk g (by omega) (by omega) fun e=>by have:=(hown g (.inr (.inr (.inr e)))).1;omega
 have k2:w'.heap[F.sb]? =w.heap[F.sb]? :=hk _ hslt.1 (fun e=>hn1 e.symm) fun e=>(hf _ e).2.1 rfl;have k3:w'.heap[F.lb]? =w.heap[F.lb]? :=hk _ hslt.2 (fun e=>hn2 e.symm) fun e=>(hf _ e).2.2 rfl;obtain⟨t1,t2,t3⟩:=h.tab;obtain⟨n1,n2,n3⟩:=h.tn;obtain⟨capc',xs',g1,g2,g3⟩:=hb A1 A2 A3 AC c1 c2 c3 capc xs hbk ho hr ha;exact⟨h.mb_ge,h.sb_ge,h.lb_ge,h.ne1,h.ne2,fun x hx=>Nat.lt_of_lt_of_le (h.av x hx) hs,⟨t1,t2,(kl _ h.tabB).trans t3⟩,h.tabB,⟨n1,n2,(kl _ h.tnB).trans n3⟩,h.tnB,h.fine,h.sto.keep k2 k3,h.vf,h.pos,h.prog,h.steps,h.err,hfew,hcs,A1,A2,A3,AC,c1,c2,c3,capc',xs',g1,
  hL.keep (fun p hp=>World.cell?_of_block (kl p.block hp)) (Nat.le_refl _),g2,hf,ha,g3⟩
theorem RdC.set{w w':World}{I:Nat→Prop}{l:List Cl}{xs:List Value}{i:Nat}{c:Cl}{t:Int}(h:RdC w I l xs)(hi:l[i]? =some c)(ht:I64 t)(hs:w.heap.size≤w'.heap.size)(hk:∀g,g<w.heap.size→I g→w'.heap[g]? =w.heap[g]?):RdC w' I (l.set i {c with left:=t}) (xs.set (i*6+3) (.int .i64 t)):=by
 intro j d hd;rw[List.getElem?_set]at hd;by_cases hij:i=j
 ·subst hij;have hil:i<l.length:=(List.getElem?_eq_some_iff.1 hi).1;rw[if_pos rfl,if_pos hil]at hd;cases hd;obtain⟨a1,a2,A,cp,a3,a4⟩:=h i c hi;refine⟨a1,ht,A,cp,a3.keep hs (fun _ _ q=>q) hk,fun k v hv=> ?_⟩;have hk6:k<6:=by have:=(List.getElem?_eq_some_iff.1 hv).1;simpa[cellsC]using this
  have h3:=a4 3 _ rfl;have hlt:i*6+3<xs.length:=(List.getElem?_eq_some_iff.1 h3).1;rw[List.getElem?_set];by_cases e:k=3
  ·subst e;rw[if_pos rfl,if_pos hlt];exact hv
  ·rw[if_neg (by omega)];refine a4 k v ?_;have:k=0∨k=1∨k=2∨k=4∨k=5:=by omega
   rcases this with rfl|rfl|rfl|rfl|rfl<;>exact hv
 ·rw[if_neg hij]at hd;obtain⟨a1,a2,A,cp,a3,a4⟩:=h j d hd;refine⟨a1,a2,A,cp,a3.keep hs (fun _ _ q=>q) hk,fun k v hv=> ?_⟩;have hk6:k<6:=by have:=(List.getElem?_eq_some_iff.1 hv).1;simpa[cellsC]using this
  rw[List.getElem?_set,if_neg (by omega)];exact a4 k v hv
theorem MX.less{w:World}{B:Nat}{F:Fp}{L:Lb}{sk:Bool}{m:MS}{i g:Nat}{c:Cl}{t:Int}(h:MX w B F L sk m)(hi:m.calls[i]? =some c)(hg:F.ac=some g)(ht:I64 t)(h0:0≤t):
 MX (w.setCell ⟨g,i*6+3,none⟩ (.int .i64 t)) B F L sk {m with calls:=m.calls.set i {c with left:=t}}:=by
 have hn:g≠F.mb:=by
  obtain⟨A1,A2,A3,AC,c1,c2,c3,capc,xs,_,_,_,hf,_⟩:=h.ex;exact(hf g hg).1
 have hil:i<m.calls.length:=(List.getElem?_eq_some_iff.1 hi).1;have hk:∀j,j≠g→(w.setCell ⟨g,i*6+3,none⟩ (.int .i64 t)).heap[j]? =w.heap[j]? :=fun j hj=>Below.heap_setCell _ _ _ j hj;refine h.recall (by simp[World.setCell]) (fun j hj h1 h2=>hk j (by rintro rfl;exact h2 hg)) (by rw[List.length_set];exact h.few) (fun d hd=> ?_) ?_
 ·rcases List.mem_or_eq_of_mem_set hd with q|q
  ·exact h.calls d q
  ·have:=h.calls c (List.mem_of_getElem? hi);rw[q];exact⟨this.1,this.2.1,h0⟩
 ·intro A1 A2 A3 AC c1 c2 c3 capc xs hb ho hr ha;refine⟨capc,xs.set (i*6+3) (.int .i64 t),?_,?_,hr.set hi ht (by simp[World.setCell]) fun j hj hI=>hk j (by rintro rfl;exact hI.1 (.inr (.inr (.inr hg))))⟩
  ·rw[hk _ (fun e=>hn e.symm),hb];simp[cellsM]
  ·rcases ho.2 with⟨_,e⟩|⟨g',cap,cur,e1,e2,e3,e4,e5,e6,e7⟩
   ·omega
   ·simp only[Value.slice.injEq,true_and]at e1;obtain⟨rfl,rfl⟩:=e1;have:g'=g:=by rw[hg]at ha;simpa using ha
    subst this;refine⟨by rw[List.length_set];simpa using ho.1,.inr ⟨g',capc,cur.setIfInBounds (i*6+3) (.int .i64 t),by simp,e2,heap_set e3,by simpa using e4,e5,by simpa using e6,?_⟩⟩;rw[List.length_set,←e7];simp[List.take_set]
theorem MX.shut{w:World}{B:Nat}{F:Fp}{L:Lb}{sk:Bool}{m:MS}{g cap:Nat}(h:MX w B F L sk m)(hg:w.cell? ⟨F.mb,6,none⟩=some (.slice (some ⟨g,0,none⟩) m.calls.length cap))(h0:0<m.calls.length):
 MX (w.setCell ⟨F.mb,6,none⟩ (.slice (some ⟨g,0,none⟩) (m.calls.length-1) cap)) B F L sk {m with calls:=m.calls.dropLast}:=by
 have hk:∀j,j≠F.mb→(w.setCell ⟨F.mb,6,none⟩ (.slice (some ⟨g,0,none⟩) (m.calls.length-1) cap)).heap[j]? =w.heap[j]? :=fun j hj=>Below.heap_setCell _ _ _ j hj;refine h.recall (by simp[World.setCell]) (fun j hj h1 h2=>hk j h1) (by have:=h.few;rw[List.length_dropLast];omega) (fun d hd=>h.calls d ((List.dropLast_sublist _).subset hd)) ?_;intro A1 A2 A3 AC c1 c2 c3 capc xs hb ho hr ha;have h6:=(cell_of_row w F.mb 6 _ _ _ hb).symm.trans hg;have h6':some (Value.slice AC m.calls.length capc)=some (.slice (some ⟨g,0,none⟩) m.calls.length cap):=h6;simp only[Option.some.injEq,Value.slice.injEq,true_and]at h6';obtain⟨rfl,rfl⟩:=h6';refine⟨capc,xs.take ((m.calls.length-1)*6),?_,?_,?_⟩
 ·have:=heap_set (i:=6) (u:=.slice (some ⟨g,0,none⟩) (m.calls.length-1) capc) hb;rw[this];simp[cellsM]
 ·rcases ho.2 with⟨e,_⟩|⟨g',cap',cur,e1,e2,e3,e4,e5,e6,e7⟩
  ·simp at e
  ·simp only[Value.slice.injEq,true_and]at e1;obtain⟨e1,rfl⟩:=e1;cases e1;have hn:g≠F.mb:=by
    obtain⟨_,_,_,_,_,_,_,_,_,_,_,_,hf,_⟩:=h.ex;exact(hf g (by rw[←ha];rfl)).1
   have hl:xs.length=m.calls.length*6:=ho.1;refine⟨by rw[List.length_take,List.length_dropLast];omega,.inr ⟨g,capc,cur,by simp,e2,(hk g hn).trans e3,by rw[List.length_dropLast];omega,e5,e6,?_⟩⟩;rw[List.length_dropLast,←e7,List.take_take];congr 1;omega
 ·intro i c hc;have hil:i<m.calls.dropLast.length:=(List.getElem?_eq_some_iff.1 hc).1;rw[List.length_dropLast]at hil;have hc':m.calls[i]? =some c:=by
   rw[List.dropLast_eq_take,List.getElem?_take,if_pos (by omega)]at hc;exact hc
  obtain⟨a1,a2,A,cp,a3,a4⟩:=hr i c hc';refine⟨a1,a2,A,cp,a3.keep (by simp[World.setCell]) (fun _ _ q=>q) (fun j hj hI=>hk j fun e=>hI.1 (.inl e)),fun k v hv=> ?_⟩;have hk6:k<6:=by have:=(List.getElem?_eq_some_iff.1 hv).1;simpa[cellsC]using this
  rw[List.getElem?_take,if_pos (by omega)];exact a4 k v hv
def LvPost(B:Nat)(F:Fp)(L:Lb)(sk:Bool)(m:MS)(w:World)(e:Ending)(w':World):Prop:=
 e=.returned (.int .i64 (leaveM L m).2)∧MP B F L sk (leaveM L m).1 w w'
theorem Fp.own_ac{F:Fp}{g:Nat}(h:F.ac=some g):F.own g:=.inr (.inr (.inr h))
theorem chg_st{F:Fp}{w w':World}(h:Chg (fun g=>g=F.sb∨g=F.lb) w w'):Chg F.own w w':=h.mono fun g _ hg=>by rcases hg with e|e;exact .inr (.inl e);exact .inr (.inr (.inl e))
theorem MP.then{B:Nat}{F:Fp}{L:Lb}{sk:Bool}{m2:MS}{w w1 w2:World}(hc:Chg F.own w w1)(k:MP B F L sk m2 w1 w2):MP B F L sk m2 w w2:=by
 obtain⟨F2,b1,b2,b3⟩:=k;exact⟨F2,(Mv.refl w F).trans b1 hc.size,b2,hc.trans b3⟩
theorem MX.prog_cells{w:World}{B:Nat}{F:Fp}{L:Lb}{sk:Bool}{m:MS}(h:MX w B F L sk m){p:Nat}(hp:p<L.pr.length):∃(A2:Option Addr) (c2 ab off:Nat),w.cell? ⟨F.mb,1,none⟩=some (.slice A2 L.pr.length c2)∧A2=some ⟨ab,off,none⟩∧ab<B∧w.cell? ⟨ab,off+p*3+1,none⟩=some (.int .i64 (L.prg p).first)∧w.cell? ⟨ab,off+p*3+2,none⟩=some (.int .i64 (L.prg p).stop)∧(0≤(L.prg p).first∧(L.prg p).first≤L.bl.length∧(L.prg p).stop≤L.bl.length)∧L.pr.length≤maxLen:=by
 obtain⟨A1,A2,A3,AC,c1,c2,c3,capc,xs,⟨_,d1,_⟩,hL,_⟩:=h.cells;obtain⟨_,hn2,_,hc⟩:=hL.pr;obtain⟨ab,off,rfl,hab,hd⟩:=hc (by omega);obtain⟨q,hx⟩:∃x,L.pr[p]? =some x:=⟨_,List.getElem?_eq_getElem hp⟩;obtain⟨e0,e1,e2⟩:=hd p q hx;have hq:L.prg p=q:=by unfold Lb.prg;rw[List.getD_eq_getElem?_getD,hx];rfl
 rw[hq];exact⟨_,c2,ab,off,d1,rfl,hab,e1,e2,h.fine.ok p q hx,hn2⟩
theorem I64.small{x:Int}(h1:0≤x)(h2:x≤100000):I64 x:=by unfold I64;omega
theorem set_last{α:Type}{l:List α}{x:α}(h:l≠[]):l.set (l.length-1) x=l.dropLast++[x]:=by
 induction l with
 |nil=>exact absurd rfl h
 |cons y r ih=>
  rcases r with _|⟨z,r⟩
  ·rfl
  ·have:=ih (by simp);simpa using this
set_option maxRecDepth 100000 in
set_option maxHeartbeats 4000000 in
theorem leave_any(w:World)(B:Nat)(F:Fp)(L:Lb)(sk:Bool)(m:MS)(h:MX w B F L sk m):
 Calls Tryz.prog 38 #[.pointer (some ⟨F.mb,0,none⟩)] w (LvPost B F L sk m w):=by
 have HX:=Lib.hid h;obtain⟨A1,A2,A3,AC,c1,c2,c3,capc,xs,⟨_,d1,_,_,d4,d5,d6,d7,_,d9,_⟩,hL,ho,_,_,hfr⟩:=h.cells;have hmb:=h.lt;by_cases hn:m.calls.length=0
 ·have hnil:m.calls=[]:=List.eq_nil_of_length_eq_zero hn;have EJ:Hid (leaveM L m=({m with ended:=true},0)):=by unfold Hid leaveM;rw[hnil];rfl
  have f9:=hfr 9;rw[hn]at d6;clear h hL ho hfr hn hnil;go_enter Tryz.func38,Tryz.ntmps38;go_wp2_with fail;go_ret;refine⟨by rw[EJ.out];rfl,?_⟩;rw[EJ.out];exact MP.of HX.out.set_ended (chg_set _ _ _ _ _ F.own_mb)
 obtain⟨N,hN⟩:∃N,N=m.calls.length:=⟨_,rfl⟩;obtain⟨c,hc⟩:∃c,m.calls[N-1]? =some c:=⟨_,List.getElem?_eq_getElem (by omega)⟩;have hlast:m.calls.getLast? =some c:=by rw[List.getLast?_eq_getElem?,←hN];exact hc
 obtain⟨g,cap,cur,A,cp,hac,hgb,hcap1,hcap2,hcur,hg1,hg2,hg3,e6,hcell,hfg,hargs,hbk,hlf⟩:=h.call hc;have hcl:=h.calls c (List.mem_of_getElem? hc);rw[d6]at e6;simp only[Option.some.injEq,Value.slice.injEq,true_and]at e6;obtain⟨rfl,rfl⟩:=e6;have q0:=hcell 0 _ rfl;rw[Nat.add_zero]at q0;have q1:=hcell 1 _ rfl;have q2:=hcell 2 _ rfl;have q3:=hcell 3 _ rfl;have q4:=hcell 4 _ rfl;have q5:=hcell 5 _ rfl;rw[←hN]at d6 hcap1;have hNp:0<N:=by omega
 have HN1:Hid (N=m.calls.length):=hN;have HLAST:=Lib.hid hlast;have HC:=Lib.hid hc;have hNm:N≤maxLen:=Nat.le_trans hcap1 hcap2;unfold maxLen at hNm;have HAC:=Lib.hid hac;have HARGS:=Lib.hid hargs;have HG:=Lib.hid hgb;have hglt:=hlS hgb;have fr5:=hfr 5;have fr6:=hfr 6;have fr4:=hfr 4;have frg:=hfg ((N-1)*6+3);have HFR:=Lib.hid hfr;have HFG:=Lib.hid hfg;clear h hL ho hfr hfg hn hN hlast hc hcell hac hargs hgb;have hset:∀x:Cl,m.calls.set (N-1) x=m.calls.dropLast++[x]:=fun x=>by
  rw[HN1.out,set_last];intro e;rw[e]at HN1;have:=HN1.out;simp at this;omega
 have HSET:=Lib.hid hset;clear hset;obtain⟨prog,caller,back,left,args,lev⟩:=c;dsimp only at q0 q1 q2 q3 q4 q5 hcl hbk hlf;have hlf':=hlf;have hbk':=hbk;unfold I64 at hlf;rcases lev with _|_
 ·by_cases hl:0<left
  ·have g1:decide (left>0)=true:=decide_eq_true hl;obtain⟨W2,hW2⟩:∃W2,W2=w.setCell ⟨g,(N-1)*6+3,none⟩ (.int .i64 (left-1)):=⟨_,rfl⟩;have HX2:Hid (MX W2 B F L sk {m with calls:=m.calls.set (N-1) ⟨prog,caller,back,left-1,args,false⟩}):=by
    unfold Hid;rw[hW2];exact HX.out.less HC.out HAC.out (by unfold I64;omega) (by omega)
   have HC2:Hid ((m.calls.set (N-1) ⟨prog,caller,back,left-1,args,false⟩)[N-1]? =some ⟨prog,caller,back,left-1,args,false⟩):=by
    unfold Hid;rw[List.getElem?_set,if_pos rfl,if_pos (by have:=HN1.out;omega)]
   have HCH2:Hid (Chg F.own w W2):=by unfold Hid;rw[hW2];exact(Chg.refl _ _).trans (chg_set _ _ _ _ _ (Fp.own_ac HAC.out))
   obtain⟨g',cap',cur',A',cp',hac',hgb',_,_,_,hgm,_,_,_,hcell',hfg',hargs',_,_⟩:=HX2.out.call HC2.out;have hgg:g=g':=by have:=HAC.out.symm.trans hac';simpa using this
   subst hgg;have r0:=hcell' 0 _ rfl;rw[Nat.add_zero]at r0;have r4:=hcell' 4 _ rfl;have r5:=hcell' 5 _ rfl;have HAR:=Lib.hid hargs';obtain⟨A2',c2',ab,off,k1,rfl,hab,k2,_,hfst,hpl⟩:=HX2.out.prog_cells hcl.1;unfold maxLen at hpl;dsimp only at r0 r4 r5 k1 k2;obtain⟨_,_,_,_,_,_,_,_,_,⟨_,_,_,_,_,k5,_,k7,_⟩,_,_,_,_,hfr2⟩:=HX2.out.cells;have f5:=hfr2 5;have hpr:=hcl.1;have HF1:Hid (I64 (L.prg prog).first):=I64.small hfst.1 (Int.le_trans hfst.2.1 (by have:=HX.out.fine.bl;omega));obtain⟨W3,hW3⟩:∃W3,W3=(W2.setCell ⟨F.mb,5,none⟩ (.int .i64 (L.prg prog).first)).drew:=⟨_,rfl⟩;have HX3:Hid (MX W3 B F L sk {m with calls:=m.calls.set (N-1) ⟨prog,caller,back,left-1,args,false⟩,pos:=(L.prg prog).first}):=by
    unfold Hid;rw[hW3];exact(HX2.out.set_pos HF1.out).below (below_dn (Below.refl _ _) 1)
   have HCH3:Hid (Chg F.own w W3):=by unfold Hid;rw[hW3];exact(HCH2.out.trans (chg_set _ _ _ _ _ F.own_mb)).trans (Chg.of_below (below_dn (Below.refl _ _) 1))
   have kg:W3.heap[g]? =W2.heap[g]? :=by rw[hW3];exact Below.heap_setCell W2 ⟨F.mb,5,none⟩ _ g (by show g≠F.mb;exact hgm)
   have s4:=(World.cell?_of_block (a:=⟨g,(N-1)*6+4,none⟩) kg).trans r4;have s5:=(World.cell?_of_block (a:=⟨g,(N-1)*6+5,none⟩) kg).trans r5;obtain⟨_,_,_,_,_,_,_,_,_,⟨_,_,_,_,_,_,_,s7,_⟩,_⟩:=HX3.out.cells;try dsimp only at s7
   have HS:=Lib.hid hW3;have EJ:Hid (leaveM L m=({m with calls:=m.calls.set (N-1) ⟨prog,caller,back,left-1,args,false⟩,pos:=(L.prg prog).first},0)):=by
    unfold Hid leaveM;rw[HLAST.out,HSET.out];simp[hl]
   clear hcell' hfg' hargs' hac' hgb' hfst hfr2 hW3 r4 kg;go_enter Tryz.func38,Tryz.ntmps38;go_wp2_with fail;rw[←hW2];clear hW2;go_region;rw[←HS.out];clear k1 k2 k5 k7 r0 r5;go_wp2_with fail;go_ret;refine⟨by rw[EJ.out];rfl,?_⟩;rw[EJ.out];exact MP.of HX3.out HCH3.out
  ·have g1:decide (left>0)=false:=decide_eq_false hl;obtain⟨W2,hW2⟩:∃W2,W2=((w.setCell ⟨F.mb,4,none⟩ (.int .i64 (caller:Nat))).setCell ⟨F.mb,5,none⟩ (.int .i64 back)).drew:=⟨_,rfl⟩;have HX2:Hid (MX W2 B F L sk {m with prog:=caller,pos:=back}):=by
    unfold Hid;rw[hW2];exact((HX.out.set_prog hcl.2.1).set_pos hbk').below (below_dn (Below.refl _ _) 1)
   have HCH2:Hid (Chg F.own w W2):=by unfold Hid;rw[hW2];exact(((Chg.refl _ _).trans (chg_set _ _ _ _ _ F.own_mb)).trans (chg_set _ _ _ _ _ F.own_mb)).trans (Chg.of_below (below_dn (Below.refl _ _) 1))
   have HC2:Hid (m.calls[N-1]? =some ⟨prog,caller,back,left,args,false⟩):=HC.out;obtain⟨g',cap',cur',A',cp',hac',_,zc,_,_,_,_,_,z6,_⟩:=HX2.out.call (i:=N-1) HC2.out;have hgg:g=g':=by have:=HAC.out.symm.trans hac';simpa using this
   subst hgg;obtain⟨_,_,_,_,_,_,_,_,_,⟨_,_,_,_,_,_,_,_⟩,_,_,_,_,hfr2⟩:=HX2.out.cells;have z6f:=hfr2 6;dsimp only at z6 zc;have HSH:=Lib.hid (HX2.out.shut z6 (by have:=HN1.out;dsimp only;omega));rw[←HN1.out]at z6 HSH zc;have EJ:Hid (leaveM L m=({m with prog:=caller,pos:=back,calls:=m.calls.dropLast},0)):=by
    unfold Hid leaveM;rw[HLAST.out];simp[hl]
   have HS:=Lib.hid hW2;clear hfr2 hW2 hac';go_enter Tryz.func38,Tryz.ntmps38;go_wp2_with fail;go_region;rw[←HS.out];go_wp2_with fail;go_ret;refine⟨by rw[EJ.out];rfl,?_⟩;rw[EJ.out];exact MP.of HSH.out (HCH2.out.trans (chg_set _ _ _ _ _ F.own_mb))
 ·have HPO:=Lib.hid (pop_any w F.sb F.lb m.sto HX.out.sto);have HPM:Hid (∀w1,Sx w1 F.sb F.lb (popX m.sto)→Chg (fun g=>g=F.sb∨g=F.lb) w w1→MX w1 B F L sk {m with sto:=popX m.sto}∧Chg F.own w w1∧w1.heap[g]? =w.heap[g]?∧w1.heap[F.mb]? =w.heap[F.mb]?):=fun w1 hs1 hc1=>
   ⟨(HX.out.store hs1 HX.out.vf.pop (.inl rfl) hc1).2,chg_st hc1,hc1.block g hglt (by rintro(e|e)<;>contradiction),hc1.block F.mb hmb (by have:=HX.out.ne1;have:=HX.out.ne2;rintro(e|e)<;>contradiction)⟩
  by_cases hpop:popE m.sto=0
  case neg=>
   have g2:(popE m.sto !=0)=true:=by simpa using hpop
   have EJ:Hid (leaveM L m=(m,popE m.sto)):=by
    unfold Hid leaveM;rw[HLAST.out];simp[hpop]
   have hpx:Hid (popX m.sto=m.sto):=by
    unfold Hid popX;unfold popE at hpop;split
    ·rfl
    ·rename_i e;rw[if_neg e]at hpop;exact absurd rfl hpop
   clear hpop;go_enter Tryz.func38,Tryz.ntmps38;go_wp2_with(go_at_call 58;refine HPO.out.mono ?_;rintro e w1 ⟨rfl,hs1,hc1,_⟩;have HM1:=Lib.hid (HPM.out w1 hs1 hc1);clear hs1 hc1);go_ret;refine⟨by rw[EJ.out];rfl,?_⟩;rw[EJ.out];have:=HM1.out.1;rw[hpx.out]at this;exact MP.of this HM1.out.2.1
  have HPOP:=Lib.hid hpop;have HPO2:Hid (Calls Tryz.prog 58 #[.pointer (some ⟨F.sb,0,none⟩)] w fun e w1=>e=.returned (.int .i64 0)∧MX w1 B F L sk {m with sto:=popX m.sto}∧Chg F.own w w1∧w1.heap[g]? =w.heap[g]?∧w1.heap[F.mb]? =w.heap[F.mb]?):=
   HPO.out.mono fun e w1 h=>⟨by rw[h.1,HPOP.out],HPM.out w1 h.2.1 h.2.2.1⟩
  clear hpop HPO HPM;by_cases hl:0<left
  ·have g1:decide (left>0)=true:=decide_eq_true hl;go_enter Tryz.func38,Tryz.ntmps38;go_wp2_with(
    go_at_call 58
    refine HPO2.out.mono ?_
    rintro e w1 ⟨rfl,hx1,hch1,kg1,km1⟩
    have HX1:=Lib.hid hx1
    have HCH1:=Lib.hid hch1
    have d1':=(World.cell?_of_block (a:=⟨F.mb,1,none⟩) km1).trans d1
    have d4':=(World.cell?_of_block (a:=⟨F.mb,4,none⟩) km1).trans d4
    have d5':=(World.cell?_of_block (a:=⟨F.mb,5,none⟩) km1).trans d5
    have d6':=(World.cell?_of_block (a:=⟨F.mb,6,none⟩) km1).trans d6
    have d7':=(World.cell?_of_block (a:=⟨F.mb,7,none⟩) km1).trans d7
    have u1:=(World.cell?_of_block (a:=⟨g,(N-1)*6+1,none⟩) kg1).trans q1
    have u2:=(World.cell?_of_block (a:=⟨g,(N-1)*6+2,none⟩) kg1).trans q2
    have u3:=(World.cell?_of_block (a:=⟨g,(N-1)*6+3,none⟩) kg1).trans q3
    have v3:=(World.frozen?_of_block (a:=⟨g,(N-1)*6+3,none⟩) kg1).trans frg
    have v4:=(World.frozen?_of_block (a:=⟨F.mb,4,none⟩) km1).trans fr4
    have v5:=(World.frozen?_of_block (a:=⟨F.mb,5,none⟩) km1).trans fr5
    clear hx1 hch1 kg1 km1
    obtain⟨W2,hW2⟩:∃W2,W2=w1.setCell ⟨g,(N-1)*6+3,none⟩ (.int .i64 (left-1)):=⟨_,rfl⟩
    have HX2:Hid (MX W2 B F L sk {{m with sto:=popX m.sto}with calls:=m.calls.set (N-1) ⟨prog,caller,back,left-1,args,true⟩}):=by
     unfold Hid;rw[hW2];exact HX1.out.less HC.out HAC.out (by unfold I64;omega) (by omega)
    have HC2:Hid ((m.calls.set (N-1) ⟨prog,caller,back,left-1,args,true⟩)[N-1]? =some ⟨prog,caller,back,left-1,args,true⟩):=by
     unfold Hid;rw[List.getElem?_set,if_pos rfl,if_pos (by have:=HN1.out;omega)]
    have HCH2:Hid (Chg F.own w W2):=by unfold Hid;rw[hW2];exact HCH1.out.trans (chg_set _ _ _ _ _ (Fp.own_ac HAC.out))
    obtain⟨g',cap',cur',A',cp',hac',hgb',_,_,_,hgm,_,_,_,hcell',hfg',hargs',_,_⟩:=HX2.out.call HC2.out
    have hgg:g=g':=by have:=HAC.out.symm.trans hac';simpa using this
    subst hgg
    have r0:=hcell' 0 _ rfl
    rw[Nat.add_zero]at r0
    have r4:=hcell' 4 _ rfl
    have r5:=hcell' 5 _ rfl
    have HAR:=Lib.hid hargs'
    obtain⟨A2',c2',ab,off,k1,rfl,hab,k2,_,hfst,hpl⟩:=HX2.out.prog_cells hcl.1
    unfold maxLen at hpl
    dsimp only at r0 r4 r5 k1 k2
    obtain⟨_,_,_,_,_,_,_,_,_,⟨_,_,_,_,_,k5,_,k7,_⟩,_,_,_,_,hfr2⟩:=HX2.out.cells
    have f5:=hfr2 5
    have hpr:=hcl.1
    have HF1:Hid (I64 (L.prg prog).first):=I64.small hfst.1 (Int.le_trans hfst.2.1 (by have:=HX.out.fine.bl;omega))
    obtain⟨W3,hW3⟩:∃W3,W3=(W2.setCell ⟨F.mb,5,none⟩ (.int .i64 (L.prg prog).first)).drew:=⟨_,rfl⟩
    have HX3:Hid (MX W3 B F L sk {{m with sto:=popX m.sto}with calls:=m.calls.set (N-1) ⟨prog,caller,back,left-1,args,true⟩,pos:=(L.prg prog).first}):=by
     unfold Hid;rw[hW3];exact(HX2.out.set_pos HF1.out).below (below_dn (Below.refl _ _) 1)
    have HCH3:Hid (Chg F.own w W3):=by unfold Hid;rw[hW3];exact(HCH2.out.trans (chg_set _ _ _ _ _ F.own_mb)).trans (Chg.of_below (below_dn (Below.refl _ _) 1))
    have kg:W3.heap[g]? =W2.heap[g]? :=by rw[hW3];exact Below.heap_setCell W2 ⟨F.mb,5,none⟩ _ g (by show g≠F.mb;exact hgm)
    have s4:=(World.cell?_of_block (a:=⟨g,(N-1)*6+4,none⟩) kg).trans r4
    have s5:=(World.cell?_of_block (a:=⟨g,(N-1)*6+5,none⟩) kg).trans r5
    obtain⟨_,_,_,_,_,_,_,_,_,⟨_,_,_,_,_,_,_,s7,_⟩,_⟩:=HX3.out.cells
    try dsimp only at s7
    have HS:=Lib.hid hW3
    have EJ:Hid (leaveM L m=({m with calls:=m.calls.set (N-1) ⟨prog,caller,back,left-1,args,true⟩,pos:=(L.prg prog).first,sto:=pushX (popX m.sto) args},pushE (popX m.sto) args)):=by
     unfold Hid leaveM
     rw[HLAST.out,HSET.out]
     simp[hl,HPOP.out]
    have HX3d:=Lib.hid (HX3.out.below (below_dn (Below.refl _ _) 1))
    have HNM:Hid (F.mb<W3.drew.heap.size∧¬(F.mb=F.sb∨F.mb=F.lb)∧g<W3.drew.heap.size∧¬(g=F.sb∨g=F.lb)):=
     ⟨HX3d.out.lt,by have:=HX.out.ne1;have:=HX.out.ne2;rintro(e|e)<;>contradiction,(HX3d.out.own_ge g (Fp.own_ac HAC.out)).2,by rintro(e|e)<;>contradiction⟩
    have HPU:=Lib.hid (push_any W3.drew F.sb F.lb (popX m.sto) F.far A' args.length cp' args HX3d.out.sto (HAR.out.keep (by rw[hW3];simp[World.setCell,World.drew]) (fun _ _ q=>q) (fun j hj hI=>by rw[hW3];exact Below.heap_setCell W2 ⟨F.mb,5,none⟩ _ j (by show j≠F.mb;exact fun e=>hI.1 (.inl e)))) HX3d.out.tn)
    clear hcell' hfg' hargs' hac' hgb' hfst hfr2 hW3 r4 kg)
   rw[←hW2];clear hW2;go_region;rw[←HS.out];clear k1 k2 k5 k7 r0 r5;go_wp2_with fail;go_region_held3(fun W=>W.cell? ⟨F.mb,7,none⟩=some (.pointer (some ⟨F.sb,0,none⟩))∧W.cell? ⟨g,(N-1)*6+4,none⟩=some (.slice A' args.length cp')) (first|exact⟨s7,s4⟩|exact⟨(World.cell?_of_block (a:=⟨F.mb,7,none⟩) (HC4.out.block _ HNM.out.1 HNM.out.2.1)).trans s7,(World.cell?_of_block (a:=⟨g,(N-1)*6+4,none⟩) (HC4.out.block _ HNM.out.2.2.1 HNM.out.2.2.2)).trans s4⟩|fail) (first|(go_at_call 59;refine HPU.out.mono ?_;rintro e w4 ⟨rfl,lb4,hlb4,hs4,hc4⟩;have HS4:=Lib.hid hs4;have HL4:=Lib.hid hlb4;have HC4:=Lib.hid hc4;clear hs4 hlb4 hc4));go_wp2_with fail;go_ret;refine⟨by rw[EJ.out];rfl,?_⟩;rw[EJ.out];obtain⟨y1,y2⟩:=HX3d.out.store HS4.out (HX3.out.vf.push _) HL4.out HC4.out;exact MP.then (HCH3.out.trans (Chg.of_below (below_dn (Below.refl _ _) 1))) ⟨_,y1,y2,chg_st HC4.out⟩
  ·have g1:decide (left>0)=false:=decide_eq_false hl;go_enter Tryz.func38,Tryz.ntmps38;go_wp2_with(
    go_at_call 58
    refine HPO2.out.mono ?_
    rintro e w1 ⟨rfl,hx1,hch1,kg1,km1⟩
    have HX1:=Lib.hid hx1
    have HCH1:=Lib.hid hch1
    have d1':=(World.cell?_of_block (a:=⟨F.mb,1,none⟩) km1).trans d1
    have d4':=(World.cell?_of_block (a:=⟨F.mb,4,none⟩) km1).trans d4
    have d5':=(World.cell?_of_block (a:=⟨F.mb,5,none⟩) km1).trans d5
    have d6':=(World.cell?_of_block (a:=⟨F.mb,6,none⟩) km1).trans d6
    have d7':=(World.cell?_of_block (a:=⟨F.mb,7,none⟩) km1).trans d7
    have u1:=(World.cell?_of_block (a:=⟨g,(N-1)*6+1,none⟩) kg1).trans q1
    have u2:=(World.cell?_of_block (a:=⟨g,(N-1)*6+2,none⟩) kg1).trans q2
    have u3:=(World.cell?_of_block (a:=⟨g,(N-1)*6+3,none⟩) kg1).trans q3
    have v3:=(World.frozen?_of_block (a:=⟨g,(N-1)*6+3,none⟩) kg1).trans frg
    have v4:=(World.frozen?_of_block (a:=⟨F.mb,4,none⟩) km1).trans fr4
    have v5:=(World.frozen?_of_block (a:=⟨F.mb,5,none⟩) km1).trans fr5
    clear hx1 hch1 kg1 km1
    obtain⟨W2,hW2⟩:∃W2,W2=((w1.setCell ⟨F.mb,4,none⟩ (.int .i64 (caller:Nat))).setCell ⟨F.mb,5,none⟩ (.int .i64 back)).drew:=⟨_,rfl⟩
    have HX2:Hid (MX W2 B F L sk {{m with sto:=popX m.sto}with prog:=caller,pos:=back}):=by
     unfold Hid;rw[hW2];exact((HX1.out.set_prog hcl.2.1).set_pos hbk').below (below_dn (Below.refl _ _) 1)
    have HCH2:Hid (Chg F.own w W2):=by unfold Hid;rw[hW2];exact((HCH1.out.trans (chg_set _ _ _ _ _ F.own_mb)).trans (chg_set _ _ _ _ _ F.own_mb)).trans (Chg.of_below (below_dn (Below.refl _ _) 1))
    have HC2:Hid (m.calls[N-1]? =some ⟨prog,caller,back,left,args,true⟩):=HC.out
    obtain⟨g',cap',cur',A',cp',hac',_,zc,_,_,_,_,_,z6,_⟩:=HX2.out.call (i:=N-1) HC2.out
    have hgg:g=g':=by have:=HAC.out.symm.trans hac';simpa using this
    subst hgg
    obtain⟨_,_,_,_,_,_,_,_,_,⟨_,_,_,_,_,_,_,_⟩,_,_,_,_,hfr2⟩:=HX2.out.cells
    have z6f:=hfr2 6
    dsimp only at z6 zc
    have HSH:=Lib.hid (HX2.out.shut z6 (by have:=HN1.out;dsimp only;omega))
    rw[←HN1.out]at z6 HSH zc
    have EJ:Hid (leaveM L m=({m with prog:=caller,pos:=back,calls:=m.calls.dropLast,sto:=popX m.sto},0)):=by
     unfold Hid leaveM
     rw[HLAST.out]
     simp[hl,HPOP.out]
    have HS:=Lib.hid hW2
    clear hfr2 hW2 hac')
   go_region;rw[←HS.out];go_wp2_with fail;go_ret;refine⟨by rw[EJ.out];rfl,?_⟩;rw[EJ.out];exact MP.of HSH.out (HCH2.out.trans (chg_set _ _ _ _ _ F.own_mb))
end Go.Proofs.YtdcjbhdfphcefaaGreatDoor
