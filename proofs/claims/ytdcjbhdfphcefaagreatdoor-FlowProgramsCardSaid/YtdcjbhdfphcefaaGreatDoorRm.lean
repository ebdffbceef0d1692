/- The machine. -/
import Derived.Test.YtdcjbhdfphcefaaGreatDoorFa
import Derived.Test.YtdcjbhdfphcefaaGreatDoorSvq
namespace Go.Proofs.YtdcjbhdfphcefaaGreatDoor
set_option linter.all false
set_option maxHeartbeats 4000000
open Go.Proofs.Tryz
open Go.RowKit
def zcW(c:Cl)(A:OA)(cp:Nat):LV:=[.int .i64 (c.prog:Nat),.int .i64 (c.caller:Nat),.int .i64 c.back,.int .i64 c.left,.slice A c.args.length cp,.bool c.lev]
def RdC(w:World)(I:Nat->Prop)(l:List Cl)(xs:LV):Prop:=
 ∀(i:Nat) (c:Cl),l[i]? =some c->I64 c.back/\I64 c.left/\∃(A:OA) (cp:Nat),RdV w I A c.args.length c.args/\∀(j:Nat) (v:Value),(zcW c A cp)[j]? =some v->xs[i*6+j]? =some v
def zdG(A1 A2 A3 AC:OA)(c1 c2 c3 capc sb:Nat)(L:Lb)(sk:Bool)(m:MS):LV:=
 [.slice A1 L.bl.length c1,.slice A2 L.pr.length c2,.slice A3 L.mt.length c3,.bool sk,.int .i64 (m.prog:Nat),.int .i64 m.pos,.slice AC m.calls.length capc,.pointer (some ⟨sb,0,none⟩),.int .i64 m.steps,.bool m.ended,.int .i64 m.err]
structure Fp where
 mb:Nat
 sb:Nat
 lb:Nat
 ac:Option Nat
 av:List Nat
def Fp.own(F:Fp)(g:Nat):Prop:=g=F.mb\/g=F.sb\/g=F.lb\/F.ac=some g
def Fp.far(F:Fp)(g:Nat):Prop:=¬F.own g/\g∉F.av
structure Mv(w:World)(F F':Fp):Prop where
 mb:F'.mb=F.mb
 sb:F'.sb=F.sb
 av:F'.av=F.av
 lb:F'.lb=F.lb\/w.heap.size<=F'.lb
 ac:F'.ac=F.ac\/∃g,F'.ac=some g/\w.heap.size<=g
theorem Mv.refl(w:World)(F:Fp):Mv w F F:=⟨rfl,rfl,rfl,.inl rfl,.inl rfl⟩
theorem Mv.trans{w w1:World}{F F1 F2:Fp}(h:Mv w F F1)(k:Mv w1 F1 F2)(hs:w.heap.size<=w1.heap.size):Mv w F F2:=by
 refine⟨k.mb.trans h.mb,k.sb.trans h.sb,k.av.trans h.av,?_,?_⟩
 ·rcases k.lb with e|e
  ·rw[e];exact h.lb
  ·exact .inr (Ly hs e)
 ·rcases k.ac with e|⟨g,e,e2⟩
  ·rw[e];exact h.ac
  ·exact .inr ⟨g,e,Ly hs e2⟩
theorem Mv.own{w:World}{F F':Fp}(h:Mv w F F'):∀g,g<w.heap.size->F'.own g->F.own g:=by
 intro g hg ho;rcases ho with e|e|e|e
 ·exact .inl (e.trans h.mb)
 ·exact .inr (.inl (e.trans h.sb))
 ·rcases h.lb with q|q
  ·exact .inr (.inr (.inl (e.trans q)))
  ·omega
 ·rcases h.ac with q|⟨g',q,q2⟩
  ·exact .inr (.inr (.inr (q.symm.trans e)))
  ·rw[q]at e;cases e;omega
theorem Mv.far{w:World}{F F':Fp}(h:Mv w F F'):∀g,g<w.heap.size->F.far g->F'.far g:=λg hg ho=>⟨λk=>ho.1 (h.own g hg k),by rw[h.av];exact ho.2⟩
def Sto.vf(σ:Sto):Prop:=(∀f∈σ.lv,Vf f)/\Vf σ.gl
theorem Sto.vf.f{σ:Sto}(h:σ.vf):Vf σ.f:=by
 intro n;unfold Sto.f;split
 ·unfold Sto.top;rw[Gd];rcases e:σ.lv[σ.lv.length-1]? with _|g
  ·show-1000000000000000<=(0:Int)/\(0:Int)<=1000000000000000;omega
  ·exact h.1 g (Mg e) n
 ·exact h.2 n
theorem Vf.zero:Vf (λ_=>0):=λ_=>⟨by dsimp only;omega,by dsimp only;omega⟩
theorem Vf.upd{f:Int->Int}(h:Vf f){n v:Int}(hv:vld v=true):Vf (upd f n v):=by
 intro x;unfold Proofs.YtdcjbhdfphcefaaGreatDoor.upd;split
 ·have:=aP hv;omega
 ·exact h x
theorem Sto.vf.top{σ:Sto}(h:σ.vf):Vf σ.top:=by
 unfold Sto.top;rw[Gd];rcases e:σ.lv[σ.lv.length-1]? with _|g
 ·exact Vf.zero
 ·exact h.1 g (Mg e)
theorem Sto.vf.set{σ:Sto}(h:σ.vf)(n v:Int):(zeY σ n v).vf:=by
 unfold zeY;by_cases e:zdL n v=0
 ·rw[Ip e];have hv:vld v=true:=by
   unfold zdL at e;split at e
   ·split at e
    ·omega
    ·rcases hv:vld v
     ·rw[hv]at e;simp at e
     ·rfl
   ·omega
  split
  ·refine⟨λf hf=> ?_,h.2⟩;rcases List.mem_or_eq_of_mem_set hf with q|q
   ·exact h.1 f q
   ·rw[q];exact h.top.upd hv
  ·exact⟨h.1,h.2.upd hv⟩
 ·rw[Iq e];exact h
theorem Sto.vf.pop{σ:Sto}(h:σ.vf):(zdN σ).vf:=by
 unfold zdN;split
 ·exact h
 ·exact⟨λf hf=>h.1 f ((List.dropLast_sublist _).subset hf),h.2⟩
theorem qyD:∀(l:LI) (s:List Int) (f:Int->Int),zcN s l=0->Vf f->Vf (l.foldl (λf x=>upd f (zbW x.1) x.2) f):=by
 intro l;induction l with
 |nil=>intro s f _ h;exact h
 |cons x r ih=>
  intro s f he hf;obtain⟨c,n⟩:=x;rw[zcN]at he;split at he
  ·omega
  split at he
  ·omega
  split at he
  ·rename_i hv;exact ih _ _ he (hf.upd hv)
  ·omega
theorem Sto.vf.push{σ:Sto}(h:σ.vf)(l:LI):(zbU σ l).vf:=by
 unfold zbU;by_cases e:zcG σ l=0
 ·rw[Ip e];have he:zcN [] l=0:=by
   unfold zcG at e;split at e
   ·omega
   ·exact e
  refine⟨λf hf=> ?_,h.2⟩;rcases Ma.1 hf with q|q
  ·exact h.1 f q
  ·rw[Mt.1 q];exact qyD l [] _ he Vf.zero
 ·rw[Iq e];exact h
structure MX(w:World)(B:Nat)(F:Fp)(L:Lb)(sk:Bool)(m:MS):Prop where
 mb_ge:B<=F.mb
 sb_ge:B<=F.sb
 lb_ge:B<=F.lb
 ne1:F.mb≠F.sb
 ne2:F.mb≠F.lb
 av:∀x∈F.av,x<w.heap.size
 tab:Tab w
 tabB:1<B
 tn:Tn w
 tnB:0<B
 fine:L.fine
 sto:Sx w F.sb F.lb m.sto
 vf:m.sto.vf
 pos:I64 m.pos
 prog:m.prog<L.pr.length
 steps:0<=m.steps/\m.steps<=20000
 err:True
 few:m.calls.length<=8
 calls:∀c∈m.calls,c.prog<L.pr.length/\c.caller<L.pr.length/\0<=c.left
 ex:∃(A1 A2 A3 AC:OA) (c1 c2 c3 capc:Nat) (xs:LV),
  w.heap[F.mb]? =some (.cells ⟨zdG A1 A2 A3 AC c1 c2 c3 capc F.sb L sk m⟩ 81 (0,0))/\RdLb w B L A1 L.bl.length A2 L.pr.length A3 L.mt.length/\
  w.ownsRow B 102 6 (.slice AC m.calls.length capc) m.calls.length xs/\(∀g,F.ac=some g->g≠F.mb/\g≠F.sb/\g≠F.lb)/\AC.map (·.block)=F.ac/\RdC w F.far m.calls xs
theorem MX.cells{w:World}{B:Nat}{F:Fp}{L:Lb}{sk:Bool}{m:MS}(h:MX w B F L sk m):∃(A1 A2 A3 AC:OA) (c1 c2 c3 capc:Nat) (xs:LV),
 (w.cell? ⟨F.mb,0,none⟩=some (.slice A1 L.bl.length c1)/\w.cell? ⟨F.mb,1,none⟩=some (.slice A2 L.pr.length c2)/\w.cell? ⟨F.mb,2,none⟩=some (.slice A3 L.mt.length c3)/\w.cell? ⟨F.mb,3,none⟩=some (.bool sk)/\
 w.cell? ⟨F.mb,4,none⟩=some (.int .i64 (m.prog:Nat))/\w.cell? ⟨F.mb,5,none⟩=some (.int .i64 m.pos)/\w.cell? ⟨F.mb,6,none⟩=some (.slice AC m.calls.length capc)/\w.cell? ⟨F.mb,7,none⟩=some (.pointer (some ⟨F.sb,0,none⟩))/\
 w.cell? ⟨F.mb,8,none⟩=some (.int .i64 m.steps)/\w.cell? ⟨F.mb,9,none⟩=some (.bool m.ended)/\w.cell? ⟨F.mb,10,none⟩=some (.int .i64 m.err))/\RdLb w B L A1 L.bl.length A2 L.pr.length A3 L.mt.length/\
 w.ownsRow B 102 6 (.slice AC m.calls.length capc) m.calls.length xs/\AC.map (·.block)=F.ac/\RdC w F.far m.calls xs/\∀i,w.frozen? ⟨F.mb,i,none⟩=false:=by
 obtain⟨A1,A2,A3,AC,c1,c2,c3,capc,xs,hb,hL,ho,_,ha,hc⟩:=h.ex;have q:=λj=>Ro w F.mb j _ _ _ hb;exact⟨A1,A2,A3,AC,c1,c2,c3,capc,xs,⟨(q 0).trans rfl,(q 1).trans rfl,(q 2).trans rfl,(q 3).trans rfl,(q 4).trans rfl,(q 5).trans rfl,(q 6).trans rfl,(q 7).trans rfl,(q 8).trans rfl,(q 9).trans rfl,(q 10).trans rfl⟩,hL,ho,ha,hc,λi=>by simp[World.frozen?,hb]⟩
theorem MX.lt{w:World}{B:Nat}{F:Fp}{L:Lb}{sk:Bool}{m:MS}(h:MX w B F L sk m):F.mb<w.heap.size:=by
 obtain⟨A1,A2,A3,AC,c1,c2,c3,capc,xs,hb,_⟩:=h.ex;exact hlS hb
theorem MX.Ble{w:World}{B:Nat}{F:Fp}{L:Lb}{sk:Bool}{m:MS}(h:MX w B F L sk m):B<=w.heap.size:=Ll (Nat.lt_of_le_of_lt h.mb_ge h.lt)
theorem MX.own_ge{w:World}{B:Nat}{F:Fp}{L:Lb}{sk:Bool}{m:MS}(h:MX w B F L sk m):∀g,F.own g->B<=g/\g<w.heap.size:=by
 intro g hg;have h1:=h.lt;have h2:=h.sto.lt;have h3:=h.mb_ge;have h4:=h.sb_ge;have h5:=h.lb_ge;rcases hg with e|e|e|e
 ·omega
 ·omega
 ·omega
 ·obtain⟨A1,A2,A3,AC,c1,c2,c3,capc,xs,_,_,ho,_,ha,_⟩:=h.ex;rcases ho.2 with⟨q,_⟩|⟨g',cap,cur,e1,e2,e3,_⟩
  ·simp only[Vs]at q;rw[q.1,e]at ha;simp at ha
  ·simp only[Vs]at e1;rw[e1.1,e]at ha;simp at ha;have:=hlS e3;omega
theorem aC{w w':World}{base:Nat}{e:TypeId}{size:Nat}{v:Value}{n:Nat}{xs:LV}(h:w.ownsRow base e size v n xs)(hk:∀g,g<w.heap.size->v.ownBlock=some g->w'.heap[g]? =w.heap[g]?):w'.ownsRow base e size v n xs:=by
 refine⟨h.1,?_⟩;rcases h.2 with h|⟨g,cap,cur,e1,e2,e3,e4⟩
 ·exact .inl h
 ·exact .inr ⟨g,cap,cur,e1,e2,(hk g (hlS e3) (by rw[e1];rfl)).trans e3,e4⟩
theorem RdC.keep{w w':World}{I I':Nat->Prop}{l:List Cl}{xs:LV}(h:RdC w I l xs)(hs:w.heap.size<=w'.heap.size)(hI:∀g,g<w.heap.size->I g->I' g)(hk:∀g,g<w.heap.size->I g->w'.heap[g]? =w.heap[g]?):RdC w' I' l xs:=by
 intro i c hc;obtain⟨a,b,A,cp,hv,hx⟩:=h i c hc;exact⟨a,b,A,cp,hv.keep hs hI hk,hx⟩
theorem MX.keep{w w':World}{B:Nat}{F:Fp}{L:Lb}{sk:Bool}{m:MS}(h:MX w B F L sk m)(hs:w.heap.size<=w'.heap.size)(hk:∀g,g<w.heap.size->g∉F.av->w'.heap[g]? =w.heap[g]?)(hav:∀g∈F.av,B<=g/\¬F.own g):MX w' B F L sk m:=by
 have hlt:=h.lt;have hge:=h.mb_ge;have hslt:=h.sto.lt;have ko:∀g,F.own g->w'.heap[g]? =w.heap[g]? :=λg hg=>hk g (h.own_ge g hg).2 λhc=>(hav g hc).2 hg;have kl:∀g,g<B->w'.heap[g]? =w.heap[g]? :=λg hg=>hk g (by omega) λhc=>by have:=(hav g hc).1;omega
 obtain⟨A1,A2,A3,AC,c1,c2,c3,capc,xs,hb,hL,ho,hf,ha,hc⟩:=h.ex;obtain⟨t1,t2,t3⟩:=h.tab;obtain⟨n1,n2,n3⟩:=h.tn;refine⟨h.mb_ge,h.sb_ge,h.lb_ge,h.ne1,h.ne2,λx hx=>Lt (h.av x hx) hs,⟨t1,t2,(kl _ h.tabB).trans t3⟩,h.tabB,⟨n1,n2,(kl _ h.tnB).trans n3⟩,h.tnB,h.fine,h.sto.keep (ko _ (.inr (.inl rfl))) (ko _ (.inr (.inr (.inl rfl)))),h.vf,h.pos,h.prog,h.steps,h.err,h.few,h.calls,A1,A2,A3,AC,c1,c2,c3,capc,xs,(ko _ (.inl rfl)).trans hb,
  hL.keep (λp hp=>Wb (kl p.block hp)) (Le _),aC ho λg hg hv=>ko g (.inr (.inr (.inr ?_))),hf,ha,hc.keep hs (λ_ _ h=>h) λg hg hI=>hk g hg hI.2⟩
 rcases AC with _|a
 ·simp[Value.ownBlock]at hv
 ·rw[<-ha];simpa[Value.ownBlock]using hv
theorem MX.below{w w':World}{B:Nat}{F:Fp}{L:Lb}{sk:Bool}{m:MS}(h:MX w B F L sk m)(hb:Bw w w'):MX w' B F L sk m:=by
 have hk:=hb.block;have hs:=hb.size;have hlt:=h.lt;have hge:=h.mb_ge;obtain⟨A1,A2,A3,AC,c1,c2,c3,capc,xs,hbk,hL,ho,hf,ha,hc⟩:=h.ex;exact⟨h.mb_ge,h.sb_ge,h.lb_ge,h.ne1,h.ne2,λx hx=>Lt (h.av x hx) hs,h.tab.below hb h.tab.lt,h.tabB,h.tn.below hb h.tn.lt,h.tnB,h.fine,h.sto.keep (hk _ h.sto.lt.1) (hk _ h.sto.lt.2),h.vf,h.pos,h.prog,h.steps,h.err,h.few,h.calls,A1,A2,A3,AC,c1,c2,c3,capc,xs,(hk _ hlt).trans hbk,
  hL.keep (λp hp=>Wb (hk p.block (by omega))) (Le _),aC ho λg hg _=>hk g hg,hf,ha,hc.keep hs (λ_ _ h=>h) λg hg _=>hk g hg⟩
theorem MX.put{w:World}{B:Nat}{F:Fp}{L:Lb}{sk:Bool}{m m':MS}(h:MX w B F L sk m)(i:Nat)(v:Value)
 (he:∀(A1 A2 A3 AC:OA) (c1 c2 c3 capc:Nat),(⟨zdG A1 A2 A3 AC c1 c2 c3 capc F.sb L sk m⟩:Array Value).setIfInBounds i v=⟨zdG A1 A2 A3 AC c1 c2 c3 capc F.sb L sk m'⟩)
 (hc:m'.calls=m.calls) (hs:m'.sto=m.sto) (h1:I64 m'.pos) (h2:m'.prog<L.pr.length) (h3:0<=m'.steps/\m'.steps<=20000) (h4:True):MX (w.setCell ⟨F.mb,i,none⟩ v) B F L sk m':=by
 have hge:=h.mb_ge;have hn1:=h.ne1;have hn2:=h.ne2;obtain⟨A1,A2,A3,AC,c1,c2,c3,capc,xs,hb,hL,ho,hf,ha,hr⟩:=h.ex;have hk:∀g,g≠F.mb->(w.setCell ⟨F.mb,i,none⟩ v).heap[g]? =w.heap[g]? :=λg hg=>Bj _ _ _ g hg;obtain⟨t1,t2,t3⟩:=h.tab;obtain⟨n1,n2,n3⟩:=h.tn;have q1:=h.tabB;have q2:=h.tnB;refine⟨h.mb_ge,h.sb_ge,h.lb_ge,h.ne1,h.ne2,λx hx=>by have:=h.av x hx;simpa[World.setCell]using this,⟨t1,t2,(hk _ (by omega)).trans t3⟩,h.tabB,⟨n1,n2,(hk _ (by omega)).trans n3⟩,h.tnB,h.fine,by rw[hs];exact h.sto.keep (hk _ (by omega)) (hk _ (by omega)),by rw[hs];exact h.vf,h1,h2,h3,h4,by rw[hc];exact h.few,by rw[hc];exact h.calls,A1,A2,A3,AC,c1,c2,c3,capc,xs,?_,
  hL.keep (λp hp=>Wb (hk p.block (by omega))) (Le _),?_,hf,ha,?_⟩
 ·rw[<-he];exact aD hb
 ·rw[hc];refine aC ho λg hg hv=>hk g ?_;rcases AC with _|a
  ·simp[Value.ownBlock]at hv
  ·exact(hf g (by rw[<-ha];simpa[Value.ownBlock]using hv)).1
 ·rw[hc];exact hr.keep (by simp[World.setCell]) (λ_ _ h=>h) λg hg hI=>hk g λe=>hI.1 (.inl e)
theorem MX.set_prog{w:World}{B:Nat}{F:Fp}{L:Lb}{sk:Bool}{m:MS}{t:Nat}(h:MX w B F L sk m)(ht:t<L.pr.length):MX (w.setCell ⟨F.mb,4,none⟩ (.int .i64 (t:Nat))) B F L sk {m with prog:=t}:=
 h.put 4 _ (λ_ _ _ _ _ _ _ _=>rfl) rfl rfl h.pos ht h.steps h.err
theorem MX.set_pos{w:World}{B:Nat}{F:Fp}{L:Lb}{sk:Bool}{m:MS}{t:Int}(h:MX w B F L sk m)(ht:I64 t):MX (w.setCell ⟨F.mb,5,none⟩ (.int .i64 t)) B F L sk {m with pos:=t}:=
 h.put 5 _ (λ_ _ _ _ _ _ _ _=>rfl) rfl rfl ht h.prog h.steps h.err
theorem MX.set_steps{w:World}{B:Nat}{F:Fp}{L:Lb}{sk:Bool}{m:MS}{t:Int}(h:MX w B F L sk m)(ht:0<=t/\t<=20000):MX (w.setCell ⟨F.mb,8,none⟩ (.int .i64 t)) B F L sk {m with steps:=t}:=
 h.put 8 _ (λ_ _ _ _ _ _ _ _=>rfl) rfl rfl h.pos h.prog ht h.err
theorem MX.set_ended{w:World}{B:Nat}{F:Fp}{L:Lb}{sk:Bool}{m:MS}{t:Bool}(h:MX w B F L sk m):MX (w.setCell ⟨F.mb,9,none⟩ (.bool t)) B F L sk {m with ended:=t}:=
 h.put 9 _ (λ_ _ _ _ _ _ _ _=>rfl) rfl rfl h.pos h.prog h.steps h.err
theorem MX.set_err{w:World}{B:Nat}{F:Fp}{L:Lb}{sk:Bool}{m:MS}{t:Int}(h:MX w B F L sk m):MX (w.setCell ⟨F.mb,10,none⟩ (.int .i64 t)) B F L sk {m with err:=t}:=
 h.put 10 _ (λ_ _ _ _ _ _ _ _=>rfl) rfl rfl h.pos h.prog h.steps trivial
def MP(B:Nat)(F:Fp)(L:Lb)(sk:Bool)(m':MS)(w w':World):Prop:=∃F',Mv w F F'/\MX w' B F' L sk m'/\Chg F.own w w'
theorem MP.trans{B:Nat}{F:Fp}{L:Lb}{sk:Bool}{m1 m2:MS}{w w1 w2:World}(h:MP B F L sk m1 w w1)(k:∀F1,Mv w F F1->MX w1 B F1 L sk m1->MP B F1 L sk m2 w1 w2):MP B F L sk m2 w w2:=by
 obtain⟨F1,a1,a2,a3⟩:=h;obtain⟨F2,b1,b2,b3⟩:=k F1 a1 a2;exact⟨F2,a1.trans b1 a3.size,b2,⟨b3.os.trans a3.os,b3.tape.trans a3.tape,b3.output.trans a3.output,Ly a3.size b3.size,λg hg ho=>(b3.block g (Lt hg a3.size) λk=>ho (a1.own g hg k)).trans (a3.block g hg ho)⟩⟩
theorem MP.of{B:Nat}{F:Fp}{L:Lb}{sk:Bool}{m':MS}{w w':World}(h:MX w' B F L sk m')(hc:Chg F.own w w'):MP B F L sk m' w w':=⟨F,Mv.refl _ _,h,hc⟩
theorem MP.below{B:Nat}{F:Fp}{L:Lb}{sk:Bool}{m:MS}{w w':World}(h:MX w B F L sk m)(hb:Bw w w'):MP B F L sk m w w':=⟨F,Mv.refl _ _,h.below hb,Chg.of_below hb⟩
theorem Fp.own_mb(F:Fp):F.own F.mb:=.inl rfl
theorem qiW(w:World)(B:Nat)(F:Fp)(L:Lb)(sk:Bool)(m:MS)(h:MX w B F L sk m):
 Calls prog 18 #[.pointer (some ⟨F.mb,0,none⟩)] w λe w'=>e=.returned (.int .i64 m.steps)/\w=w':=by
 obtain⟨A1,A2,A3,AC,c1,c2,c3,capc,xs,⟨_,_,_,_,_,_,_,_,d8,_,_⟩,_⟩:=h.cells;clear h;go_enter func18,ntmps18;go_wp2;go_ret;exact⟨rfl,rfl⟩
theorem xW(w:World)(B:Nat)(F:Fp)(L:Lb)(sk:Bool)(m:MS)(h:MX w B F L sk m):
 Calls prog 20 #[.pointer (some ⟨F.mb,0,none⟩)] w λe w'=>e=.returned (.int .i64 (m.calls.length:Nat))/\w=w':=by
 obtain⟨A1,A2,A3,AC,c1,c2,c3,capc,xs,⟨_,_,_,_,_,_,d6,_,_,_,_⟩,_⟩:=h.cells;clear h;go_enter func20,ntmps20;go_wp2;go_ret;exact⟨rfl,rfl⟩
theorem qcJ(w:World)(B:Nat)(F:Fp)(L:Lb)(sk:Bool)(m:MS)(h:MX w B F L sk m)(hp:0<=m.pos):
 Calls prog 64 #[.pointer (some ⟨F.mb,0,none⟩)] w λe w'=>e=.returned (.int .i64 (zcM L m.pos))/\w'.heap=w.heap/\Bw w w':=by
 obtain⟨A1,A2,A3,AC,c1,c2,c3,capc,xs,⟨_,_,d2,_,_,d5,_,_,_,_,_⟩,hL,_⟩:=h.cells;obtain⟨_,hn2,hnb,hc⟩:=hL.mt;have hnl:=hn2;unfold maxLen at hnl;have HC:=Hd hc;obtain⟨P,hP⟩:∃P:Nat,m.pos=(P:Int):=⟨m.pos.toNat,by omega⟩;rw[hP]at d5⊢
 clear h hL hc hp hnb;by_cases hlt:P<L.mt.length
 ·obtain⟨ab,off,rfl,hab,hd⟩:=HC.o (by omega);obtain⟨x,hx⟩:∃x,L.mt[P]? =some x:=⟨_,Gg hlt⟩;have e0:=hd P x hx;have E1:Hid (zcM L (P:Int)=x):=by
   unfold Hid zcM;rw[Ip (by omega),It,Gd,hx];rfl
  have g1:decide ((P:Int)<(L.mt.length:Int))=true:=Dt (by omega);clear hd hx;go_enter func64,ntmps64;go_wp2_with fail;go_quiet(fail);go_wp2_with fail;go_quiet(fail);go_wp2;go_ret;rw[E1.o];exact⟨rfl,rfl,aA (aA (Bf _ _) _) _⟩
 ·have E1:Hid (zcM L (P:Int)= -1):=by unfold Hid zcM;rw[Iq (by omega)]
  have g1:decide ((P:Int)<(L.mt.length:Int))=false:=Df (by omega);go_enter func64,ntmps64;go_wp2_with fail;go_quiet(fail);go_wp2;go_ret;rw[E1.o];exact⟨rfl,rfl,aA (Bf _ _) _⟩
