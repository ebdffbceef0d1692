/- The machine. -/
import Derived.Test.YtdcjbhdfphcefaaGreatDoorSq
import Derived.Test.YtdcjbhdfphcefaaGreatDoorRj
import Derived.Test.YtdcjbhdfphcefaaGreatDoorEwr
import Derived.Test.YtdcjbhdfphcefaaGreatDoorJm
namespace Go.Proofs.YtdcjbhdfphcefaaGreatDoor
set_option linter.all false
set_option maxRecDepth 100000
set_option maxHeartbeats 4000000
open Go.Proofs.Tryz
open Go.RowKit
def zdV(c:Cl)(A:OA)(n cp:Nat):LV:=[.int .i64 (c.prog:Nat),.int .i64 c.left,.int .i64 c.back,.int .i64 (c.caller:Nat),.bool c.lev,.slice A n cp]
def QC(w:World)(I:Nat->Prop)(l:List Cl)(xs:LV):Prop:=
 xs.length=l.length*6/\∀(i:Nat) (c:Cl),l[i]? =some c->I64 c.back/\I64 c.left/\∃(A:OA) (n cp:Nat),(c.lev=true->n=c.args.length/\RdV w I A c.args.length c.args)/\∀(j:Nat) (v:Value),(zdV c A n cp)[j]? =some v->xs[i*6+j]? =some v
theorem QC.keep{w w':World}{I I':Nat->Prop}{l:List Cl}{xs:LV}(h:QC w I l xs)(hs:w.heap.size<=w'.heap.size)(hI:∀g,g<w.heap.size->I g->I' g)(hk:∀g,g<w.heap.size->I g->w'.heap[g]? =w.heap[g]?):QC w' I' l xs:=by
 refine⟨h.1,λi c hc=> ?_⟩;obtain⟨a,b,A,n,cp,hv,hx⟩:=h.2 i c hc;exact⟨a,b,A,n,cp,λq=>⟨(hv q).1,(hv q).2.keep hs hI hk⟩,hx⟩
theorem QC.nil(w:World)(I:Nat->Prop):QC w I [] []:=⟨rfl,λi c h=>by simp at h⟩
theorem QC.push{w:World}{I:Nat->Prop}{l:List Cl}{xs:LV}(h:QC w I l xs)(c:Cl)(A:OA)(n cp:Nat)(h1:I64 c.back)(h2:I64 c.left)(h3:c.lev=true->n=c.args.length/\RdV w I A c.args.length c.args):QC w I (l++[c]) (xs++zdV c A n cp):=by
 refine⟨by simp[h.1,zdV];omega,λi d hd=> ?_⟩;rcases Nat.lt_or_ge i l.length with q|q
 ·rw[Gc q]at hd;obtain⟨a,b,A',n',cp',hv,hx⟩:=h.2 i d hd;refine⟨a,b,A',n',cp',hv,λj v hj=> ?_⟩;have hj6:j<6:=by have:=(Gu.1 hj).1;simpa[zdV]using this
  rw[Gc (by have:=h.1;omega)];exact hx j v hj
 ·rw[Ga q]at hd;have hil:i-l.length=0:=by
   have:=(Gu.1 hd).1;simp at this;omega
  rw[hil]at hd;cases hd;refine⟨h1,h2,A,n,cp,h3,λj v hj=> ?_⟩;have:=h.1;rw[Ga (by omega),show i*6+j-xs.length=j by omega];exact hj
theorem QC.take{w:World}{I:Nat->Prop}{l:List Cl}{xs:LV}(h:QC w I l xs):QC w I l.dropLast (xs.take (l.dropLast.length*6)):=by
 refine⟨by rw[Lr,h.1,Ld];omega,λi c hc=> ?_⟩;have hi:=(Gu.1 hc).1;rw[List.dropLast_eq_take,Gt]at hc;split at hc
 ·obtain⟨a,b,A,n,cp,hv,hx⟩:=h.2 i c hc;refine⟨a,b,A,n,cp,hv,λj v hj=> ?_⟩;have hj6:j<6:=by have:=(Gu.1 hj).1;simpa[zdV]using this
  rw[Gt,Ip (by omega)];exact hx j v hj
 ·cases hc
theorem QC.one{w:World}{I:Nat->Prop}{l:List Cl}{xs:LV}(h:QC w I l xs):∀u∈xs,u.oneCell'=true:=by
 intro u hu;obtain⟨j,hj⟩:=List.getElem?_of_mem hu;have hlt:=(Gu.1 hj).1;have hl:=h.1;obtain⟨c,hc⟩:∃c,l[j/6]? =some c:=⟨_,Gg (by omega)⟩;obtain⟨_,_,A,n,cp,_,hx⟩:=h.2 _ c hc;obtain⟨v,hv⟩:∃v,(zdV c A n cp)[j%6]? =some v:=⟨_,Gg (by show j%6<6;exact Nat.mod_lt _ (by omega))⟩;have q:=hx _ v hv;rw[show j/6*6+j%6=j by omega,hj]at q;rw[Oj q];have hm:=Mg hv;simp only[zdV,List.mem_cons,List.not_mem_nil,or_false]at hm;rcases hm with rfl|rfl|rfl|rfl|rfl|rfl<;>rfl
def QO(w:World)(I:Nat->Prop)(A:OA)(cap n:Nat)(xs:LV):Prop:=
 n<=cap/\cap<=maxLen/\(0<n->∃ab,A=some ⟨ab,0,none⟩/\ab<w.heap.size/\I ab/\∀j v,xs[j]? =some v->w.cell? ⟨ab,j,none⟩=some v)
structure QX(w:World)(B:Nat)(F:Fp)(L:Lb)(sk:Bool)(m:MS):Prop where
 ac:F.ac=none
 ge:B<=F.mb/\B<=F.sb/\B<=F.lb
 ne:F.mb≠F.sb/\F.mb≠F.lb
 av:∀x∈F.av,B<=x/\¬F.own x/\x<w.heap.size
 fine:L.fine
 mated:L.mated
 sto:SxR w F.sb F.lb m.sto
 vf:m.sto.vf
 pos:I64 m.pos
 prog:m.prog<L.pr.length
 steps:0<=m.steps/\m.steps<=20000
 few:m.calls.length<=8
 calls:∀c∈m.calls,c.prog<L.pr.length/\c.caller<L.pr.length/\0<=c.left
 ex:∃(A1 A2 A3 AC:OA) (c1 c2 c3 capc:Nat) (xs:LV),
  w.heap[F.mb]? =some (.cells ⟨zdG A1 A2 A3 AC c1 c2 c3 capc F.sb L sk m⟩ 130 (0,0))/\RdLb w B L A1 L.bl.length A2 L.pr.length A3 L.mt.length/\QC w F.far m.calls xs/\
  QO w F.far AC capc m.calls.length xs
theorem Fp.own3{F:Fp}(h:F.ac=none){g:Nat}:F.own g↔g=F.mb\/g=F.sb\/g=F.lb:=by unfold Fp.own;rw[h];simp
theorem QX.cells{w:World}{B:Nat}{F:Fp}{L:Lb}{sk:Bool}{m:MS}(h:QX w B F L sk m):∃(A1 A2 A3 AC:OA) (c1 c2 c3 capc:Nat) (xs:LV),
 (w.cell? ⟨F.mb,0,none⟩=some (.slice A1 L.bl.length c1)/\w.cell? ⟨F.mb,1,none⟩=some (.slice A2 L.pr.length c2)/\w.cell? ⟨F.mb,2,none⟩=some (.slice A3 L.mt.length c3)/\w.cell? ⟨F.mb,3,none⟩=some (.bool sk)/\
 w.cell? ⟨F.mb,4,none⟩=some (.int .i64 (m.prog:Nat))/\w.cell? ⟨F.mb,5,none⟩=some (.int .i64 m.pos)/\w.cell? ⟨F.mb,6,none⟩=some (.slice AC m.calls.length capc)/\w.cell? ⟨F.mb,7,none⟩=some (.pointer (some ⟨F.sb,0,none⟩))/\
 w.cell? ⟨F.mb,8,none⟩=some (.int .i64 m.steps)/\w.cell? ⟨F.mb,9,none⟩=some (.bool m.ended)/\w.cell? ⟨F.mb,10,none⟩=some (.int .i64 m.err))/\RdLb w B L A1 L.bl.length A2 L.pr.length A3 L.mt.length/\
 (QC w F.far m.calls xs/\QO w F.far AC capc m.calls.length xs)/\∀i,w.frozen? ⟨F.mb,i,none⟩=false:=by
 obtain⟨A1,A2,A3,AC,c1,c2,c3,capc,xs,hb,hL,hc,ho⟩:=h.ex;have q:=λj=>Ro w F.mb j _ _ _ hb;exact⟨A1,A2,A3,AC,c1,c2,c3,capc,xs,⟨(q 0).trans rfl,(q 1).trans rfl,(q 2).trans rfl,(q 3).trans rfl,(q 4).trans rfl,(q 5).trans rfl,(q 6).trans rfl,(q 7).trans rfl,(q 8).trans rfl,(q 9).trans rfl,(q 10).trans rfl⟩,hL,⟨hc,ho⟩,λi=>by simp[World.frozen?,hb]⟩
theorem QX.lt{w:World}{B:Nat}{F:Fp}{L:Lb}{sk:Bool}{m:MS}(h:QX w B F L sk m):F.mb<w.heap.size:=by
 obtain⟨A1,A2,A3,AC,c1,c2,c3,capc,xs,hb,_⟩:=h.ex;exact hlS hb
theorem QX.Ble{w:World}{B:Nat}{F:Fp}{L:Lb}{sk:Bool}{m:MS}(h:QX w B F L sk m):B<=w.heap.size:=Ll (Nat.lt_of_le_of_lt h.ge.1 h.lt)
theorem QX.own_ge{w:World}{B:Nat}{F:Fp}{L:Lb}{sk:Bool}{m:MS}(h:QX w B F L sk m):∀g,F.own g->B<=g/\g<w.heap.size:=by
 intro g hg;have h1:=h.lt;have h2:=h.sto.lt;have h3:=h.ge;rcases(Fp.own3 h.ac).1 hg with e|e|e<;>omega
theorem QX.re{w w':World}{B:Nat}{F F':Fp}{L:Lb}{sk:Bool}{m m':MS}(h:QX w B F L sk m)(hs:w.heap.size<=w'.heap.size)(hk:∀g,g<w.heap.size->¬F.own g->g∉F.av->w'.heap[g]? =w.heap[g]?)
 (hac:F'.ac=none) (hge:B<=F'.mb/\B<=F'.sb/\B<=F'.lb) (hne:F'.mb≠F'.sb/\F'.mb≠F'.lb) (hav:∀x∈F'.av,B<=x/\¬F'.own x/\x<w'.heap.size) (hst:SxR w' F'.sb F'.lb m'.sto) (hvf:m'.sto.vf) (hp:I64 m'.pos) (hpr:m'.prog<L.pr.length) (hsp:0<=m'.steps/\m'.steps<=20000) (hfew:m'.calls.length<=8)
 (hcs:∀c∈m'.calls,c.prog<L.pr.length/\c.caller<L.pr.length/\0<=c.left)
 (hb:∀(A1 A2 A3 AC:OA) (c1 c2 c3 capc:Nat) (xs:LV),w.heap[F.mb]? =some (.cells ⟨zdG A1 A2 A3 AC c1 c2 c3 capc F.sb L sk m⟩ 130 (0,0))->QC w F.far m.calls xs->QO w F.far AC capc m.calls.length xs->
  ∃(AC':OA) (capc':Nat) (xs':LV),w'.heap[F'.mb]? =some (.cells ⟨zdG A1 A2 A3 AC' c1 c2 c3 capc' F'.sb L sk m'⟩ 130 (0,0))/\QC w' F'.far m'.calls xs'/\QO w' F'.far AC' capc' m'.calls.length xs'):
 QX w' B F' L sk m':=by
 have hB:=h.Ble;have kl:∀g,g<B->w'.heap[g]? =w.heap[g]? :=λg hg=>hk g (by omega) (λho=>by have:=(h.own_ge g ho).1;omega) λq=>by have:=(h.av g q).1;omega
 obtain⟨A1,A2,A3,AC,c1,c2,c3,capc,xs,hbk,hL,hc,ho⟩:=h.ex;obtain⟨AC',capc',xs',g1,g2,g3⟩:=hb A1 A2 A3 AC c1 c2 c3 capc xs hbk hc ho;exact⟨hac,hge,hne,hav,h.fine,h.mated,hst,hvf,hp,hpr,hsp,hfew,hcs,A1,A2,A3,AC',c1,c2,c3,capc',xs',g1,hL.keep (λp hp=>Wb (kl p.block hp)) (Le _),g2,g3⟩
theorem kU{w w':World}{AC:OA}{I I':Nat->Prop}{xs:LV}{n cap:Nat}(h:QO w I AC cap n xs)(hs:w.heap.size<=w'.heap.size)(hI:∀g,g<w.heap.size->I g->I' g)(hk:∀g,g<w.heap.size->I g->w'.heap[g]? =w.heap[g]?):QO w' I' AC cap n xs:=by
 refine⟨h.1,h.2.1,λhn=> ?_⟩;obtain⟨ab,e,h1,h2,h3⟩:=h.2.2 hn;exact⟨ab,e,Lt h1 hs,hI ab h1 h2,λj v q=>(cekC ab j (hk ab h1 h2)).trans (h3 j v q)⟩
theorem QX.keep{w w':World}{B:Nat}{F:Fp}{L:Lb}{sk:Bool}{m:MS}(h:QX w B F L sk m)(hs:w.heap.size<=w'.heap.size)(hk:∀g,g<w.heap.size->g∉F.av->w'.heap[g]? =w.heap[g]?)(av:List Nat)(hav:∀x∈av,B<=x/\x<w'.heap.size/\(x∈F.av\/w.heap.size<=x)):QX w' B {F with av:=av} L sk m:=by
 have ko:∀g,F.own g->w'.heap[g]? =w.heap[g]? :=λg hg=>hk g (h.own_ge g hg).2 λhc=>(h.av g hc).2.1 hg;have hno:∀x,x∈F.av\/w.heap.size<=x->¬F.own x:=λx hx ho=>by
  rcases hx with q|q
  ·exact(h.av x q).2.1 ho
  ·have:=(h.own_ge x ho).2;omega
 have hfar:∀g,g<w.heap.size->F.far g->Fp.far {F with av:=av} g:=λg hg hf=>⟨hf.1,λq=>by
  rcases(hav g q).2.2 with z|z
  ·exact hf.2 z
  ·omega⟩
 refine h.re hs (λg hg _ hn=>hk g hg hn) h.ac h.ge h.ne (λx hx=>⟨(hav x hx).1,hno x (hav x hx).2.2,(hav x hx).2.1⟩) (h.sto.keep (ko _ (.inr (.inl rfl))) (ko _ (.inr (.inr (.inl rfl))))) h.vf h.pos h.prog h.steps h.few h.calls ?_;intro A1 A2 A3 AC c1 c2 c3 capc xs hb hc ho;exact⟨AC,capc,xs,(ko _ (.inl rfl)).trans hb,hc.keep hs hfar (λg hg hI=>hk g hg hI.2),kU ho hs hfar (λg hg hI=>hk g hg hI.2)⟩
theorem QX.below{w w':World}{B:Nat}{F:Fp}{L:Lb}{sk:Bool}{m:MS}(h:QX w B F L sk m)(hb:Bw w w'):QX w' B F L sk m:=
 h.keep hb.size (λg hg _=>hb.block g hg) F.av λx hx=>⟨(h.av x hx).1,Lt (h.av x hx).2.2 hb.size,.inl hx⟩
theorem QX.put{w:World}{B:Nat}{F:Fp}{L:Lb}{sk:Bool}{m m':MS}(h:QX w B F L sk m)(i:Nat)(v:Value)
 (he:∀(A1 A2 A3 AC:OA) (c1 c2 c3 capc:Nat),(⟨zdG A1 A2 A3 AC c1 c2 c3 capc F.sb L sk m⟩:Array Value).setIfInBounds i v=⟨zdG A1 A2 A3 AC c1 c2 c3 capc F.sb L sk m'⟩)
 (hc:m'.calls=m.calls) (hs:m'.sto=m.sto) (h1:I64 m'.pos) (h2:m'.prog<L.pr.length) (h3:0<=m'.steps/\m'.steps<=20000):QX (w.setCell ⟨F.mb,i,none⟩ v) B F L sk m':=by
 have hk:∀g,g≠F.mb->(w.setCell ⟨F.mb,i,none⟩ v).heap[g]? =w.heap[g]? :=λg hg=>Bj _ _ _ g hg;have hsz:(w.setCell ⟨F.mb,i,none⟩ v).heap.size=w.heap.size:=by simp[World.setCell]
 have kf:∀g,g<w.heap.size->F.far g->(w.setCell ⟨F.mb,i,none⟩ v).heap[g]? =w.heap[g]? :=λg _ hf=>hk g λe=>hf.1 (.inl e);refine h.re (by rw[hsz];exact Le _) (λg hg hn _=>hk g λe=>hn (.inl e)) h.ac h.ge h.ne (λx hx=>by rw[hsz];exact h.av x hx) (by rw[hs];exact h.sto.keep (hk _ (Ne.symm h.ne.1)) (hk _ (Ne.symm h.ne.2))) (by rw[hs];exact h.vf) h1 h2 h3 (by rw[hc];exact h.few) (by rw[hc];exact h.calls) ?_;intro A1 A2 A3 AC c1 c2 c3 capc xs hb hq ho;rw[hc];exact⟨AC,capc,xs,by rw[<-he];exact aD hb,hq.keep (by rw[hsz];exact Le _) (λ_ _ z=>z) kf,kU ho (by rw[hsz];exact Le _) (λ_ _ z=>z) kf⟩
theorem QX.set_prog{w:World}{B:Nat}{F:Fp}{L:Lb}{sk:Bool}{m:MS}{t:Nat}(h:QX w B F L sk m)(ht:t<L.pr.length):QX (w.setCell ⟨F.mb,4,none⟩ (.int .i64 (t:Nat))) B F L sk {m with prog:=t}:=
 h.put 4 _ (λ_ _ _ _ _ _ _ _=>rfl) rfl rfl h.pos ht h.steps
theorem QX.set_pos{w:World}{B:Nat}{F:Fp}{L:Lb}{sk:Bool}{m:MS}{t:Int}(h:QX w B F L sk m)(ht:I64 t):QX (w.setCell ⟨F.mb,5,none⟩ (.int .i64 t)) B F L sk {m with pos:=t}:=
 h.put 5 _ (λ_ _ _ _ _ _ _ _=>rfl) rfl rfl ht h.prog h.steps
theorem QX.set_steps{w:World}{B:Nat}{F:Fp}{L:Lb}{sk:Bool}{m:MS}{t:Int}(h:QX w B F L sk m)(ht:0<=t/\t<=20000):QX (w.setCell ⟨F.mb,8,none⟩ (.int .i64 t)) B F L sk {m with steps:=t}:=
 h.put 8 _ (λ_ _ _ _ _ _ _ _=>rfl) rfl rfl h.pos h.prog ht
theorem QX.set_ended{w:World}{B:Nat}{F:Fp}{L:Lb}{sk:Bool}{m:MS}{t:Bool}(h:QX w B F L sk m):QX (w.setCell ⟨F.mb,9,none⟩ (.bool t)) B F L sk {m with ended:=t}:=
 h.put 9 _ (λ_ _ _ _ _ _ _ _=>rfl) rfl rfl h.pos h.prog h.steps
theorem QX.set_err{w:World}{B:Nat}{F:Fp}{L:Lb}{sk:Bool}{m:MS}{t:Int}(h:QX w B F L sk m):QX (w.setCell ⟨F.mb,10,none⟩ (.int .i64 t)) B F L sk {m with err:=t}:=
 h.put 10 _ (λ_ _ _ _ _ _ _ _=>rfl) rfl rfl h.pos h.prog h.steps
theorem QX.set_calls{w:World}{B:Nat}{F:Fp}{L:Lb}{sk:Bool}{m:MS}{cs':List Cl}{AC':OA}{cap':Nat}{xs':LV}(h:QX w B F L sk m)(hq:QC w F.far cs' xs')(ho:QO w F.far AC' cap' cs'.length xs')
 (hfew:cs'.length<=8) (hcs:∀c∈cs',c.prog<L.pr.length/\c.caller<L.pr.length/\0<=c.left):QX (w.setCell ⟨F.mb,6,none⟩ (.slice AC' cs'.length cap')) B F L sk {m with calls:=cs'}:=by
 have hk:∀g,g≠F.mb->(w.setCell ⟨F.mb,6,none⟩ (.slice AC' cs'.length cap')).heap[g]? =w.heap[g]? :=λg hg=>Bj _ _ _ g hg;have hsz:(w.setCell ⟨F.mb,6,none⟩ (.slice AC' cs'.length cap')).heap.size=w.heap.size:=by simp[World.setCell]
 have kf:∀g,g<w.heap.size->F.far g->(w.setCell ⟨F.mb,6,none⟩ (.slice AC' cs'.length cap')).heap[g]? =w.heap[g]? :=λg _ hf=>hk g λe=>hf.1 (.inl e);refine h.re (by rw[hsz];exact Le _) (λg hg hn _=>hk g λe=>hn (.inl e)) h.ac h.ge h.ne (λx hx=>by rw[hsz];exact h.av x hx) (h.sto.keep (hk _ (Ne.symm h.ne.1)) (hk _ (Ne.symm h.ne.2))) h.vf h.pos h.prog h.steps hfew hcs ?_;intro A1 A2 A3 AC c1 c2 c3 capc xs hb _ _;exact⟨AC',cap',xs',aD hb,hq.keep (by rw[hsz];exact Le _) (λ_ _ z=>z) kf,kU ho (by rw[hsz];exact Le _) (λ_ _ z=>z) kf⟩
theorem QX.store{w w':World}{B:Nat}{F:Fp}{L:Lb}{sk:Bool}{m:MS}(h:QX w B F L sk m){lb':Nat}{σ:Sto}(hs:SxR w' F.sb lb' σ)(hv:σ.vf)(hl:lb'=F.lb\/w.heap.size<=lb')(hc:Chg (λg=>g=F.sb\/g=F.lb) w w'):
 Mv w F {F with lb:=lb'}/\QX w' B {F with lb:=lb'} L sk {m with sto:=σ}:=by
 have hlt:=h.lt;have hge:=h.ge;have hB:=h.Ble;have ho3:=λg=>Fp.own3 (F:={F with lb:=lb'}) h.ac (g:=g);have hno:∀g,g<w.heap.size->¬F.own g->¬Fp.own {F with lb:=lb'} g:=λg hg hn ho=>by
  rcases(ho3 g).1 ho with e|e|e
  ·exact hn (.inl e)
  ·exact hn (.inr (.inl e))
  ·rcases hl with q|q
   ·exact hn (.inr (.inr (.inl (e.trans q))))
   ·dsimp only at e;omega
 have kf:∀g,g<w.heap.size->F.far g->w'.heap[g]? =w.heap[g]? :=λg hg hf=>hc.block g hg (by rintro(e|e);exact hf.1 (.inr (.inl e));exact hf.1 (.inr (.inr (.inl e))));have hfar:∀g,g<w.heap.size->F.far g->Fp.far {F with lb:=lb'} g:=λg hg hf=>⟨hno g hg hf.1,hf.2⟩;refine⟨⟨rfl,rfl,rfl,hl,.inl rfl⟩,h.re hc.size (λg hg hn _=>hc.block g hg (by rintro(e|e);exact hn (.inr (.inl e));exact hn (.inr (.inr (.inl e))))) h.ac ⟨hge.1,hge.2.1,by dsimp only;omega⟩ ⟨h.ne.1,by have:=h.ne.2;dsimp only;omega⟩ (λx hx=>⟨(h.av x hx).1,hno x (h.av x hx).2.2 (h.av x hx).2.1,Lt (h.av x hx).2.2 hc.size⟩) hs hv h.pos h.prog h.steps h.few h.calls ?_⟩;intro A1 A2 A3 AC c1 c2 c3 capc xs hb hq ho;exact⟨AC,capc,xs,(hc.block _ hlt (by have:=h.ne;omega)).trans hb,hq.keep hc.size hfar kf,kU ho hc.size hfar kf⟩
def QP(B:Nat)(F:Fp)(L:Lb)(sk:Bool)(m':MS)(w w':World):Prop:=∃F',Mv w F F'/\QX w' B F' L sk m'/\Chg F.own w w'
theorem QP.of{B:Nat}{F:Fp}{L:Lb}{sk:Bool}{m':MS}{w w':World}(h:QX w' B F L sk m')(hc:Chg F.own w w'):QP B F L sk m' w w':=⟨F,Mv.refl _ _,h,hc⟩
theorem QP.below{B:Nat}{F:Fp}{L:Lb}{sk:Bool}{m:MS}{w w':World}(h:QX w B F L sk m)(hb:Bw w w'):QP B F L sk m w w':=⟨F,Mv.refl _ _,h.below hb,Chg.of_below hb⟩
theorem QP.then{B:Nat}{F:Fp}{L:Lb}{sk:Bool}{m2:MS}{w w1 w2:World}(hc:Chg F.own w w1)(k:QP B F L sk m2 w1 w2):QP B F L sk m2 w w2:=by
 obtain⟨F2,b1,b2,b3⟩:=k;exact⟨F2,(Mv.refl w F).trans b1 hc.size,b2,hc.trans b3⟩
theorem QP.trans{B:Nat}{F:Fp}{L:Lb}{sk:Bool}{m1 m2:MS}{w w1 w2:World}(h:QP B F L sk m1 w w1)(k:∀F1,Mv w F F1->QX w1 B F1 L sk m1->QP B F1 L sk m2 w1 w2):QP B F L sk m2 w w2:=by
 obtain⟨F1,a1,a2,a3⟩:=h;obtain⟨F2,b1,b2,b3⟩:=k F1 a1 a2;exact⟨F2,a1.trans b1 a3.size,b2,⟨b3.os.trans a3.os,b3.tape.trans a3.tape,b3.output.trans a3.output,Ly a3.size b3.size,λg hg ho=>(b3.block g (Lt hg a3.size) λk=>ho (a1.own g hg k)).trans (a3.block g hg ho)⟩⟩
theorem qeQ(w:World)(B:Nat)(F:Fp)(L:Lb)(sk:Bool)(m:MS)(h:QX w B F L sk m):
 Calls Tryz.prog 73 #[.pointer (some ⟨F.mb,0,none⟩)] w λe w'=>e=.returned (.int .i64 m.steps)/\w=w':=by
 obtain⟨A1,A2,A3,AC,c1,c2,c3,capc,xs,⟨_,_,_,_,_,_,_,_,d8,_,_⟩,_⟩:=h.cells;clear h;go_enter func73,ntmps73;go_wp2;go_ret;exact⟨rfl,rfl⟩
theorem qeV(w:World)(B:Nat)(F:Fp)(L:Lb)(sk:Bool)(m:MS)(h:QX w B F L sk m):
 Calls Tryz.prog 74 #[.pointer (some ⟨F.mb,0,none⟩)] w λe w'=>e=.returned (.int .i64 (m.calls.length:Nat))/\w=w':=by
 obtain⟨A1,A2,A3,AC,c1,c2,c3,capc,xs,⟨_,_,_,_,_,_,d6,_,_,_,_⟩,_⟩:=h.cells;clear h;go_enter func74,ntmps74;go_wp2;go_ret;exact⟨rfl,rfl⟩
theorem QX.eval{w:World}{B:Nat}{F:Fp}{L:Lb}{sk:Bool}{m:MS}(h:QX w B F L sk m)(x:Tr)(v:Value)(hr:Rd w B x v)(W:World)(hW:Bw w W):
 Calls Tryz.prog 107 #[v,.pointer (some ⟨F.sb,0,none⟩)] W λe w'=>e=.returned (.tuple #[.int .i64 (zcH (zbG m.sto.f) x).1,.int .i64 (zcH (zbG m.sto.f) x).2])/\Bw W w':=
 mE B F.sb m.sto.f h.vf.f x _ W ((hr.below (hW.mono h.Ble)) (Ly h.Ble hW.size)) ⟨F.lb,m.sto,h.sto.below hW,rfl⟩
theorem gN(c x letter n:Int)(w:World)(hn:0<=n/\n<=1000):
 Calls Tryz.prog 110 #[.agg #[.int .i64 c,.int .i64 x],.int .i64 letter,.int .i64 n] w λe w'=>e=.returned (.bool (isC (c,x) letter n))/\Bw w w':=by
 have hw:IntKind.i64.wrap (n*1000000)=n*1000000:=IntWalk.i64_in _ (by omega);have HB0:Hid (∀o:Obj,Bw w (w.alloc o)):=λo=>(Bf _ _).alloc (Le _) o;by_cases h:c=letter
 ·have h':(c==letter)=true:=by simpa using h
  have e:isC (c,x) letter n=(x==n*1000000):=by unfold isC;rw[h'];simp
  rw[e];clear h e;go_enter func110,ntmps110;go_wp2;go_ret;exact⟨rfl,HB0.o _⟩
 ·have h':(c==letter)=false:=by simpa using h
  have e:isC (c,x) letter n=false:=by unfold isC;rw[h'];simp
  rw[e];clear h e;go_enter func110,ntmps110;go_wp2;go_ret;exact⟨rfl,HB0.o _⟩
def HsR(w:World)(l:LI)(f:Int×Int->Bool)(i:Value)(W:World):Prop:=∃k:Nat,k<=l.length/\i=.int .i64 (k:Int)/\Bw w W/\l.any f=(l.drop k).any f
theorem uR(w:World)(I:Nat->Prop)(A:OA)(n c:Nat)(l:LI)(hv:RdV w I A n l)(letter t:Int)(ht:0<=t/\t<=1000):
 Calls Tryz.prog 71 #[.slice A n c,.int .i64 letter,.int .i64 t] w λe w'=>e=.returned (.bool (l.any (isC · letter t)))/\Bw w w':=by
 obtain⟨hn1,hn2,hvb,hvc⟩:=hv;have HVC:=Hd hvc;have hnl:=hn2;unfold maxLen at hnl;clear hvb hvc;subst hn1;go_enter func71,ntmps71;go_wp2;go_loopw[7] (HsR w l (isC · letter t)) (λi _=>l.length-(intOf i).toNat)
 case atStart=>exact⟨0,by omega,rfl,Bf _ _,rfl⟩
 case round=>
  obtain⟨k,hk,rfl,hb,her⟩:=hrel;have HB:=Hd hb;have HER:=Hd her;clear hb her;by_cases hlt:k<l.length
  ·obtain⟨ab,off,rfl,_,hab,hc⟩:=HVC.o (by omega);obtain⟨⟨cc,nn⟩,hx⟩:∃x,l[k]? =some x:=⟨_,Gg hlt⟩;obtain⟨x0,x1⟩:=hc k _ hx;dsimp only at x0 x1;have d0:=HB.o.ct hab x0;have d1:=HB.o.ct hab x1;have hcase:l.any (isC · letter t)=(isC (cc,nn) letter t||(l.drop (k+1)).any (isC · letter t)):=by rw[HER.o,cE hx,List.any_cons]
   have HCS:=Hd hcase;have HIS:=Hd (λW=>gN cc nn letter t W ht);clear hcase hc hx x0 x1;rcases hr:isC (cc,nn) letter t with _|_
   ·rw[hr]at HCS HIS;clear hr;go_wp2_with(go_at_call 110;refine(HIS.o _).mono ?_;rintro e w' ⟨rfl,hb'⟩;have HB':=Hd hb';clear hb');exact⟨⟨k+1,by omega,by go_num,HB.o.tm HB'.o,by rw[HCS.o,Bool.false_or]⟩,by simp only[intOf];omega⟩
   ·rw[hr]at HCS HIS;clear hr;go_wp2_with(go_at_call 110;refine(HIS.o _).mono ?_;rintro e w' ⟨rfl,hb'⟩;have HB':=Hd hb';clear hb');go_ret;rw[HCS.o,Bool.true_or];exact⟨rfl,HB.o.tm HB'.o⟩
  ·have hke:k=l.length:=by omega
   subst hke;have E1:Hid (l.any (isC · letter t)=false):=by unfold Hid;rw[HER.o,Dl];rfl
   go_wp2_with fail;go_ret;rw[E1.o];exact⟨rfl,HB.o⟩
def OnR(w:World)(l:LI)(c:Int)(nv cv i:Value)(W:World):Prop:=∃k:Nat,k<=l.length/\i=.int .i64 ((k:Int)-1)/\Bw w W/\nv=.int .i64 (zbR c (l.drop k)).1/\cv=.int .i64 (zbR c (l.drop k)).2
theorem qjM(w:World)(I:Nat->Prop)(A:OA)(n c:Nat)(l:LI)(hv:RdV w I A n l)(letter:Int):
 Calls Tryz.prog 181 #[.slice A n c,.int .i64 letter] w λe w'=>e=.returned (.tuple #[.int .i64 (zbR letter l).1,.int .i64 (zbR letter l).2])/\Bw w w':=by
 obtain⟨hn1,hn2,hvb,hvc⟩:=hv;have HVC:=Hd hvc;have hnl:=hn2;unfold maxLen at hnl;clear hvb hvc;subst hn1;go_enter func181,ntmps181;go_wp2;go_loopw[6,7,8] (OnR w l letter) (λ_ _ i _=>(intOf i+1).toNat)
 case atStart=>exact⟨l.length,by omega,by go_num,Bf _ _,by rw[Dl];rfl,by rw[Dl];rfl⟩
 case round=>
  obtain⟨k,hk,rfl,hb,rfl,rfl⟩:=hrel;have HB:=Hd hb;clear hb;by_cases hlt:0<k
  ·obtain⟨j,rfl⟩:∃j,k=j+1:=⟨k-1,by omega⟩;have ej:(((j+1:Nat):Int)-1)=(j:Int):=by omega
   rw[ej];obtain⟨ab,off,rfl,_,hab,hc⟩:=HVC.o (by omega);obtain⟨⟨cc,nn⟩,hx⟩:∃x,l[j]? =some x:=⟨_,Gg (by omega)⟩;obtain⟨x0,x1⟩:=hc j _ hx;dsimp only at x0 x1;have d0:=HB.o.ct hab x0;have d1:=HB.o.ct hab x1;have hb1:=mN letter (l.drop (j+1));rw[List.length_drop]at hb1;have HCS:Hid (zbR letter (l.drop j)=if cc=letter then(nn,(zbR letter (l.drop (j+1))).2+1)else zbR letter (l.drop (j+1))):=by unfold Hid;rw[cE hx];rfl
   clear hc hx x0 x1;generalize zbR letter (l.drop (j+1))=q at*
   obtain⟨qa,qb⟩:=q;dsimp only at*
   by_cases hp:cc=letter
   ·have g1:(cc==letter)=true:=by simpa using hp
    have E1:Hid (zbR letter (l.drop j)=(nn,qb+1)):=by unfold Hid;rw[HCS.o,Ip hp]
    clear hp;go_wp2_with fail;exact⟨⟨j,by omega,by go_num,HB.o,by rw[E1.o],by rw[E1.o]⟩,by simp only[intOf];omega⟩
   ·have g1:(cc==letter)=false:=by simpa using hp
    have E1:Hid (zbR letter (l.drop j)=(qa,qb)):=by unfold Hid;rw[HCS.o,Iq hp]
    clear hp;go_wp2_with fail;exact⟨⟨j,by omega,by go_num,HB.o,by rw[E1.o],by rw[E1.o]⟩,by simp only[intOf];omega⟩
  ·have hke:k=0:=by omega
   subst hke;rw[List.drop_zero];have e0:(((0:Nat):Int)-1)= -1:=rfl;rw[e0];go_wp2_with fail;go_ret2;exact⟨rfl,HB.o⟩
def LbQ(W0:World)(L:Lb)(F:Nat)(stop n:Int)(i:Value)(W:World):Prop:=∃k:Nat,F<=k/\k<=L.bl.length/\i=.int .i64 (k:Int)/\W=W0/\zbB L n (stop.toNat-F) F=zbB L n (stop.toNat-k) k
theorem qeT(w:World)(B:Nat)(L:Lb)(A1 A2 A3:OA)(k1 c1 k2 c2 k3 c3:Nat)(p:Nat)(n:Int)(hL:RdLb w B L A1 k1 A2 k2 A3 k3)(hB:B<=w.heap.size)(hok:L.ok)(hp:p<L.pr.length):
 Calls Tryz.prog 145 #[.agg #[.slice A1 k1 c1,.slice A2 k2 c2,.slice A3 k3 c3],.int .i64 (p:Int),.int .i64 n] w λe w'=>e=.returned (.tuple #[.int .i64 (zcD L p n).1,.bool (zcD L p n).2])/\Bw w w':=by
 obtain⟨hn1,hn2,hnb,hc⟩:=hL.pr;obtain⟨hm1,hm2,hd⟩:=hL.bl;have HC:=Hd hc;have HD:=Hd hd;have hnl:=hn2;have hml:=hm2;unfold maxLen at hnl hml;clear hc hnb hL hd;subst hn1 hm1;obtain⟨W0,hW0,HB1,q0⟩:=newW w #[.slice A1 L.bl.length c1,.slice A2 L.pr.length c2,.slice A3 k3 c3] 32;have b0:=ce0 q0;have b1:=ce1 q0;have g2:decide ((p:Int)<0)=false:=Df (by omega);have g3:decide ((p:Int)≥(L.pr.length:Int))=false:=Df (by omega);have g3':decide ((L.pr.length:Int)<=(p:Int))=false:=Df (by omega);clear q0;by_cases hn:n<1
 ·have e1:Hid (zcD L p n=(0,false)):=by unfold Hid zcD;rw[Ip (.inl hn)]
  have g1:decide (n<1)=true:=Dt hn;clear hn;go_enter func145,ntmps145;go_upto_region 1 with(fail)
  rw[<-hW0];clear hW0;go_wp2_with fail;go_ret2;rw[e1.o];exact⟨rfl,HB1.o⟩
 have g1:decide (n<1)=false:=Df hn;obtain⟨ab,off,rfl,hab,hc⟩:=HC.o (by omega);obtain⟨q,hx⟩:∃x,L.pr[p]? =some x:=⟨_,Gg hp⟩;obtain⟨e0,e1,e2⟩:=hc p _ hx;have hab':ab<w.heap.size:=by omega
 obtain⟨o1,o2,o3⟩:=hok p q hx;have hq:L.prg p=q:=by unfold Lb.prg;rw[Gd,hx];rfl
 have ELS0:zcD L p n=zbB L n (q.stop.toNat-q.first.toNat) q.first.toNat:=by unfold zcD;rw[Iq (by omega),hq]
 rcases q with⟨num,first,stop⟩
 dsimp only at e0 e1 e2 o1 o2 o3 ELS0;obtain⟨F,rfl⟩:∃F:Nat,first=(F:Int):=⟨first.toNat,by omega⟩
 rw[It]at ELS0;have ELS:=Hd ELS0;have d1:=HB1.o.ct hab' e1;have d2:=HB1.o.ct hab' e2;clear hc hx e0 e1 e2 hq ELS0;go_enter func145,ntmps145;go_upto_region 1 with(fail)
 rw[<-hW0];clear hW0;go_wp2_with fail;go_loopw[8] (LbQ W0 L F stop n) (λi _=>L.bl.length-(intOf i).toNat)
 case atStart=>exact⟨F,by omega,by omega,rfl,rfl,rfl⟩
 case round=>
  obtain⟨k,hFk,hk,rfl,rfl,her⟩:=hrel;have HER:=Hd her;clear her;by_cases hlt:(k:Int)<stop
  ·have g4:decide ((k:Int)<stop)=true:=Dt hlt;have hkl:k<L.bl.length:=by omega
   obtain⟨ab1,off1,rfl,hab1,hd⟩:=HD.o (by omega);obtain⟨x,hx⟩:∃x,L.bl[k]? =some x:=⟨_,Gg hkl⟩;obtain⟨A,kk,cc,l0,l1,l2,x0,x1,x2,hr,y0,y1,_⟩:=(hd k x hx).cells;have z1:=(HB1.o.cel ab1 (off1+k*11+1) (by show ab1<_;omega)).trans y1;have hbk:L.blk k=x:=by unfold Lb.blk;rw[Gd,hx];rfl
   have hcase:zbB L n (stop.toNat-F) F=if x.label=n then((k:Int),true)else zbB L n (stop.toNat-(k+1)) (k+1):=by
    rw[HER.o,show stop.toNat-k=(stop.toNat-(k+1))+1 by omega,zbB,hbk]
   have HCS:=Hd hcase;clear hcase hd hx y0 y1 hbk hr;by_cases hpn:x.label=n
   ·have hpn':(x.label==n)=true:=by simpa using hpn
    have E1:Hid (zcD L p n=((k:Int),true)):=by unfold Hid;rw[ELS.o,HCS.o,Ip hpn]
    clear hpn;go_wp2_with fail;go_ret2;rw[E1.o];exact⟨rfl,HB1.o⟩
   ·have hpn':(x.label==n)=false:=by simpa using hpn
    have E1:Hid (zbB L n (stop.toNat-F) F=zbB L n (stop.toNat-(k+1)) (k+1)):=by unfold Hid;rw[HCS.o,Iq hpn]
    clear hpn;go_wp2_with fail;exact⟨⟨k+1,by omega,by omega,by go_num,rfl,E1.o⟩,by simp only[intOf];omega⟩
  ·have g4:decide ((k:Int)<stop)=false:=Df hlt;have E1:Hid (zcD L p n=(0,false)):=by
    unfold Hid;rw[ELS.o,HER.o,show stop.toNat-k=0 by omega];rfl
   go_wp2_with fail;go_ret2;rw[E1.o];exact⟨rfl,HB1.o⟩
theorem rP{L:Lb}(hm:L.mated){k:Nat}{b:Bk}{x:Int}{at_:Int}(hb:L.bl[k]? =some b)(hx:L.mt[k]? =some x)(hk:(k:Int)<at_):((k:Int)<at_/\at_<=x)↔(b.kind=4/\at_<=x):=by
 have h:=(hm.up k b hb).2;have hg:L.mt.getD k 0=x:=by rw[Gd,hx];rfl
 rw[hg]at h;constructor
 ·intro q;refine⟨?_,q.2⟩;by_cases h4:b.kind=4
  ·exact h4
  ·have:=h h4;omega
 ·exact λq=>⟨hk,q.2⟩
theorem qfH(at_:Int):∀(l:List Int) (k:Nat),at_<=k->zbC at_ l k=[]:=by
 intro l;induction l with
 |nil=>intro k _;rfl
 |cons x r ih=>intro k h;rw[zbC,Iq (by omega)];exact ih _ (by omega)
theorem qbQ(w:World)(B:Nat)(L:Lb)(A1 A2 A3:OA)(k1 c1 k2 c2 k3 c3:Nat)(at_:Int)(hL:RdLb w B L A1 k1 A2 k2 A3 k3)(hB:B<=w.heap.size)(hf:L.fine)(hmt:L.mated):
 Calls Tryz.prog 146 #[.agg #[.slice A1 k1 c1,.slice A2 k2 c2,.slice A3 k3 c3],.int .i64 at_] w (zhM w (zbF L at_)):=by
 obtain⟨i0,hi,hz0,hz1,hz2⟩:=info_parts qcT;obtain⟨hn1,hn2,hnb,hc⟩:=hL.mt;obtain⟨hm1,hm2,hd⟩:=hL.bl;have HC:=Hd hc;have HD:=Hd hd;have hnl:=hf.few;have HML:=Hd hmt.len;have HMT:=Hd hmt;clear hc hnb hL hd hn2 hm2 hmt;subst hn1 hm1;obtain⟨W0,hW0,HB1,q0⟩:=newW w #[.slice A1 L.bl.length c1,.slice A2 k2 c2,.slice A3 L.mt.length c3] 32;have b0:=ce0 q0;have B0:=Hd b0;have B2:Hid (W0.cell? ⟨w.heap.size,2,none⟩=some (.slice A3 L.mt.length c3)):=Ro W0 _ 2 _ _ _ q0;have hsz:=hlS q0;clear q0;by_cases ha:at_<0
 ·have e1:Hid (zbF L at_=[]):=by unfold Hid zbF;rw[Ip (.inl ha)]
  have g1:decide (at_<0)=true:=Dt ha;clear ha;go_enter func146,ntmps146;go_upto_region 1 with(fail)
  rw[<-hW0];clear hW0;go_wp2_with fail;go_ret;rw[e1.o];exact⟨none,0,rfl,World.ownsRow_nil _ _ _ _,HB1.o⟩
 have g1:decide (at_<0)=false:=Df ha;by_cases hb:(L.bl.length:Int)<=at_
 ·have e1:Hid (zbF L at_=[]):=by unfold Hid zbF;rw[Ip (.inr hb)]
  have g2:decide (at_≥(L.bl.length:Int))=true:=Dt hb;clear ha hb;go_enter func146,ntmps146;go_upto_region 1 with(fail)
  rw[<-hW0];clear hW0;go_wp2_with fail;go_ret;rw[e1.o];exact⟨none,0,rfl,World.ownsRow_nil _ _ _ _,HB1.o⟩
 have g2:decide (at_≥(L.bl.length:Int))=false:=Df hb;have EI:Hid (zbF L at_=zbC at_ L.mt 0):=by unfold Hid zbF;rw[Iq (by omega)]
 have HHI:Hid (at_<(L.bl.length:Int)):=by unfold Hid;omega
 clear ha hb;go_enter func146,ntmps146;go_upto_region 1 with(fail)
 rw[<-hW0];clear hW0;go_wp2_with fail;clear g1 g2;go_loopw[5,6] (zlT W0 L.mt at_) (λ_ i _=>L.mt.length-(intOf i).toNat)
 case atStart=>exact⟨0,0,none,[],rfl,rfl,by omega,by simp,rfl,World.ownsRow_nil _ _ _ _,Bf _ _⟩
 case round=>
  obtain⟨k,cap,C,acc,rfl,rfl,hk,hak,her,hown,hnx⟩:=hrel;have HER:=Hd her;have hsize:=hnx.size;have hbw:=HB1.o.tm hnx;clear her b0;by_cases hlt:(k:Int)<at_
  ·have g3:decide ((k:Int)<at_)=true:=Dt hlt;have hkl:k<L.mt.length:=by have:=HHI.o;have:=HML.o;omega
   have b0:=hnx.ct hsz B0.o;have b2:=hnx.ct hsz B2.o;obtain⟨ab,off,rfl,hab,hc⟩:=HC.o (by omega);obtain⟨ab1,off1,rfl,hab1,hd⟩:=HD.o (by have:=HML.o;omega);obtain⟨m,hx⟩:∃x,L.mt[k]? =some x:=⟨_,Gg hkl⟩;obtain⟨b,hbk⟩:∃x,L.bl[k]? =some x:=⟨_,Gg (by have:=HML.o;omega)⟩;have d0:=(hbw.cel ab (off+k) (by show ab<_;omega)).trans (hc k m hx);obtain⟨A,kk,cc,l0,l1,l2,x0,x1,x2,hr,y0,_⟩:=(hd k b hbk).cells;have z0:=(hbw.cel ab1 (off1+k*11) (by show ab1<_;omega)).trans y0;have hcase:zbC at_ L.mt 0=acc++(if b.kind=4/\at_<=m then(k:Int)::zbC at_ (L.mt.drop (k+1)) (k+1)else zbC at_ (L.mt.drop (k+1)) (k+1)):=by
    rw[HER.o,cE hx,zbC];by_cases q:b.kind=4/\at_<=m
    ·rw[Ip q,Ip ((rP HMT.o hbk hx hlt).2 q)]
    ·rw[Iq q,Iq (λz=>q ((rP HMT.o hbk hx hlt).1 z))]
   have HCS:=Hd hcase;have i1:(k:Int)<(L.bl.length:Int):=by have:=HHI.o;omega
   have i2:(k:Int)<(L.mt.length:Int):=by omega
   have HBW:=Hd hbw;clear hcase hc hx hd hbk hr y0 hbw;by_cases q1:b.kind=4
   ·have g5:(b.kind==4)=true:=by simpa using q1
    by_cases q2:at_<=m
    ·have g4:decide (at_<=m)=true:=Dt q2;have E1:Hid (zbC at_ L.mt 0=(acc++[(k:Int)])++zbC at_ (L.mt.drop (k+1)) (k+1)):=by
      unfold Hid;rw[HCS.o,Ip ⟨q1,q2⟩,List.append_assoc];rfl
     clear q1 q2;have HN:=Hd hnx;have HO:=Hd hown;go_wp2_with(first|(at_builtin;refine wpList_append_own _ rfl (.tmp 37) (.tmp 39) 22 rfl W0.heap.size 3 i0 (.int .i64 0) 1 8 underlying22 hi hz0 hz1 hz2 rfl (by decide) _ _ _ rfl (HO.o.alloc _) ⟨wr.heap.size,0,none⟩ 1 1 [.int .i64 _] rfl rfl (cell_one_new _ _ _) (by intro u hu;simp at hu;subst hu;rfl) (by unfold maxLen;omega) (by omega) (by simp;omega) ?_;intro v1 w1 hown1 hgrow1 hnil1));obtain⟨A9,c9,rfl⟩:=tZ hown1;refine⟨⟨k+1,c9,A9,acc++[(k:Int)],by simp,by go_num,by omega,by simp;omega,E1.o,xH hown1 (by simp) (by simp[zgX]),(HN.o.alloc (by omega) _).grown hgrow1 (by simp;omega) (λj hj=>(HO.o.lt j hj).1)⟩,by simp only[intOf];omega⟩
    ·have g4:decide (at_<=m)=false:=Df q2;have E1:Hid (zbC at_ L.mt 0=acc++zbC at_ (L.mt.drop (k+1)) (k+1)):=by
      unfold Hid;rw[HCS.o,Iq (λh=>q2 h.2)]
     clear q1 q2;go_wp2_with fail;exact⟨⟨k+1,cap,C,acc,rfl,by go_num,by omega,by omega,E1.o,hown,hnx⟩,by simp only[intOf];omega⟩
   ·have g5:(b.kind==4)=false:=by simpa using q1
    have E1:Hid (zbC at_ L.mt 0=acc++zbC at_ (L.mt.drop (k+1)) (k+1)):=by
     unfold Hid;rw[HCS.o,Iq (λh=>q1 h.1)]
    clear q1;go_wp2_with fail;exact⟨⟨k+1,cap,C,acc,rfl,by go_num,by omega,by omega,E1.o,hown,hnx⟩,by simp only[intOf];omega⟩
  ·have g3:decide ((k:Int)<at_)=false:=Df hlt;have E1:Hid (zbF L at_=acc):=by
    unfold Hid;rw[EI.o,HER.o,qfH _ _ _ (by omega),List.append_nil]
   go_wp2_with fail;go_ret;rw[E1.o];exact⟨C,cap,rfl,yT hown HB1.o.size,hbw⟩
theorem hlS'{w:World}{a:Addr}{v:Value}(h:w.cell? a=some v):a.block<w.heap.size:=by
 rcases Nat.lt_or_ge a.block w.heap.size with q|q
 ·exact q
 ·unfold World.cell? at h;rw[Array.getElem?_eq_none q]at h;cases h
theorem qhC{w:World}{b n cap k:Nat}{C:OA}{l:List Int}{y:Int}(h:w.ownsRow b 3 1 (.slice C n cap) n (zgX l))(hy:l[k]? =some y):∃g,C=some ⟨g,0,none⟩/\w.cell? ⟨g,k,none⟩=some (.int .i64 y):=by
 have hl:(zgX l).length=n*1:=h.1;have hk:k<l.length:=(Gu.1 hy).1;simp only[zgX,List.length_map]at hl;rcases h.2 with⟨_,e2⟩|⟨g,cap',cur,e1,_,e3,e4,e5,e6,e7⟩
 ·omega
 simp only[Vs,true_and]at e1;refine⟨g,e1.1,?_⟩;rw[Ro w g k _ _ _ e3];have q:=congrArg (λq:LV=>q[k]?) e7;try dsimp only at q
 rw[Gt,Ip (by omega)]at q;rw[<-At,q];simp[zgX,hy]
def JoR(w5:World)(R T:List Int)(i:Value)(W:World):Prop:=∃k:Nat,k<=T.length/\i=.int .i64 (k:Int)/\Bw w5 W/\∀q∈T.take k,R.contains q=true
def JiR(w5:World)(R:List Int)(y:Int)(b i:Value)(W:World):Prop:=∃j:Nat,j<=R.length/\b=.bool ((R.take j).contains y)/\i=.int .i64 (j:Int)/\Bw w5 W
def zgR(B:Nat)(F:Fp)(L:Lb)(sk:Bool)(m:MS)(x:Tr)(w:World)(e:Ending)(w':World):Prop:=
 e=.returned (.int .i64 (zbQ L m x).2)/\QP B F L sk (zbQ L m x).1 w w'
theorem zgR.no{B:Nat}{F:Fp}{L:Lb}{sk:Bool}{m:MS}{x:Tr}{w w':World}{er:Int}(h:QX w B F L sk m)(hb:Bw w w')(he:zbQ L m x=(m,er)):zgR B F L sk m x w (.returned (.int .i64 er)) w':=
 ⟨by rw[he],by rw[he];exact QP.below h hb⟩
theorem wV(w:World)(B:Nat)(F:Fp)(L:Lb)(sk:Bool)(m:MS)(x:Tr)(v:Value)(h:QX w B F L sk m)(hr:Rd w B x v):
 Calls Tryz.prog 106 #[.pointer (some ⟨F.mb,0,none⟩),v] w (zgR B F L sk m x w):=by
 have HX:=Hd h;have hBs:B<=w.heap.size:=h.Ble;have hok:=h.fine.ok;have hml:=h.fine.few;obtain⟨A1,A2,A3,AC,c1,c2,c3,capc,xs,⟨d0,d1,d2,_,d4,d5,_,d7,_,_,_⟩,hL,_,hfr⟩:=h.cells;have hmb:=h.lt;obtain⟨x0,x1,x2,rfl⟩:=hr.agg3;have HL:=Hd hL;have HEV:=Hd (λW hW=>h.eval x _ hr W hW);clear h hr hL;generalize hE:zcH (zbG m.sto.f) x=ev at HEV;obtain⟨n,er⟩:=ev;have HE:=Hd hE;clear hE;obtain⟨W1,hW1,HB1,hbx⟩:=newW w #[x0,x1,x2] 52;have b0:W1.cell? ⟨w.heap.size,0,none⟩=some x0:=Ro W1 _ 0 _ _ _ hbx;have b1:W1.cell? ⟨w.heap.size,1,none⟩=some x1:=Ro W1 _ 1 _ _ _ hbx;have b2:W1.cell? ⟨w.heap.size,2,none⟩=some x2:=Ro W1 _ 2 _ _ _ hbx;have b7:W1.cell? ⟨F.mb,7,none⟩=some (.pointer (some ⟨F.sb,0,none⟩)):=HB1.o.ct hmb d7;have HW1:Hid (w.heap.size<W1.heap.size):=hlS hbx;have HMB:=Hd hmb;have D0:=Hd d0;have D1:=Hd d1;have D2:=Hd d2;have D4:=Hd d4;have D5:=Hd d5;clear d0 d1 d2 d4 d5 d7 hbx;go_enter func106,ntmps106;go_wp2;rw[<-hW1];clear hW1;go_region_held3(λW=>W.cell? ⟨w.heap.size,0,none⟩=some x0/\W.cell? ⟨w.heap.size,1,none⟩=some x1/\W.cell? ⟨w.heap.size,2,none⟩=some x2/\W.cell? ⟨F.mb,7,none⟩=some (.pointer (some ⟨F.sb,0,none⟩))) (first|exact⟨b0,b1,b2,b7⟩|exact⟨HN.o.ct HW1.o b0,HN.o.ct HW1.o b1,HN.o.ct HW1.o b2,(HN.o.cel F.mb 7 (Nat.lt_trans HMB.o HW1.o)).trans b7⟩|fail) (first|(go_at_call 107;refine(HEV.o _ (aA HB1.o 1)).mono ?_;rintro e w2 ⟨rfl,hb2⟩;have HN:Hid (Bw W1 w2):=(unB hb2);clear hb2));have HB2:=Hd (HB1.o.trans (HN.o.mono (Ll HW1.o)));by_cases he:er=0
 case neg=>
  have he':(er !=0)=true:=by simpa using he
  have EJ:Hid (zbQ L m x=(m,er)):=by unfold Hid zbQ;rw[HE.o];simp[he]
  clear he;go_wp2_with fail;go_ret;exact zgR.no HX.o HB2.o EJ.o
 have he':(er !=0)=false:=by simpa using he
 subst he;generalize hwh:zaY n=wh;obtain⟨wn,wk⟩:=wh;have HWH:=Hd hwh;have HWL:Hid (∀W:World,Calls Tryz.prog 134 #[.int .i64 n] W λe w'=>e=.returned (.tuple #[.int .i64 wn,.bool wk])/\W=w'):=λW=>by have:=eV n W;rw[hwh]at this;exact this
 clear hwh;have d0:=HB2.o.ct hmb D0.o;have d1:=HB2.o.ct hmb D1.o;have d2:=HB2.o.ct hmb D2.o;have d4:=HB2.o.ct hmb D4.o;have d5:=HB2.o.ct hmb D5.o;have HMB2:Hid (F.mb<w2.heap.size):=Lt HMB.o HB2.o.size;have HLA:Hid (∀W:World,Bw w W->Calls Tryz.prog 145 #[.agg #[.slice A1 L.bl.length c1,.slice A2 L.pr.length c2,.slice A3 L.mt.length c3],.int .i64 (m.prog:Nat),.int .i64 wn] W λe w'=>e=.returned (.tuple #[.int .i64 (zcD L m.prog wn).1,.bool (zcD L m.prog wn).2])/\Bw W w'):=
  λW hW=>qeT W B L A1 A2 A3 _ c1 _ c2 _ c3 m.prog wn (HL.o.below (hW.mono hBs)) (Ly hBs hW.size) hok HX.o.prog
 generalize hla:zcD L m.prog wn=la at HLA;obtain⟨tg,tk⟩:=la;have HLS:=Hd hla;clear hla;rcases wk with _|_
 ·have EJ:Hid (zbQ L m x=(m,6)):=by unfold Hid zbQ;rw[HE.o];simp[HWH.o]
  go_wp2_with(go_at_call 134;refine(HWL.o _).mono ?_;rintro e w' ⟨rfl,rfl⟩);go_ret;exact zgR.no HX.o HB2.o EJ.o
 go_wp2_with(go_at_call 134;refine(HWL.o _).mono ?_;rintro e w' ⟨rfl,rfl⟩);go_region_held3(λW=>W.cell? ⟨F.mb,0,none⟩=some (.slice A1 L.bl.length c1)/\W.cell? ⟨F.mb,1,none⟩=some (.slice A2 L.pr.length c2)/\W.cell? ⟨F.mb,2,none⟩=some (.slice A3 L.mt.length c3)/\W.cell? ⟨F.mb,4,none⟩=some (.int .i64 (m.prog:Nat))) (first|exact⟨d0,d1,d2,d4⟩|exact⟨HN3.o.ct HMB2.o d0,HN3.o.ct HMB2.o d1,HN3.o.ct HMB2.o d2,HN3.o.ct HMB2.o d4⟩|fail) (first|(go_at_call 145;refine(HLA.o _ (aA HB2.o 1)).mono ?_;rintro e w3 ⟨rfl,hb3⟩;have HN3:Hid (Bw w2 w3):=(unB hb3);clear hb3));have HB3:=Hd (HB2.o.tm HN3.o);clear d0 d1 d2 d4 d5;rcases tk with _|_
 ·have EJ:Hid (zbQ L m x=(m,6)):=by unfold Hid zbQ;rw[HE.o];simp[HWH.o,HLS.o]
  go_wp2_with fail;go_ret;exact zgR.no HX.o HB3.o EJ.o
 have d0:=HB3.o.ct hmb D0.o;have d1:=HB3.o.ct hmb D1.o;have d2:=HB3.o.ct hmb D2.o;have d5:=HB3.o.ct hmb D5.o;have HMB3:Hid (F.mb<w3.heap.size):=Lt HMB.o HB3.o.size;have HIN:Hid (∀(W:World) (q:Int),Bw w W->Calls Tryz.prog 146 #[.agg #[.slice A1 L.bl.length c1,.slice A2 L.pr.length c2,.slice A3 L.mt.length c3],.int .i64 q] W (zhM W (zbF L q))):=
  λW q hW=>qbQ W B L A1 A2 A3 _ c1 _ c2 _ c3 q (HL.o.below (hW.mono hBs)) (Ly hBs hW.size) HX.o.fine HX.o.mated
 go_wp2_with fail;go_region_held3(λW=>W.cell? ⟨F.mb,0,none⟩=some (.slice A1 L.bl.length c1)/\W.cell? ⟨F.mb,1,none⟩=some (.slice A2 L.pr.length c2)/\W.cell? ⟨F.mb,2,none⟩=some (.slice A3 L.mt.length c3)/\W.cell? ⟨F.mb,5,none⟩=some (.int .i64 m.pos)) (first|exact⟨d0,d1,d2,d5⟩|exact⟨HN4.o.ct HMB3.o d0,HN4.o.ct HMB3.o d1,HN4.o.ct HMB3.o d2,HN4.o.ct HMB3.o d5⟩|fail) (first|(go_at_call 146;refine(HIN.o _ _ (aA HB3.o 1)).mono ?_;rintro e w4 ⟨C4,p4,rfl,ho4,hb4⟩;have HN4:Hid (Bw w3 w4):=(unB hb4);have HO4:Hid (w4.ownsRow w3.heap.size 3 1 (.slice C4 (zbF L m.pos).length p4) (zbF L m.pos).length (zgX (zbF L m.pos))):=ho4;clear hb4 ho4));have HB4:=Hd (HB3.o.tm HN4.o);have HMB4:Hid (F.mb<w4.heap.size):=Lt HMB.o HB4.o.size;clear d0 d1 d2 d5;have d0:=HB4.o.ct hmb D0.o;have d1:=HB4.o.ct hmb D1.o;have d2:=HB4.o.ct hmb D2.o;go_wp2_with(go_at_call 146;refine(HIN.o _ _ HB4.o).mono ?_;rintro e w5 ⟨C5,p5,rfl,ho5,hb5⟩;have HN5:=Hd hb5;have HO5:=Hd ho5;clear hb5 ho5);have HB5:=Hd (HB4.o.tm HN5.o);clear d0 d1 d2;have HOK:Hid (((zbF L tg).all λw=>(zbF L m.pos).contains w)=false->zbQ L m x=(m,11)):=by
  unfold Hid;intro hall;unfold zbQ;rw[HE.o];simp only[HWH.o,HLS.o,hall];rfl
 have HOK2:Hid (((zbF L tg).all λw=>(zbF L m.pos).contains w)=true->zbQ L m x=({m with pos:=tg},0)):=by
  unfold Hid;intro hall;unfold zbQ;rw[HE.o];simp only[HWH.o,HLS.o,hall];rfl
 generalize zbF L m.pos=R at*
 generalize hTT:zbF L tg=T at*
 clear hTT;have hT:T.length<=maxLen:=by
  rcases HO5.o.2 with⟨_,e2⟩|⟨g,cap,cur,_,_,_,e4,e5,_⟩
  ·rw[e2];exact Lq _
  ·omega
 unfold maxLen at hT;have hRl:R.length<=maxLen:=by
  rcases HO4.o.2 with⟨_,e2⟩|⟨g,cap,cur,_,_,_,e4,e5,_⟩
  ·rw[e2];exact Lq _
  ·omega
 unfold maxLen at hRl;have HRO:Hid (w5.ownsRow w3.heap.size 3 1 (.slice C4 R.length p4) R.length (zgX R)):=aC HO4.o λg hg _=>HN5.o.block g hg;have HFR:=Hd hfr;clear hfr;go_loopw[13] (JoR w5 R T) (λi _=>T.length-(intOf i).toNat)
 case atStart=>exact⟨0,by omega,rfl,Bf _ _,by simp⟩
 case round=>
  obtain⟨k,hk,rfl,hb,hall⟩:=hrel;have HAL:=Hd hall;have HBR:=Hd hb;clear hall hb;by_cases hlt:k<T.length
  ·obtain⟨y,hy⟩:∃y,T[k]? =some y:=⟨_,Gg hlt⟩;obtain⟨gT,rfl,z0⟩:=qhC HO5.o hy;have HY:=Hd hy;have hgT:=hlS' z0;have HZ0:=Hd z0;have i0:(0:Int)<=(k:Int):=by omega
   have i1:(k:Int)<(T.length:Int):=by omega
   clear hy z0;go_wp2_with fail;go_loopw[14,15] (JiR w5 R y) (λ_ j _=>R.length-(intOf j).toNat)
   case atStart=>exact⟨0,by omega,by simp,rfl,HBR.o⟩
   case round=>
    obtain⟨j,hj,rfl,rfl,hb⟩:=hrel;have HBI:=Hd hb;clear hb;by_cases hlr:j<R.length
    ·obtain⟨x,hx⟩:∃x,R[j]? =some x:=⟨_,Gg hlr⟩;obtain⟨gR,rfl,x0⟩:=qhC HRO.o hx;have e0:=(HBI.o.cel gR j (hlS' x0)).trans x0;have z0:=HBI.o.ct hgT HZ0.o;have E:Hid ((R.take (j+1)).contains y=((R.take j).contains y||(x==y))):=by
      unfold Hid;rw[Ta,hx,Option.toList_some,List.contains_eq_any_beq,List.contains_eq_any_beq,List.any_append];congr 1;rw[List.any_cons,List.any_nil,Bool.or_false];exact Bool.beq_comm
     have j0:(0:Int)<=(j:Int):=by omega
     have j1:(j:Int)<(R.length:Int):=by omega
     clear hx x0;rcases hc:(R.take j).contains y with _|_
     ·rw[hc,Bool.false_or]at E;rcases he:(x==y)with _|_
      all_goals
       rw[he]at E;clear hc;go_wp2_with fail;go_quiet(fail);go_wp2_with fail;exact⟨⟨j+1,by omega,by rw[E.o],by go_num,by first|exact aA HBI.o nq|exact HBI.o⟩,by simp only[intOf];omega⟩
     ·rw[hc,Bool.true_or]at E;clear hc;go_wp2_with fail;go_quiet(fail);go_wp2_with fail;exact⟨⟨j+1,by omega,by rw[E.o],by go_num,by first|exact aA HBI.o nq|exact HBI.o⟩,by simp only[intOf];omega⟩
    ·have hke:j=R.length:=by omega
     subst hke;rw[Tm];rcases hR:R.contains y with _|_
     ·have EJ:Hid (zbQ L m x=(m,11)):=HOK.o (by
       rw[List.all_eq_false]
       exact⟨y,Mg HY.o,by rw[hR];exact Bool.false_ne_true⟩)
      clear hR;go_wp2_with fail;go_ret;exact zgR.no HX.o (HB5.o.tm HBI.o) EJ.o
     ·have HAL2:Hid (∀q∈T.take (k+1),R.contains q=true):=by
       unfold Hid;intro q hq;rw[Ta,HY.o]at hq;simp only[Option.toList_some,Ma,Mt]at hq;rcases hq with hq|rfl
       ·exact HAL.o q hq
       ·exact hR
      clear hR;go_wp2_with fail;exact⟨⟨k+1,by omega,by go_num,HBI.o,HAL2.o⟩,by simp only[intOf];omega⟩
  ·have hke:k=T.length:=by omega
   subst hke;have EJ:Hid (zbQ L m x=({m with pos:=tg},0)):=HOK2.o (by
    rw[List.all_eq_true]
    intro q hq
    exact HAL.o q (by rw[Tm];exact hq))
   have HBW:=Hd (HB5.o.tm HBR.o);have d5:=HBW.o.ct hmb D5.o;have f5:wr.frozen? ⟨F.mb,5,none⟩=false:=(cekF F.mb 5 (HBW.o.block _ hmb)).trans (HFR.o 5);have HTG:Hid (I64 tg):=by
    have q:=xN HX.o.fine (p:=m.prog) (n:=wn) (by rw[HLS.o]);have q2:=HX.o.fine.bl;rw[HLS.o]at q;unfold Hid I64;dsimp only at q;omega
   go_wp2_with fail;go_ret;refine⟨by rw[EJ.o];rfl,?_⟩;rw[EJ.o];exact QP.of ((HX.o.below HBW.o).set_pos HTG.o) ((Chg.of_below HBW.o).trans (aH _ _ _ _ _ F.own_mb))
def zhF(B:Nat)(F:Fp)(L:Lb)(sk:Bool)(m:MS)(b:Bk)(w:World)(e:Ending)(w':World):Prop:=
 e=.returned (.int .i64 (zdM m b).2)/\QP B F L sk (zdM m b).1 w w'
theorem zhF.no{B:Nat}{F:Fp}{L:Lb}{sk:Bool}{m:MS}{b:Bk}{w w':World}{er:Int}(h:QX w B F L sk m)(hb:Bw w w')(he:zdM m b=(m,er)):zhF B F L sk m b w (.returned (.int .i64 er)) w':=
 ⟨by rw[he],by rw[he];exact QP.below h hb⟩
theorem qjI(w:World)(B:Nat)(F:Fp)(L:Lb)(sk:Bool)(m:MS)(b:Bk)(A:OA)(k c:Nat)(l0 l1 l2 x0 x1 x2:Value)(h:QX w B F L sk m)(hr:RdB w B b A k l0 l1 l2 x0 x1 x2)(hp:0<=m.pos/\m.pos<=1000000):
 Calls Tryz.prog 105 #[.pointer (some ⟨F.mb,0,none⟩),.agg ⟨zaW b A k c l0 l1 l2 x0 x1 x2⟩] w (zhF B F L sk m b w):=by
 have HX:=Hd h;have hBs:B<=w.heap.size:=h.Ble;obtain⟨A1,A2,A3,AC,c1,c2,c3,capc,xs,⟨d0,d1,d2,_,d4,d5,_,d7,_,_,_⟩,hL,_,hfr⟩:=h.cells;have hmb:=h.lt;have HEL:=Hd (λW hW=>h.eval b.left _ hr.left W hW);have HEX:=Hd (λW hW=>h.eval b.x _ hr.x W hW);clear h hr hL;generalize hE:zcH (zbG m.sto.f) b.left=ev at HEL;obtain⟨n,er⟩:=ev;have HE:=Hd hE;generalize hE2:zcH (zbG m.sto.f) b.x=ev2 at HEX;obtain⟨xv,er2⟩:=ev2;have HE2:=Hd hE2;clear hE hE2;obtain⟨W1,hW1,HB1,hbx⟩:=newW w ⟨zaW b A k c l0 l1 l2 x0 x1 x2⟩ 54;have q:=λj=>Ro W1 w.heap.size j _ _ _ hbx;have b4:W1.cell? ⟨w.heap.size,4,none⟩=some l0:=(q 4).trans rfl;have b5:W1.cell? ⟨w.heap.size,5,none⟩=some l1:=(q 5).trans rfl;have b6:W1.cell? ⟨w.heap.size,6,none⟩=some l2:=(q 6).trans rfl;have b7:W1.cell? ⟨w.heap.size,7,none⟩=some x0:=(q 7).trans rfl;have b8:W1.cell? ⟨w.heap.size,8,none⟩=some x1:=(q 8).trans rfl;have b9:W1.cell? ⟨w.heap.size,9,none⟩=some x2:=(q 9).trans rfl;have c7:W1.cell? ⟨F.mb,7,none⟩=some (.pointer (some ⟨F.sb,0,none⟩)):=HB1.o.ct hmb d7;have HW1:Hid (w.heap.size<W1.heap.size):=hlS hbx;have HMB:=Hd hmb;have D5:=Hd d5;have D7:=Hd c7;have HX7:=Hd b7;have HX8:=Hd b8;have HX9:=Hd b9;have HFR:=Hd hfr;clear d0 d1 d2 d4 d5 d7 hbx q hfr b7 b8 b9;go_enter func105,ntmps105;go_wp2;rw[<-hW1];clear hW1;have tok1:=trivial;go_region_held3(λW=>W.cell? ⟨w.heap.size,4,none⟩=some l0/\W.cell? ⟨w.heap.size,5,none⟩=some l1/\W.cell? ⟨w.heap.size,6,none⟩=some l2/\W.cell? ⟨F.mb,7,none⟩=some (.pointer (some ⟨F.sb,0,none⟩))) (first|exact⟨b4,b5,b6,c7⟩|exact⟨HN.o.ct HW1.o b4,HN.o.ct HW1.o b5,HN.o.ct HW1.o b6,(HN.o.cel F.mb 7 (Nat.lt_trans HMB.o HW1.o)).trans c7⟩|fail) (first|(go_at_call 107;refine(HEL.o _ (aA HB1.o 1)).mono ?_;rintro e w2 ⟨rfl,hb2⟩;have HN:Hid (Bw W1 w2):=(unB hb2);clear hb2));clear b4 b5 b6 c7;have HB2:=Hd (HB1.o.trans (HN.o.mono (Ll HW1.o)));by_cases he:er=0
 case neg=>
  have he':(er !=0)=true:=by simpa using he
  have EJ:Hid (zdM m b=(m,er)):=by unfold Hid zdM;rw[HE.o];simp[he]
  clear he;go_wp2_with fail;go_ret;exact zhF.no HX.o HB2.o EJ.o
 have he':(er !=0)=false:=by simpa using he
 subst he;have HW2:Hid (w.heap.size<w2.heap.size):=Lt HW1.o HN.o.size;have HMB2:Hid (F.mb<w2.heap.size):=Lt HMB.o HB2.o.size;have b7:=HN.o.ct HW1.o HX7.o;have b8:=HN.o.ct HW1.o HX8.o;have b9:=HN.o.ct HW1.o HX9.o;have c7:=(HN.o.cel F.mb 7 (Nat.lt_trans HMB.o HW1.o)).trans D7.o;go_wp2_with fail;go_region_held3(λW=>W.cell? ⟨w.heap.size,7,none⟩=some x0/\W.cell? ⟨w.heap.size,8,none⟩=some x1/\W.cell? ⟨w.heap.size,9,none⟩=some x2/\W.cell? ⟨F.mb,7,none⟩=some (.pointer (some ⟨F.sb,0,none⟩))) (first|exact⟨b7,b8,b9,c7⟩|exact⟨HN3.o.ct HW2.o b7,HN3.o.ct HW2.o b8,HN3.o.ct HW2.o b9,HN3.o.ct HMB2.o c7⟩|fail) (first|(go_at_call 107;refine(HEX.o _ (aA HB2.o 1)).mono ?_;rintro e w3 ⟨rfl,hb3⟩;have HN3:Hid (Bw w2 w3):=(unB hb3);clear hb3));have HB3:=Hd (HB2.o.tm HN3.o);clear b7 b8 b9 c7;by_cases he2:er2=0
 case neg=>
  have he2':(er2 !=0)=true:=by simpa using he2
  have EJ:Hid (zdM m b=(m,er2)):=by unfold Hid zdM;rw[HE.o,HE2.o];simp[he2]
  clear he2;go_wp2_with fail;go_ret;exact zhF.no HX.o HB3.o EJ.o
 have he2':(er2 !=0)=false:=by simpa using he2
 subst he2;generalize hwh:zaY n=wh;obtain⟨wn,wk⟩:=wh;have HWH:=Hd hwh;have HWL:Hid (∀W:World,Calls Tryz.prog 134 #[.int .i64 n] W λe w'=>e=.returned (.tuple #[.int .i64 wn,.bool wk])/\W=w'):=λW=>by have:=eV n W;rw[hwh]at this;exact this
 clear hwh;rcases wk with _|_
 ·have EJ:Hid (zdM m b=(m,6)):=by unfold Hid zdM;rw[HE.o,HE2.o];simp[HWH.o]
  go_wp2_with(go_at_call 134;refine(HWL.o _).mono ?_;rintro e w' ⟨rfl,rfl⟩);go_ret;exact zhF.no HX.o HB3.o EJ.o
 have d5:=HB3.o.ct hmb D5.o;have c7:=(HN3.o.cel F.mb 7 HMB2.o).trans ((HN.o.cel F.mb 7 (Nat.lt_trans HMB.o HW1.o)).trans D7.o);have f5:w3.frozen? ⟨F.mb,5,none⟩=false:=(cekF F.mb 5 (HB3.o.block _ hmb)).trans (HFR.o 5);have EJ:Hid (zdM m b=({m with pos:=m.pos+1,sto:=zeY m.sto wn xv},zdL wn xv)):=by unfold Hid zdM;rw[HE.o,HE2.o];simp[HWH.o]
 have HX3:=Hd ((HX.o.below HB3.o).set_pos (t:=m.pos+1) (by unfold I64;omega));have HSET:=Hd (tM _ F.sb F.lb m.sto wn xv HX3.o.sto);go_wp2_with(first|(go_at_call 134;refine(HWL.o _).mono ?_;rintro e w' ⟨rfl,rfl⟩)|(go_at_call 144;refine HSET.o.mono ?_;rintro e w4 ⟨rfl,hs4,hc4,_⟩));go_ret;refine⟨by rw[EJ.o];rfl,?_⟩;rw[EJ.o];obtain⟨g1,g2⟩:=HX3.o.store hs4 (HX3.o.vf.set _ _) (.inl rfl) hc4;exact QP.of g2 (((Chg.of_below HB3.o).trans (aH _ _ _ _ _ F.own_mb)).trans (hc4.mono λg _ hg=>by rcases hg with e|e;exact .inr (.inl e);exact .inr (.inr (.inl e))))
