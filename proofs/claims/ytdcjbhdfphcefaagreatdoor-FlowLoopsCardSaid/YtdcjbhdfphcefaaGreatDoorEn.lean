/- The contract of flow's enter: a call. Conditions: see MX; the values read as pairs of integers. -/
import Derived.Test.YtdcjbhdfphcefaaGreatDoorLv
import Derived.Test.YtdcjbhdfphcefaaGreatDoorCn
import Derived.Deep.RegionLaw
set_option linter.unusedVariables false
set_option linter.unusedSimpArgs false
namespace Go.Proofs.YtdcjbhdfphcefaaGreatDoor
open Go.RowKit
def pairs(l:List (Int×Int)):List Value:=l.flatMap fun x=>[.int .i64 x.1,.int .i64 x.2]
theorem pairs_app(l:List (Int×Int))(x:Int×Int):pairs (l++[x])=pairs l++[.int .i64 x.1,.int .i64 x.2]:=by simp[pairs]
theorem pairs_at{l:List (Int×Int)}{i:Nat}{x:Int×Int}(h:l[i]? =some x):(pairs l)[i*2]? =some (.int .i64 x.1)∧(pairs l)[i*2+1]? =some (.int .i64 x.2):=by
 induction l generalizing i with
 |nil=>simp at h
 |cons y r ih=>
  have e:pairs (y::r)=.int .i64 y.1::.int .i64 y.2::pairs r:=rfl;rw[e];rcases i with _|i
  ·simp at h;subst h;exact⟨rfl,rfl⟩
  ·simp at h;have:=ih h;rw[show(i+1)*2=i*2+1+1 by omega,show i*2+1+1+1=(i*2+1)+1+1 by omega];simpa using this
def Vi(l:List (Int×Int)):Prop:=∀x∈l,(-9223372036854775808≤x.1∧x.1≤9223372036854775807)∧(-9223372036854775808≤x.2∧x.2≤9223372036854775807)
theorem rdv_own{w:World}{base:Nat}{C:Option Addr}{n cap:Nat}{l:List (Int×Int)}(h:w.ownsRow base 59 2 (.slice C n cap) n (pairs l))(hl:n=l.length)(hv:Vi l):RdV w (fun g=>base≤g) C n l:=by
 subst hl;rcases h.2 with⟨_,e⟩|⟨g,c,cur,e1,e2,e3,e4,e5,e6,e7⟩
 ·exact⟨rfl,by omega,hv,fun h0=>by omega⟩
 ·simp only[Value.slice.injEq,true_and]at e1;obtain⟨rfl,rfl⟩:=e1;refine⟨rfl,by omega,hv,fun _=>⟨g,0,rfl,e2,hlS e3,fun i x hx=> ?_⟩⟩;have hi:i<l.length:=(List.getElem?_eq_some_iff.1 hx).1;obtain⟨p0,p1⟩:=pairs_at hx;rw[←e7,List.getElem?_take,if_pos (by omega)]at p0 p1;rw[cell_of_row w g _ _ _ _ e3,cell_of_row w g _ _ _ _ e3];exact⟨by rw[Nat.zero_add];simpa using p0,by rw[Nat.zero_add];simpa using p1⟩
theorem info_val:(Tryz.prog.info? 59).bind (fun i=>i.zero.map fun z=>(i.size,i.bytes,z.cells.size))=some (2,16,2):=by kernel_rfl
theorem val_info:∃(i:TypeInfo) (z:Value),Tryz.prog.info? 59=some i∧i.zero=some z∧i.size=2∧i.bytes=16∧z.cells.size=2:=by
 have h:=info_val;rcases hi:Tryz.prog.info? 59 with _|i
 ·rw[hi]at h;cases h
 rw[hi]at h;rcases hz:i.zero with _|z
 ·simp only[Option.bind_some,hz,Option.map_none]at h;cases h
 simp only[Option.bind_some,hz,Option.map_some,Option.some.injEq,Prod.mk.injEq]at h;exact⟨i,z,rfl,hz,h.1,h.2.1,h.2.2⟩
theorem two_new(w:World)(a b:Value)(t:TypeId):∀j u,([a,b]:List Value)[j]? =some u→(w.alloc (.cells #[a,b] t)).cell? ((⟨w.heap.size,0,none⟩:Addr).add j)=some u:=
 World.news_of_block (cs:= #[a,b]) (heap_alloc_new w (.cells #[a,b] t))
theorem own_cast3{w:World}{base:Nat}{e:TypeId}{s:Nat}{A:Option Addr}{c n m:Nat}{xs ys:List Value}(h:w.ownsRow base e s (.slice A n c) n xs)(h1:n=m)(h2:xs=ys):w.ownsRow base e s (.slice A m c) m ys:=by subst h1 h2;exact h
theorem two_new2(w:World)(o:Obj)(a b:Value)(t:TypeId):∀j u,([a,b]:List Value)[j]? =some u→((w.alloc o).alloc (.cells #[a,b] t)).cell? ((⟨w.heap.size+1,0,none⟩:Addr).add j)=some u:=by
 have:=two_new (w.alloc o) a b t;simpa using this
theorem one2(k k':IntKind)(a b:Int):∀u∈([.int k a,.int k' b]:List Value),u.oneCell'=true:=by
 intro u hu;simp at hu;rcases hu with rfl|rfl<;>rfl
theorem MX.open{w w':World}{B:Nat}{F:Fp}{L:Lb}{sk:Bool}{m:MS}{g cap cp:Nat}{A:Option Addr}{c:Cl}{AC:Option Addr}{capc:Nat}{xs:List Value}(h:MX w B F L sk m)(h6:w.cell? ⟨F.mb,6,none⟩=some (.slice AC m.calls.length capc))(hxs:∀ys,w.ownsRow B 102 6 (.slice AC m.calls.length capc) m.calls.length ys→ys=xs)
 (ho:w'.ownsRow B 102 6 (.slice (some ⟨g,0,none⟩) (m.calls.length+1) cap) (m.calls.length+1) (xs++cellsC c A cp)) (hg:w.grownBy w' (Value.slice AC m.calls.length capc).ownBlock) (hg2:(Value.slice AC m.calls.length capc).ownBlock=some g∨g=w.heap.size)
 (hv:RdV w F.far A c.args.length c.args) (hb:I64 c.back) (hl:I64 c.left) (hfew:m.calls.length<8) (hc:c.prog<L.pr.length∧c.caller<L.pr.length∧0≤c.left):
 Mv w F {F with ac:=some g}∧MX (w'.setCell ⟨F.mb,6,none⟩ (.slice (some ⟨g,0,none⟩) (m.calls.length+1) cap)) B {F with ac:=some g} L sk {m with calls:=m.calls++[c]}:=by
 have hge:=h.mb_ge;have hlt:=h.lt;have hslt:=h.sto.lt;have hn1:=h.ne1;have hn2:=h.ne2;have hown:=h.own_ge;obtain⟨A1,A2,A3,AC',c1,c2,c3,capc',xs',hbk,hL,ho',hf,ha,hr⟩:=h.ex;have e6:some (Value.slice AC' m.calls.length capc')=some (.slice AC m.calls.length capc):=((cell_of_row w F.mb 6 _ _ _ hbk).symm.trans h6);simp only[Option.some.injEq,Value.slice.injEq,true_and]at e6;obtain⟨rfl,rfl⟩:=e6;obtain rfl:=hxs _ ho';have hrow:(Value.slice AC' m.calls.length capc').ownBlock=F.ac:=by
  rw[←ha];rcases AC' with _|a<;>rfl
 rw[hrow]at hg hg2;have hgm:g≠F.mb∧g≠F.sb∧g≠F.lb:=by
  rcases hg2 with e|e
  ·exact hf g e
  ·omega
 have ks:∀j,j<w.heap.size→F.ac≠some j→w'.heap[j]? =w.heap[j]? :=fun j hj hne=>hg.block j hj (fun e=>hne e.symm);have kw:∀j,j<w.heap.size→j≠F.mb→F.ac≠some j→(w'.setCell ⟨F.mb,6,none⟩ (.slice (some ⟨g,0,none⟩) (m.calls.length+1) cap)).heap[j]? =w.heap[j]? :=fun j hj h1 h2=>(Below.heap_setCell _ _ _ j h1).trans (ks j hj h2);have kl:∀j,j<B→(w'.setCell ⟨F.mb,6,none⟩ (.slice (some ⟨g,0,none⟩) (m.calls.length+1) cap)).heap[j]? =w.heap[j]? :=fun j hj=>kw j (by omega) (by omega) fun e=>by have:=(hown j (.inr (.inr (.inr e)))).1;omega
 obtain⟨t1,t2,t3⟩:=h.tab;obtain⟨n1,n2,n3⟩:=h.tn;have hsz:w.heap.size≤(w'.setCell ⟨F.mb,6,none⟩ (.slice (some ⟨g,0,none⟩) (m.calls.length+1) cap)).heap.size:=by have:=hg.size;simpa[World.setCell]using this
 have k2:=kw F.sb hslt.1 (fun e=>hn1 e.symm) fun e=>(hf _ e).2.1 rfl;have k3:=kw F.lb hslt.2 (fun e=>hn2 e.symm) fun e=>(hf _ e).2.2 rfl;have hfar:∀j,j<w.heap.size→F.far j→{F with ac:=some g}.far j:=fun j hj hI=>⟨fun k=>by
  rcases k with e|e|e|e
  ·exact hI.1 (.inl e)
  ·exact hI.1 (.inr (.inl e))
  ·exact hI.1 (.inr (.inr (.inl e)))
  ·rcases hg2 with q|q
   ·exact hI.1 (.inr (.inr (.inr (q.trans e))))
   ·simp at e;omega,hI.2⟩
 have hkI:∀j,j<w.heap.size→F.far j→(w'.setCell ⟨F.mb,6,none⟩ (.slice (some ⟨g,0,none⟩) (m.calls.length+1) cap)).heap[j]? =w.heap[j]? :=fun j hj hI=>kw j hj (fun e=>hI.1 (.inl e)) fun e=>hI.1 (.inr (.inr (.inr e)));refine⟨⟨rfl,rfl,rfl,.inl rfl,?_⟩,⟨h.mb_ge,h.sb_ge,h.lb_ge,h.ne1,h.ne2,fun x hx=>Nat.lt_of_lt_of_le (h.av x hx) hsz,⟨t1,t2,(kl _ h.tabB).trans t3⟩,h.tabB,⟨n1,n2,(kl _ h.tnB).trans n3⟩,h.tnB,h.fine,h.sto.keep k2 k3,h.vf,h.pos,h.prog,h.steps,h.err,by rw[List.length_append,List.length_singleton];omega,fun d hd=> ?_,
  A1,A2,A3,some ⟨g,0,none⟩,c1,c2,c3,cap,xs'++cellsC c A cp,?_,hL.keep (fun p hp=>World.cell?_of_block (kl p.block hp)) (Nat.le_refl _),?_,fun j hj=> ?_,rfl,?_⟩⟩
 ·rcases hg2 with e|e
  ·exact .inl e.symm
  ·exact .inr ⟨g,rfl,by omega⟩
 ·rcases List.mem_append.1 hd with q|q
  ·exact h.calls d q
  ·rw[List.mem_singleton.1 q];exact hc
 ·have hb':w'.heap[F.mb]? =some (.cells ⟨cellsM A1 A2 A3 AC' c1 c2 c3 capc' F.sb L sk m⟩ 81 (0,0)):=(ks F.mb hlt fun e=>(hf _ e).1 rfl).trans hbk;have:=heap_set (i:=6) (u:=.slice (some ⟨g,0,none⟩) (m.calls.length+1) cap) hb';rw[this];simp[cellsM]
 ·have:=owns_keep (w':=w'.setCell ⟨F.mb,6,none⟩ (.slice (some ⟨g,0,none⟩) (m.calls.length+1) cap)) ho fun j hj hv=>Below.heap_setCell _ _ _ j (by
   simp[Value.ownBlock]at hv
   show j≠F.mb
   rw[←hv];exact hgm.1)
  rw[List.length_append,List.length_singleton];exact this
 ·simp at hj;subst hj;exact hgm
 ·intro i d hd;have hxl:xs'.length=m.calls.length*6:=ho'.1;by_cases hi:i<m.calls.length
  ·rw[List.getElem?_append_left hi]at hd;obtain⟨a1,a2,A',cp',a3,a4⟩:=hr i d hd;refine⟨a1,a2,A',cp',a3.keep hsz hfar hkI,fun j v hv=> ?_⟩;have q:=a4 j v hv;rw[List.getElem?_append_left ((List.getElem?_eq_some_iff.1 q).1)];exact q
  ·rw[List.getElem?_append_right (by omega)]at hd;have hi0:i-m.calls.length=0:=by
    have:=(List.getElem?_eq_some_iff.1 hd).1;simp at this;omega
   rw[hi0]at hd;simp at hd;subst hd;refine⟨hb,hl,A,cp,hv.keep hsz hfar hkI,fun j v hv=> ?_⟩;rw[List.getElem?_append_right (by omega),show i*6+j-xs'.length=j by omega];exact hv
theorem find_bd(L:Lb)(n:Int):(findS L n).2=true→0≤(findS L n).1∧(findS L n).1.toNat<L.pr.length:=by
 have key:∀(l:List Pg) (i:Nat),(findFrom n l i).2=true→0≤(findFrom n l i).1∧(findFrom n l i).1.toNat<i+l.length:=by
  intro l;induction l with
  |nil=>intro i h;simp[findFrom]at h
  |cons p r ih=>
   intro i h;rw[findFrom]at h⊢
   split
   ·simp
   ·rename_i hn;rw[if_neg hn]at h;have:=ih (i+1) h;rw[List.length_cons];omega
 intro h;have:=key L.pr 0 h;unfold findS;omega
theorem cellsC_one(c:Cl)(A:Option Addr)(cp:Nat):∀u∈cellsC c A cp,u.oneCell'=true:=by
 intro u hu;simp[cellsC]at hu;rcases hu with rfl|rfl|rfl|rfl|rfl|rfl<;>rfl
theorem cell_set_ne{w:World}{g i j:Nat}{v:Value}(h:j≠i):(w.setCell ⟨g,i,none⟩ v).cell? ⟨g,j,none⟩=w.cell? ⟨g,j,none⟩:=by
 rcases hb:w.heap[g]? with _|o
 ·simp[World.cell?,World.setCell,Array.getElem?_modify,hb]
 ·rcases o with⟨cs,t,fr⟩|_
  all_goals simp[World.cell?,World.setCell,Array.getElem?_modify,hb]
  try(rw[Array.getElem?_setIfInBounds,if_neg (fun e=>h e.symm)])
theorem MX.row_ne{w:World}{B:Nat}{F:Fp}{L:Lb}{sk:Bool}{m:MS}(h:MX w B F L sk m){AC:Option Addr}{n c:Nat}(ha:AC.map (·.block)=F.ac):some F.mb≠(Value.slice AC n c).ownBlock:=by
 obtain⟨_,_,_,_,_,_,_,_,_,_,_,_,hf,_⟩:=h.ex;intro e;have:F.ac=some F.mb:=by
  rw[←ha];rcases AC with _|a
  ·simp[Value.ownBlock]at e
  ·simpa[Value.ownBlock]using e.symm
 exact(hf _ this).1 rfl
theorem own_uniq{w:World}{b b':Nat}{e e':TypeId}{s n:Nat}{v:Value}{xs ys:List Value}(h:w.ownsRow b e s v n xs)(k:w.ownsRow b' e' s v n ys):xs=ys:=by
 have h1:=h.1;have k1:=k.1;rcases h.2 with⟨e1,e2⟩|⟨g,cap,cur,a1,a2,a3,a4,a5,a6,a7⟩
 ·subst e2;have hx:=List.eq_nil_of_length_eq_zero (show xs.length=0 by simpa using h1);have hy:=List.eq_nil_of_length_eq_zero (show ys.length=0 by simpa using k1);rw[hx,hy]
 ·rcases k.2 with⟨e1,e2⟩|⟨g',cap',cur',b1,b2,b3,b4,b5,b6,b7⟩
  ·subst e2;have hx:=List.eq_nil_of_length_eq_zero (show xs.length=0 by simpa using h1);have hy:=List.eq_nil_of_length_eq_zero (show ys.length=0 by simpa using k1);rw[hx,hy]
  ·rw[a1]at b1;simp only[Value.slice.injEq,Option.some.injEq,Addr.mk.injEq,true_and,and_true]at b1;obtain⟨rfl,rfl⟩:=b1;rw[a3]at b3;simp only[Option.some.injEq,Obj.cells.injEq]at b3;rw[←a7,←b7,b3.1]
theorem own_row{F:Fp}{AC:Option Addr}{n c j:Nat}(ha:AC.map (·.block)=F.ac)(e:some j=(Value.slice AC n c).ownBlock):F.own j:=by
 refine .inr (.inr (.inr ?_));rw[←ha];rcases AC with _|a
 ·simp[Value.ownBlock]at e
 ·simpa[Value.ownBlock]using e.symm
theorem Mv.of_size{w w':World}{F F':Fp}(h:Mv w F F')(hs:w'.heap.size≤w.heap.size):Mv w' F F':=(Mv.refl w' F).trans h hs
theorem MP.trans2{B:Nat}{F F1:Fp}{L:Lb}{sk:Bool}{m2:MS}{w w1 w2:World}(hm:Mv w F F1)(hc:Chg F.own w w1)(k:MP B F1 L sk m2 w1 w2):MP B F L sk m2 w w2:=by
 obtain⟨F2,b1,b2,b3⟩:=k;exact⟨F2,hm.trans b1 hc.size,b2,⟨b3.os.trans hc.os,b3.tape.trans hc.tape,b3.output.trans hc.output,Nat.le_trans hc.size b3.size,fun g hg ho=>(b3.block g (Nat.lt_of_lt_of_le hg hc.size) fun k=>ho (hm.own g hg k)).trans (hc.block g hg ho)⟩⟩
def EnRel(w:World)(l:List (Int×Int))(av nv tv nn rv iv:Value)(W:World):Prop:=
 ∃(k cap:Nat) (C:Option Addr),k≤l.length∧iv=.int .i64 (k:Int)∧av=.slice C (enS (l.take k)).args.length cap∧nv=.int .i64 (enS (l.take k)).number∧tv=.int .i64 (enS (l.take k)).times∧nn=.int .i64 (enS (l.take k)).numbers∧rv=.int .i64 (enS (l.take k)).repeats∧
  W.ownsRow w.heap.size 59 2 (.slice C (enS (l.take k)).args.length cap) (enS (l.take k)).args.length (pairs (enS (l.take k)).args)∧Below w.heap.size w W
theorem enS_take{l:List (Int×Int)}{k:Nat}{x:Int×Int}(h:l[k]? =some x):enS (l.take (k+1))=en1 (enS (l.take k)) x:=by
 unfold enS;rw[List.take_add_one,h];simp
theorem enS_bd:∀(l:List (Int×Int)) (s:En),0≤s.numbers∧0≤s.repeats→0≤(l.foldl en1 s).numbers∧(l.foldl en1 s).numbers≤s.numbers+l.length∧0≤(l.foldl en1 s).repeats∧(l.foldl en1 s).repeats≤s.repeats+l.length∧(l.foldl en1 s).args.length≤s.args.length+l.length:=by
 intro l;induction l with
 |nil=>intro s h;simp;omega
 |cons x r ih=>
  intro s h;rw[List.foldl_cons,List.length_cons];have key:0≤(en1 s x).numbers∧(en1 s x).numbers≤s.numbers+1∧0≤(en1 s x).repeats∧(en1 s x).repeats≤s.repeats+1∧(en1 s x).args.length≤s.args.length+1:=by
   unfold en1
   repeat' split
   all_goals try dsimp only
   all_goals try rw[List.length_append,List.length_singleton]
   all_goals omega
  have:=ih (en1 s x) ⟨key.1,key.2.2.1⟩;omega
theorem enS_num(l:List (Int×Int)):0≤(enS l).numbers∧(enS l).numbers≤l.length∧0≤(enS l).repeats∧(enS l).repeats≤l.length∧(enS l).args.length≤l.length:=by
 have:=enS_bd l ⟨0,1000000,0,0,[]⟩ ⟨Int.le_refl _,Int.le_refl _⟩;unfold enS;simpa using this
theorem enS_vi:∀(l:List (Int×Int)) (s:En),Vi l→Vi s.args→Vi (l.foldl en1 s).args:=by
 intro l;induction l with
 |nil=>intro s _ h;exact h
 |cons x r ih=>
  intro s h h2;rw[List.foldl_cons];refine ih _ (fun y hy=>h y (List.mem_cons_of_mem _ hy)) ?_;unfold en1;split
  ·exact h2
  split
  ·exact h2
  split
  ·exact h2
  ·intro y hy;rcases List.mem_append.1 hy with q|q
   ·exact h2 y q
   ·rw[List.mem_singleton.1 q];exact h x List.mem_cons_self
def EnPost(B:Nat)(F:Fp)(L:Lb)(sk:Bool)(m:MS)(l:List (Int×Int))(mc:Bool)(w:World)(e:Ending)(w':World):Prop:=
 e=.returned (.int .i64 (enterE L m l mc))∧MP B F L sk (enterM L m l mc) w w'
theorem EnPost.no{B:Nat}{F:Fp}{L:Lb}{sk:Bool}{m:MS}{l:List (Int×Int)}{mc:Bool}{w w':World}{er:Int}(h:MX w B F L sk m)(hb:Below w.heap.size w w')(he:enterE L m l mc=er)(h0:er≠0):EnPost B F L sk m l mc w (.returned (.int .i64 er)) w':=
 ⟨by rw[he],by unfold enterM;rw[he,if_pos h0];exact MP.below h hb⟩
set_option maxRecDepth 100000 in
set_option maxHeartbeats 4000000 in
theorem enter_any(w:World)(B:Nat)(F:Fp)(L:Lb)(sk:Bool)(m:MS)(I:Nat→Prop)(A:Option Addr)(n c:Nat)(l:List (Int×Int))(mc:Bool)(h:MX w B F L sk m)(hv:RdV w I A n l)(hp:0≤m.pos∧m.pos≤1000000)(hlen:l.length≤1000):
 Calls Tryz.prog 96 #[.pointer (some ⟨F.mb,0,none⟩),.slice A n c,.bool mc] w (EnPost B F L sk m l mc w):=by
 obtain⟨i0,z0,hi,hz0,hz1,hz2,hzs⟩:=val_info;have HX:=Lib.hid h;have HVV:=Lib.hid hv;have HFT:=Lib.hid (fits_any w I A n c l mc hv);obtain⟨hn1,hn2,hvb,hvc⟩:=hv;have HVB:Hid (Vi l):=hvb;have HVC:=Lib.hid hvc;have hnl:=hn2;unfold maxLen at hnl;clear h hvb hvc;subst hn1;rcases hft:fitsS l mc with _|_
 ·have EJ:Hid (enterE L m l mc=8):=by unfold Hid enterE;rw[if_pos hft]
  rw[hft]at HFT;clear hft;go_enter Tryz.func96,Tryz.ntmps96;go_wp2_with(go_at_call 126;refine HFT.out.mono ?_;rintro e w1 ⟨rfl,hb1⟩;have HB1:=Lib.hid hb1;clear hb1);go_ret;exact EnPost.no HX.out HB1.out EJ.out (by decide)
 rw[hft]at HFT;have HFIT:=Lib.hid hft;clear hft;have HI:=Lib.hid hi;go_enter Tryz.func96,Tryz.ntmps96;go_wp2_with(go_at_call 126;refine HFT.out.mono ?_;rintro e w1 ⟨rfl,hb1⟩;have HB1:=Lib.hid hb1;clear hb1);go_loopw[7,8,9,10,11,27] (EnRel w l) (fun _ _ _ _ _ i _=>l.length-(intOf i).toNat)
 case atStart=>exact⟨0,0,none,Nat.zero_le _,rfl,rfl,rfl,rfl,rfl,rfl,World.ownsRow_nil _ _ _ _,HB1.out⟩
 case round=>
  obtain⟨k,cap,C,hk,rfl,rfl,rfl,rfl,rfl,rfl,hown,hnx⟩:=hrel;have hsize:=hnx.size;have hnum:=enS_num (l.take k);have htk:(l.take k).length≤k:=by rw[List.length_take];omega
  by_cases hlt:k<l.length
  ·obtain⟨ab,off,rfl,_,hab,hc⟩:=HVC.out (by omega);obtain⟨⟨cc,nn⟩,hx⟩:∃x,l[k]? =some x:=⟨_,List.getElem?_eq_getElem hlt⟩;obtain⟨x0,x1⟩:=hc k _ hx;dsimp only at x0 x1;have d0:=(hnx.cell (p:=⟨ab,off+k*2,none⟩) hab).trans x0;have d1:=(hnx.cell (p:=⟨ab,off+k*2+1,none⟩) hab).trans x1;have HST:=Lib.hid (enS_take hx);clear hc hx x0 x1;generalize enS (l.take k)=s at*
   obtain⟨number,times,numbers,repeats,args⟩:=s;dsimp only at*
   have HN:=Lib.hid hnx;have HO:=Lib.hid hown;clear hnx hown;by_cases p1:cc=80
   ·subst p1;have E1:Hid (enS (l.take (k+1))=⟨nn,times,numbers+1,repeats,args⟩):=by unfold Hid;rw[HST.out];rfl
    go_wp2_with fail;exact⟨⟨k+1,cap,C,by omega,by go_num,by rw[E1.out],by rw[E1.out],by rw[E1.out],by rw[E1.out];try go_num,by rw[E1.out],by rw[E1.out];exact HO.out.alloc _,HN.out.alloc (by omega) _⟩,by simp only[intOf];omega⟩
   have g1:(cc==80)=false:=by simpa using p1
   by_cases p2:cc=76
   ·subst p2;have E1:Hid (enS (l.take (k+1))=⟨number,nn,numbers,repeats+1,args⟩):=by unfold Hid;rw[HST.out];rfl
    go_wp2_with fail;exact⟨⟨k+1,cap,C,by omega,by go_num,by rw[E1.out],by rw[E1.out],by rw[E1.out],by rw[E1.out],by rw[E1.out];try go_num,by rw[E1.out];exact HO.out.alloc _,HN.out.alloc (by omega) _⟩,by simp only[intOf];omega⟩
   have g2:(cc==76)=false:=by simpa using p2
   by_cases p3:cc=71
   ·subst p3;have E1:Hid (enS (l.take (k+1))=⟨number,times,numbers,repeats,args⟩):=by unfold Hid;rw[HST.out];rfl
    go_wp2_with fail;exact⟨⟨k+1,cap,C,by omega,by go_num,by rw[E1.out],by rw[E1.out],by rw[E1.out],by rw[E1.out],by rw[E1.out],by rw[E1.out];exact HO.out.alloc _,HN.out.alloc (by omega) _⟩,by simp only[intOf];omega⟩
   have g3:(cc==71)=false:=by simpa using p3
   have E1:Hid (enS (l.take (k+1))=⟨number,times,numbers,repeats,args++[(cc,nn)]⟩):=by
    unfold Hid;rw[HST.out];unfold en1;dsimp only;rw[if_neg p1,if_neg p2,if_neg p3]
   clear p1 p2 p3;have hal:args.length≤k:=by omega
   go_wp2_with(first|(at_builtin;refine wpList_append_lies _ rfl (.tmp 33) (.tmp 35) 38 rfl w.heap.size 59 i0 z0 2 16 Tryz.underlying38 HI.out hz0 hz1 hz2 hzs (by omega) (.slice C args.length cap) args.length (pairs args) rfl ((HO.out.alloc _).alloc _) ⟨wr.heap.size+1,0,none⟩ 1 1 [.int .i64 cc,.int .i64 nn] rfl rfl (two_new2 _ _ _ _ _) (one2 _ _ _ _) (by omega) (by unfold maxLen;omega) (by omega) (by simp;omega) _ rfl ?_;intro g9 c9 w9 ho9 hg9 _ _));exact⟨⟨k+1,c9,some ⟨g9,0,none⟩,by omega,by go_num,by rw[E1.out];simp,by rw[E1.out],by rw[E1.out],by rw[E1.out],by rw[E1.out],by rw[E1.out];exact own_cast3 ho9 (by simp) (by simp[pairs]),(((HN.out.alloc (by omega) _).alloc (by simp;omega) _).grown hg9 (by simp;omega) (fun j hj=>(HO.out.lt j hj).1))⟩,by simp only[intOf];omega⟩
  ·have hke:k=l.length:=by omega
   subst hke;rw[List.take_length]at hown hnum;rw[List.take_length];have HENS0:Hid (enS l=enS l):=rfl;have HVI:Hid (Vi (enS l).args):=enS_vi l _ HVB.out (by intro x hx;cases hx);generalize hens:enS l=s at*
   have HENS:Hid (s=enS l):=hens.symm;clear hens HENS0;obtain⟨number,times,numbers,repeats,args⟩:=s;dsimp only at*
   have HB:=Lib.hid hnx;have HO:=Lib.hid hown;clear hnx hown;obtain⟨A1,A2,A3,AC,c1,c2,c3,capc,xs,⟨d0,d1,d2,_,d4,d5,d6,d7,_,_,_⟩,hL,_,_,_,hfr⟩:=HX.out.cells;have hmb:=HX.out.lt;have HL:=Lib.hid hL;have HFD:Hid (∀W:World,Below w.heap.size w W→Calls Tryz.prog 127 #[.agg #[.slice A1 L.bl.length c1,.slice A2 L.pr.length c2,.slice A3 L.mt.length c3],.int .i64 (wholeS number).1] W fun e w'=>e=.returned (.tuple #[.int .i64 (findS L (wholeS number).1).1,.bool (findS L (wholeS number).1).2])∧Below W.heap.size W w'):=
    fun W hW=>find_any W B L A1 A2 A3 _ c1 _ c2 _ c3 _ (HL.out.below (hW.mono HX.out.Ble)) (Nat.le_trans HX.out.Ble hW.size)
   have HDP:Hid (∀W:World,Below w.heap.size w W→Calls Tryz.prog 20 #[.pointer (some ⟨F.mb,0,none⟩)] W fun e w'=>e=.returned (.int .i64 (m.calls.length:Nat))∧W=w'):=
    fun W hW=>depth_any W B F L sk m (HX.out.below hW)
   have e0:=(HB.out.cell (p:=⟨F.mb,0,none⟩) hmb).trans d0;have e1:=(HB.out.cell (p:=⟨F.mb,1,none⟩) hmb).trans d1;have e2:=(HB.out.cell (p:=⟨F.mb,2,none⟩) hmb).trans d2;have D7:=Lib.hid d7;have HFR:=Lib.hid hfr;clear d0 d1 d2 d4 d5 d6 d7 hL hfr;by_cases c1':1<numbers
   ·have g1:decide (numbers>1)=true:=decide_eq_true c1';have EJ:Hid (enterE L m l mc=7):=by unfold Hid enterE;rw[HFIT.out,←HENS.out];dsimp only;rw[if_neg (by decide),if_pos (.inl c1')]
    go_wp2_with fail;go_ret;exact EnPost.no HX.out HB.out EJ.out (by decide)
   have g1:decide (numbers>1)=false:=decide_eq_false c1';by_cases c2':1<repeats
   ·have g2:decide (repeats>1)=true:=decide_eq_true c2';have EJ:Hid (enterE L m l mc=7):=by unfold Hid enterE;rw[HFIT.out,←HENS.out];dsimp only;rw[if_neg (by decide),if_pos (.inr c2')]
    go_wp2_with fail;go_ret;exact EnPost.no HX.out HB.out EJ.out (by decide)
   have g2:decide (repeats>1)=false:=decide_eq_false c2';by_cases c3':numbers=0
   ·have g3:(numbers==0)=true:=by simpa using c3'
    have EJ:Hid (enterE L m l mc=9):=by unfold Hid enterE;rw[HFIT.out,←HENS.out];dsimp only;rw[if_neg (by decide),if_neg (by omega),if_pos c3']
    go_wp2_with fail;go_ret;exact EnPost.no HX.out HB.out EJ.out (by decide)
   have g3:(numbers==0)=false:=by simpa using c3'
   have EJ0:Hid (enterE L m l mc=if(wholeS number).2=false∨(findS L (wholeS number).1).2=false then 6
    else if(wholeS times).2=false∨(wholeS times).1<1∨999<(wholeS times).1 then 1
    else if m.calls.length=8 then 10
    else if mc then pushE m.sto args else 0):=by
    unfold Hid enterE;rw[HFIT.out,←HENS.out];dsimp only;rw[if_neg (by decide),if_neg (by omega),if_neg c3']
   clear c1' c2' c3';have HFIND:Hid ((findS L (wholeS number).1).2=true→0≤(findS L (wholeS number).1).1∧(findS L (wholeS number).1).1.toNat<L.pr.length):=find_bd L _;generalize hwn:wholeS number=qn at*
   obtain⟨wn,wk⟩:=qn;generalize hwt:wholeS times=qt at*
   obtain⟨wt,tk⟩:=qt;generalize hfd:findS L wn=qf at*
   obtain⟨fi,fk⟩:=qf;have HWN:Hid (∀W:World,Calls Tryz.prog 88 #[.int .i64 number] W fun e w'=>e=.returned (.tuple #[.int .i64 wn,.bool wk])∧W=w'):=fun W=>by have:=whole_any number W;rw[hwn]at this;exact this
   have HWT:Hid (∀W:World,Calls Tryz.prog 88 #[.int .i64 times] W fun e w'=>e=.returned (.tuple #[.int .i64 wt,.bool tk])∧W=w'):=fun W=>by have:=whole_any times W;rw[hwt]at this;exact this
   have HWN1:=Lib.hid hwn;have HWT1:=Lib.hid hwt;have HFD1:=Lib.hid hfd;try dsimp only at HFD HFIND EJ0
   clear hwn hwt hfd;rcases wk with _|_
   ·have EJ:Hid (enterE L m l mc=6):=by unfold Hid;rw[EJ0.out];rw[if_pos (.inl rfl)]
    have tok1:True:=trivial;have tok2:True:=trivial;go_wp2_with(first|(go_at_call 88;clear tok1;refine(HWN.out _).mono ?_;rintro e w' ⟨rfl,rfl⟩)|(go_at_call 88;clear tok2;refine(HWT.out _).mono ?_;rintro e w' ⟨rfl,rfl⟩)|(go_at_call 127;refine(HFD.out _ HB.out).mono ?_;rintro e w2 ⟨rfl,hb2⟩;have HB2:=Lib.hid (HB.out.trans (hb2.mono HB.out.size));have HN2:Hid (Below wr.heap.size wr w2):=⟨hb2.os,hb2.tape,hb2.output,hb2.size,hb2.block⟩;clear hb2;skip));go_ret;exact EnPost.no HX.out HB2.out EJ.out (by decide)
   rcases fk with _|_
   ·have EJ:Hid (enterE L m l mc=6):=by unfold Hid;rw[EJ0.out];rw[if_pos (.inr rfl)]
    have tok1:True:=trivial;have tok2:True:=trivial;go_wp2_with(first|(go_at_call 88;clear tok1;refine(HWN.out _).mono ?_;rintro e w' ⟨rfl,rfl⟩)|(go_at_call 88;clear tok2;refine(HWT.out _).mono ?_;rintro e w' ⟨rfl,rfl⟩)|(go_at_call 127;refine(HFD.out _ HB.out).mono ?_;rintro e w2 ⟨rfl,hb2⟩;have HB2:=Lib.hid (HB.out.trans (hb2.mono HB.out.size));have HN2:Hid (Below wr.heap.size wr w2):=⟨hb2.os,hb2.tape,hb2.output,hb2.size,hb2.block⟩;clear hb2;skip));go_ret;exact EnPost.no HX.out HB2.out EJ.out (by decide)
   have HF2:=Lib.hid (HFIND.out rfl);clear HFIND;rcases tk with _|_
   ·have EJ:Hid (enterE L m l mc=1):=by unfold Hid;rw[EJ0.out];rw[if_neg (by simp),if_pos (.inl rfl)]
    have tok1:True:=trivial;have tok2:True:=trivial;go_wp2_with(first|(go_at_call 88;clear tok1;refine(HWN.out _).mono ?_;rintro e w' ⟨rfl,rfl⟩)|(go_at_call 88;clear tok2;refine(HWT.out _).mono ?_;rintro e w' ⟨rfl,rfl⟩)|(go_at_call 127;refine(HFD.out _ HB.out).mono ?_;rintro e w2 ⟨rfl,hb2⟩;have HB2:=Lib.hid (HB.out.trans (hb2.mono HB.out.size));have HN2:Hid (Below wr.heap.size wr w2):=⟨hb2.os,hb2.tape,hb2.output,hb2.size,hb2.block⟩;clear hb2;skip));go_ret;exact EnPost.no HX.out HB2.out EJ.out (by decide)
   by_cases c4:wt<1
   ·have g4:decide (wt<1)=true:=decide_eq_true c4;have EJ:Hid (enterE L m l mc=1):=by unfold Hid;rw[EJ0.out];rw[if_neg (by simp),if_pos (.inr (.inl c4))]
    have tok1:True:=trivial;have tok2:True:=trivial;go_wp2_with(first|(go_at_call 88;clear tok1;refine(HWN.out _).mono ?_;rintro e w' ⟨rfl,rfl⟩)|(go_at_call 88;clear tok2;refine(HWT.out _).mono ?_;rintro e w' ⟨rfl,rfl⟩)|(go_at_call 127;refine(HFD.out _ HB.out).mono ?_;rintro e w2 ⟨rfl,hb2⟩;have HB2:=Lib.hid (HB.out.trans (hb2.mono HB.out.size));have HN2:Hid (Below wr.heap.size wr w2):=⟨hb2.os,hb2.tape,hb2.output,hb2.size,hb2.block⟩;clear hb2;skip));go_ret;exact EnPost.no HX.out HB2.out EJ.out (by decide)
   have g4:decide (wt<1)=false:=decide_eq_false c4;by_cases c5:999<wt
   ·have g5:decide (wt>999)=true:=decide_eq_true c5;have EJ:Hid (enterE L m l mc=1):=by unfold Hid;rw[EJ0.out];rw[if_neg (by simp),if_pos (.inr (.inr c5))]
    have tok1:True:=trivial;have tok2:True:=trivial;go_wp2_with(first|(go_at_call 88;clear tok1;refine(HWN.out _).mono ?_;rintro e w' ⟨rfl,rfl⟩)|(go_at_call 88;clear tok2;refine(HWT.out _).mono ?_;rintro e w' ⟨rfl,rfl⟩)|(go_at_call 127;refine(HFD.out _ HB.out).mono ?_;rintro e w2 ⟨rfl,hb2⟩;have HB2:=Lib.hid (HB.out.trans (hb2.mono HB.out.size));have HN2:Hid (Below wr.heap.size wr w2):=⟨hb2.os,hb2.tape,hb2.output,hb2.size,hb2.block⟩;clear hb2;skip));go_ret;exact EnPost.no HX.out HB2.out EJ.out (by decide)
   have g5:decide (wt>999)=false:=decide_eq_false c5;have EJ1:Hid (enterE L m l mc=if m.calls.length=8 then 10 else if mc then pushE m.sto args else 0):=by
    unfold Hid;rw[EJ0.out,if_neg (by simp),if_neg (by simp;omega)]
   obtain⟨N,hN⟩:∃N,N=m.calls.length:=⟨_,rfl⟩;rw[←hN]at HDP EJ1;have HN:=Lib.hid hN;clear hN EJ0;by_cases c6:N=8
   ·have g6:((N:Int)==8)=true:=by rw[c6];rfl
    have EJ:Hid (enterE L m l mc=10):=by unfold Hid;rw[EJ1.out,if_pos c6]
    have tok1:True:=trivial;have tok2:True:=trivial;go_wp2_with(first|(go_at_call 88;clear tok1;refine(HWN.out _).mono ?_;rintro e w' ⟨rfl,rfl⟩)|(go_at_call 88;clear tok2;refine(HWT.out _).mono ?_;rintro e w' ⟨rfl,rfl⟩)|(go_at_call 127;refine(HFD.out _ HB.out).mono ?_;rintro e w2 ⟨rfl,hb2⟩;have HB2:=Lib.hid (HB.out.trans (hb2.mono HB.out.size));have HN2:Hid (Below wr.heap.size wr w2):=⟨hb2.os,hb2.tape,hb2.output,hb2.size,hb2.block⟩;clear hb2;skip)|(go_at_call 20;refine(HDP.out w2 HB2.out).mono ?_;rintro e w' ⟨rfl,rfl⟩));go_ret;exact EnPost.no HX.out HB2.out EJ.out (by decide)
   have g6:((N:Int)==8)=false:=by simp;omega
   have EJ2:Hid (enterE L m l mc=if mc then pushE m.sto args else 0):=by unfold Hid;rw[EJ1.out,if_neg c6]
   have hN7:N<8:=by have:=HX.out.few;have:=HN.out;omega
   clear EJ1 c6;obtain⟨i1,z1,hi1,hy0,hy1,hy2,hys⟩:=infoCa_parts;have HI1:=Lib.hid hi1;have HFARG:Hid (∀g,w.heap.size≤g∧g<wr.heap.size→F.far g):=fun g hg=>⟨fun k=>by have:=(HX.out.own_ge g k).2;omega,fun k=>by have:=HX.out.av g k;omega⟩;have HARG:Hid (RdV wr (fun g=>w.heap.size≤g∧g<wr.heap.size) C args.length args):=(rdv_own HO.out rfl HVI.out).keep (Nat.le_refl _) (fun g hg hI=>⟨hI,hg⟩) (fun _ _ _=>rfl);have HY0:=Lib.hid hy0;clear hi1 hy0;have hN8:N≤8:=by have:=HX.out.few;have:=HN.out;omega
   obtain⟨P,hP⟩:∃P:Nat,fi=(P:Int):=⟨fi.toNat,by have:=HF2.out.1;omega⟩;subst hP;have hPl:P<L.pr.length:=by have:=HF2.out.2;simpa using this
   have hal:args.length≤1000:=by have:=hnum.2.2.2.2;omega
   rcases mc with _|_
   ·have EJ:Hid (enterE L m l false=0):=by unfold Hid;rw[EJ2.out];rfl
    have tok1:True:=trivial;have tok2:True:=trivial;go_wp2_with(first|(go_at_call 88;clear tok1;refine(HWN.out _).mono ?_;rintro e w' ⟨rfl,rfl⟩)|(go_at_call 88;clear tok2;refine(HWT.out _).mono ?_;rintro e w' ⟨rfl,rfl⟩)|(go_at_call 127;refine(HFD.out _ HB.out).mono ?_;rintro e w2 ⟨rfl,hb2⟩;have HB2:=Lib.hid (HB.out.trans (hb2.mono HB.out.size));have HN2:Hid (Below wr.heap.size wr w2):=⟨hb2.os,hb2.tape,hb2.output,hb2.size,hb2.block⟩;clear hb2;skip)|(go_at_call 20;refine(HDP.out w2 HB2.out).mono ?_;rintro e w' ⟨rfl,rfl⟩));have HX2:=Lib.hid (HX.out.below HB2.out);have hw1:IntKind.i64.wrap (m.pos+1)=m.pos+1:=IntWalk.i64_in _ (by omega);have hw2:IntKind.i64.wrap (wt-1)=wt-1:=IntWalk.i64_in _ (by omega);have HBA:Hid (∀o:Obj,MX (w2.drew.alloc o) B F L sk m):=fun o=>HX2.out.below ((below_dn (Below.refl _ w2) 1).alloc (Nat.le_refl _) o);have HAV:Hid (∀o:Obj,RdV (w2.drew.alloc o) F.far C args.length args):=fun o=>HARG.out.keep (Nat.le_trans HN2.out.size (bxS (B:=w2.drew.heap.size) (w:=w2.drew) o (Nat.le_refl _)).size) (fun g hg hI=>HFARG.out g hI) (fun g hg hI=>((bxS (B:=w2.drew.heap.size) (w:=w2.drew) o (Nat.le_refl _)).block g (Nat.lt_of_lt_of_le hg HN2.out.size)).trans (HN2.out.block g hg));have EM:Hid (enterM L m l false={m with calls:=m.calls++[⟨P,m.prog,m.pos+1,wt-1,args,false⟩],prog:=P,pos:=(L.prg P).first}):=by
     unfold Hid enterM;rw[EJ.out,←HENS.out];simp[HWN1.out,HWT1.out,HFD1.out]
    obtain⟨_,_,_,AC,_,_,_,capc,xs,⟨_,_,_,_,d4,d5,d6,_⟩,_,ho5,hac5,_,hfr5⟩:=HX2.out.cells;try dsimp only at d4 d5 d6 ho5
    rw[←HN.out]at d6 ho5;have HOW:=Lib.hid ho5;have HFR5:=Lib.hid hfr5;have HOLD:Hid (∀(o:Obj) (g:Nat) x,w2.heap[g]? =some x→(w2.drew.alloc o).heap[g]? =some x):=fun o g x hx=>(Below.heap_alloc w2.drew o g (hlS hx)).trans hx;have HNEW:Hid (∀o:Obj,(w2.drew.alloc o).heap[w2.heap.size]? =some o):=fun o=>heap_alloc_new w2.drew o;have HBW:Hid (∀o:Obj,B≤(w2.drew.alloc o).heap.size):=fun o=>Nat.le_trans HX2.out.Ble (bxS (B:=w2.drew.heap.size) (w:=w2.drew) o (Nat.le_refl _)).size;have hmW:=HX2.out.lt;have hac:=hac5;have hrowne:some F.mb≠(Value.slice AC N capc).ownBlock:=HX2.out.row_ne hac5;try dsimp only at hmW
    have HK6:Hid (∀(o:Obj) (w9:World),(w2.drew.alloc o).grownBy w9 (Value.slice AC N capc).ownBlock→w9.cell? ⟨F.mb,6,none⟩=some (.slice AC N capc)∧w9.frozen? ⟨F.mb,6,none⟩=false∧w9.cell? ⟨F.mb,4,none⟩=some (.int .i64 (m.prog:Nat))∧w9.cell? ⟨F.mb,5,none⟩=some (.int .i64 m.pos)):=fun o w9 hg=>by
     have hb:w9.heap[F.mb]? =w2.heap[F.mb]? :=(hg.block F.mb (Nat.lt_of_lt_of_le hmW (bxS (B:=w2.drew.heap.size) (w:=w2.drew) o (Nat.le_refl _)).size) hrowne).trans (Below.heap_alloc w2.drew o F.mb hmW);exact⟨(World.cell?_of_block (a:=⟨F.mb,6,none⟩) hb).trans d6,(World.frozen?_of_block (a:=⟨F.mb,6,none⟩) hb).trans (HFR5.out 6),(World.cell?_of_block (a:=⟨F.mb,4,none⟩) hb).trans d4,(World.cell?_of_block (a:=⟨F.mb,5,none⟩) hb).trans d5⟩
    have HSA:Hid (∀o:Obj,(w2.drew.alloc o).cell? ⟨F.mb,4,none⟩=some (.int .i64 (m.prog:Nat))∧(w2.drew.alloc o).cell? ⟨F.mb,5,none⟩=some (.int .i64 m.pos)):=fun o=>
     ⟨(World.cell?_of_block (a:=⟨F.mb,4,none⟩) (Below.heap_alloc w2.drew o F.mb hmW)).trans d4,(World.cell?_of_block (a:=⟨F.mb,5,none⟩) (Below.heap_alloc w2.drew o F.mb hmW)).trans d5⟩
    have d6o:∀o:Obj,(w2.drew.alloc o).cell? ⟨F.mb,6,none⟩=some (.slice AC N capc):=fun o=>(World.cell?_of_block (a:=⟨F.mb,6,none⟩) (Below.heap_alloc w2.drew o F.mb hmW)).trans d6;clear ho5 hfr5 hac5;refine wp_region_noPanic ?_;refine wp_region_held_drew (S:=(fun w'=>w'.cell? ⟨F.mb,4,none⟩=some (.int .i64 (m.prog:Nat))∧w'.cell? ⟨F.mb,5,none⟩=some (.int .i64 m.pos))) (by kernel_rfl) ⟨d4,d5⟩ (fun hHeld=> ?_);refine wpAnyH_take (i:=0) (v:= ?_) rfl (by kernel_rfl) (by kernel_rfl) (by kernel_rfl) (fun _ _ _ h=>h) (Or.inl ⟨by rfl,?_⟩) (by assumption) ?_;rotate_left
    ·intro w1 hSw;clear hSw;go_simp<;>with_reducible rfl
    try simp only[Act.put,List.setIfInBounds_toArray,List.set_cons_zero,List.set_cons_succ]
    refine wpAnyH_take (i:=1) (v:= ?_) rfl (by kernel_rfl) (by kernel_rfl) (by kernel_rfl) (fun _ _ _ h=>h) (Or.inl ⟨by rfl,?_⟩) (by assumption) ?_;rotate_left
    ·intro w1 hSw;clear hSw;go_simp<;>with_reducible rfl
    try simp only[Act.put,List.setIfInBounds_toArray,List.set_cons_zero,List.set_cons_succ]
    refine wpAnyH_take (i:=2) (v:= ?_) rfl (by kernel_rfl) (by kernel_rfl) (by kernel_rfl) (fun _ _ _ h=>h) (Or.inl ⟨by rfl,?_⟩) (by assumption) ?_;rotate_left
    ·intro w1 hSw;clear hSw;go_simp<;>with_reducible rfl
    try simp only[Act.put,List.setIfInBounds_toArray,List.set_cons_zero,List.set_cons_succ]
    refine wpAnyH_take (i:=3) (v:= ?_) rfl (by kernel_rfl) (by kernel_rfl) (by kernel_rfl) (fun _ _ _ h=>h) (Or.inl ⟨by rfl,?_⟩) (by assumption) ?_;rotate_left
    ·intro w1 hSw;clear hSw;go_simp<;>with_reducible rfl
    try simp only[Act.put,List.setIfInBounds_toArray,List.set_cons_zero,List.set_cons_succ]
    refine wpAnyH_take (i:=5) (v:= ?_) rfl (by kernel_rfl) (by kernel_rfl) (by kernel_rfl) (fun _ _ _ h=>h) (Or.inl ⟨by rfl,?_⟩) (by assumption) ?_;rotate_left
    ·intro w1 hSw;clear hSw;go_simp<;>with_reducible rfl
    try simp only[Act.put,List.setIfInBounds_toArray,List.set_cons_zero,List.set_cons_succ]
    refine wpAnyH_take (i:=6) (v:= ?_) rfl (by kernel_rfl) (by kernel_rfl) (by kernel_rfl) (fun _ _ _ h=>h) (Or.inl ⟨by rfl,?_⟩) (by assumption) ?_;rotate_left
    ·intro w1 hSw;clear hSw;go_simp<;>with_reducible rfl
    try simp only[Act.put,List.setIfInBounds_toArray,List.set_cons_zero,List.set_cons_succ]
    refine wpAnyH_take (i:=7) (v:= ?_) rfl (by kernel_rfl) (by kernel_rfl) (by kernel_rfl) (fun _ _ _ h=>h) (Or.inl ⟨by rfl,?_⟩) (by assumption) ?_;rotate_left
    ·intro w1 hSw;clear hSw;go_simp<;>with_reducible rfl
    try simp only[Act.put,List.setIfInBounds_toArray,List.set_cons_zero,List.set_cons_succ]
    refine wpAnyH_take (i:=8) (v:= ?_) rfl (by kernel_rfl) (by kernel_rfl) (by kernel_rfl) (fun _ _ _ h=>h) (Or.inl ⟨by rfl,?_⟩) (by assumption) ?_;rotate_left
    ·intro w1 hSw;clear hSw;go_simp<;>with_reducible rfl
    try simp only[Act.put,List.setIfInBounds_toArray,List.set_cons_zero,List.set_cons_succ]
    refine wpAnyH_take (i:=9) (v:= ?_) rfl (by kernel_rfl) (by kernel_rfl) (by kernel_rfl) (fun _ _ _ h=>h) (Or.inl ⟨by rfl,?_⟩) (by assumption) ?_;rotate_left
    ·intro w1 hSw;obtain⟨hSw4,hSw5⟩:=hSw;go_simp<;>with_reducible rfl
    try simp only[Act.put,List.setIfInBounds_toArray,List.set_cons_zero,List.set_cons_succ]
    refine wpAnyH_take (i:=10) (v:= ?_) rfl (by kernel_rfl) (by kernel_rfl) (by kernel_rfl) (fun _ _ _ h=>h) (Or.inl ⟨by rfl,?_⟩) (by assumption) ?_;rotate_left
    ·intro w1 hSw;clear hSw;go_simp<;>with_reducible rfl
    try simp only[Act.put,List.setIfInBounds_toArray,List.set_cons_zero,List.set_cons_succ]
    refine wpAnyH_take (i:=11) (v:= ?_) rfl (by kernel_rfl) (by kernel_rfl) (by kernel_rfl) (fun _ _ _ h=>h) (Or.inl ⟨by rfl,?_⟩) (by assumption) ?_;rotate_left
    ·intro w1 hSw;clear hSw;go_simp<;>with_reducible rfl
    try simp only[Act.put,List.setIfInBounds_toArray,List.set_cons_zero,List.set_cons_succ]
    refine wpAnyH_take (i:=12) (v:= ?_) rfl (by kernel_rfl) (by kernel_rfl) (by kernel_rfl) (fun _ _ _ h=>h) (Or.inl ⟨by rfl,?_⟩) (by assumption) ?_;rotate_left
    ·intro w1 hSw;clear hSw;go_simp<;>with_reducible rfl
    try simp only[Act.put,List.setIfInBounds_toArray,List.set_cons_zero,List.set_cons_succ]
    refine wpAnyH_take (i:=13) (v:= ?_) rfl (by kernel_rfl) (by kernel_rfl) (by kernel_rfl) (fun _ _ _ h=>h) (Or.inl ⟨by rfl,?_⟩) (by assumption) ?_;rotate_left
    ·intro w1 hSw;obtain⟨hSw4,hSw5⟩:=hSw;go_simp<;>with_reducible rfl
    try simp only[Act.put,List.setIfInBounds_toArray,List.set_cons_zero,List.set_cons_succ]
    refine wpAnyH_take (i:=14) (v:= ?_) rfl (by kernel_rfl) (by kernel_rfl) (by kernel_rfl) (fun _ _ _ h=>h) (Or.inl ⟨by rfl,?_⟩) (by assumption) ?_;rotate_left
    ·intro w1 hSw;clear hSw;go_simp<;>with_reducible rfl
    try simp only[Act.put,List.setIfInBounds_toArray,List.set_cons_zero,List.set_cons_succ]
    refine wpAnyH_take (i:=15) (v:= ?_) rfl (by kernel_rfl) (by kernel_rfl) (by kernel_rfl) (fun _ _ _ h=>h) (Or.inl ⟨by rfl,?_⟩) (by assumption) ?_;rotate_left
    ·intro w1 hSw;clear hSw;go_simp<;>with_reducible rfl
    try simp only[Act.put,List.setIfInBounds_toArray,List.set_cons_zero,List.set_cons_succ]
    refine wpAnyH_take (i:=16) (v:= ?_) rfl (by kernel_rfl) (by kernel_rfl) (by kernel_rfl) (fun _ _ _ h=>h) (Or.inl ⟨by rfl,?_⟩) (by assumption) ?_;rotate_left
    ·intro w1 hSw;clear hSw;go_simp<;>with_reducible rfl
    try simp only[Act.put,List.setIfInBounds_toArray,List.set_cons_zero,List.set_cons_succ]
    refine wpAnyH_take (i:=17) (v:= ?_) rfl (by kernel_rfl) (by kernel_rfl) (by kernel_rfl) (fun _ _ _ h=>h) (Or.inl ⟨by rfl,?_⟩) (by assumption) ?_;rotate_left
    ·intro w1 hSw;clear hSw;go_simp<;>with_reducible rfl
    try simp only[Act.put,List.setIfInBounds_toArray,List.set_cons_zero,List.set_cons_succ]
    refine wpAnyH_take (i:=18) (v:= ?_) rfl (by kernel_rfl) (by kernel_rfl) (by kernel_rfl) (fun _ _ _ h=>h) (Or.inl ⟨by rfl,?_⟩) (by assumption) ?_;rotate_left
    ·intro w1 hSw;clear hSw;go_simp<;>with_reducible rfl
    try simp only[Act.put,List.setIfInBounds_toArray,List.set_cons_zero,List.set_cons_succ]
    refine wpAnyH_take (i:=19) (v:= ?_) rfl (by kernel_rfl) (by kernel_rfl) (by kernel_rfl) (fun _ _ _ h=>h) (Or.inl ⟨by rfl,?_⟩) (by assumption) ?_;rotate_left
    ·intro w1 hSw;clear hSw;go_simp<;>with_reducible rfl
    try simp only[Act.put,List.setIfInBounds_toArray,List.set_cons_zero,List.set_cons_succ]
    refine wpAnyH_ready (rs:=[4,20]) (by kernel_rfl) (by simp) ?_;refine AllReadyH.cons rfl (fun K hK=> ?_) (AllReadyH.cons rfl (fun K hK=> ?_) AllReadyH.nil)
    ·go_simp;refine hK.out _ _ ?_ (fun hHeld=> ?_)
     ·exact⟨d4,d5⟩
     clear hK K;try simp only[Act.put,List.setIfInBounds_toArray,List.set_cons_zero,List.set_cons_succ]
     refine wpAnyH_ready (rs:=[20]) (by kernel_rfl) (by simp) ?_;refine AllReadyH.cons rfl (fun K hK=> ?_) AllReadyH.nil;go_simp;refine hK.out _ _ ?_ (fun hHeld=> ?_)
     ·exact HSA.out _
     clear hK K;try simp only[Act.put,List.setIfInBounds_toArray,List.set_cons_zero,List.set_cons_succ]
     refine wpAnyH_ready (rs:=[21]) (by kernel_rfl) (by simp) ?_;refine AllReadyH.cons rfl (fun K hK=> ?_) AllReadyH.nil;refine step_append_lies _ rfl (.tmp 117) (.tmp 133) 79 rfl B 102 i1 z1 6 64 Tryz.underlying79 HI1.out HY0.out hy1 hy2 hys (by omega) (.slice AC N capc) N xs (by simp[Act.eval,Act.put]) ?_ ⟨w2.heap.size,0,none⟩ 1 1 (cellsC ⟨P,m.prog,m.pos+1,wt-1,args,false⟩ C cap) (by simp[Act.eval,Act.put]) rfl ?_ ?_ (by omega) ?_ (by omega) ?_ _ rfl ?_
     ·exact owns_later (HOLD.out _) HOW.out
     ·exact World.news_of_block (cs:=⟨cellsC ⟨P,m.prog,m.pos+1,wt-1,args,false⟩ C cap⟩) (HNEW.out _)
     ·exact cellsC_one _ _ _
     ·unfold maxLen;omega
     ·exact HBW.out _
     intro g9 c9 w9 ho9 hg9 hl9 hlt9;have k6:=HK6.out _ _ hg9;obtain⟨k6,k6f,k4,k5⟩:=k6;have HS9:Hid (w9.cell? ⟨F.mb,4,none⟩=some (.int .i64 (m.prog:Nat))∧w9.cell? ⟨F.mb,5,none⟩=some (.int .i64 m.pos)):=⟨k4,k5⟩;have HS10:Hid (∀v:Value,(w9.setCell ⟨F.mb,6,none⟩ v).cell? ⟨F.mb,4,none⟩=some (.int .i64 (m.prog:Nat))∧(w9.setCell ⟨F.mb,6,none⟩ v).cell? ⟨F.mb,5,none⟩=some (.int .i64 m.pos)):=fun v=>⟨(cell_set_ne (by decide)).trans k4,(cell_set_ne (by decide)).trans k5⟩;clear k4 k5;have HO9:=Lib.hid ho9;have HG9:=Lib.hid hg9;have HL9:=Lib.hid hl9;clear ho9 hg9 hl9 hlt9;refine hK.out _ _ ?_ (fun hHeld=> ?_)
     ·exact HS9.out
     clear hK K;try simp only[Act.put,List.setIfInBounds_toArray,List.set_cons_zero,List.set_cons_succ]
     refine wpAnyH_take (i:=22) (v:= ?_) rfl (by kernel_rfl) (by kernel_rfl) (by kernel_rfl) (fun _ _ _ h=>h) (Or.inl ⟨by rfl,?_⟩) (by assumption) ?_;rotate_left
     ·intro w1 hSw;clear hSw;go_simp<;>with_reducible rfl
     try simp only[Act.put,List.setIfInBounds_toArray,List.set_cons_zero,List.set_cons_succ]
     refine wpAnyH_take (i:=23) (v:= ?_) rfl (by kernel_rfl) (by kernel_rfl) (by kernel_rfl) (fun _ _ _ h=>h) (Or.inl ⟨by rfl,?_⟩) (by assumption) ?_;rotate_left
     ·intro w1 hSw;clear hSw;go_simp<;>with_reducible rfl
     try simp only[Act.put,List.setIfInBounds_toArray,List.set_cons_zero,List.set_cons_succ]
     refine wpAnyH_ready (rs:=[24]) (by kernel_rfl) (by simp) ?_;refine AllReadyH.cons rfl (fun K hK=> ?_) AllReadyH.nil;go_simp;refine hK.out _ _ ?_ (fun hHeld=> ?_)
     ·exact HS10.out _
     clear hK K;try simp only[Act.put,List.setIfInBounds_toArray,List.set_cons_zero,List.set_cons_succ]
     refine wpAnyH_done (by kernel_rfl) ?_ _;refine NoPanic.normal ?_;have HOP:=Lib.hid (MX.open (w:=w2.drew.alloc (.cells ⟨cellsC ⟨P,m.prog,m.pos+1,wt-1,args,false⟩ C cap⟩ 102)) (w':=w9) (g:=g9) (cap:=c9) (c:=⟨P,m.prog,m.pos+1,wt-1,args,false⟩) (A:=C) (cp:=cap) (AC:=AC) (capc:=capc) (xs:=xs) (HBA.out _) (by rw[show(m:MS).calls.length=N from HN.out.symm];exact d6o _) (fun ys hy=>own_uniq hy (by rw[show(m:MS).calls.length=N from HN.out.symm];exact owns_later (HOLD.out _) HOW.out))
      (by rw[show(m:MS).calls.length=N from HN.out.symm];exact HO9.out) (by rw[show(m:MS).calls.length=N from HN.out.symm];exact HG9.out) (by rw[show(m:MS).calls.length=N from HN.out.symm];exact HL9.out) (HAV.out _) (by unfold I64;dsimp only;omega) (by unfold I64;dsimp only;omega) (by have:=HN.out;show m.calls.length<8;omega) ⟨hPl,HX.out.prog,by dsimp only;omega⟩)
     rw[show(m:MS).calls.length=N from HN.out.symm]at HOP;obtain⟨w10,hw10⟩:∃w10,w10=w9.setCell ⟨F.mb,6,none⟩ (.slice (some ⟨g9,0,none⟩) (N+1) c9):=⟨_,rfl⟩;rw[←hw10];have HOPM:Hid (MX w10 B {F with ac:=some g9} L sk {m with calls:=m.calls++[⟨P,m.prog,m.pos+1,wt-1,args,false⟩]}):=by unfold Hid;rw[hw10];exact HOP.out.2
     have HCH10:Hid (Chg F.own w2 w10):=by
      unfold Hid;rw[hw10];refine Chg.trans ⟨HG9.out.os,HG9.out.tape,HG9.out.output,Nat.le_trans (bxS (B:=w2.drew.heap.size) (w:=w2.drew) _ (Nat.le_refl _)).size HG9.out.size,fun j hj hno=>(HG9.out.block j (Nat.lt_of_lt_of_le hj (bxS (B:=w2.drew.heap.size) (w:=w2.drew) _ (Nat.le_refl _)).size) fun e=>hno (own_row hac e)).trans (Below.heap_alloc w2.drew _ j hj)⟩ (chg_set _ _ _ _ _ (.inl rfl))
     clear hw10 k6 k6f;obtain⟨_,_,_,_,_,_,_,_,_,⟨-,-,-,-,y4,y5,-⟩,-,-,-,-,hfr10⟩:=HOPM.out.cells;obtain⟨Ay,cy,aby,offy,y1,rfl,haby,yf,_,hfst,hply⟩:=HOPM.out.prog_cells hPl;unfold maxLen at hply;dsimp only at y4 y5 y1;have y4f:=hfr10 4;have y5f:=hfr10 5;dsimp only at y4f y5f;have HFB:Hid (I64 (L.prg P).first):=I64.small hfst.1 (Int.le_trans hfst.2.1 (by have:=HX.out.fine.bl;omega));clear hfr10 hfst d4 d5 d6 d6o;go_wp2_with fail;go_ret;refine⟨by rw[EJ.out];rfl,?_⟩;rw[EM.out];have HX11:=(HOPM.out.set_prog hPl).set_pos HFB.out;exact MP.then (Chg.of_below HB2.out) ⟨_,HOP.out.1.of_size (bxS (B:=w2.drew.heap.size) (w:=w2.drew) _ (Nat.le_refl _)).size,HX11,(HCH10.out.trans (chg_set _ _ _ _ _ F.own_mb)).trans (chg_set _ _ _ _ _ F.own_mb)⟩
    ·go_simp;refine hK.out _ _ ?_ (fun hHeld=> ?_)
     ·exact HSA.out _
     clear hK K;try simp only[Act.put,List.setIfInBounds_toArray,List.set_cons_zero,List.set_cons_succ]
     refine wpAnyH_ready (rs:=[4]) (by kernel_rfl) (by simp) ?_;refine AllReadyH.cons rfl (fun K hK=> ?_) AllReadyH.nil;go_simp;refine hK.out _ _ ?_ (fun hHeld=> ?_)
     ·exact HSA.out _
     clear hK K;try simp only[Act.put,List.setIfInBounds_toArray,List.set_cons_zero,List.set_cons_succ]
     refine wpAnyH_ready (rs:=[21]) (by kernel_rfl) (by simp) ?_;refine AllReadyH.cons rfl (fun K hK=> ?_) AllReadyH.nil;refine step_append_lies _ rfl (.tmp 117) (.tmp 133) 79 rfl B 102 i1 z1 6 64 Tryz.underlying79 HI1.out HY0.out hy1 hy2 hys (by omega) (.slice AC N capc) N xs (by simp[Act.eval,Act.put]) ?_ ⟨w2.heap.size,0,none⟩ 1 1 (cellsC ⟨P,m.prog,m.pos+1,wt-1,args,false⟩ C cap) (by simp[Act.eval,Act.put]) rfl ?_ ?_ (by omega) ?_ (by omega) ?_ _ rfl ?_
     ·exact owns_later (HOLD.out _) HOW.out
     ·exact World.news_of_block (cs:=⟨cellsC ⟨P,m.prog,m.pos+1,wt-1,args,false⟩ C cap⟩) (HNEW.out _)
     ·exact cellsC_one _ _ _
     ·unfold maxLen;omega
     ·exact HBW.out _
     intro g9 c9 w9 ho9 hg9 hl9 hlt9;have k6:=HK6.out _ _ hg9;obtain⟨k6,k6f,k4,k5⟩:=k6;have HS9:Hid (w9.cell? ⟨F.mb,4,none⟩=some (.int .i64 (m.prog:Nat))∧w9.cell? ⟨F.mb,5,none⟩=some (.int .i64 m.pos)):=⟨k4,k5⟩;have HS10:Hid (∀v:Value,(w9.setCell ⟨F.mb,6,none⟩ v).cell? ⟨F.mb,4,none⟩=some (.int .i64 (m.prog:Nat))∧(w9.setCell ⟨F.mb,6,none⟩ v).cell? ⟨F.mb,5,none⟩=some (.int .i64 m.pos)):=fun v=>⟨(cell_set_ne (by decide)).trans k4,(cell_set_ne (by decide)).trans k5⟩;clear k4 k5;have HO9:=Lib.hid ho9;have HG9:=Lib.hid hg9;have HL9:=Lib.hid hl9;clear ho9 hg9 hl9 hlt9;refine hK.out _ _ ?_ (fun hHeld=> ?_)
     ·exact HS9.out
     clear hK K;try simp only[Act.put,List.setIfInBounds_toArray,List.set_cons_zero,List.set_cons_succ]
     refine wpAnyH_take (i:=22) (v:= ?_) rfl (by kernel_rfl) (by kernel_rfl) (by kernel_rfl) (fun _ _ _ h=>h) (Or.inl ⟨by rfl,?_⟩) (by assumption) ?_;rotate_left
     ·intro w1 hSw;clear hSw;go_simp<;>with_reducible rfl
     try simp only[Act.put,List.setIfInBounds_toArray,List.set_cons_zero,List.set_cons_succ]
     refine wpAnyH_take (i:=23) (v:= ?_) rfl (by kernel_rfl) (by kernel_rfl) (by kernel_rfl) (fun _ _ _ h=>h) (Or.inl ⟨by rfl,?_⟩) (by assumption) ?_;rotate_left
     ·intro w1 hSw;clear hSw;go_simp<;>with_reducible rfl
     try simp only[Act.put,List.setIfInBounds_toArray,List.set_cons_zero,List.set_cons_succ]
     refine wpAnyH_ready (rs:=[24]) (by kernel_rfl) (by simp) ?_;refine AllReadyH.cons rfl (fun K hK=> ?_) AllReadyH.nil;go_simp;refine hK.out _ _ ?_ (fun hHeld=> ?_)
     ·exact HS10.out _
     clear hK K;try simp only[Act.put,List.setIfInBounds_toArray,List.set_cons_zero,List.set_cons_succ]
     refine wpAnyH_done (by kernel_rfl) ?_ _;refine NoPanic.normal ?_;have HOP:=Lib.hid (MX.open (w:=w2.drew.alloc (.cells ⟨cellsC ⟨P,m.prog,m.pos+1,wt-1,args,false⟩ C cap⟩ 102)) (w':=w9) (g:=g9) (cap:=c9) (c:=⟨P,m.prog,m.pos+1,wt-1,args,false⟩) (A:=C) (cp:=cap) (AC:=AC) (capc:=capc) (xs:=xs) (HBA.out _) (by rw[show(m:MS).calls.length=N from HN.out.symm];exact d6o _) (fun ys hy=>own_uniq hy (by rw[show(m:MS).calls.length=N from HN.out.symm];exact owns_later (HOLD.out _) HOW.out))
      (by rw[show(m:MS).calls.length=N from HN.out.symm];exact HO9.out) (by rw[show(m:MS).calls.length=N from HN.out.symm];exact HG9.out) (by rw[show(m:MS).calls.length=N from HN.out.symm];exact HL9.out) (HAV.out _) (by unfold I64;dsimp only;omega) (by unfold I64;dsimp only;omega) (by have:=HN.out;show m.calls.length<8;omega) ⟨hPl,HX.out.prog,by dsimp only;omega⟩)
     rw[show(m:MS).calls.length=N from HN.out.symm]at HOP;obtain⟨w10,hw10⟩:∃w10,w10=w9.setCell ⟨F.mb,6,none⟩ (.slice (some ⟨g9,0,none⟩) (N+1) c9):=⟨_,rfl⟩;rw[←hw10];have HOPM:Hid (MX w10 B {F with ac:=some g9} L sk {m with calls:=m.calls++[⟨P,m.prog,m.pos+1,wt-1,args,false⟩]}):=by unfold Hid;rw[hw10];exact HOP.out.2
     have HCH10:Hid (Chg F.own w2 w10):=by
      unfold Hid;rw[hw10];refine Chg.trans ⟨HG9.out.os,HG9.out.tape,HG9.out.output,Nat.le_trans (bxS (B:=w2.drew.heap.size) (w:=w2.drew) _ (Nat.le_refl _)).size HG9.out.size,fun j hj hno=>(HG9.out.block j (Nat.lt_of_lt_of_le hj (bxS (B:=w2.drew.heap.size) (w:=w2.drew) _ (Nat.le_refl _)).size) fun e=>hno (own_row hac e)).trans (Below.heap_alloc w2.drew _ j hj)⟩ (chg_set _ _ _ _ _ (.inl rfl))
     clear hw10 k6 k6f;obtain⟨_,_,_,_,_,_,_,_,_,⟨-,-,-,-,y4,y5,-⟩,-,-,-,-,hfr10⟩:=HOPM.out.cells;obtain⟨Ay,cy,aby,offy,y1,rfl,haby,yf,_,hfst,hply⟩:=HOPM.out.prog_cells hPl;unfold maxLen at hply;dsimp only at y4 y5 y1;have y4f:=hfr10 4;have y5f:=hfr10 5;dsimp only at y4f y5f;have HFB:Hid (I64 (L.prg P).first):=I64.small hfst.1 (Int.le_trans hfst.2.1 (by have:=HX.out.fine.bl;omega));clear hfr10 hfst d4 d5 d6 d6o;go_wp2_with fail;go_ret;refine⟨by rw[EJ.out];rfl,?_⟩;rw[EM.out];have HX11:=(HOPM.out.set_prog hPl).set_pos HFB.out;exact MP.then (Chg.of_below HB2.out) ⟨_,HOP.out.1.of_size (bxS (B:=w2.drew.heap.size) (w:=w2.drew) _ (Nat.le_refl _)).size,HX11,(HCH10.out.trans (chg_set _ _ _ _ _ F.own_mb)).trans (chg_set _ _ _ _ _ F.own_mb)⟩
   ·have HPU:Hid (∀W,Below w.heap.size w W→Below wr.heap.size wr W→Calls Tryz.prog 59 #[.pointer (some ⟨F.sb,0,none⟩),.slice C args.length cap] W (PushPost F.sb F.lb m.sto args W)):=
     fun W h1 h2=>push_any W F.sb F.lb m.sto _ C args.length cap args ((HX.out.below h1).sto) (HARG.out.keep h2.size (fun _ _ q=>q) (fun g hg _=>h2.block g hg)) (HX.out.below h1).tn
    by_cases hpu:pushE m.sto args=0
    case neg=>
     have g7:(pushE m.sto args !=0)=true:=by simpa using hpu
     have EJ:Hid (enterE L m l true=pushE m.sto args):=by unfold Hid;rw[EJ2.out];rfl
     have EM:Hid (enterM L m l true=m):=by unfold Hid enterM;rw[EJ.out,if_pos hpu]
     have hpx:Hid (pushX m.sto args=m.sto):=by unfold Hid pushX;rw[if_neg hpu]
     clear hpu;have tok1:True:=trivial;have tok2:True:=trivial;go_wp2_with(first|(go_at_call 88;clear tok1;refine(HWN.out _).mono ?_;rintro e w' ⟨rfl,rfl⟩)|(go_at_call 88;clear tok2;refine(HWT.out _).mono ?_;rintro e w' ⟨rfl,rfl⟩)|(go_at_call 127;refine(HFD.out _ HB.out).mono ?_;rintro e w2 ⟨rfl,hb2⟩;have HB2:=Lib.hid (HB.out.trans (hb2.mono HB.out.size));have HN2:Hid (Below wr.heap.size wr w2):=⟨hb2.os,hb2.tape,hb2.output,hb2.size,hb2.block⟩;clear hb2;have d7:=(HB2.out.cell (p:=⟨F.mb,7,none⟩) hmb).trans D7.out)|(go_at_call 20;refine(HDP.out w2 HB2.out).mono ?_;rintro e w' ⟨rfl,rfl⟩)|(go_at_call 59;refine(HPU.out _ HB2.out HN2.out).mono ?_;rintro e w5 ⟨rfl,lb5,hlb5,hs5,hc5⟩;have HS5:=Lib.hid hs5;have HL5:=Lib.hid hlb5;have HC5:=Lib.hid hc5;clear hs5 hlb5 hc5));go_ret;refine⟨by rw[EJ.out];rfl,?_⟩;rw[EM.out];have hs5:=HS5.out;rw[hpx.out]at hs5;have HST:=(HX.out.below HB2.out).store hs5 HX.out.vf HL5.out HC5.out;exact MP.then (Chg.of_below HB2.out) ⟨_,HST.1,HST.2,chg_st HC5.out⟩
    have HPU2:Hid (∀W,Below w.heap.size w W→Below wr.heap.size wr W→Calls Tryz.prog 59 #[.pointer (some ⟨F.sb,0,none⟩),.slice C args.length cap] W fun e w5=>e=.returned (.int .i64 0)∧∃lb5,(lb5=F.lb∨W.heap.size≤lb5)∧Chg (fun g=>g=F.sb∨g=F.lb) W w5∧Mv W F {F with lb:=lb5}∧MX w5 B {F with lb:=lb5} L sk {m with sto:=pushX m.sto args}):=fun W h1 h2=>(HPU.out W h1 h2).mono fun e w5 h=>by
     obtain⟨rfl,lb5,hlb5,hs5,hc5⟩:=h;have HST:=(HX.out.below h1).store hs5 (HX.out.vf.push _) hlb5 hc5;exact⟨by rw[hpu],lb5,hlb5,hc5,HST.1,HST.2⟩
    have EJ:Hid (enterE L m l true=0):=by unfold Hid;rw[EJ2.out];exact hpu
    clear hpu HPU;have tok1:True:=trivial;have tok2:True:=trivial;go_wp2_with(first|(go_at_call 88;clear tok1;refine(HWN.out _).mono ?_;rintro e w' ⟨rfl,rfl⟩)|(go_at_call 88;clear tok2;refine(HWT.out _).mono ?_;rintro e w' ⟨rfl,rfl⟩)|(go_at_call 127;refine(HFD.out _ HB.out).mono ?_;rintro e w2 ⟨rfl,hb2⟩;have HB2:=Lib.hid (HB.out.trans (hb2.mono HB.out.size));have HN2:Hid (Below wr.heap.size wr w2):=⟨hb2.os,hb2.tape,hb2.output,hb2.size,hb2.block⟩;clear hb2;have d7:=(HB2.out.cell (p:=⟨F.mb,7,none⟩) hmb).trans D7.out)|(go_at_call 20;refine(HDP.out w2 HB2.out).mono ?_;rintro e w' ⟨rfl,rfl⟩)|(go_at_call 59;refine(HPU2.out _ HB2.out HN2.out).mono ?_;rintro e w5 ⟨rfl,lb5,hlb5,hc5,hmv5,hx5⟩;have HX5:=Lib.hid hx5;have HL5:=Lib.hid hlb5;have HC5:=Lib.hid hc5;have HMV5:=Lib.hid hmv5;clear hx5 hlb5 hc5 hmv5));have hw1:IntKind.i64.wrap (m.pos+1)=m.pos+1:=IntWalk.i64_in _ (by omega);have hw2:IntKind.i64.wrap (wt-1)=wt-1:=IntWalk.i64_in _ (by omega);have HBA:Hid (∀o:Obj,MX (w5.drew.alloc o) B {F with lb:=lb5} L sk {m with sto:=pushX m.sto args}):=fun o=>HX5.out.below ((below_dn (Below.refl _ w5) 1).alloc (Nat.le_refl _) o);have HAV:Hid (∀o:Obj,RdV (w5.drew.alloc o) ({F with lb:=lb5}:Fp).far C args.length args):=fun o=>HARG.out.keep (Nat.le_trans HN2.out.size (Nat.le_trans HC5.out.size (bxS (B:=w5.drew.heap.size) (w:=w5.drew) o (Nat.le_refl _)).size))
     (fun g hg hI=>HMV5.out.far g (Nat.lt_of_lt_of_le hg HN2.out.size) (HFARG.out g hI))
     (fun g hg hI=>(((bxS (B:=w5.drew.heap.size) (w:=w5.drew) o (Nat.le_refl _)).block g (Nat.lt_of_lt_of_le (Nat.lt_of_lt_of_le hg HN2.out.size) HC5.out.size)).trans (HC5.out.block g (Nat.lt_of_lt_of_le hg HN2.out.size) (by
      have:=HFARG.out g hI
      rintro(e|e)
      ·exact this.1 (.inr (.inl e))
      ·exact this.1 (.inr (.inr (.inl e)))))).trans (HN2.out.block g hg))
    have EM:Hid (enterM L m l true={m with sto:=pushX m.sto args,calls:=m.calls++[⟨P,m.prog,m.pos+1,wt-1,args,true⟩],prog:=P,pos:=(L.prg P).first}):=by
     unfold Hid enterM;rw[EJ.out,←HENS.out];simp[HWN1.out,HWT1.out,HFD1.out]
    obtain⟨_,_,_,AC,_,_,_,capc,xs,⟨_,_,_,_,d4,d5,d6,_⟩,_,ho5,hac5,_,hfr5⟩:=HX5.out.cells;try dsimp only at d4 d5 d6 ho5
    rw[←HN.out]at d6 ho5;have HOW:=Lib.hid ho5;have HFR5:=Lib.hid hfr5;have HOLD:Hid (∀(o:Obj) (g:Nat) x,w5.heap[g]? =some x→(w5.drew.alloc o).heap[g]? =some x):=fun o g x hx=>(Below.heap_alloc w5.drew o g (hlS hx)).trans hx;have HNEW:Hid (∀o:Obj,(w5.drew.alloc o).heap[w5.heap.size]? =some o):=fun o=>heap_alloc_new w5.drew o;have HBW:Hid (∀o:Obj,B≤(w5.drew.alloc o).heap.size):=fun o=>Nat.le_trans HX5.out.Ble (bxS (B:=w5.drew.heap.size) (w:=w5.drew) o (Nat.le_refl _)).size;have hmW:=HX5.out.lt;have hac:=hac5;have hrowne:some F.mb≠(Value.slice AC N capc).ownBlock:=HX5.out.row_ne hac5;try dsimp only at hmW
    have HK6:Hid (∀(o:Obj) (w9:World),(w5.drew.alloc o).grownBy w9 (Value.slice AC N capc).ownBlock→w9.cell? ⟨F.mb,6,none⟩=some (.slice AC N capc)∧w9.frozen? ⟨F.mb,6,none⟩=false∧w9.cell? ⟨F.mb,4,none⟩=some (.int .i64 (m.prog:Nat))∧w9.cell? ⟨F.mb,5,none⟩=some (.int .i64 m.pos)):=fun o w9 hg=>by
     have hb:w9.heap[F.mb]? =w5.heap[F.mb]? :=(hg.block F.mb (Nat.lt_of_lt_of_le hmW (bxS (B:=w5.drew.heap.size) (w:=w5.drew) o (Nat.le_refl _)).size) hrowne).trans (Below.heap_alloc w5.drew o F.mb hmW);exact⟨(World.cell?_of_block (a:=⟨F.mb,6,none⟩) hb).trans d6,(World.frozen?_of_block (a:=⟨F.mb,6,none⟩) hb).trans (HFR5.out 6),(World.cell?_of_block (a:=⟨F.mb,4,none⟩) hb).trans d4,(World.cell?_of_block (a:=⟨F.mb,5,none⟩) hb).trans d5⟩
    have HSA:Hid (∀o:Obj,(w5.drew.alloc o).cell? ⟨F.mb,4,none⟩=some (.int .i64 (m.prog:Nat))∧(w5.drew.alloc o).cell? ⟨F.mb,5,none⟩=some (.int .i64 m.pos)):=fun o=>
     ⟨(World.cell?_of_block (a:=⟨F.mb,4,none⟩) (Below.heap_alloc w5.drew o F.mb hmW)).trans d4,(World.cell?_of_block (a:=⟨F.mb,5,none⟩) (Below.heap_alloc w5.drew o F.mb hmW)).trans d5⟩
    have d6o:∀o:Obj,(w5.drew.alloc o).cell? ⟨F.mb,6,none⟩=some (.slice AC N capc):=fun o=>(World.cell?_of_block (a:=⟨F.mb,6,none⟩) (Below.heap_alloc w5.drew o F.mb hmW)).trans d6;clear ho5 hfr5 hac5;refine wp_region_noPanic ?_;refine wp_region_held_drew (S:=(fun w'=>w'.cell? ⟨F.mb,4,none⟩=some (.int .i64 (m.prog:Nat))∧w'.cell? ⟨F.mb,5,none⟩=some (.int .i64 m.pos))) (by kernel_rfl) ⟨d4,d5⟩ (fun hHeld=> ?_);refine wpAnyH_take (i:=0) (v:= ?_) rfl (by kernel_rfl) (by kernel_rfl) (by kernel_rfl) (fun _ _ _ h=>h) (Or.inl ⟨by rfl,?_⟩) (by assumption) ?_;rotate_left
    ·intro w1 hSw;clear hSw;go_simp<;>with_reducible rfl
    try simp only[Act.put,List.setIfInBounds_toArray,List.set_cons_zero,List.set_cons_succ]
    refine wpAnyH_take (i:=1) (v:= ?_) rfl (by kernel_rfl) (by kernel_rfl) (by kernel_rfl) (fun _ _ _ h=>h) (Or.inl ⟨by rfl,?_⟩) (by assumption) ?_;rotate_left
    ·intro w1 hSw;clear hSw;go_simp<;>with_reducible rfl
    try simp only[Act.put,List.setIfInBounds_toArray,List.set_cons_zero,List.set_cons_succ]
    refine wpAnyH_take (i:=2) (v:= ?_) rfl (by kernel_rfl) (by kernel_rfl) (by kernel_rfl) (fun _ _ _ h=>h) (Or.inl ⟨by rfl,?_⟩) (by assumption) ?_;rotate_left
    ·intro w1 hSw;clear hSw;go_simp<;>with_reducible rfl
    try simp only[Act.put,List.setIfInBounds_toArray,List.set_cons_zero,List.set_cons_succ]
    refine wpAnyH_take (i:=3) (v:= ?_) rfl (by kernel_rfl) (by kernel_rfl) (by kernel_rfl) (fun _ _ _ h=>h) (Or.inl ⟨by rfl,?_⟩) (by assumption) ?_;rotate_left
    ·intro w1 hSw;clear hSw;go_simp<;>with_reducible rfl
    try simp only[Act.put,List.setIfInBounds_toArray,List.set_cons_zero,List.set_cons_succ]
    refine wpAnyH_take (i:=5) (v:= ?_) rfl (by kernel_rfl) (by kernel_rfl) (by kernel_rfl) (fun _ _ _ h=>h) (Or.inl ⟨by rfl,?_⟩) (by assumption) ?_;rotate_left
    ·intro w1 hSw;clear hSw;go_simp<;>with_reducible rfl
    try simp only[Act.put,List.setIfInBounds_toArray,List.set_cons_zero,List.set_cons_succ]
    refine wpAnyH_take (i:=6) (v:= ?_) rfl (by kernel_rfl) (by kernel_rfl) (by kernel_rfl) (fun _ _ _ h=>h) (Or.inl ⟨by rfl,?_⟩) (by assumption) ?_;rotate_left
    ·intro w1 hSw;clear hSw;go_simp<;>with_reducible rfl
    try simp only[Act.put,List.setIfInBounds_toArray,List.set_cons_zero,List.set_cons_succ]
    refine wpAnyH_take (i:=7) (v:= ?_) rfl (by kernel_rfl) (by kernel_rfl) (by kernel_rfl) (fun _ _ _ h=>h) (Or.inl ⟨by rfl,?_⟩) (by assumption) ?_;rotate_left
    ·intro w1 hSw;clear hSw;go_simp<;>with_reducible rfl
    try simp only[Act.put,List.setIfInBounds_toArray,List.set_cons_zero,List.set_cons_succ]
    refine wpAnyH_take (i:=8) (v:= ?_) rfl (by kernel_rfl) (by kernel_rfl) (by kernel_rfl) (fun _ _ _ h=>h) (Or.inl ⟨by rfl,?_⟩) (by assumption) ?_;rotate_left
    ·intro w1 hSw;clear hSw;go_simp<;>with_reducible rfl
    try simp only[Act.put,List.setIfInBounds_toArray,List.set_cons_zero,List.set_cons_succ]
    refine wpAnyH_take (i:=9) (v:= ?_) rfl (by kernel_rfl) (by kernel_rfl) (by kernel_rfl) (fun _ _ _ h=>h) (Or.inl ⟨by rfl,?_⟩) (by assumption) ?_;rotate_left
    ·intro w1 hSw;obtain⟨hSw4,hSw5⟩:=hSw;go_simp<;>with_reducible rfl
    try simp only[Act.put,List.setIfInBounds_toArray,List.set_cons_zero,List.set_cons_succ]
    refine wpAnyH_take (i:=10) (v:= ?_) rfl (by kernel_rfl) (by kernel_rfl) (by kernel_rfl) (fun _ _ _ h=>h) (Or.inl ⟨by rfl,?_⟩) (by assumption) ?_;rotate_left
    ·intro w1 hSw;clear hSw;go_simp<;>with_reducible rfl
    try simp only[Act.put,List.setIfInBounds_toArray,List.set_cons_zero,List.set_cons_succ]
    refine wpAnyH_take (i:=11) (v:= ?_) rfl (by kernel_rfl) (by kernel_rfl) (by kernel_rfl) (fun _ _ _ h=>h) (Or.inl ⟨by rfl,?_⟩) (by assumption) ?_;rotate_left
    ·intro w1 hSw;clear hSw;go_simp<;>with_reducible rfl
    try simp only[Act.put,List.setIfInBounds_toArray,List.set_cons_zero,List.set_cons_succ]
    refine wpAnyH_take (i:=12) (v:= ?_) rfl (by kernel_rfl) (by kernel_rfl) (by kernel_rfl) (fun _ _ _ h=>h) (Or.inl ⟨by rfl,?_⟩) (by assumption) ?_;rotate_left
    ·intro w1 hSw;clear hSw;go_simp<;>with_reducible rfl
    try simp only[Act.put,List.setIfInBounds_toArray,List.set_cons_zero,List.set_cons_succ]
    refine wpAnyH_take (i:=13) (v:= ?_) rfl (by kernel_rfl) (by kernel_rfl) (by kernel_rfl) (fun _ _ _ h=>h) (Or.inl ⟨by rfl,?_⟩) (by assumption) ?_;rotate_left
    ·intro w1 hSw;obtain⟨hSw4,hSw5⟩:=hSw;go_simp<;>with_reducible rfl
    try simp only[Act.put,List.setIfInBounds_toArray,List.set_cons_zero,List.set_cons_succ]
    refine wpAnyH_take (i:=14) (v:= ?_) rfl (by kernel_rfl) (by kernel_rfl) (by kernel_rfl) (fun _ _ _ h=>h) (Or.inl ⟨by rfl,?_⟩) (by assumption) ?_;rotate_left
    ·intro w1 hSw;clear hSw;go_simp<;>with_reducible rfl
    try simp only[Act.put,List.setIfInBounds_toArray,List.set_cons_zero,List.set_cons_succ]
    refine wpAnyH_take (i:=15) (v:= ?_) rfl (by kernel_rfl) (by kernel_rfl) (by kernel_rfl) (fun _ _ _ h=>h) (Or.inl ⟨by rfl,?_⟩) (by assumption) ?_;rotate_left
    ·intro w1 hSw;clear hSw;go_simp<;>with_reducible rfl
    try simp only[Act.put,List.setIfInBounds_toArray,List.set_cons_zero,List.set_cons_succ]
    refine wpAnyH_take (i:=16) (v:= ?_) rfl (by kernel_rfl) (by kernel_rfl) (by kernel_rfl) (fun _ _ _ h=>h) (Or.inl ⟨by rfl,?_⟩) (by assumption) ?_;rotate_left
    ·intro w1 hSw;clear hSw;go_simp<;>with_reducible rfl
    try simp only[Act.put,List.setIfInBounds_toArray,List.set_cons_zero,List.set_cons_succ]
    refine wpAnyH_take (i:=17) (v:= ?_) rfl (by kernel_rfl) (by kernel_rfl) (by kernel_rfl) (fun _ _ _ h=>h) (Or.inl ⟨by rfl,?_⟩) (by assumption) ?_;rotate_left
    ·intro w1 hSw;clear hSw;go_simp<;>with_reducible rfl
    try simp only[Act.put,List.setIfInBounds_toArray,List.set_cons_zero,List.set_cons_succ]
    refine wpAnyH_take (i:=18) (v:= ?_) rfl (by kernel_rfl) (by kernel_rfl) (by kernel_rfl) (fun _ _ _ h=>h) (Or.inl ⟨by rfl,?_⟩) (by assumption) ?_;rotate_left
    ·intro w1 hSw;clear hSw;go_simp<;>with_reducible rfl
    try simp only[Act.put,List.setIfInBounds_toArray,List.set_cons_zero,List.set_cons_succ]
    refine wpAnyH_take (i:=19) (v:= ?_) rfl (by kernel_rfl) (by kernel_rfl) (by kernel_rfl) (fun _ _ _ h=>h) (Or.inl ⟨by rfl,?_⟩) (by assumption) ?_;rotate_left
    ·intro w1 hSw;clear hSw;go_simp<;>with_reducible rfl
    try simp only[Act.put,List.setIfInBounds_toArray,List.set_cons_zero,List.set_cons_succ]
    refine wpAnyH_ready (rs:=[4,20]) (by kernel_rfl) (by simp) ?_;refine AllReadyH.cons rfl (fun K hK=> ?_) (AllReadyH.cons rfl (fun K hK=> ?_) AllReadyH.nil)
    ·go_simp;refine hK.out _ _ ?_ (fun hHeld=> ?_)
     ·exact⟨d4,d5⟩
     clear hK K;try simp only[Act.put,List.setIfInBounds_toArray,List.set_cons_zero,List.set_cons_succ]
     refine wpAnyH_ready (rs:=[20]) (by kernel_rfl) (by simp) ?_;refine AllReadyH.cons rfl (fun K hK=> ?_) AllReadyH.nil;go_simp;refine hK.out _ _ ?_ (fun hHeld=> ?_)
     ·exact HSA.out _
     clear hK K;try simp only[Act.put,List.setIfInBounds_toArray,List.set_cons_zero,List.set_cons_succ]
     refine wpAnyH_ready (rs:=[21]) (by kernel_rfl) (by simp) ?_;refine AllReadyH.cons rfl (fun K hK=> ?_) AllReadyH.nil;refine step_append_lies _ rfl (.tmp 117) (.tmp 133) 79 rfl B 102 i1 z1 6 64 Tryz.underlying79 HI1.out HY0.out hy1 hy2 hys (by omega) (.slice AC N capc) N xs (by simp[Act.eval,Act.put]) ?_ ⟨w5.heap.size,0,none⟩ 1 1 (cellsC ⟨P,m.prog,m.pos+1,wt-1,args,true⟩ C cap) (by simp[Act.eval,Act.put]) rfl ?_ ?_ (by omega) ?_ (by omega) ?_ _ rfl ?_
     ·exact owns_later (HOLD.out _) HOW.out
     ·exact World.news_of_block (cs:=⟨cellsC ⟨P,m.prog,m.pos+1,wt-1,args,true⟩ C cap⟩) (HNEW.out _)
     ·exact cellsC_one _ _ _
     ·unfold maxLen;omega
     ·exact HBW.out _
     intro g9 c9 w9 ho9 hg9 hl9 hlt9;have k6:=HK6.out _ _ hg9;obtain⟨k6,k6f,k4,k5⟩:=k6;have HS9:Hid (w9.cell? ⟨F.mb,4,none⟩=some (.int .i64 (m.prog:Nat))∧w9.cell? ⟨F.mb,5,none⟩=some (.int .i64 m.pos)):=⟨k4,k5⟩;have HS10:Hid (∀v:Value,(w9.setCell ⟨F.mb,6,none⟩ v).cell? ⟨F.mb,4,none⟩=some (.int .i64 (m.prog:Nat))∧(w9.setCell ⟨F.mb,6,none⟩ v).cell? ⟨F.mb,5,none⟩=some (.int .i64 m.pos)):=fun v=>⟨(cell_set_ne (by decide)).trans k4,(cell_set_ne (by decide)).trans k5⟩;clear k4 k5;have HO9:=Lib.hid ho9;have HG9:=Lib.hid hg9;have HL9:=Lib.hid hl9;clear ho9 hg9 hl9 hlt9;refine hK.out _ _ ?_ (fun hHeld=> ?_)
     ·exact HS9.out
     clear hK K;try simp only[Act.put,List.setIfInBounds_toArray,List.set_cons_zero,List.set_cons_succ]
     refine wpAnyH_take (i:=22) (v:= ?_) rfl (by kernel_rfl) (by kernel_rfl) (by kernel_rfl) (fun _ _ _ h=>h) (Or.inl ⟨by rfl,?_⟩) (by assumption) ?_;rotate_left
     ·intro w1 hSw;clear hSw;go_simp<;>with_reducible rfl
     try simp only[Act.put,List.setIfInBounds_toArray,List.set_cons_zero,List.set_cons_succ]
     refine wpAnyH_take (i:=23) (v:= ?_) rfl (by kernel_rfl) (by kernel_rfl) (by kernel_rfl) (fun _ _ _ h=>h) (Or.inl ⟨by rfl,?_⟩) (by assumption) ?_;rotate_left
     ·intro w1 hSw;clear hSw;go_simp<;>with_reducible rfl
     try simp only[Act.put,List.setIfInBounds_toArray,List.set_cons_zero,List.set_cons_succ]
     refine wpAnyH_ready (rs:=[24]) (by kernel_rfl) (by simp) ?_;refine AllReadyH.cons rfl (fun K hK=> ?_) AllReadyH.nil;go_simp;refine hK.out _ _ ?_ (fun hHeld=> ?_)
     ·exact HS10.out _
     clear hK K;try simp only[Act.put,List.setIfInBounds_toArray,List.set_cons_zero,List.set_cons_succ]
     refine wpAnyH_done (by kernel_rfl) ?_ _;refine NoPanic.normal ?_;have HOP:=Lib.hid (MX.open (w:=w5.drew.alloc (.cells ⟨cellsC ⟨P,m.prog,m.pos+1,wt-1,args,true⟩ C cap⟩ 102)) (w':=w9) (g:=g9) (cap:=c9) (c:=⟨P,m.prog,m.pos+1,wt-1,args,true⟩) (A:=C) (cp:=cap) (AC:=AC) (capc:=capc) (xs:=xs) (HBA.out _) (by rw[show(({m with sto:=pushX m.sto args}:MS):MS).calls.length=N from HN.out.symm];exact d6o _) (fun ys hy=>own_uniq hy (by rw[show(({m with sto:=pushX m.sto args}:MS):MS).calls.length=N from HN.out.symm];exact owns_later (HOLD.out _) HOW.out))
      (by rw[show(({m with sto:=pushX m.sto args}:MS):MS).calls.length=N from HN.out.symm];exact HO9.out) (by rw[show(({m with sto:=pushX m.sto args}:MS):MS).calls.length=N from HN.out.symm];exact HG9.out) (by rw[show(({m with sto:=pushX m.sto args}:MS):MS).calls.length=N from HN.out.symm];exact HL9.out) (HAV.out _) (by unfold I64;dsimp only;omega) (by unfold I64;dsimp only;omega) (by have:=HN.out;show m.calls.length<8;omega) ⟨hPl,HX.out.prog,by dsimp only;omega⟩)
     rw[show(({m with sto:=pushX m.sto args}:MS):MS).calls.length=N from HN.out.symm]at HOP;obtain⟨w10,hw10⟩:∃w10,w10=w9.setCell ⟨F.mb,6,none⟩ (.slice (some ⟨g9,0,none⟩) (N+1) c9):=⟨_,rfl⟩;rw[←hw10];have HOPM:Hid (MX w10 B {({F with lb:=lb5}:Fp)with ac:=some g9} L sk {({m with sto:=pushX m.sto args}:MS)with calls:=m.calls++[⟨P,m.prog,m.pos+1,wt-1,args,true⟩]}):=by unfold Hid;rw[hw10];exact HOP.out.2
     have HCH10:Hid (Chg ({F with lb:=lb5}:Fp).own w5 w10):=by
      unfold Hid;rw[hw10];refine Chg.trans ⟨HG9.out.os,HG9.out.tape,HG9.out.output,Nat.le_trans (bxS (B:=w5.drew.heap.size) (w:=w5.drew) _ (Nat.le_refl _)).size HG9.out.size,fun j hj hno=>(HG9.out.block j (Nat.lt_of_lt_of_le hj (bxS (B:=w5.drew.heap.size) (w:=w5.drew) _ (Nat.le_refl _)).size) fun e=>hno (own_row hac e)).trans (Below.heap_alloc w5.drew _ j hj)⟩ (chg_set _ _ _ _ _ (.inl rfl))
     clear hw10 k6 k6f;obtain⟨_,_,_,_,_,_,_,_,_,⟨-,-,-,-,y4,y5,-⟩,-,-,-,-,hfr10⟩:=HOPM.out.cells;obtain⟨Ay,cy,aby,offy,y1,rfl,haby,yf,_,hfst,hply⟩:=HOPM.out.prog_cells hPl;unfold maxLen at hply;dsimp only at y4 y5 y1;have y4f:=hfr10 4;have y5f:=hfr10 5;dsimp only at y4f y5f;have HFB:Hid (I64 (L.prg P).first):=I64.small hfst.1 (Int.le_trans hfst.2.1 (by have:=HX.out.fine.bl;omega));clear hfr10 hfst d4 d5 d6 d6o;go_wp2_with fail;go_ret;refine⟨by rw[EJ.out];rfl,?_⟩;rw[EM.out];have HX11:=(HOPM.out.set_prog hPl).set_pos HFB.out;exact MP.then (Chg.of_below HB2.out) (MP.trans2 HMV5.out (chg_st HC5.out) ⟨_,HOP.out.1.of_size (bxS (B:=w5.drew.heap.size) (w:=w5.drew) _ (Nat.le_refl _)).size,HX11,(HCH10.out.trans (chg_set _ _ _ _ _ (Fp.own_mb _))).trans (chg_set _ _ _ _ _ (Fp.own_mb _))⟩)
    ·go_simp;refine hK.out _ _ ?_ (fun hHeld=> ?_)
     ·exact HSA.out _
     clear hK K;try simp only[Act.put,List.setIfInBounds_toArray,List.set_cons_zero,List.set_cons_succ]
     refine wpAnyH_ready (rs:=[4]) (by kernel_rfl) (by simp) ?_;refine AllReadyH.cons rfl (fun K hK=> ?_) AllReadyH.nil;go_simp;refine hK.out _ _ ?_ (fun hHeld=> ?_)
     ·exact HSA.out _
     clear hK K;try simp only[Act.put,List.setIfInBounds_toArray,List.set_cons_zero,List.set_cons_succ]
     refine wpAnyH_ready (rs:=[21]) (by kernel_rfl) (by simp) ?_;refine AllReadyH.cons rfl (fun K hK=> ?_) AllReadyH.nil;refine step_append_lies _ rfl (.tmp 117) (.tmp 133) 79 rfl B 102 i1 z1 6 64 Tryz.underlying79 HI1.out HY0.out hy1 hy2 hys (by omega) (.slice AC N capc) N xs (by simp[Act.eval,Act.put]) ?_ ⟨w5.heap.size,0,none⟩ 1 1 (cellsC ⟨P,m.prog,m.pos+1,wt-1,args,true⟩ C cap) (by simp[Act.eval,Act.put]) rfl ?_ ?_ (by omega) ?_ (by omega) ?_ _ rfl ?_
     ·exact owns_later (HOLD.out _) HOW.out
     ·exact World.news_of_block (cs:=⟨cellsC ⟨P,m.prog,m.pos+1,wt-1,args,true⟩ C cap⟩) (HNEW.out _)
     ·exact cellsC_one _ _ _
     ·unfold maxLen;omega
     ·exact HBW.out _
     intro g9 c9 w9 ho9 hg9 hl9 hlt9;have k6:=HK6.out _ _ hg9;obtain⟨k6,k6f,k4,k5⟩:=k6;have HS9:Hid (w9.cell? ⟨F.mb,4,none⟩=some (.int .i64 (m.prog:Nat))∧w9.cell? ⟨F.mb,5,none⟩=some (.int .i64 m.pos)):=⟨k4,k5⟩;have HS10:Hid (∀v:Value,(w9.setCell ⟨F.mb,6,none⟩ v).cell? ⟨F.mb,4,none⟩=some (.int .i64 (m.prog:Nat))∧(w9.setCell ⟨F.mb,6,none⟩ v).cell? ⟨F.mb,5,none⟩=some (.int .i64 m.pos)):=fun v=>⟨(cell_set_ne (by decide)).trans k4,(cell_set_ne (by decide)).trans k5⟩;clear k4 k5;have HO9:=Lib.hid ho9;have HG9:=Lib.hid hg9;have HL9:=Lib.hid hl9;clear ho9 hg9 hl9 hlt9;refine hK.out _ _ ?_ (fun hHeld=> ?_)
     ·exact HS9.out
     clear hK K;try simp only[Act.put,List.setIfInBounds_toArray,List.set_cons_zero,List.set_cons_succ]
     refine wpAnyH_take (i:=22) (v:= ?_) rfl (by kernel_rfl) (by kernel_rfl) (by kernel_rfl) (fun _ _ _ h=>h) (Or.inl ⟨by rfl,?_⟩) (by assumption) ?_;rotate_left
     ·intro w1 hSw;clear hSw;go_simp<;>with_reducible rfl
     try simp only[Act.put,List.setIfInBounds_toArray,List.set_cons_zero,List.set_cons_succ]
     refine wpAnyH_take (i:=23) (v:= ?_) rfl (by kernel_rfl) (by kernel_rfl) (by kernel_rfl) (fun _ _ _ h=>h) (Or.inl ⟨by rfl,?_⟩) (by assumption) ?_;rotate_left
     ·intro w1 hSw;clear hSw;go_simp<;>with_reducible rfl
     try simp only[Act.put,List.setIfInBounds_toArray,List.set_cons_zero,List.set_cons_succ]
     refine wpAnyH_ready (rs:=[24]) (by kernel_rfl) (by simp) ?_;refine AllReadyH.cons rfl (fun K hK=> ?_) AllReadyH.nil;go_simp;refine hK.out _ _ ?_ (fun hHeld=> ?_)
     ·exact HS10.out _
     clear hK K;try simp only[Act.put,List.setIfInBounds_toArray,List.set_cons_zero,List.set_cons_succ]
     refine wpAnyH_done (by kernel_rfl) ?_ _;refine NoPanic.normal ?_;have HOP:=Lib.hid (MX.open (w:=w5.drew.alloc (.cells ⟨cellsC ⟨P,m.prog,m.pos+1,wt-1,args,true⟩ C cap⟩ 102)) (w':=w9) (g:=g9) (cap:=c9) (c:=⟨P,m.prog,m.pos+1,wt-1,args,true⟩) (A:=C) (cp:=cap) (AC:=AC) (capc:=capc) (xs:=xs) (HBA.out _) (by rw[show(({m with sto:=pushX m.sto args}:MS):MS).calls.length=N from HN.out.symm];exact d6o _) (fun ys hy=>own_uniq hy (by rw[show(({m with sto:=pushX m.sto args}:MS):MS).calls.length=N from HN.out.symm];exact owns_later (HOLD.out _) HOW.out))
      (by rw[show(({m with sto:=pushX m.sto args}:MS):MS).calls.length=N from HN.out.symm];exact HO9.out) (by rw[show(({m with sto:=pushX m.sto args}:MS):MS).calls.length=N from HN.out.symm];exact HG9.out) (by rw[show(({m with sto:=pushX m.sto args}:MS):MS).calls.length=N from HN.out.symm];exact HL9.out) (HAV.out _) (by unfold I64;dsimp only;omega) (by unfold I64;dsimp only;omega) (by have:=HN.out;show m.calls.length<8;omega) ⟨hPl,HX.out.prog,by dsimp only;omega⟩)
     rw[show(({m with sto:=pushX m.sto args}:MS):MS).calls.length=N from HN.out.symm]at HOP;obtain⟨w10,hw10⟩:∃w10,w10=w9.setCell ⟨F.mb,6,none⟩ (.slice (some ⟨g9,0,none⟩) (N+1) c9):=⟨_,rfl⟩;rw[←hw10];have HOPM:Hid (MX w10 B {({F with lb:=lb5}:Fp)with ac:=some g9} L sk {({m with sto:=pushX m.sto args}:MS)with calls:=m.calls++[⟨P,m.prog,m.pos+1,wt-1,args,true⟩]}):=by unfold Hid;rw[hw10];exact HOP.out.2
     have HCH10:Hid (Chg ({F with lb:=lb5}:Fp).own w5 w10):=by
      unfold Hid;rw[hw10];refine Chg.trans ⟨HG9.out.os,HG9.out.tape,HG9.out.output,Nat.le_trans (bxS (B:=w5.drew.heap.size) (w:=w5.drew) _ (Nat.le_refl _)).size HG9.out.size,fun j hj hno=>(HG9.out.block j (Nat.lt_of_lt_of_le hj (bxS (B:=w5.drew.heap.size) (w:=w5.drew) _ (Nat.le_refl _)).size) fun e=>hno (own_row hac e)).trans (Below.heap_alloc w5.drew _ j hj)⟩ (chg_set _ _ _ _ _ (.inl rfl))
     clear hw10 k6 k6f;obtain⟨_,_,_,_,_,_,_,_,_,⟨-,-,-,-,y4,y5,-⟩,-,-,-,-,hfr10⟩:=HOPM.out.cells;obtain⟨Ay,cy,aby,offy,y1,rfl,haby,yf,_,hfst,hply⟩:=HOPM.out.prog_cells hPl;unfold maxLen at hply;dsimp only at y4 y5 y1;have y4f:=hfr10 4;have y5f:=hfr10 5;dsimp only at y4f y5f;have HFB:Hid (I64 (L.prg P).first):=I64.small hfst.1 (Int.le_trans hfst.2.1 (by have:=HX.out.fine.bl;omega));clear hfr10 hfst d4 d5 d6 d6o;go_wp2_with fail;go_ret;refine⟨by rw[EJ.out];rfl,?_⟩;rw[EM.out];have HX11:=(HOPM.out.set_prog hPl).set_pos HFB.out;exact MP.then (Chg.of_below HB2.out) (MP.trans2 HMV5.out (chg_st HC5.out) ⟨_,HOP.out.1.of_size (bxS (B:=w5.drew.heap.size) (w:=w5.drew) _ (Nat.le_refl _)).size,HX11,(HCH10.out.trans (chg_set _ _ _ _ _ (Fp.own_mb _))).trans (chg_set _ _ _ _ _ (Fp.own_mb _))⟩)
end Go.Proofs.YtdcjbhdfphcefaaGreatDoor
