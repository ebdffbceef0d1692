/- The contract of Copy of the store. The contract of Copy of flow's machine. What the walk of FlowCopies keeps between its rounds. Conditions: those that each lemma names. -/
import Derived.Test.YtdcjbhdfphcefaaGreatDoorAx
import Derived.Deep.WholeRow
import Derived.Test.YtdcjbhdfphcefaaGreatDoorLk
set_option linter.unusedVariables false
set_option linter.unusedSimpArgs false
namespace Go.Proofs.YtdcjbhdfphcefaaGreatDoor
open Go.RowKit
theorem info_store:(Tryz.prog.info? 110).map (·.size)=some 1101:=by kernel_rfl
theorem cs_one{cs:Array Value}{v:Value}{f:Int→Int}(h0:cs[0]? =some v)(hv:v.oneCell'=true)(hs:cs.size=1101)(e2:∀i:Nat,i<100→cs[1+i]? =some (.int .i64 (f (100+i))))(e3:∀i:Nat,i<1000→cs[101+i]? =some (.int .i64 (f (5000+i)))):cs.all (·.oneCell')=true:=by
 rw[Array.all_eq_true];intro i hi;have q:cs[i]? =some cs[i]:=Array.getElem?_eq_getElem hi;by_cases h:i=0
 ·subst h;rw[h0]at q;rw[←Option.some.inj q];exact hv
 by_cases h1:i<101
 ·have:=e2 (i-1) (by omega);rw[show 1+(i-1)=i by omega,q]at this;rw[Option.some.inj this];rfl
 ·have:=e3 (i-101) (by omega);rw[show 101+(i-101)=i by omega,q]at this;rw[Option.some.inj this];rfl
theorem sx_copied{w w':World}{B b2:Nat}{cap cp:Nat}{C:Option Addr}{cs ls:Array Value}{σ:Sto}(hpos:0<σ.lv.length)(hfew:σ.lv.length≤9)(hcl:σ.lv.length≤cap)(hls:ls.size=cap*33)(hcs:cs.size=1101)
 (e1:∀j i:Nat,j<σ.lv.length→i<33→ls[j*33+i]? =some (.int .i64 (σ.lv.getD j (fun _=>0) (1+i)))) (e2:∀i:Nat,i<100→cs[1+i]? =some (.int .i64 (σ.gl (100+i)))) (e3:∀i:Nat,i<1000→cs[101+i]? =some (.int .i64 (σ.gl (5000+i))))
 (ho:w.ownsRow B 137 33 (.slice C σ.lv.length cp) σ.lv.length (ls.toList.take (σ.lv.length*33))) (hb:w.heap[b2]? =some (.cells cs 110 (0,0))) (hb2:b2<B) (hw:w'=w.setCell ⟨b2,0,none⟩ (.slice C σ.lv.length cp)):∃lb2,B≤lb2∧Sx w' b2 lb2 σ:=by
 subst hw;rcases ho.2 with⟨_,q⟩|⟨g,cap2,cur,p1,p2,p3,p4,p5,p6,p7⟩
 ·omega
 simp only[Value.slice.injEq,true_and]at p1;obtain⟨rfl,rfl⟩:=p1;refine⟨g,p2,by omega,hpos,hfew,cp,cs.setIfInBounds 0 (.slice (some ⟨g,0,none⟩) σ.lv.length cp),cur,heap_set hb,(Below.heap_setCell _ _ _ _ (show g≠b2 by omega)).trans p3,?_,p4,p5,p6,?_,?_,?_,?_⟩
 ·rw[Array.getElem?_setIfInBounds,if_pos rfl,if_pos (by omega)]
 ·rw[Array.size_setIfInBounds,hcs]
 ·intro j i hj hi;have q:=congrArg (fun q:List Value=>q[j*33+i]?) p7;try dsimp only at q
  have hlt:j*33+i<σ.lv.length*33:=by omega
  rw[List.getElem?_take,if_pos hlt,List.getElem?_take,if_pos hlt,Array.getElem?_toList,Array.getElem?_toList,e1 j i hj hi]at q;exact q
 ·intro i hi;rw[Array.getElem?_setIfInBounds,if_neg (by omega)];exact e2 i hi
 ·intro i hi;rw[Array.getElem?_setIfInBounds,if_neg (by omega)];exact e3 i hi
set_option maxRecDepth 100000 in
set_option maxHeartbeats 16000000 in
theorem stcopy_any(w:World)(b lb:Nat)(σ:Sto)(h:Sx w b lb σ):
 Calls Tryz.prog 50 #[.pointer (some ⟨b,0,none⟩)] w fun e w'=>∃b2 lb2,e=.returned (.pointer (some ⟨b2,0,none⟩))∧w.heap.size≤b2∧w.heap.size≤lb2∧Sx w' b2 lb2 σ∧Below w.heap.size w w':=by
 have hlt:=h.lt;obtain⟨hne,hpos,hfew,cap,cs,ls,h1,h2,h0,hcl,hcm,hls,hcs,e1,e2,e3⟩:=h;have HALL:=Lib.hid (cs_one h0 rfl hcs e2 e3);have HI:Hid ((Tryz.prog.info? 110).map (·.size)=some cs.size):=by unfold Hid;rw[hcs];exact info_store
 have HZ:Hid ((Tryz.zeroCells110).size=cs.size):=by unfold Hid;rw[hcs,zc_st,arr_len,List.length_cons,zeros_len]
 obtain⟨W1,hW1⟩:∃W1,W1=w.alloc (.cells cs 110):=⟨_,rfl⟩;have HB1:Hid (Below w.heap.size w W1):=by unfold Hid;rw[hW1];exact(Below.refl _ _).alloc (Nat.le_refl _) _
 have hn:W1.heap[w.heap.size]? =some (.cells cs 110 (0,0)):=by rw[hW1];exact heap_alloc_new _ _
 have HNW:=Lib.hid hn;have hs1:=hlS hn;have hk1:=(HB1.out.block _ hlt.1).trans h1;have hl1:=(HB1.out.block _ hlt.2).trans h2;have y0:W1.cell? ⟨b,0,none⟩=some (.slice (some ⟨lb,0,none⟩) σ.lv.length cap):=(cell_of_row W1 b 0 _ _ _ hk1).trans h0;have HCL:Hid (Calls Tryz.prog 81 #[.slice (some ⟨lb,0,none⟩) σ.lv.length cap] W1 fun e w'=>∃(C:Option Addr) (cp:Nat),e=.returned (.slice C σ.lv.length cp)∧w'.ownsRow W1.heap.size 137 33 (.slice C σ.lv.length cp) σ.lv.length (ls.toList.take (σ.lv.length*33))∧Below W1.heap.size W1 w'):=by
  refine cloneLv W1 _ _ _ _ ?_ (by omega) (fun _=>⟨lb,0,rfl,fun j u hu=> ?_⟩) ?_ (.inr ⟨lb,0,rfl⟩)
  ·rw[List.length_take,Array.length_toList,hls];have:=Nat.mul_le_mul_right 33 hcl;omega
  ·rw[Nat.zero_add,cell_of_row W1 lb j _ _ _ hl1];rw[List.getElem?_take]at hu;split at hu
   ·rw[←hu,Array.getElem?_toList]
   ·cases hu
  ·intro u hu;obtain⟨j,hj⟩:=List.getElem?_of_mem hu;rw[List.getElem?_take]at hj;split at hj
   case isFalse=>cases hj
   rename_i hlt2;have q:=e1 (j/33) (j%33) (by omega) (Nat.mod_lt _ (by omega));rw[show j/33*33+j%33=j by omega]at q;rw[Array.getElem?_toList,q]at hj;rw[←Option.some.inj hj];rfl
 have H1:=Lib.hid h1;have H0:=Lib.hid h0;have HFIN:Hid (∀(C:Option Addr) (cp:Nat) (w2:World),Below W1.heap.size W1 w2→w2.ownsRow W1.heap.size 137 33 (.slice C σ.lv.length cp) σ.lv.length (ls.toList.take (σ.lv.length*33))→∃lb2,W1.heap.size≤lb2∧Sx (w2.setCell ⟨w.heap.size,0,none⟩ (.slice C σ.lv.length cp)) w.heap.size lb2 σ):=fun C cp w2 hb ho=>
  sx_copied hpos hfew hcl hls hcs e1 e2 e3 ho ((hb.block _ hs1).trans hn) hs1 rfl
 clear h1 h2 h0 hcl hcm hls hcs e1 e2 e3 hn hk1 hl1 hlt hpos hfew hne;go_enter Tryz.func50,Tryz.ntmps50;go_upto_region 2 with(first|(refine wpList_load_row rfl 110 _ rfl b rfl _ cs _ _ H1.out Tryz.underlying110 rfl HI.out ?_)|(refine wpList_store_row rfl 110 _ _ rfl w.heap.size cs rfl rfl _ _ (heap_alloc_last _ _) HI.out HZ.out HALL.out ?_))
 rw[World.setRow_alloc_new,←hW1];clear hW1;go_wp2_with(go_at_call 81;refine HCL.out.mono ?_;rintro e w2 ⟨C,cp,rfl,ho,hb⟩;have HO:=Lib.hid ho;have HB:=Lib.hid hb;have hh2:=(hb.block _ hs1).trans HNW.out;have ht0:=(cell_of_row w2 w.heap.size 0 _ _ _ hh2).trans H0.out;have hf0:w2.frozen? ⟨w.heap.size,0,none⟩=false:=(by simp[World.frozen?,hh2]);clear ho hb hh2);go_ret;obtain⟨lb2,q1,q2⟩:=HFIN.out C cp w2 HB.out HO.out;exact⟨_,lb2,rfl,Nat.le_refl _,Nat.le_trans HB1.out.size q1,q2,(HB1.out.trans (HB.out.mono HB1.out.size)).setCell (p:=⟨w.heap.size,0,none⟩) (Nat.le_refl _) _⟩
end Go.Proofs.YtdcjbhdfphcefaaGreatDoor
namespace Go.Proofs.YtdcjbhdfphcefaaGreatDoor
open Go.RowKit
def Fp.list(F:Fp):List Nat:=[F.mb,F.sb,F.lb]++F.ac.toList
theorem Fp.mem_list{F:Fp}{g:Nat}:g∈F.list↔F.own g:=by
 unfold Fp.list Fp.own;rcases F with⟨a,b,c,d,e⟩
 rcases d with _|d
 ·simp
 ·simp only[Option.toList_some,List.mem_append,List.mem_cons,List.not_mem_nil,or_false,Option.some.injEq,or_assoc];constructor
  ·rintro(h|h|h|h)
   ·exact .inl h
   ·exact .inr (.inl h)
   ·exact .inr (.inr (.inl h))
   ·exact .inr (.inr (.inr h.symm))
  ·rintro(h|h|h|h)
   ·exact .inl h
   ·exact .inr (.inl h)
   ·exact .inr (.inr (.inl h))
   ·exact .inr (.inr (.inr h.symm))
theorem own_base{w:World}{b b':Nat}{e:TypeId}{s n:Nat}{v:Value}{xs:List Value}(h:w.ownsRow b e s v n xs)(hb:b'≤b):w.ownsRow b' e s v n xs:=by
 refine⟨h.1,?_⟩;rcases h.2 with h|⟨g,cap,cur,e1,e2,e3⟩
 ·exact .inl h
 ·exact .inr ⟨g,cap,cur,e1,Nat.le_trans hb e2,e3⟩
theorem RdC.one{w:World}{I:Nat→Prop}{l:List Cl}{xs:List Value}(h:RdC w I l xs)(hl:xs.length=l.length*6):∀u∈xs,u.oneCell'=true:=by
 intro u hu;obtain⟨j,hj⟩:=List.getElem?_of_mem hu;have hlt:=(List.getElem?_eq_some_iff.1 hj).1;obtain⟨c,hc⟩:∃c,l[j/6]? =some c:=⟨_,List.getElem?_eq_getElem (by omega)⟩;obtain⟨_,_,A,cp,_,hx⟩:=h _ c hc;obtain⟨v,hv⟩:∃v,(cellsC c A cp)[j%6]? =some v:=⟨_,List.getElem?_eq_getElem (by show j%6<6;exact Nat.mod_lt _ (by omega))⟩;have q:=hx _ v hv;rw[show j/6*6+j%6=j by omega,hj]at q;rw[Option.some.inj q];have hm:=List.mem_of_getElem? hv;simp only[cellsC,List.mem_cons,List.not_mem_nil,or_false]at hm;rcases hm with rfl|rfl|rfl|rfl|rfl|rfl<;>rfl
theorem info_mach:(Tryz.prog.info? 81).map (·.size)=some 11:=by kernel_rfl
theorem mx_copied{w W1 w2 w3 w4 w5:World}{B:Nat}{F:Fp}{L:Lb}{sk:Bool}{m:MS}(h:MX w B F L sk m){A1 A2 A3 AC C:Option Addr}{c1 c2 c3 capc cp b2 lb2:Nat}{xs:List Value}(hL:RdLb w B L A1 L.bl.length A2 L.pr.length A3 L.mt.length)(hc:RdC w F.far m.calls xs)
 (hb1:Below w.heap.size w W1) (hq:W1.heap[w.heap.size]? =some (.cells ⟨cellsM A1 A2 A3 AC c1 c2 c3 capc F.sb L sk m⟩ 81 (0,0))) (hb2:Below W1.heap.size W1 w2) (ho:w2.ownsRow W1.heap.size 102 6 (.slice C m.calls.length cp) m.calls.length xs)
 (hw3:w3=w2.setCell ⟨w.heap.size,6,none⟩ (.slice C m.calls.length cp)) (hb4:Below w3.heap.size w3 w4) (k1:w3.heap.size≤b2) (k2:w3.heap.size≤lb2) (hs:Sx w4 b2 lb2 m.sto) (hw5:w5=w4.setCell ⟨w.heap.size,7,none⟩ (.pointer (some ⟨b2,0,none⟩))):
 Below w.heap.size w w5∧(∀g,Fp.own ⟨w.heap.size,b2,lb2,C.map (·.block),F.list⟩ g→w.heap.size≤g)∧MX w5 B ⟨w.heap.size,b2,lb2,C.map (·.block),F.list⟩ L sk m∧MX w5 B {F with av:=Fp.list ⟨w.heap.size,b2,lb2,C.map (·.block),F.list⟩} L sk m:=by
 have hq1:=hlS hq;have hB:=h.Ble;have hs1:=hb1.size;have hs2:=hb2.size;have hs3:w3.heap.size=w2.heap.size:=by rw[hw3];simp[World.setCell]
 have hs4:=hb4.size;have hs5:w5.heap.size=w4.heap.size:=by rw[hw5];simp[World.setCell]
 have k3:∀g,g≠w.heap.size→w3.heap[g]? =w2.heap[g]? :=fun g hg=>by rw[hw3];exact Below.heap_setCell _ _ _ g hg
 have k5:∀g,g≠w.heap.size→w5.heap[g]? =w4.heap[g]? :=fun g hg=>by rw[hw5];exact Below.heap_setCell _ _ _ g hg
 have hb3:Below w.heap.size w w3:=by rw[hw3];exact(hb1.trans (hb2.mono hs1)).setCell (p:=⟨w.heap.size,6,none⟩) (Nat.le_refl _) _
 have hb5:Below w.heap.size w w5:=by
  rw[hw5];exact(hb3.trans (hb4.mono hb3.size)).setCell (p:=⟨w.heap.size,7,none⟩) (Nat.le_refl _) _
 have hq3:w3.heap[w.heap.size]? =some (.cells (Array.setIfInBounds ⟨cellsM A1 A2 A3 AC c1 c2 c3 capc F.sb L sk m⟩ 6 (.slice C m.calls.length cp)) 81 (0,0)):=by rw[hw3];exact heap_set ((hb2.block _ hq1).trans hq)
 have hq5:w5.heap[w.heap.size]? =some (.cells ⟨cellsM A1 A2 A3 C c1 c2 c3 cp b2 L sk m⟩ 81 (0,0)):=by rw[hw5];exact heap_set ((hb4.block _ (by omega)).trans hq3)
 have hac:∀g,C.map (·.block)=some g→W1.heap.size≤g∧g<w2.heap.size:=fun g hg=>own_blk ho (by rw[own_mapblk];exact hg);have hsl:=hs.lt;have hown:∀g,Fp.own ⟨w.heap.size,b2,lb2,C.map (·.block),F.list⟩ g→w.heap.size≤g∧g<w5.heap.size:=by
  rintro g (e|e|e|e)
  ·dsimp only at e;omega
  ·dsimp only at e;omega
  ·dsimp only at e;omega
  ·have:=hac g e;omega
 refine⟨hb5,fun g hg=>(hown g hg).1,?_,?_⟩
 ·refine⟨hB,by dsimp only;omega,by dsimp only;omega,by dsimp only;omega,by dsimp only;omega,fun x hx=> ?_,h.tab.below hb5 h.tab.lt,h.tabB,h.tn.below hb5 h.tn.lt,h.tnB,h.fine,hs.keep (k5 _ (by omega)) (k5 _ (by omega)),h.vf,h.pos,h.prog,h.steps,h.err,h.few,h.calls,A1,A2,A3,C,c1,c2,c3,cp,xs,hq5,
   hL.keep (fun p hp=>World.cell?_of_block (hb5.block p.block (by omega))) (Nat.le_refl _),own_base (owns_keep ho fun g hg hv=> ?_) (by omega),fun g hg=> ?_,rfl,hc.keep hb5.size (fun g hg hI=>⟨fun e=>by have:=(hown g e).1;omega,fun e=>hI.1 (Fp.mem_list.1 e)⟩) fun g hg _=>hb5.block g hg⟩
  ·have:=(h.own_ge x (Fp.mem_list.1 hx)).2;omega
  ·have:=(own_blk ho hv).1;exact(k5 g (by omega)).trans ((hb4.block g (by omega)).trans (k3 g (by omega)))
  ·have:=hac g hg;exact⟨by dsimp only;omega,by dsimp only;omega,by dsimp only;omega⟩
 ·exact(h.hides hb5 (l:=Fp.list ⟨w.heap.size,b2,lb2,C.map (·.block),F.list⟩) fun s hs=>hown s (Fp.mem_list.1 hs)).unhide (av:=Fp.list ⟨w.heap.size,b2,lb2,C.map (·.block),F.list⟩) fun x hx=>List.mem_append_left _ hx
set_option maxRecDepth 100000 in
set_option maxHeartbeats 16000000 in
theorem mcopy_any(w:World)(B:Nat)(F:Fp)(L:Lb)(sk:Bool)(m:MS)(h:MX w B F L sk m):
 Calls Tryz.prog 30 #[.pointer (some ⟨F.mb,0,none⟩)] w fun e w'=>∃F2:Fp,e=.returned (.pointer (some ⟨F2.mb,0,none⟩))∧Below w.heap.size w w'∧(∀g,F2.own g→w.heap.size≤g)∧F2.av=F.list∧MX w' B F2 L sk m∧MX w' B {F with av:=F2.list} L sk m:=by
 have HX:=Lib.hid h;have hmb:=h.lt;have hslt:=h.sto.lt;have hfew:=h.few;obtain⟨A1,A2,A3,AC,c1,c2,c3,capc,xs,hb,hL,ho,hf,ha,hc⟩:=h.ex;obtain⟨W1,hW1⟩:∃W1,W1=w.alloc (.cells ⟨cellsM A1 A2 A3 AC c1 c2 c3 capc F.sb L sk m⟩ 81):=⟨_,rfl⟩;have HB1:Hid (Below w.heap.size w W1):=by unfold Hid;rw[hW1];exact(Below.refl _ _).alloc (Nat.le_refl _) _
 have hn:W1.heap[w.heap.size]? =some (.cells ⟨cellsM A1 A2 A3 AC c1 c2 c3 capc F.sb L sk m⟩ 81 (0,0)):=by rw[hW1];exact heap_alloc_new _ _
 have HNW:=Lib.hid hn;have hs1:=hlS hn;have hk1:=(HB1.out.block _ hmb).trans hb;have y6:W1.cell? ⟨F.mb,6,none⟩=some (.slice AC m.calls.length capc):=(cell_of_row W1 _ 6 _ _ _ hk1).trans rfl;have y7:W1.cell? ⟨F.mb,7,none⟩=some (.pointer (some ⟨F.sb,0,none⟩)):=(cell_of_row W1 _ 7 _ _ _ hk1).trans rfl;have Y7:=Lib.hid y7;have HCL:Hid (Calls Tryz.prog 49 #[.slice AC m.calls.length capc] W1 fun e w'=>∃(C:Option Addr) (cp:Nat),e=.returned (.slice C m.calls.length cp)∧w'.ownsRow W1.heap.size 102 6 (.slice C m.calls.length cp) m.calls.length xs∧Below W1.heap.size W1 w'):=by
  have ho1:=owns_keep (w':=W1) ho fun g hg _=>HB1.out.block g hg;refine cloneCa W1 _ _ _ _ ho.1 (by omega) (fun hp=> ?_) (hc.one ho.1) ?_
  ·rcases ho1.2 with⟨_,q⟩|⟨g,cap,cur,p1,p2,p3,p4,p5,p6,p7⟩
   ·omega
   simp only[Value.slice.injEq,true_and]at p1;refine⟨g,0,p1.1,fun j u hu=> ?_⟩;rw[Nat.zero_add,cell_of_row W1 g j _ _ _ p3];rw[←p7,List.getElem?_take]at hu;split at hu
   ·rw[←hu,Array.getElem?_toList]
   ·cases hu
  ·rcases ho1.2 with⟨q,_⟩|⟨g,cap,cur,p1,_⟩
   ·simp only[Value.slice.injEq]at q;exact .inl q.1
   ·simp only[Value.slice.injEq,true_and]at p1;exact .inr ⟨g,0,p1.1⟩
 have HST:Hid (∀W,Below w.heap.size w W→Calls Tryz.prog 50 #[.pointer (some ⟨F.sb,0,none⟩)] W fun e w'=>∃b2 lb2,e=.returned (.pointer (some ⟨b2,0,none⟩))∧W.heap.size≤b2∧W.heap.size≤lb2∧Sx w' b2 lb2 m.sto∧Below W.heap.size W w'):=fun W hW=>stcopy_any W F.sb F.lb m.sto (HX.out.sto.below hW);have H1:=Lib.hid hb;have HI:Hid ((Tryz.prog.info? 81).map (·.size)=some (Array.size ⟨cellsM A1 A2 A3 AC c1 c2 c3 capc F.sb L sk m⟩)):=info_mach;have HALL:Hid (Array.all ⟨cellsM A1 A2 A3 AC c1 c2 c3 capc F.sb L sk m⟩ (·.oneCell')=true):=by unfold Hid;simp[cellsM,Value.oneCell']
 have HFIN:Hid (∀(C:Option Addr) (cp b2 lb2:Nat) (w2 w3 w4 w5:World),Below W1.heap.size W1 w2→w2.ownsRow W1.heap.size 102 6 (.slice C m.calls.length cp) m.calls.length xs→w3=w2.setCell ⟨w.heap.size,6,none⟩ (.slice C m.calls.length cp)→Below w3.heap.size w3 w4→w3.heap.size≤b2→w3.heap.size≤lb2→Sx w4 b2 lb2 m.sto→w5=w4.setCell ⟨w.heap.size,7,none⟩ (.pointer (some ⟨b2,0,none⟩))→∃F2:Fp,F2.mb=w.heap.size∧Below w.heap.size w w5∧(∀g,F2.own g→w.heap.size≤g)∧F2.av=F.list∧MX w5 B F2 L sk m∧MX w5 B {F with av:=F2.list} L sk m):=fun C cp b2 lb2 w2 w3 w4 w5 q1 q2 q3 q4 q5 q6 q7 q8=>by
  obtain⟨r1,r2,r3,r4⟩:=mx_copied HX.out hL hc HB1.out HNW.out q1 q2 q3 q4 q5 q6 q7 q8;exact⟨_,rfl,r1,r2,rfl,r3,r4⟩
 clear h hb hL ho hf ha hc hn hk1 hslt y7;go_enter Tryz.func30,Tryz.ntmps30;go_upto_region 2 with(first|(refine wpList_load_row rfl 81 _ rfl F.mb rfl _ _ _ _ H1.out Tryz.underlying81 rfl HI.out ?_)|(refine wpList_store_row rfl 81 _ _ rfl w.heap.size _ rfl rfl _ _ (heap_alloc_last _ _) HI.out rfl HALL.out ?_))
 rw[World.setRow_alloc_new,←hW1];clear hW1;have hne:F.mb≠w.heap.size:=Nat.ne_of_lt hmb;go_wp2_with fail;refine HCL.out.mono ?_;rintro e w2 ⟨C,cp,rfl,ho,hb⟩;have HO:=Lib.hid ho;have HB:=Lib.hid hb;have hh2:=(hb.block _ hs1).trans HNW.out;have HH2:=Lib.hid hh2;have t6:w2.cell? ⟨w.heap.size,6,none⟩=some (.slice AC m.calls.length capc):=(cell_of_row w2 _ 6 _ _ _ hh2).trans rfl;have t6f:w2.frozen? ⟨w.heap.size,6,none⟩=false:=by simp[World.frozen?,hh2]
 have y7:=(hb.cell (p:=⟨F.mb,7,none⟩) (Nat.lt_trans hmb hs1)).trans Y7.out;clear ho hb hh2 y6;go_wp2_with fail;refine(HST.out _ ((HB1.out.trans (HB.out.mono HB1.out.size)).setCell (p:=⟨w.heap.size,6,none⟩) (Nat.le_refl _) _)).mono ?_;rintro e w4 ⟨b2,lb2,rfl,k1,k2,hsx,hb4⟩;have HK1:=Lib.hid k1;have HK2:=Lib.hid k2;have HSX:=Lib.hid hsx;have HB4:=Lib.hid hb4;have hh4:=(hb4.block w.heap.size (by have:=hlS HH2.out;simpa[World.setCell]using this)).trans (heap_set HH2.out);have t7:w4.cell? ⟨w.heap.size,7,none⟩=some (.pointer (some ⟨F.sb,0,none⟩)):=(cell_of_row w4 _ 7 _ _ _ hh4).trans rfl;have t7f:w4.frozen? ⟨w.heap.size,7,none⟩=false:=by simp[World.frozen?,hh4]
 clear k1 k2 hsx hb4 hh4 t6 t6f y7;go_wp2_with fail;go_ret;obtain⟨F2,q0,q⟩:=HFIN.out C cp b2 lb2 w2 _ w4 _ HB.out HO.out rfl HB4.out HK1.out HK2.out HSX.out rfl;exact⟨F2,by rw[q0];rfl,q⟩
end Go.Proofs.YtdcjbhdfphcefaaGreatDoor
namespace Go.Proofs.YtdcjbhdfphcefaaGreatDoor
open Go.RowKit
def stN(L:Lb)(sk:Bool)(m:MS):Nat→MS
 |0=>m
 |k+1=>(nextS L sk (stN L sk m k)).1
theorem next_ofF{L:Lb}{sk:Bool}{m m':MS}{t:Stp}{er:Int}(hn:nextS L sk m=(m',t,er)){w:World}{B:Nat}{F:Fp}(h:MX w B F L sk m):
 Calls Tryz.prog 19 #[.pointer (some ⟨F.mb,0,none⟩)] w fun e w'=>∃(A:Option Addr) (c n1:Nat),e=.returned (.tuple #[.agg #[.int .i64 t.1,.int .i64 t.2.1,.slice A t.2.2.length c],.int .i64 er])∧RdV w' (fun g=>n1≤g) A t.2.2.length t.2.2∧NxFin B F L sk m' n1 w w':=by
 have q:=mnext_any w B F L sk m h;unfold NxPost at q;rw[hn]at q;refine q.mono ?_;rintro e w' ⟨v,n1,he,⟨A,c,hv,hr,_⟩,hm⟩;subst hv;exact⟨A,c,n1,he,hr,hm⟩
theorem MX.grow{W w1:World}{B g:Nat}{F:Fp}{L:Lb}{sk:Bool}{m:MS}{v:Option Nat}(h:MX W B F L sk m)(hav:∀x∈F.av,B≤x∧¬F.own x)(hg:W.grownBy w1 v)(hv:∀q,v=some q→q∈F.av)(hl:v=some g∨g=W.heap.size)(hlt:g<w1.heap.size):
 ∃av,MX w1 B {F with av:=av} L sk m∧(∀x∈F.av,x∈av)∧g∈av∧∀x∈av,B≤x∧¬F.own x:=by
 have hk:∀q,q<W.heap.size→q∉F.av→w1.heap[q]? =W.heap[q]? :=fun q hq hn=>hg.block q hq fun e=>hn (hv q e.symm);rcases hl with e|e
 ·exact⟨F.av,h.keep hg.size hk hav,fun x hx=>hx,hv g e,hav⟩
 ·subst e;have b1:Below W.heap.size W (W.alloc (.cells #[] 0)):=(Below.refl _ _).alloc (Nat.le_refl _) _;have hs1:(W.alloc (.cells #[] 0)).heap.size=W.heap.size+1:=Array.size_push _;have hno:¬F.own W.heap.size:=fun ho=>Nat.lt_irrefl _ (h.own_ge _ ho).2;have q:=h.hides b1 (l:=[W.heap.size]) (fun s hs=>by rw[List.mem_singleton.1 hs,hs1];omega);have hav2:∀x∈[W.heap.size]++F.av,B≤x∧¬F.own x:=fun x hx=>by
   rcases List.mem_append.1 hx with hx|hx
   ·rw[List.mem_singleton.1 hx];exact⟨h.Ble,hno⟩
   ·exact hav x hx
  refine⟨[W.heap.size]++F.av,MX.keep (w:=W.alloc (.cells #[] 0)) q (by rw[hs1];omega) (fun x hx hn=> ?_) hav2,fun x hx=>List.mem_append_right _ hx,by simp,hav2⟩;have hne:x≠W.heap.size:=fun e=>hn (List.mem_append_left _ (by rw[e];exact List.mem_singleton_self _));have hxl:x<W.heap.size:=by rw[hs1]at hx;omega
  exact(hk x hxl fun e=>hn (List.mem_append_right _ e)).trans (b1.block x hxl).symm
theorem MX.hav_next{w:World}{B:Nat}{F F':Fp}{L:Lb}{sk:Bool}{m:MS}(h:MX w B F L sk m)(hav:∀x∈F.av,B≤x∧¬F.own x)(hm:Mv w F F'):∀x∈F'.av,B≤x∧¬F'.own x:=by
 intro x hx;rw[hm.av]at hx;exact⟨(hav x hx).1,fun ho=>(hav x hx).2 (hm.own x (h.av x hx) ho)⟩
structure CoM(b0:Nat)(F':Fp)(L:Lb)(sk:Bool)(m:MS)(k:Nat)(T E:Option Addr)(ct ce:Nat)(xs ys:List Value)(W:World):Prop where
 ho1:W.ownsRow b0 40 3 (.slice T k ct) k xs
 ho2:W.ownsRow b0 26 1 (.slice E k ce) k ys
 a1:∀g,T.map (·.block)=some g→g∈F'.av
 a2:∀g,E.map (·.block)=some g→g∈F'.av
 ne:∀g,T.map (·.block)=some g→E.map (·.block)≠some g
 rd:∀j,j<k→∃(A:Option Addr) (c:Nat),xs[j*3]? =some (.int .i64 (nextS L sk (stN L sk m j)).2.1.1)∧xs[j*3+1]? =some (.int .i64 (nextS L sk (stN L sk m j)).2.1.2.1)∧xs[j*3+2]? =some (.slice A (nextS L sk (stN L sk m j)).2.1.2.2.length c)∧
  RdV W (fun g=>b0≤g∧¬F'.own g∧T.map (·.block)≠some g∧E.map (·.block)≠some g) A (nextS L sk (stN L sk m j)).2.1.2.2.length (nextS L sk (stN L sk m j)).2.1.2.2∧ys[j]? =some (.int .i64 (nextS L sk (stN L sk m j)).2.2)
theorem CoM.start(b0:Nat)(F':Fp)(L:Lb)(sk:Bool)(m:MS)(W:World):CoM b0 F' L sk m 0 none none 0 0 [] [] W:=
 ⟨World.ownsRow_nil _ _ _ _,World.ownsRow_nil _ _ _ _,fun g h=>(by cases h),fun g h=>(by cases h),fun g h=>(by cases h),fun j h=>absurd h (Nat.not_lt_zero _)⟩
theorem CoM.rows{b0 B:Nat}{F':Fp}{L:Lb}{sk:Bool}{m:MS}{k:Nat}{T E:Option Addr}{ct ce:Nat}{xs ys:List Value}{W w1:World}(h:CoM b0 F' L sk m k T E ct ce xs ys W)(hav:∀x∈F'.av,B≤x∧¬F'.own x)(hc:Chg F'.own W w1):
 w1.ownsRow b0 40 3 (.slice T k ct) k xs∧w1.ownsRow b0 26 1 (.slice E k ce) k ys:=
 ⟨owns_keep h.ho1 fun g hg hv=>hc.block g hg (hav g (h.a1 g (by rw[←own_mapblk];exact hv))).2,owns_keep h.ho2 fun g hg hv=>hc.block g hg (hav g (h.a2 g (by rw[←own_mapblk];exact hv))).2⟩
theorem app_at3{xs ys:List Value}{n j:Nat}(hl:xs.length=n):(xs++ys)[n+j]? =ys[j]? :=by
 subst hl;rw[List.getElem?_append_right (Nat.le_add_right _ _),Nat.add_sub_cancel_left]
theorem CoM.push{b0 B n1:Nat}{F':Fp}{L:Lb}{sk:Bool}{m:MS}{k:Nat}{T E A:Option Addr}{ct ce c:Nat}{xs ys:List Value}{W w1 W10 w11 W12 w13:World}{t:Stp}{er:Int}{m2:MS}{g g2 cap cap2:Nat}
 (h:CoM b0 F' L sk m k T E ct ce xs ys W) (hx:MX W B F' L sk (stN L sk m k)) (hav:∀x∈F'.av,B≤x∧¬F'.own x) (hb0:b0≤W.heap.size) (hr:nextS L sk (stN L sk m k)=(m2,t,er)) (hv:RdV w1 (fun g=>n1≤g) A t.2.2.length t.2.2) (nx:NxFin B F' L sk m2 n1 W w1)
 (hb:Below w1.heap.size w1 W10) (ho9:w11.ownsRow b0 40 3 (.slice (some ⟨g,0,none⟩) (k+1) cap) (k+1) (xs++[.int .i64 t.1,.int .i64 t.2.1,.slice A t.2.2.length c])) (hg9:W10.grownBy w11 (T.map (·.block))) (hl9:T.map (·.block)=some g∨g=W10.heap.size) (hlt9:g<w11.heap.size)
 (hb2:Below w11.heap.size w11 W12) (ho13:w13.ownsRow b0 26 1 (.slice (some ⟨g2,0,none⟩) (k+1) cap2) (k+1) (ys++[.int .i64 er])) (hg13:W12.grownBy w13 (E.map (·.block))) (hl13:E.map (·.block)=some g2∨g2=W12.heap.size) (hlt13:g2<w13.heap.size):
 ∃F2:Fp,F2.mb=F'.mb∧MX w13 B F2 L sk (stN L sk m (k+1))∧(∀x∈F2.av,B≤x∧¬F2.own x)∧(∀x∈F'.av,x∈F2.av)∧(∀x,x<W.heap.size→F2.own x→F'.own x)∧CoM b0 F2 L sk m (k+1) (some ⟨g,0,none⟩) (some ⟨g2,0,none⟩) cap cap2 (xs++[.int .i64 t.1,.int .i64 t.2.1,.slice A t.2.2.length c]) (ys++[.int .i64 er]) w13:=by
 obtain⟨hn1,F'',hlow,hmv,hmx,hch⟩:=nx;have hs1:=hch.size;have hs10:=hb.size;have hs11:=hg9.size;have hs12:=hb2.size;have hs13:=hg13.size;have hTl:∀q,T.map (·.block)=some q→b0≤q∧q<W.heap.size:=fun q hq=>own_blk h.ho1 (by rw[own_mapblk];exact hq);have hEl:∀q,E.map (·.block)=some q→b0≤q∧q<W.heap.size:=fun q hq=>own_blk h.ho2 (by rw[own_mapblk];exact hq);have hav2:=hx.hav_next hav hmv;have hst:stN L sk m (k+1)=m2:=by show(nextS L sk (stN L sk m k)).1=m2;rw[hr]
 obtain⟨av3,hx11,i3,g3,hav3⟩:=(hmx.below hb).grow hav2 hg9 (fun q hq=>by rw[hmv.av];exact h.a1 q hq) hl9 hlt9;obtain⟨av4,hx13,i4,g4,hav4⟩:=MX.grow (F:={F'' with av:=av3}) (hx11.below hb2) hav3 hg13 (fun q hq=>i3 q (by rw[hmv.av];exact h.a2 q hq)) hl13 hlt13;have k13:∀q,q<w1.heap.size→T.map (·.block)≠some q→E.map (·.block)≠some q→w13.heap[q]? =w1.heap[q]? :=fun q hq n1 n2=>
  (hg13.block q (by omega) (fun e=>n2 e.symm)).trans ((hb2.block q (by omega)).trans ((hg9.block q (by omega) (fun e=>n1 e.symm)).trans (hb.block q hq)))
 have hgT:∀q,q<w1.heap.size→T.map (·.block)≠some q→g≠q:=fun q hq hn e=>by
  subst e;rcases hl9 with e|e
  ·exact hn e
  ·omega
 have hgE:∀q,q<w1.heap.size→E.map (·.block)≠some q→g2≠q:=fun q hq hn e=>by
  subst e;rcases hl13 with e|e
  ·exact hn e
  ·omega
 have hne:g≠g2:=fun e=>by
  subst e;rcases hl9 with e1|e1<;>rcases hl13 with e2|e2
  ·exact h.ne _ e1 e2
  ·have:=(hTl _ e1).2;omega
  ·have:=(hEl _ e2).2;omega
  ·omega
 refine⟨{F'' with av:=av4},hmv.mb,by rw[hst];exact hx13,hav4,fun x hx=>i4 x (i3 x (by rw[hmv.av];exact hx)),fun x hx ho=>hmv.own x hx ho,?_,ho13,?_,?_,?_,?_⟩
 ·refine owns_keep (w:=w11) ho9 fun q hq hv'=> ?_;simp only[Value.ownBlock,Option.some.injEq]at hv';subst hv';refine(hg13.block g (by omega) fun e=> ?_).trans (hb2.block g hq);rcases hl9 with e1|e1
  ·exact h.ne _ e1 e.symm
  ·have:=(hEl _ e.symm).2;omega
 ·intro q hq;simp only[Option.map_some,Option.some.injEq]at hq;subst hq;exact i4 g g3
 ·intro q hq;simp only[Option.map_some,Option.some.injEq]at hq;subst hq;exact g4
 ·intro q hq e;simp only[Option.map_some,Option.some.injEq]at hq e;exact hne (hq.trans e.symm)
 ·intro j hj;have l1:=h.ho1.1;have l2:=h.ho2.1;by_cases hjk:j=k
  ·subst hjk;rw[hr];refine⟨A,c,?_,?_,?_,hv.keep (by omega) (fun q hq hi=>⟨by omega,fun ho=> ?_,?_,?_⟩) fun q hq hi=>k13 q hq (fun e=>by have:=(hTl q e).2;omega) (fun e=>by have:=(hEl q e).2;omega),?_⟩
   ·rw[show j*3=j*3+0 by omega,app_at3 l1];rfl
   ·rw[app_at3 l1];rfl
   ·rw[app_at3 l1];rfl
   ·have:=hlow q ho;omega
   ·simp only[Option.map_some,ne_eq,Option.some.injEq];exact hgT q hq fun e=>by have:=(hTl q e).2;omega
   ·simp only[Option.map_some,ne_eq,Option.some.injEq];exact hgE q hq fun e=>by have:=(hEl q e).2;omega
   ·rw[show j=j*1+0 by omega,app_at3 l2];rfl
  ·obtain⟨A0,c0,r1,r2,r3,r4,r5⟩:=h.rd j (by omega);refine⟨A0,c0,?_,?_,?_,RdV.keep (w:=W) r4 (by omega) (fun q hq hi=>⟨hi.1,fun ho=>hi.2.1 (hmv.own q hq ho),?_,?_⟩) fun q hq hi=>(k13 q (by omega) hi.2.2.1 hi.2.2.2).trans (hch.block q hq hi.2.1),?_⟩
   ·rw[List.getElem?_append_left (by omega)];exact r1
   ·rw[List.getElem?_append_left (by omega)];exact r2
   ·rw[List.getElem?_append_left (by omega)];exact r3
   ·simp only[Option.map_some,ne_eq,Option.some.injEq];exact hgT q (by omega) hi.2.2.1
   ·simp only[Option.map_some,ne_eq,Option.some.injEq];exact hgE q (by omega) hi.2.2.2
   ·rw[List.getElem?_append_left (by omega)];exact r5
theorem Chg.grow{O:Nat→Prop}{w0 W W3 w1:World}{v:Option Nat}(h:Chg O w0 W)(hb:Below W.heap.size W W3)(hg:W3.grownBy w1 v)(hv:∀q,v=some q→w0.heap.size≤q):Chg O w0 w1:=by
 have h1:=h.size;have h2:=hb.size;have h3:=hg.size;exact⟨hg.os.trans (hb.os.trans h.os),hg.tape.trans (hb.tape.trans h.tape),hg.output.trans (hb.output.trans h.output),by omega,fun q hq ho=>(hg.block q (by omega) (fun e=>by have:=hv q e.symm;omega)).trans ((hb.block q (by omega)).trans (h.block q hq ho))⟩
theorem Chg.bel{O:Nat→Prop}{b:Nat}{w w0 W:World}(hb:Below b w w0)(h:Chg O w0 W)(hO:∀g,O g→b≤g)(hbw:b≤w.heap.size):Below b w W:=by
 have h1:=h.size;have h2:=hb.size;exact⟨h.os.trans hb.os,h.tape.trans hb.tape,h.output.trans hb.output,by omega,fun q hq=>(h.block q (by omega) (fun ho=>by have:=hO q ho;omega)).trans (hb.block q hq)⟩
theorem Chg.step{O O':Nat→Prop}{w0 W W1:World}(h:Chg O w0 W)(k:Chg O' W W1)(hs:∀g,g<w0.heap.size→O' g→O g):Chg O w0 W1:=
 ⟨k.os.trans h.os,k.tape.trans h.tape,k.output.trans h.output,Nat.le_trans h.size k.size,fun q hq ho=>(k.block q (Nat.lt_of_lt_of_le hq h.size) fun e=>ho (hs q hq e)).trans (h.block q hq ho)⟩
theorem own_cell{w:World}{b:Nat}{e:TypeId}{s g n cap:Nat}{xs:List Value}(h:w.ownsRow b e s (.slice (some ⟨g,0,none⟩) n cap) n xs){j:Nat}{v:Value}(hj:xs[j]? =some v):w.cell? ⟨g,j,none⟩=some v:=by
 rcases h.2 with⟨q,_⟩|⟨g',cap',cur,p1,p2,p3,p4,p5,p6,p7⟩
 ·cases q
 simp only[Value.slice.injEq,Option.some.injEq,Addr.mk.injEq,true_and,and_true]at p1;obtain⟨rfl,rfl⟩:=p1;rw[cell_of_row w g j _ _ _ p3];rw[←p7,List.getElem?_take]at hj;split at hj
 ·rw[←hj,Array.getElem?_toList]
 ·cases hj
theorem infoSp:(Tryz.prog.info? 40).bind (fun i=>i.zero.map fun z=>(i.size,i.bytes,z.cells.size))=some (3,40,3):=by kernel_rfl
theorem infoSp_parts:∃(i:TypeInfo) (z:Value),Tryz.prog.info? 40=some i∧i.zero=some z∧i.size=3∧i.bytes=40∧z.cells.size=3:=by
 have h:=infoSp;rcases hi:Tryz.prog.info? 40 with _|i
 ·rw[hi]at h;cases h
 rw[hi]at h;rcases hz:i.zero with _|z
 ·simp only[Option.bind_some,hz,Option.map_none]at h;cases h
 simp only[Option.bind_some,hz,Option.map_some,Option.some.injEq,Prod.mk.injEq]at h;exact⟨i,z,rfl,hz,h.1,h.2.1,h.2.2⟩
theorem infoEr:(Tryz.prog.info? 26).bind (fun i=>i.zero.map fun z=>(i.size,i.bytes,z.cells.size))=some (1,8,1):=by kernel_rfl
theorem infoEr_parts:∃(i:TypeInfo) (z:Value),Tryz.prog.info? 26=some i∧i.zero=some z∧i.size=1∧i.bytes=8∧z.cells.size=1:=by
 have h:=infoEr;rcases hi:Tryz.prog.info? 26 with _|i
 ·rw[hi]at h;cases h
 rw[hi]at h;rcases hz:i.zero with _|z
 ·simp only[Option.bind_some,hz,Option.map_none]at h;cases h
 simp only[Option.bind_some,hz,Option.map_some,Option.some.injEq,Prod.mk.injEq]at h;exact⟨i,z,rfl,hz,h.1,h.2.1,h.2.2⟩
end Go.Proofs.YtdcjbhdfphcefaaGreatDoor
