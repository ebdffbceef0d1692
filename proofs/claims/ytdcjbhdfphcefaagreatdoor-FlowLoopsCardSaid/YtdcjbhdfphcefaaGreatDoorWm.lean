/- The contract of flow's words: a block of words. Conditions: see MX; the words read as plain data. -/
import Derived.Test.YtdcjbhdfphcefaaGreatDoorEn
set_option linter.unusedVariables false
set_option linter.unusedSimpArgs false
namespace Go.Proofs.YtdcjbhdfphcefaaGreatDoor
open Go.RowKit
theorem MX.hide{w W:World}{B:Nat}{F:Fp}{L:Lb}{sk:Bool}{m:MS}{s:Nat}(h:MX w B F L sk m)(hb:Below w.heap.size w W)(hs:w.heap.size≤s)(hs2:s<W.heap.size):MX W B {F with av:=s::F.av} L sk m:=by
 have h':=h.below hb;obtain⟨A1,A2,A3,AC,c1,c2,c3,capc,xs,hbk,hL,ho,hf,ha,hc⟩:=h.ex;obtain⟨A1',A2',A3',AC',c1',c2',c3',capc',xs',hbk',hL',ho',hf',ha',hc'⟩:=h'.ex;have hmb:=h.lt;have e:=(hb.block _ hmb).trans hbk;rw[hbk']at e;simp only[Option.some.injEq,Obj.cells.injEq,Array.mk.injEq,cellsM,List.cons.injEq,Value.slice.injEq,true_and,and_true]at e;have hxs:xs'=xs:=by
  have q:=owns_keep ho fun g hg _=>hb.block g hg;obtain⟨_,_,_,⟨e1,e2⟩⟩:=e;subst e1 e2;exact own_uniq ho' q
 refine⟨h'.mb_ge,h'.sb_ge,h'.lb_ge,h'.ne1,h'.ne2,fun x hx=> ?_,h'.tab,h'.tabB,h'.tn,h'.tnB,h'.fine,h'.sto,h'.vf,h'.pos,h'.prog,h'.steps,h'.err,h'.few,h'.calls,A1',A2',A3',AC',c1',c2',c3',capc',xs',hbk',hL',ho',hf',ha',?_⟩
 ·rcases List.mem_cons.1 hx with q|q
  ·rw[q];exact hs2
  ·exact h'.av x q
 ·rw[hxs];exact hc.keep hb.size (fun g hg hI=>⟨hI.1,fun hk=>by
   rcases List.mem_cons.1 hk with q|q
   ·omega
   ·exact hI.2 q⟩) fun g hg _=>hb.block g hg
theorem MX.keep2{w w':World}{B:Nat}{F:Fp}{L:Lb}{sk:Bool}{m:MS}{s:Nat}(h:MX w B F L sk m)(hc:Chg (fun g=>g=s) w w')(hs:s∈F.av)(hB:B≤s)(hno:¬F.own s):MX w' B F L sk m:=by
 have hlt:=h.lt;have hge:=h.mb_ge;have ko:∀g,F.own g→w'.heap[g]? =w.heap[g]? :=fun g hg=>hc.block g (h.own_ge g hg).2 fun e=>hno (by rw[←e];exact hg);have kl:∀g,g<B→w'.heap[g]? =w.heap[g]? :=fun g hg=>hc.block g (by omega) (by omega);obtain⟨A1,A2,A3,AC,c1,c2,c3,capc,xs,hb,hL,ho,hf,ha,hr⟩:=h.ex;obtain⟨t1,t2,t3⟩:=h.tab;obtain⟨n1,n2,n3⟩:=h.tn;refine⟨h.mb_ge,h.sb_ge,h.lb_ge,h.ne1,h.ne2,fun x hx=>Nat.lt_of_lt_of_le (h.av x hx) hc.size,⟨t1,t2,(kl _ h.tabB).trans t3⟩,h.tabB,⟨n1,n2,(kl _ h.tnB).trans n3⟩,h.tnB,h.fine,h.sto.keep (ko _ (.inr (.inl rfl))) (ko _ (.inr (.inr (.inl rfl)))),h.vf,h.pos,h.prog,h.steps,h.err,h.few,h.calls,A1,A2,A3,AC,c1,c2,c3,capc,xs,(ko _ (.inl rfl)).trans hb,
  hL.keep (fun p hp=>World.cell?_of_block (kl p.block hp)) (Nat.le_refl _),owns_keep ho fun g hg hv=>ko g (.inr (.inr (.inr ?_))),hf,ha,hr.keep hc.size (fun _ _ h=>h) fun g hg hI=>hc.block g hg fun e=>hI.2 (by rw[e];exact hs)⟩
 rcases AC with _|a
 ·simp[Value.ownBlock]at hv
 ·rw[←ha];simpa[Value.ownBlock]using hv
theorem MX.unhide{w:World}{B:Nat}{F:Fp}{L:Lb}{sk:Bool}{m:MS}{av:List Nat}(h:MX w B F L sk m)(hav:∀x∈av,x∈F.av):MX w B {F with av:=av} L sk m:=by
 obtain⟨A1,A2,A3,AC,c1,c2,c3,capc,xs,hb,hL,ho,hf,ha,hr⟩:=h.ex;exact⟨h.mb_ge,h.sb_ge,h.lb_ge,h.ne1,h.ne2,fun x hx=>h.av x (hav x hx),h.tab,h.tabB,h.tn,h.tnB,h.fine,h.sto,h.vf,h.pos,h.prog,h.steps,h.err,h.few,h.calls,A1,A2,A3,AC,c1,c2,c3,capc,xs,hb,hL,ho,hf,ha,
  hr.keep (Nat.le_refl _) (fun g hg hI=>⟨hI.1,fun k=>hI.2 (hav g k)⟩) fun _ _ _=>rfl⟩
theorem MX.around{w w' w'':World}{B:Nat}{F:Fp}{L:Lb}{sk:Bool}{m m':MS}{s:Nat}(h:MX w B F L sk m)(hs:w.heap.size≤s)(k:MX w' B {F with av:=s::F.av} L sk m')(hc:Chg (fun g=>g=s) w' w''):MX w'' B F L sk m':=
 (k.keep2 hc List.mem_cons_self (by have:=h.Ble;omega) (fun ho=>by have h1:F.own s:=ho;have:=(h.own_ge s h1).2;omega)).unhide (av:=F.av) fun x hx=>List.mem_cons_of_mem _ hx
theorem MP.around{w W w' w'':World}{B:Nat}{F:Fp}{L:Lb}{sk:Bool}{m m':MS}{s:Nat}(h:MX w B F L sk m)(hb:Below w.heap.size w W)(hs:w.heap.size≤s)(hs2:s<W.heap.size)(k:MP B {F with av:=s::F.av} L sk m' W w')(hc:Chg (fun g=>g=s) w' w''):MP B F L sk m' w w'':=by
 obtain⟨F',k1,k2,k3⟩:=k;have hno:¬F'.own s:=fun ho=>by
  have h1:F.own s:=k1.own s hs2 ho;have:=(h.own_ge s h1).2;omega
 have hav:F'.av=s::F.av:=k1.av;have q:=(k2.keep2 hc (by rw[hav];exact List.mem_cons_self) (by have:=h.Ble;omega) hno).unhide (av:=F.av) (fun x hx=>by rw[hav];exact List.mem_cons_of_mem _ hx);refine⟨{F' with av:=F.av},⟨k1.mb,k1.sb,rfl,?_,?_⟩,q,⟨(hc.os.trans k3.os).trans hb.os,(hc.tape.trans k3.tape).trans hb.tape,(hc.output.trans k3.output).trans hb.output,Nat.le_trans hb.size (Nat.le_trans k3.size hc.size),fun g hg ho=> ?_⟩⟩
 ·rcases k1.lb with e|e
  ·exact .inl e
  ·exact .inr (Nat.le_trans hb.size e)
 ·rcases k1.ac with e|⟨g,e,e2⟩
  ·exact .inl e
  ·exact .inr ⟨g,e,Nat.le_trans hb.size e2⟩
 ·have h1:=Nat.lt_of_lt_of_le hg hb.size;exact((hc.block g (Nat.lt_of_lt_of_le h1 k3.size) (by omega)).trans (k3.block g h1 fun hk=>ho hk)).trans (hb.block g hg)
theorem chg_put{w:World}{s:Nat}(a b c:Value):Chg (fun g=>g=s) w (((w.setCell ⟨s,0,none⟩ a).setCell ⟨s,1,none⟩ b).setCell ⟨s,2,none⟩ c):=((chg_set w s 0 a (fun g=>g=s) rfl).trans (chg_set _ s 1 b (fun g=>g=s) rfl)).trans (chg_set _ s 2 c (fun g=>g=s) rfl)
def StpV(w':World)(n0:Nat)(o:Option (Int×List (Int×Int)))(v:Value):Prop:=
 match o with
 |none=>v=.agg #[.int .i64 0,.int .i64 0,.slice none 0 0]
 |some (p,l)=>∃(A:Option Addr) (c:Nat),v=.agg #[.int .i64 1,.int .i64 p,.slice A l.length c]∧RdV w' (fun g=>n0≤g) A l.length l∧l.length≤1000
def WoPost(B:Nat)(F:Fp)(L:Lb)(sk:Bool)(m:MS)(r:MS×Option (List (Int×Int))×Int)(w:World)(e:Ending)(w':World):Prop:=
 ∃v,e=.returned (.tuple #[v,.bool r.2.1.isSome,.int .i64 r.2.2])∧StpV w' w.heap.size (r.2.1.map fun l=>(m.pos,l)) v∧MP B F L sk r.1 w w'∧(r.2.1.isSome=true→MX w' B F L sk r.1)
theorem WoPost.no{B:Nat}{F:Fp}{L:Lb}{sk:Bool}{m m':MS}{r:MS×Option (List (Int×Int))×Int}{w w':World}{er:Int}(he:r=(m',none,er))(h:MP B F L sk m' w w'):WoPost B F L sk m r w (.returned (.tuple #[.agg #[.int .i64 0,.int .i64 0,.slice none 0 0],.bool false,.int .i64 er])) w':=
 ⟨_,by rw[he];rfl,by rw[he];rfl,by rw[he];exact h,fun q=>by rw[he]at q;cases q⟩
def ctlC(c:Int)(p:Int×Int)(v:Int×Int):Int×Int:=if(if c=65 then isC v 71 65 else isC v 77 c)then(p.1+1,c)else p
theorem ctl1_eq(p v:Int×Int):ctl1 p v=ctlC 99 (ctlC 98 (ctlC 65 p v) v) v:=by
 unfold ctl1 ctlC;rcases h1:isC v 71 65 with _|_
 ·rcases h2:isC v 77 98 with _|_
  ·rcases h3:isC v 77 99 with _|_<;>simp[h1,h2,h3]
  ·rcases h3:isC v 77 99 with _|_
   ·simp[h1,h2,h3]
   ·unfold isC at h2 h3;simp at h2 h3;omega
 ·have h2:isC v 77 98=false:=by unfold isC at h1⊢;simp at h1⊢;omega
  have h3:isC v 77 99=false:=by unfold isC at h1⊢;simp at h1⊢;omega
  simp[h1,h2,h3]
theorem ctl1_bd(p v:Int×Int):p.1≤(ctl1 p v).1∧(ctl1 p v).1≤p.1+1:=by
 unfold ctl1;split
 ·dsimp only;omega
 split
 ·dsimp only;omega
 split
 ·dsimp only;omega
 ·omega
theorem ctl_bd:∀(l:List (Int×Int)) (p:Int×Int),p.1≤(l.foldl ctl1 p).1∧(l.foldl ctl1 p).1≤p.1+l.length:=by
 intro l;induction l with
 |nil=>intro p;simp
 |cons x r ih=>
  intro p;rw[List.foldl_cons,List.length_cons];have:=ctl1_bd p x;have:=ih (ctl1 p x);omega
theorem ctlS_app(l:List (Int×Int))(v:Int×Int):ctlS (l++[v])=ctl1 (ctlS l) v:=by unfold ctlS;simp
theorem EvalS_i64{σ:Sto}(h:σ.vf)(x:Tr):I64 (EvalS (getS σ.f) x).1:=by
 unfold EvalS;split
 ·rename_i hr;have:=eval_sml (V:=getS σ.f) (fun n=>by
   unfold getS
   split
   ·have:=h.f n;unfold Sml;dsimp only;omega
   ·unfold Sml;dsimp only;omega) x 16 hr
  unfold Sml at this;unfold I64;omega
 ·unfold I64;dsimp only;omega
theorem vi_nil:Vi []:=fun x hx=>by cases hx
theorem Rd.shape{w:World}{B:Nat}{t:Tr}{x y z:Value}(h:Rd w B t (.agg #[x,y,z])):∃(o n:Int) (A:Option Addr) (k c:Nat),x=.int .i64 o∧y=.int .i64 n∧z=.slice A k c:=by
 rcases t with _|⟨op,n,k,kid⟩
 ·exact h.elim
 obtain⟨A,c,h1,_⟩:=h;simp at h1;exact⟨_,_,_,_,_,h1.1,h1.2.1,h1.2.2⟩
theorem results_cell3{fn:Func}{p u v:Tmp}{ty:TypeId}(h:fn.results= #[.cell p ty,.tmp u,.tmp v])(tmps:Array Value)(w:World)(g:Nat)(t:TypeId)(cs:Array Value)(fr:Nat×Nat)(fs:Array Field)
 (hp:tmps.getD p undef=.pointer (some ⟨g,0,none⟩)) (hg:w.heap[g]? =some (.cells cs t fr))
 (hu:Tryz.prog.underlying ty=some (.struct fs)) (hi:(Tryz.prog.info? ty).map (·.size)=some cs.size):
 (results fn tmps).run Tryz.prog w=.ok (.tuple #[.agg cs,tmps.getD u undef,tmps.getD v undef]) w:=by
 have hp':tmps[p]?.getD undef=.pointer (some ⟨g,0,none⟩):=by simpa using hp
 simp[results,h,hp',asAddr,run_loadVar_row w g t ty cs fr (.struct fs) hg hu rfl hi]
theorem infoStep:(Tryz.prog.info? 40).map (·.size)=some 3:=by kernel_rfl
theorem step_put{w:World}{g:Nat}{x y z a b c:Value}(h:w.heap[g]? =some (.cells #[x,y,z] 40 (0,0))):(((w.setCell ⟨g,0,none⟩ a).setCell ⟨g,1,none⟩ b).setCell ⟨g,2,none⟩ c).heap[g]? =some (.cells #[a,b,c] 40 (0,0)):=heap_set (heap_set (heap_set h))
theorem below_put{B:Nat}{w w':World}{g:Nat}(a b c:Value)(h:Below B w w')(hg:B≤g):Below B w (((w'.setCell ⟨g,0,none⟩ a).setCell ⟨g,1,none⟩ b).setCell ⟨g,2,none⟩ c):=((h.setCell hg _).setCell hg _).setCell hg _
def stepZ:Array Value:= #[.int .i64 0,.int .i64 0,.slice none 0 0]
def WoRel(w:World)(f:Int→Int)(ws:List (Int×Tr))(vv cv kv iv:Value)(W:World):Prop:=
 ∃(k cap:Nat) (C:Option Addr) (acc:List (Int×Int)),k≤ws.length∧acc.length=k∧iv=.int .i64 (k:Int)∧vv=.slice C k cap∧cv=.int .i64 (ctlS acc).1∧kv=.int .i64 (ctlS acc).2∧Vi acc∧
  valsS f ws=(if(valsS f (ws.drop k)).2≠0 then([],(valsS f (ws.drop k)).2)else(acc++(valsS f (ws.drop k)).1,0))∧
  W.ownsRow (w.heap.size+1) 59 2 (.slice C k cap) k (pairs acc)∧Below w.heap.size w W∧W.heap[w.heap.size]? =some (.cells stepZ 40 (0,0))
def pj(p v:Int×Int):Nat→Int×Int
 |0=>p
 |1=>ctlC 65 p v
 |2=>ctlC 98 (ctlC 65 p v) v
 |_=>ctlC 99 (ctlC 98 (ctlC 65 p v) v) v
theorem ix0(w:World):(Instr.index 145 (.agg #[.int .i64 65,.int .i64 98,.int .i64 99]) (.int .i64 0)).run Tryz.prog w=.ok (.int .i64 65) w:=by
 simp[Instr.index,run_underlying Tryz.underlying145,asIntOf,part,go_sem]
theorem ix1(w:World):(Instr.index 145 (.agg #[.int .i64 65,.int .i64 98,.int .i64 99]) (.int .i64 1)).run Tryz.prog w=.ok (.int .i64 98) w:=by
 simp[Instr.index,run_underlying Tryz.underlying145,asIntOf,part,go_sem]
theorem ix2(w:World):(Instr.index 145 (.agg #[.int .i64 65,.int .i64 98,.int .i64 99]) (.int .i64 2)).run Tryz.prog w=.ok (.int .i64 99) w:=by
 simp[Instr.index,run_underlying Tryz.underlying145,asIntOf,part,go_sem]
def WcRel(w9:World)(p v:Int×Int)(cv kv jv:Value)(W:World):Prop:=
 ∃(j:Nat) (q1 q2:Int),j≤3∧jv=.int .i64 (j:Int)∧cv=.int .i64 q1∧kv=.int .i64 q2∧pj p v j=(q1,q2)∧p.1≤q1∧q1≤p.1+j∧Below w9.heap.size w9 W
def endV(v:Int×Int):Bool:=isC v 77 2||isC v 77 30
def EdRel(W1:World)(B:Nat)(F F0:Fp)(L:Lb)(sk:Bool)(m:MS)(acc:List (Int×Int))(n:Nat)(iv:Value)(W:World):Prop:=
 ∃j:Nat,j≤n∧iv=.int .i64 (j:Int)∧MX W B F L sk {m with pos:=m.pos+1,ended:=m.ended||(acc.take j).any endV}∧Chg (fun g=>g=F0.mb) W1 W
theorem valsS_err{f:Int→Int}:∀{ws:List (Int×Tr)} {a:List (Int×Int)} {b:Int},valsS f ws=(a,b)→b≠0→a=[]:=by
 intro ws;induction ws with
 |nil=>intro a b h hb;simp[valsS]at h;omega
 |cons x r ih=>
  intro a b h hb;rw[valsS]at h;split at h
  ·exact(Prod.mk.inj h).1.symm
  split at h
  ·exact(Prod.mk.inj h).1.symm
  ·have:=(Prod.mk.inj h).2;omega
set_option maxRecDepth 100000 in
set_option maxHeartbeats 4000000 in
theorem words_any(w:World)(B:Nat)(F:Fp)(L:Lb)(sk:Bool)(m:MS)(A:Option Addr)(n c:Nat)(ws:List (Int×Tr))(h:MX w B F L sk m)(hr:RdW w B A n ws)(hp:0≤m.pos∧m.pos≤1000000)(hlen:ws.length≤1000):
 Calls Tryz.prog 65 #[.pointer (some ⟨F.mb,0,none⟩),.slice A n c] w (WoPost B F L sk m (wordsM L m ws) w):=by
 obtain⟨i0,z0,hi,hz0,hz1,hz2,hzs⟩:=val_info;have HX:=Lib.hid h;obtain⟨hn1,hn2,hvb,hvc⟩:=hr;have HVC:=Lib.hid hvc;have HVB:=Lib.hid hvb;have HEV:=Lib.hid (fun x v hr W hW=>h.eval x v hr W hW);have HI64:=Lib.hid (fun x=>EvalS_i64 h.vf x);obtain⟨A1,A2,A3,AC,c1,c2,c3,capc,xs,⟨-,-,-,-,-,d5,-,d7,-,d9,-⟩,-,-,-,-,hfr⟩:=h.cells;have hmb:=h.lt;have hBle:=h.Ble;have D5:=Lib.hid d5;have D7:=Lib.hid d7;have D9:=Lib.hid d9;have HFR:=Lib.hid hfr;clear h hvc hvb d5 d7 d9 hfr;subst hn1;have hmk:∀w':World,(Instr.makeSlice 38 (.int .i64 0) (.int .i64 ((ws.length:Nat):Int))).run Tryz.prog w'=.ok (.slice (some ⟨w'.heap.size,0,none⟩) 0 ws.length) (w'.alloc (.cells (madeCells z0.cells (ws.length*2)) 59)):=fun w'=>by
  have q:=run_make (P:=Tryz.prog) w' 38 59 i0 z0 Tryz.underlying38 hi hz0 .i64 .i64 0 ws.length (by omega) (by omega) (by rw[hz2];omega) (by omega);rw[hz1,Int.toNat_natCast]at q;exact q
 have hmz:=size_madeCells z0.cells (ws.length*2);generalize madeCells z0.cells (ws.length*2)=mz at*
 have HMZ:=Lib.hid hmz;have HI:=Lib.hid hi;clear hmz;go_enter Tryz.func65,Tryz.ntmps65;go_wp2_with fail;go_loopw[7,8,9,25] (WoRel w m.sto.f ws) (fun _ _ _ i _=>ws.length-(intOf i).toNat)
 case atStart=>
  refine⟨0,ws.length,some ⟨w.heap.size+1,0,none⟩,[],Nat.zero_le _,rfl,rfl,rfl,rfl,rfl,vi_nil,?_,?_,((Below.refl _ _).alloc (Nat.le_refl _) _).alloc (by simp) _,?_⟩
  ·rw[List.drop_zero,List.nil_append];rcases hv:valsS m.sto.f ws with⟨a,b⟩
   split
   ·rename_i hb;have:=valsS_err hv hb;rw[this]
   ·rename_i hb;have:b=0:=by simpa using hb
    rw[this]
  ·refine⟨rfl,.inr ⟨w.heap.size+1,ws.length,mz,rfl,Nat.le_refl _,?_,Nat.zero_le _,by unfold maxLen;omega,HMZ.out,rfl⟩⟩;have:=heap_alloc_new (w.alloc (.cells stepZ 40)) (.cells mz 59);simpa[stepZ]using this
  ·exact(Below.heap_alloc _ _ _ (by simp)).trans (heap_alloc_new w _)
 case round=>
  obtain⟨k,cap,C,acc,hk,hacl,rfl,rfl,rfl,rfl,hvi,hval,hown,hnx,hst⟩:=hrel;have hsize:=hnx.size;have HN:=Lib.hid hnx;have HO:=Lib.hid hown;have HVAL:=Lib.hid hval;have HVI:=Lib.hid hvi;have HACL:=Lib.hid hacl;have HST:=Lib.hid hst;have hstl:=hlS hst;have hmbr:F.mb<wr.heap.size:=Nat.lt_of_lt_of_le hmb hsize;have r7:=(HN.out.cell (p:=⟨F.mb,7,none⟩) hmb).trans D7.out;have s0:wr.cell? ⟨w.heap.size,0,none⟩=some (.int .i64 0):=cell_of_row wr _ 0 _ _ _ hst;have s1:wr.cell? ⟨w.heap.size,1,none⟩=some (.int .i64 0):=cell_of_row wr _ 1 _ _ _ hst;have s2:wr.cell? ⟨w.heap.size,2,none⟩=some (.slice none 0 0):=cell_of_row wr _ 2 _ _ _ hst;have sf:∀i,wr.frozen? ⟨w.heap.size,i,none⟩=false:=fun i=>by simp[World.frozen?,hst]
  clear hnx hown hval hvi hst hacl;by_cases hlt:k<ws.length
  ·obtain⟨ab,off,rfl,hab,hc⟩:=HVC.out (by omega);obtain⟨⟨cc,x⟩,hx⟩:∃x,ws[k]? =some x:=⟨_,List.getElem?_eq_getElem hlt⟩;obtain⟨q0,x0,x1,x2,q1,q2,q3,hrd⟩:=hc k _ hx;dsimp only at q0 q1 q2 q3 hrd;obtain⟨xo,xn,xA,xk,xc,rfl,rfl,rfl⟩:=hrd.shape;have habr:ab<w.heap.size:=by omega
   have e0:=(HN.out.cell (p:=⟨ab,off+k*4,none⟩) habr).trans q0;have e1:wr.cell? ⟨ab,off+k*4+1,none⟩=some (.int .i64 xo):=(HN.out.cell (p:=⟨ab,off+k*4+1,none⟩) habr).trans q1;have e2:wr.cell? ⟨ab,off+k*4+2,none⟩=some (.int .i64 xn):=(HN.out.cell (p:=⟨ab,off+k*4+2,none⟩) habr).trans q2;have e3:wr.cell? ⟨ab,off+k*4+3,none⟩=some (.slice xA xk xc):=(HN.out.cell (p:=⟨ab,off+k*4+3,none⟩) habr).trans q3;have HX1:=Lib.hid hx;have HBC:=Lib.hid (HVB.out _ (List.mem_of_getElem? hx));have HEX:=Lib.hid (HEV.out x _ hrd);clear hc hx q0 q1 q2 q3 hrd;obtain⟨W1,hW1⟩:∃W1,W1=wr.alloc (.cells #[.int .i64 cc,(.int .i64 xo),(.int .i64 xn),(.slice xA xk xc)] 57):=⟨_,rfl⟩;have HB1:Hid (Below w.heap.size w W1):=by unfold Hid;rw[hW1];exact HN.out.alloc hsize _
   have hbx:W1.heap[wr.heap.size]? =some (.cells #[.int .i64 cc,(.int .i64 xo),(.int .i64 xn),(.slice xA xk xc)] 57 (0,0)):=by rw[hW1];exact heap_alloc_new _ _
   have b1:W1.cell? ⟨wr.heap.size,1,none⟩=some (.int .i64 xo):=cell_of_row W1 _ 1 _ _ _ hbx;have b2:W1.cell? ⟨wr.heap.size,2,none⟩=some (.int .i64 xn):=cell_of_row W1 _ 2 _ _ _ hbx;have b3:W1.cell? ⟨wr.heap.size,3,none⟩=some (.slice xA xk xc):=cell_of_row W1 _ 3 _ _ _ hbx;have b0:W1.cell? ⟨wr.heap.size,0,none⟩=some (.int .i64 cc):=cell_of_row W1 _ 0 _ _ _ hbx;have b7:W1.cell? ⟨F.mb,7,none⟩=some (.pointer (some ⟨F.sb,0,none⟩)):=(HB1.out.cell (p:=⟨F.mb,7,none⟩) hmb).trans D7.out;have HW1:Hid (wr.heap.size<W1.heap.size):=hlS hbx;have HMB:Hid (F.mb<W1.heap.size):=Nat.lt_of_lt_of_le hmb HB1.out.size;have HBR:Hid (Below wr.heap.size wr W1):=by unfold Hid;rw[hW1];exact(Below.refl _ _).alloc (Nat.le_refl _) _
   have HB0:=Lib.hid b0;generalize hE:EvalS (getS m.sto.f) x=ev at HEX;obtain⟨nv,er⟩:=ev;have HE:=Lib.hid hE;have HNV:Hid (I64 nv):=by have:=HI64.out x;rw[hE]at this;exact this
   clear hE b0 hbx;go_wp2_with fail;rw[←hW1];clear hW1;go_region_held3(fun W=>W.cell? ⟨wr.heap.size,1,none⟩=some (.int .i64 xo)∧W.cell? ⟨wr.heap.size,2,none⟩=some (.int .i64 xn)∧W.cell? ⟨wr.heap.size,3,none⟩=some (.slice xA xk xc)∧W.cell? ⟨F.mb,7,none⟩=some (.pointer (some ⟨F.sb,0,none⟩))) (first|exact⟨b1,b2,b3,b7⟩|exact⟨(HN2.out.cell (p:=⟨wr.heap.size,1,none⟩) HW1.out).trans b1,(HN2.out.cell (p:=⟨wr.heap.size,2,none⟩) HW1.out).trans b2,(HN2.out.cell (p:=⟨wr.heap.size,3,none⟩) HW1.out).trans b3,(HN2.out.cell (p:=⟨F.mb,7,none⟩) HMB.out).trans b7⟩|fail) (first|(go_at_call 62;refine(HEX.out _ (below_dn HB1.out 1)).mono ?_;rintro e w2 ⟨rfl,hb2⟩;have HN2:Hid (Below W1.heap.size W1 w2):=⟨hb2.os,hb2.tape,hb2.output,hb2.size,hb2.block⟩;clear hb2));clear b1 b2 b3 b7 r7 s0 s1 s2 sf e0 e1 e2 e3;have HB2:=Lib.hid (HB1.out.trans (HN2.out.mono HB1.out.size));have HBR2:=Lib.hid (HBR.out.trans (HN2.out.mono HBR.out.size));have hst2:=(HBR2.out.block _ hstl).trans HST.out;have s0:w2.cell? ⟨w.heap.size,0,none⟩=some (.int .i64 0):=cell_of_row w2 _ 0 _ _ _ hst2;have s1:w2.cell? ⟨w.heap.size,1,none⟩=some (.int .i64 0):=cell_of_row w2 _ 1 _ _ _ hst2;have s2:w2.cell? ⟨w.heap.size,2,none⟩=some (.slice none 0 0):=cell_of_row w2 _ 2 _ _ _ hst2;have sf:∀i,w2.frozen? ⟨w.heap.size,i,none⟩=false:=fun i=>by simp[World.frozen?,hst2]
   have HST2:=Lib.hid hst2;clear hst2;by_cases he:er=0
   case neg=>
    have he':(er !=0)=true:=by simpa using he
    have EJ:Hid (wordsM L m ws=(m,none,er)):=by
     unfold Hid wordsM;have e1:valsS m.sto.f (ws.drop k)=([],er):=by rw[drop_at HX1.out,valsS,HE.out];simp[he]
     have e2:=HVAL.out;rw[e1]at e2;simp[he]at e2;rw[e2];simp[he]
    clear he;go_wp2_with fail;refine bodyPost_ret (results_cell3 rfl _ _ w.heap.size _ _ _ _ rfl (step_put HST2.out) Tryz.underlying40 infoStep) rfl ?_;exact WoPost.no EJ.out (MP.below HX.out (below_put _ _ _ HB2.out (Nat.le_refl _)))
   have he':(er !=0)=false:=by simpa using he
   subst he;have hvl:valsS m.sto.f (ws.drop k)=if(valsS m.sto.f (ws.drop (k+1))).2≠0 then([],(valsS m.sto.f (ws.drop (k+1))).2)else((cc,nv)::(valsS m.sto.f (ws.drop (k+1))).1,0):=by
    rw[drop_at HX1.out,valsS,HE.out];simp
   have HVL:Hid (valsS m.sto.f ws=(if(valsS m.sto.f (ws.drop (k+1))).2≠0 then([],(valsS m.sto.f (ws.drop (k+1))).2)else((acc++[(cc,nv)])++(valsS m.sto.f (ws.drop (k+1))).1,0))):=by
    unfold Hid;rw[HVAL.out,hvl];by_cases hz:(valsS m.sto.f (ws.drop (k+1))).2=0
    ·simp[hz]
    ·simp[hz]
   have HVI2:Hid (Vi (acc++[(cc,nv)])):=by
    intro y hy;rcases List.mem_append.1 hy with q|q
    ·exact HVI.out y q
    ·rw[List.mem_singleton.1 q];exact⟨HBC.out,HNV.out⟩
   clear hvl;have hB2s:=HB2.out.size;have b0:=(HN2.out.cell (p:=⟨wr.heap.size,0,none⟩) HW1.out).trans HB0.out;have HOW2:Hid (w2.ownsRow (w.heap.size+1) 59 2 (.slice C k cap) k (pairs acc)):=owns_keep HO.out fun g hg _=>HBR2.out.block g hg;go_wp2_with(first|(at_builtin;refine wpList_append_lies _ rfl (.tmp 47) (.tmp 49) 38 rfl (w.heap.size+1) 59 i0 z0 2 16 Tryz.underlying38 HI.out hz0 hz1 hz2 hzs (by omega) (.slice C k cap) k (pairs acc) rfl ((HOW2.out.alloc _).alloc _) ⟨w2.heap.size+1,0,none⟩ 1 1 [.int .i64 cc,.int .i64 nv] rfl rfl (two_new2 _ _ _ _ _) (one2 _ _ _ _) (by omega) (by unfold maxLen;omega) (by omega) (by simp;omega) _ rfl ?_;intro g9 c9 w9 ho9 hg9 hl9 hlt9;have HO9:=Lib.hid ho9;have HG9:=Lib.hid hg9;have HLT9:=Lib.hid hlt9;clear ho9 hg9 hl9 hlt9));have HRW:Hid (∀j,(Value.slice C k cap).ownBlock=some j→w.heap.size+1≤j∧j<w2.heap.size):=HOW2.out.lt;have HB9:Hid (Below w.heap.size w w9):=((HB2.out.alloc hB2s _).alloc (by simp;omega) _).grown HG9.out (by simp;omega) (fun j hj=>by have:=(HRW.out j hj).1;omega);have hv9:w9.heap[w2.heap.size]? =some (.cells #[.int .i64 cc,.int .i64 nv] 59 (0,0)):=
    (HG9.out.block w2.heap.size (by simp;omega) (fun e=>by have:=(HRW.out _ e.symm).2;omega)).trans ((Below.heap_alloc _ _ _ (by simp)).trans (heap_alloc_new w2 _))
   have hst2l:w.heap.size<w2.heap.size:=Nat.lt_of_lt_of_le hstl HBR2.out.size;have hst9:w9.heap[w.heap.size]? =some (.cells stepZ 40 (0,0)):=
    (HG9.out.block w.heap.size (by simp;omega) (fun e=>by have:=(HRW.out _ e.symm).1;omega)).trans ((Below.heap_alloc _ _ _ (by simp;omega)).trans ((Below.heap_alloc w2 _ _ (by omega)).trans HST2.out))
   have HV9:=Lib.hid hv9;have HST9:=Lib.hid hst9;have hv9l:=hlS hv9;have hst9l:=hlS hst9;have hcb:=ctl_bd acc (0,0);have HCTL:Hid (ctlS acc=acc.foldl ctl1 (0,0)):=rfl;have hcb1:0≤(ctlS acc).1∧(ctlS acc).1≤1000:=by have:=HACL.out;rw[HCTL.out];dsimp only at hcb;omega
   clear hcb s0 s1 s2 sf b0 hv9 hst9;have HC3:Hid (ctlS (acc++[(cc,nv)])=pj (ctlS acc) (cc,nv) 3):=by unfold Hid;rw[ctlS_app,ctl1_eq];rfl
   generalize ctlS acc=p0 at*
   obtain⟨pa,pb⟩:=p0;dsimp only at*
   go_loopw[8,9,52] (WcRel w9 (pa,pb) (cc,nv)) (fun _ _ j _=>3-(intOf j).toNat)
   case atStart=>exact⟨0,pa,pb,by omega,rfl,rfl,rfl,rfl,by simp,by simp,Below.refl _ _⟩
   case round=>
    obtain⟨j,qa,qb,hj,rfl,rfl,rfl,hpj,hq1,hq2,hb⟩:=hrel;have HPJ:=Lib.hid hpj;have HBJ:=Lib.hid hb;have v0:=(hb.cell (p:=⟨w2.heap.size,0,none⟩) hv9l).trans (cell_of_row w9 _ 0 _ _ _ HV9.out);have v1:=(hb.cell (p:=⟨w2.heap.size,1,none⟩) hv9l).trans (cell_of_row w9 _ 1 _ _ _ HV9.out);simp only[List.getElem?_toArray]at v0 v1;clear hpj hb;by_cases hj3:j<3
    ·have hjc:j=0∨j=1∨j=2:=by omega
     rcases hjc with rfl|rfl|rfl
     ·have E:Hid (pj (pa,pb) (cc,nv) 1=if isC (cc,nv) 71 65 then(qa+1,65)else(qa,qb)):=by
       unfold Hid;have q:=HPJ.out;show ctlC 65 (pa,pb) (cc,nv)=_;cases q;unfold ctlC;simp
      have HIS:=Lib.hid (fun W=>is_any cc nv 71 65 W (by omega));have hix:=fun w=>ix0 w;rcases hr:isC (cc,nv) 71 65 with _|_
      all_goals
       rw[hr]at E HIS;clear hr;go_wp2_with(go_at_call 95;refine(HIS.out _).mono ?_;rintro e w' ⟨rfl,hb'⟩;have HB':=Lib.hid hb';clear hb')
      ·exact⟨⟨1,qa,qb,by omega,by go_num,rfl,rfl,by rw[E.out];simp,by omega,by omega,HBJ.out.trans (HB'.out.mono HBJ.out.size)⟩,by simp only[intOf];omega⟩
      ·exact⟨⟨1,qa+1,65,by omega,by go_num,by go_num,rfl,by rw[E.out];simp,by omega,by omega,HBJ.out.trans (HB'.out.mono HBJ.out.size)⟩,by simp only[intOf];omega⟩
     ·have E:Hid (pj (pa,pb) (cc,nv) 2=if isC (cc,nv) 77 98 then(qa+1,98)else(qa,qb)):=by
       unfold Hid;have q:=HPJ.out;show ctlC 98 (pj (pa,pb) (cc,nv) 1) (cc,nv)=_;rw[q];unfold ctlC;simp
      have HIS:=Lib.hid (fun W=>is_any cc nv 77 98 W (by omega));have hix:=fun w=>ix1 w;rcases hr:isC (cc,nv) 77 98 with _|_
      all_goals
       rw[hr]at E HIS;clear hr;go_wp2_with(go_at_call 95;refine(HIS.out _).mono ?_;rintro e w' ⟨rfl,hb'⟩;have HB':=Lib.hid hb';clear hb')
      ·exact⟨⟨2,qa,qb,by omega,by go_num,rfl,rfl,by rw[E.out];simp,by omega,by omega,HBJ.out.trans (HB'.out.mono HBJ.out.size)⟩,by simp only[intOf];omega⟩
      ·exact⟨⟨2,qa+1,98,by omega,by go_num,by go_num,rfl,by rw[E.out];simp,by omega,by omega,HBJ.out.trans (HB'.out.mono HBJ.out.size)⟩,by simp only[intOf];omega⟩
     ·have E:Hid (pj (pa,pb) (cc,nv) 3=if isC (cc,nv) 77 99 then(qa+1,99)else(qa,qb)):=by
       unfold Hid;have q:=HPJ.out;show ctlC 99 (pj (pa,pb) (cc,nv) 2) (cc,nv)=_;rw[q];unfold ctlC;simp
      have HIS:=Lib.hid (fun W=>is_any cc nv 77 99 W (by omega));have hix:=fun w=>ix2 w;rcases hr:isC (cc,nv) 77 99 with _|_
      all_goals
       rw[hr]at E HIS;clear hr;go_wp2_with(go_at_call 95;refine(HIS.out _).mono ?_;rintro e w' ⟨rfl,hb'⟩;have HB':=Lib.hid hb';clear hb')
      ·exact⟨⟨3,qa,qb,by omega,by go_num,rfl,rfl,by rw[E.out];simp,by omega,by omega,HBJ.out.trans (HB'.out.mono HBJ.out.size)⟩,by simp only[intOf];omega⟩
      ·exact⟨⟨3,qa+1,99,by omega,by go_num,by go_num,rfl,by rw[E.out];simp,by omega,by omega,HBJ.out.trans (HB'.out.mono HBJ.out.size)⟩,by simp only[intOf];omega⟩
    ·obtain rfl:j=3:=by omega
     have E3:Hid (ctlS (acc++[(cc,nv)])=(qa,qb)):=by unfold Hid;rw[HC3.out];exact HPJ.out
     go_wp2_with fail;exact⟨⟨k+1,c9,some ⟨g9,0,none⟩,acc++[(cc,nv)],by omega,by rw[List.length_append,HACL.out];rfl,by go_num,rfl,by rw[E3.out],by rw[E3.out],HVI2.out,HVL.out,by
      have q:=owns_keep HO9.out fun g hg _=>HBJ.out.block g hg
      rw[pairs_app]
      exact q,HB9.out.trans (HBJ.out.mono HB9.out.size),(HBJ.out.block _ hst9l).trans HST9.out⟩,by simp only[intOf];omega⟩
  ·have hke:k=ws.length:=by omega
   subst hke;obtain⟨wq,hwq⟩:∃wq,wq=wr:=⟨_,rfl⟩;subst hwq;have HVALS:Hid (valsS m.sto.f ws=(acc,0)):=by
    unfold Hid;rw[HVAL.out,List.drop_length];simp[valsS]
   have HCT:=Lib.hid (rfl:ctlS acc=ctlS acc);generalize hct:ctlS acc=ct at*
   obtain⟨qa,qb⟩:=ct;have HCT2:=Lib.hid hct;dsimp only at*
   have HXr:=Lib.hid (HX.out.hide (s:=w.heap.size) HN.out (Nat.le_refl _) hstl);have HNO:Hid (∀F':Fp,Mv wq {F with av:=w.heap.size::F.av} F'→¬F'.own w.heap.size):=fun F' hm ho=>by
    have h1:F.own w.heap.size:=hm.own _ hstl ho;have:=(HX.out.own_ge _ h1).2;omega
   clear HCT hct;by_cases c1':1<qa
   ·have g1:decide (qa>1)=true:=decide_eq_true c1';have EJ:Hid (wordsM L m ws=(m,none,8)):=by unfold Hid wordsM;rw[HVALS.out];simp[HCT2.out,c1']
    clear c1';go_wp2_with fail;refine bodyPost_ret (results_cell3 rfl _ _ w.heap.size _ _ _ _ rfl (step_put HST.out) Tryz.underlying40 infoStep) rfl ?_;exact WoPost.no EJ.out (MP.below HX.out (below_put _ _ _ HN.out (Nat.le_refl _)))
   have g1:decide (qa>1)=false:=decide_eq_false c1';by_cases c2':qb=99
   ·subst c2';by_cases c3':1<ws.length
    ·have g3:decide ((ws.length:Int)>1)=true:=decide_eq_true (by omega);have g3':decide (ws.length>1)=true:=decide_eq_true (by omega);have EJ:Hid (wordsM L m ws=(m,none,8)):=by unfold Hid wordsM;rw[HVALS.out];simp[HCT2.out,c1',HACL.out,c3']
     clear c1' c3';go_wp2_with fail;refine bodyPost_ret (results_cell3 rfl _ _ w.heap.size _ _ _ _ rfl (step_put HST.out) Tryz.underlying40 infoStep) rfl ?_;exact WoPost.no EJ.out (MP.below HX.out (below_put _ _ _ HN.out (Nat.le_refl _)))
    ·have g3:decide ((ws.length:Int)>1)=false:=decide_eq_false (by omega);have g3':decide (ws.length>1)=false:=decide_eq_false (by omega);have EJ:Hid (wordsM L m ws=((leaveM L m).1,none,(leaveM L m).2)):=by
      unfold Hid wordsM;rw[HVALS.out];simp[HCT2.out,c1',HACL.out];intro h;exact absurd h c3'
     have HLV:Hid (Calls Tryz.prog 38 #[.pointer (some ⟨F.mb,0,none⟩)] wq (LvPost B {F with av:=w.heap.size::F.av} L sk m wq)):=leave_any wq B {F with av:=w.heap.size::F.av} L sk m HXr.out;clear c1' c3';go_wp2_with(go_at_call 38;refine HLV.out.mono ?_;rintro e w3 ⟨rfl,hmp⟩;have HMP:=Lib.hid hmp;have hst3:w3.heap[w.heap.size]? =some (.cells stepZ 40 (0,0)):=(by obtain⟨F',k1,k2,k3⟩:=hmp;exact(k3.block _ hstl (HNO.out _ (Mv.refl _ _))).trans HST.out);have HST3:=Lib.hid hst3;have u0:w3.cell? ⟨w.heap.size,0,none⟩=some (.int .i64 0):=cell_of_row w3 _ 0 _ _ _ hst3;have u1:w3.cell? ⟨w.heap.size,1,none⟩=some (.int .i64 0):=cell_of_row w3 _ 1 _ _ _ hst3;have u2:w3.cell? ⟨w.heap.size,2,none⟩=some (.slice none 0 0):=cell_of_row w3 _ 2 _ _ _ hst3;have uf:∀i,w3.frozen? ⟨w.heap.size,i,none⟩=false:=(fun i=>by simp[World.frozen?,hst3]);clear hmp hst3);refine bodyPost_ret (results_cell3 rfl _ _ w.heap.size _ _ _ _ rfl (step_put HST3.out) Tryz.underlying40 infoStep) rfl ?_;exact WoPost.no EJ.out (MP.around HX.out HN.out (Nat.le_refl _) hstl HMP.out (chg_put _ _ _))
   have g2:(qb==99)=false:=by simpa using c2'
   by_cases c4':qb=0
   case neg=>
    have g4:(qb !=0)=true:=by simpa using c4'
    have EJ:Hid (wordsM L m ws=(enterM L m acc (qb==65),none,enterE L m acc (qb==65))):=by
     unfold Hid wordsM;rw[HVALS.out];simp[HCT2.out,c1',c2',c4']
    have HRV:Hid (RdV wq (fun g=>w.heap.size+1≤g) C ws.length acc):=rdv_own HO.out HACL.out.symm HVI.out;have HEN:Hid (Calls Tryz.prog 96 #[.pointer (some ⟨F.mb,0,none⟩),.slice C ws.length cap,.bool (qb==65)] wq (EnPost B {F with av:=w.heap.size::F.av} L sk m acc (qb==65) wq)):=(enter_any wq B {F with av:=w.heap.size::F.av} L sk m _ C ws.length cap acc (qb==65) HXr.out HRV.out hp (by have:=HACL.out;omega));clear c1' c2' c4';go_wp2_with(go_at_call 96;refine HEN.out.mono ?_;rintro e w3 ⟨rfl,hmp⟩;have HMP:=Lib.hid hmp;have hst3:w3.heap[w.heap.size]? =some (.cells stepZ 40 (0,0)):=(by obtain⟨F',k1,k2,k3⟩:=hmp;exact(k3.block _ hstl (HNO.out _ (Mv.refl _ _))).trans HST.out);have HST3:=Lib.hid hst3;have u0:w3.cell? ⟨w.heap.size,0,none⟩=some (.int .i64 0):=cell_of_row w3 _ 0 _ _ _ hst3;have u1:w3.cell? ⟨w.heap.size,1,none⟩=some (.int .i64 0):=cell_of_row w3 _ 1 _ _ _ hst3;have u2:w3.cell? ⟨w.heap.size,2,none⟩=some (.slice none 0 0):=cell_of_row w3 _ 2 _ _ _ hst3;have uf:∀i,w3.frozen? ⟨w.heap.size,i,none⟩=false:=(fun i=>by simp[World.frozen?,hst3]);clear hmp hst3);refine bodyPost_ret (results_cell3 rfl _ _ w.heap.size _ _ _ _ rfl (step_put HST3.out) Tryz.underlying40 infoStep) rfl ?_;exact WoPost.no EJ.out (MP.around HX.out HN.out (Nat.le_refl _) hstl HMP.out (chg_put _ _ _))
   subst c4';have EJ:Hid (wordsM L m ws=({m with pos:=m.pos+1,ended:=m.ended||acc.any endV},some acc,0)):=by
    unfold Hid wordsM;rw[HVALS.out];simp[HCT2.out,c1'];rfl
   have HRV:Hid (RdV wq (fun g=>w.heap.size+1≤g) C ws.length acc):=rdv_own HO.out HACL.out.symm HVI.out;have HX0:=Lib.hid (HXr.out.set_pos (t:=m.pos+1) (by unfold I64;omega));obtain⟨W0,hW0⟩:∃W0,W0=wq.setCell ⟨F.mb,5,none⟩ (.int .i64 (m.pos+1)):=⟨_,rfl⟩;have HW0s:Hid (W0.heap.size=wq.heap.size):=by unfold Hid;rw[hW0];simp[World.setCell]
   have HC0:Hid (Chg (fun g=>g=F.mb) wq W0):=by unfold Hid;rw[hW0];exact chg_set _ _ _ _ (fun g=>g=F.mb) rfl
   have HX0':Hid (MX W0 B {F with av:=w.heap.size::F.av} L sk {m with pos:=m.pos+1}):=by unfold Hid;rw[hW0];exact HX0.out
   obtain⟨W1,hW1⟩:∃W1,W1=W0.alloc (.cells #[.int .i64 1,.int .i64 m.pos,.slice C ws.length cap] 40):=⟨_,rfl⟩;have HB1:Hid (Below W0.heap.size W0 W1):=by unfold Hid;rw[hW1];exact(Below.refl _ _).alloc (Nat.le_refl _) _
   have hb1:W1.heap[wq.heap.size]? =some (.cells #[.int .i64 1,.int .i64 m.pos,.slice C ws.length cap] 40 (0,0)):=by rw[hW1,←HW0s.out];exact heap_alloc_new _ _
   have HB1C:=Lib.hid hb1;have HW1l:Hid (wq.heap.size<W1.heap.size):=hlS hb1;have HX2:=Lib.hid (HX0'.out.below HB1.out);have r5:=(HN.out.cell (p:=⟨F.mb,5,none⟩) hmb).trans D5.out;have f5:wq.frozen? ⟨F.mb,5,none⟩=false:=(World.frozen?_of_block (a:=⟨F.mb,5,none⟩) (HN.out.block _ hmb)).trans (HFR.out 5);have r5o:∀o:Obj,(wq.alloc o).cell? ⟨F.mb,5,none⟩=some (.int .i64 m.pos):=fun o=>(World.cell?_alloc_lt wq o ⟨F.mb,5,none⟩ hmbr).trans r5;have f5o:∀o:Obj,(wq.alloc o).frozen? ⟨F.mb,5,none⟩=false:=fun o=>(World.frozen?_of_block (a:=⟨F.mb,5,none⟩) ((Below.heap_alloc wq o F.mb hmbr).trans (HN.out.block _ hmb))).trans (HFR.out 5);have HW1:Hid (W1=(wq.setCell ⟨F.mb,5,none⟩ (.int .i64 (m.pos+1))).alloc (.cells #[.int .i64 1,.int .i64 m.pos,.slice C ws.length cap] 40)):=by unfold Hid;rw[hW1,hW0]
   have HCH1:Hid (Chg (fun g=>g=F.mb) wq W1):=⟨HB1.out.os.trans HC0.out.os,HB1.out.tape.trans HC0.out.tape,HB1.out.output.trans HC0.out.output,Nat.le_trans HC0.out.size HB1.out.size,fun g hg ho=>(HB1.out.block g (Nat.lt_of_lt_of_le hg HC0.out.size)).trans (HC0.out.block g hg ho)⟩;clear hb1 hW1 hW0 c1' c2' HX0;go_wp2_with fail;rw[←HW1.out];clear r5o f5o r5 f5 s0 s1 s2 sf r7;go_loopw[119] (EdRel W1 B {F with av:=w.heap.size::F.av} F L sk m acc ws.length) (fun i _=>ws.length-(intOf i).toNat)
   case atStart=>
    refine⟨0,Nat.zero_le _,rfl,?_,Chg.refl _ _⟩;have q:=HX2.out;simpa using q
   case round=>
    obtain⟨j,hj,rfl,hxj,hch⟩:=hrel;have HXJ:=Lib.hid hxj;have HCH:=Lib.hid hch;have hW1s:=hch.size;have HK:Hid (∀g,g<wq.heap.size→g≠F.mb→wr.heap[g]? =wq.heap[g]?):=fun g hg hne=>(hch.block g (Nat.lt_trans hg HW1l.out) hne).trans (HCH1.out.block g hg hne);have HSZ:Hid (wq.heap.size<wr.heap.size):=Nat.lt_of_lt_of_le HW1l.out hch.size;clear hxj hch;by_cases hjl:j<ws.length
    ·obtain⟨-,-,hvb,hvc⟩:=HRV.out;obtain⟨ab,off,hC,hab1,hab2,hc⟩:=hvc (by omega);subst hC;obtain⟨⟨cc,nn⟩,hx⟩:∃x,acc[j]? =some x:=⟨_,List.getElem?_eq_getElem (by have:=HACL.out;omega)⟩;obtain⟨x0,x1⟩:=hc j _ hx;dsimp only at x0 x1;have hne:ab≠F.mb:=by omega
     have d0:=(World.cell?_of_block (a:=⟨ab,off+j*2,none⟩) (HK.out ab hab2 hne)).trans x0;have d1:=(World.cell?_of_block (a:=⟨ab,off+j*2+1,none⟩) (HK.out ab hab2 hne)).trans x1;obtain⟨_,_,_,_,_,_,_,_,_,⟨-,-,-,-,-,-,-,-,-,y9,-⟩,-,-,-,-,hfrj⟩:=HXJ.out.cells;have hmj:=HXJ.out.lt;dsimp only at y9 hmj;have y9f:=hfrj 9;dsimp only at y9f;have HTK:Hid ((acc.take (j+1)).any endV=((acc.take j).any endV||endV (cc,nn))):=by
      unfold Hid;rw[List.take_add_one,hx];simp
     have HIS:=Lib.hid (fun W=>is_any cc nn 77 2 W (by omega));have HIS2:=Lib.hid (fun W=>is_any cc nn 77 30 W (by omega));have HFIN:Hid (∀(W:World) (r:Bool),Below wr.heap.size wr W→r=(m.ended||(acc.take (j+1)).any endV)→EdRel W1 B {F with av:=w.heap.size::F.av} F L sk m acc ws.length (.int .i64 ((j:Int)+1)) (W.setCell ⟨F.mb,9,none⟩ (.bool r))):=by
      intro W r hb hr;refine⟨j+1,by omega,by go_num,?_,(HCH.out.trans (Chg.of_below hb)).trans (chg_set _ _ _ _ (fun g=>g=F.mb) rfl)⟩;rw[←hr];exact(HXJ.out.below hb).set_ended (t:=r)
     have HMJ:=Lib.hid hmj;have HY9:=Lib.hid y9;have HY9f:=Lib.hid y9f;clear hx hc hvb hvc x0 x1 hfrj;have HBA:Hid (∀o:Obj,Below wr.heap.size wr (wr.alloc o)):=fun o=>(Below.refl _ _).alloc (Nat.le_refl _) o;have HBL:Hid (∀o:Obj,wr.heap.size<(wr.alloc o).heap.size):=fun o=>by unfold World.alloc;simp
     have HV0:Hid ((wr.alloc (.cells #[.int .i64 cc,.int .i64 nn] 59)).cell? ⟨wr.heap.size,0,none⟩=some (.int .i64 cc)):=cell_of_row _ _ 0 _ _ _ (heap_alloc_new wr _);have HV1:Hid ((wr.alloc (.cells #[.int .i64 cc,.int .i64 nn] 59)).cell? ⟨wr.heap.size,1,none⟩=some (.int .i64 nn)):=cell_of_row _ _ 1 _ _ _ (heap_alloc_new wr _);have y9o:∀o:Obj,(wr.alloc o).cell? ⟨F.mb,9,none⟩=some (.bool (m.ended||(acc.take j).any endV)):=fun o=>(World.cell?_alloc_lt wr o ⟨F.mb,9,none⟩ hmj).trans y9;have y9fo:∀o:Obj,(wr.alloc o).frozen? ⟨F.mb,9,none⟩=false:=fun o=>(World.frozen?_of_block (a:=⟨F.mb,9,none⟩) (Below.heap_alloc wr o F.mb hmj)).trans y9f;have hmeas:ws.length-((j:Int)+1).toNat<ws.length-(j:Int).toNat:=by omega
     have HME:=Lib.hid hmeas;rcases he:(m.ended||(acc.take j).any endV)with _|_
     ·rw[he]at y9o y9 HY9;have HDN:Hid ((m.ended||(acc.take (j+1)).any endV)=endV (cc,nn)):=by
       unfold Hid;rw[HTK.out,←Bool.or_assoc,he,Bool.false_or]
      rcases h1:isC (cc,nn) 77 2 with _|_
      ·rcases h2:isC (cc,nn) 77 30 with _|_
       all_goals
        have HDN2:Hid ((m.ended||(acc.take (j+1)).any endV)=isC (cc,nn) 77 30):=by unfold Hid;rw[HDN.out];unfold endV;rw[h1,Bool.false_or]
        rw[h1]at HIS;rw[h2]at HIS2 HDN2;clear h1 h2 he y9 y9f hmj hmeas;have tok1:True:=trivial;have tok2:True:=trivial;go_wp2_with(first|(go_at_call 95;clear tok1;refine(HIS.out _).mono ?_;rintro e wi ⟨rfl,hbi⟩;have HBI:Hid (Below wr.heap.size wr wi):=(HBA.out _).trans (hbi.mono (HBA.out _).size);have z9:=(HBI.out.cell (p:=⟨F.mb,9,none⟩) HMJ.out).trans HY9.out;have z9f:=(World.frozen?_of_block (a:=⟨F.mb,9,none⟩) (HBI.out.block _ HMJ.out)).trans HY9f.out;have zv0:=(hbi.cell (p:=⟨wr.heap.size,0,none⟩) (HBL.out _)).trans (HV0.out);have zv1:=(hbi.cell (p:=⟨wr.heap.size,1,none⟩) (HBL.out _)).trans (HV1.out);clear hbi)|(go_at_call 95;clear tok2;refine(HIS2.out _).mono ?_;rintro e wi2 ⟨rfl,hbi2⟩;have HBI2:Hid (Below wr.heap.size wr wi2):=HBI.out.trans (hbi2.mono HBI.out.size);have z9b:=(HBI2.out.cell (p:=⟨F.mb,9,none⟩) HMJ.out).trans HY9.out;have z9fb:=(World.frozen?_of_block (a:=⟨F.mb,9,none⟩) (HBI2.out.block _ HMJ.out)).trans HY9f.out;clear hbi2));exact⟨HFIN.out _ _ HBI2.out HDN2.out.symm,HME.out⟩
      ·have HDN2:Hid ((m.ended||(acc.take (j+1)).any endV)=true):=by unfold Hid;rw[HDN.out];unfold endV;rw[h1,Bool.true_or]
       rw[h1]at HIS;clear h1 he y9 y9f hmj hmeas;have tok1:True:=trivial;go_wp2_with(first|(go_at_call 95;clear tok1;refine(HIS.out _).mono ?_;rintro e wi ⟨rfl,hbi⟩;have HBI:Hid (Below wr.heap.size wr wi):=(HBA.out _).trans (hbi.mono (HBA.out _).size);have z9:=(HBI.out.cell (p:=⟨F.mb,9,none⟩) HMJ.out).trans HY9.out;have z9f:=(World.frozen?_of_block (a:=⟨F.mb,9,none⟩) (HBI.out.block _ HMJ.out)).trans HY9f.out;have zv0:=(hbi.cell (p:=⟨wr.heap.size,0,none⟩) (HBL.out _)).trans (HV0.out);have zv1:=(hbi.cell (p:=⟨wr.heap.size,1,none⟩) (HBL.out _)).trans (HV1.out);clear hbi));exact⟨HFIN.out _ _ HBI.out HDN2.out.symm,HME.out⟩
     ·rw[he]at y9o y9 HY9;have HDN2:Hid ((m.ended||(acc.take (j+1)).any endV)=true):=by
       unfold Hid;rw[HTK.out,←Bool.or_assoc,he,Bool.true_or]
      clear he y9 y9f hmj hmeas;go_wp2_with fail;exact⟨HFIN.out _ _ (HBA.out _) HDN2.out.symm,HME.out⟩
    ·obtain rfl:j=ws.length:=by omega
     have HRF:Hid (RdV wr (fun g=>w.heap.size+1≤g) C ws.length acc):=HRV.out.keep (Nat.le_of_lt HSZ.out) (fun _ _ q=>q) (fun g hg hI=>HK.out g hg (by omega));have hu:wr.heap[wq.heap.size]? =some (.cells #[.int .i64 1,.int .i64 m.pos,.slice C ws.length cap] 40 (0,0)):=(HCH.out.block _ HW1l.out (by omega)).trans HB1C.out;have u0:wr.cell? ⟨wq.heap.size,0,none⟩=some (.int .i64 1):=cell_of_row wr _ 0 _ _ _ hu;have u1:wr.cell? ⟨wq.heap.size,1,none⟩=some (.int .i64 m.pos):=cell_of_row wr _ 1 _ _ _ hu;have u2:wr.cell? ⟨wq.heap.size,2,none⟩=some (.slice C ws.length cap):=cell_of_row wr _ 2 _ _ _ hu;have hs:=(HK.out _ hstl (by omega)).trans HST.out;have s0:wr.cell? ⟨w.heap.size,0,none⟩=some (.int .i64 0):=cell_of_row wr _ 0 _ _ _ hs;have s1:wr.cell? ⟨w.heap.size,1,none⟩=some (.int .i64 0):=cell_of_row wr _ 1 _ _ _ hs;have s2:wr.cell? ⟨w.heap.size,2,none⟩=some (.slice none 0 0):=cell_of_row wr _ 2 _ _ _ hs;have sf:∀i,wr.frozen? ⟨w.heap.size,i,none⟩=false:=fun i=>by simp[World.frozen?,hs]
     have HSS:=Lib.hid hs;clear hu hs;go_wp2_with fail;refine bodyPost_ret (results_cell3 rfl _ _ w.heap.size _ _ _ _ rfl (step_put HSS.out) Tryz.underlying40 infoStep) rfl ?_;refine⟨_,by rw[EJ.out];rfl,?_,?_,fun _=> ?_⟩
     ·rw[EJ.out];have hal:=HACL.out;refine⟨C,cap,by rw[hal],?_,by omega⟩;rw[hal];exact HRF.out.keep (by simp[World.setCell]) (fun g _ q=>by omega) (fun g hg hI=>(chg_put _ _ _).block g hg (by omega))
     ·rw[EJ.out];have hx:=HXJ.out;rw[show acc.take ws.length=acc by rw[←HACL.out,List.take_length]]at hx;exact MP.around HX.out HN.out (Nat.le_refl _) hstl (MP.of hx ((HCH1.out.mono fun g _ hg=>.inl hg).trans (HCH.out.mono fun g _ hg=>.inl hg))) (chg_put _ _ _)
     ·rw[EJ.out];have hx:=HXJ.out;rw[show acc.take ws.length=acc by rw[←HACL.out,List.take_length]]at hx;exact MX.around HX.out (Nat.le_refl _) hx (chg_put _ _ _)
end Go.Proofs.YtdcjbhdfphcefaaGreatDoor
