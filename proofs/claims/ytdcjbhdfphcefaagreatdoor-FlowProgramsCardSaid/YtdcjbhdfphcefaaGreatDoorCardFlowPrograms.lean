/- The card of. -/
import Derived.Test.YtdcjbhdfphcefaaGreatDoorLPrograms
import Derived.Test.YtdcjbhdfphcefaaGreatDoorCards
import Derived.Test.YtdcjbhdfphcefaaGreatDoorTie
import Derived.Deep.DeepHandedRow
import Derived.Stop.LaidErr
namespace Go.Proofs.YtdcjbhdfphcefaaGreatDoor.flowPrograms
set_option linter.all false
set_option maxRecDepth 100000
open Go.Proofs.Tryz
open Go.ChangeShapes Go.WideShapes Go.ChangeAt Go.RowKit
open Go.ChangeMaps (open_string shut_string)
theorem laidOut:laidOutB prog=true:=by kernel_rfl
theorem bZ{t e:TypeId}{W:World}{H:Type}{enc:TypeId×Value->H}{a:OA}{n c:Nat}{d:DataW H}{p:List MemPlace}{u:Nat}(ht:prog.underlying t=some (.slice e))(he:prog.underlying e=some (.int .i64))(hc:prog.cellsOf e=1)
 (h:DataW.Trod enc prog W u (λ_=>true) true t (.slice a n c) d p):LOK W W.heap.size a n:=by
 obtain⟨fuel,hf⟩:=h;rcases open_ints ht he hc hf with⟨hcs,_⟩|⟨x,l,c',zs,hcs,_,hl,hm,hz,_,hcell,hwz⟩
 ·simp[Value.cells]at hcs;obtain⟨rfl,rfl,rfl⟩:=hcs;exact⟨Lq _,λh=>absurd h (by omega)⟩
 ·simp[Value.cells]at hcs;obtain⟨rfl,rfl,rfl⟩:=hcs;refine⟨by omega,λhn=> ?_⟩;have hz':zs.length=c:=by simpa using hz
  obtain⟨b,off,rfl,hc⟩:=ints_at hcell (by omega);refine⟨b,off,rfl,?_,λk hk=> ?_⟩
  ·have h0:=hc 0 (by omega);exact Nat.lt_of_not_le λhb=>by simp[World.cell?,Array.getElem?_eq_none hb]at h0
  ·have hk':=range_i64 hwz k;refine⟨_,hc k (by omega),?_,?_⟩
   ·exact hk'.1
   ·exact hk'.2
theorem own:ownKnob prog.godebug=none:=by kernel_rfl
theorem gTab:prog.globalNamed "cnc/cordic.table"=some 1:=by kernel_rfl
theorem gTabType:(prog.globals[(1:Nat)]?).map (·.type)=some 173:=by kernel_rfl
theorem cellsTab:prog.cellsOf 173=26:=by kernel_rfl
theorem cellsWord:prog.cellsOf 3=1:=by kernel_rfl
theorem table{W:World}(h:laidMetH prog Rows.flowProgramsRow.laid W):Tab W:=by
 have h0:laidMet prog Rows.flowProgramsRow.laid W:=h;have h1:Lib.TabIs prog W "cnc/cordic.table" .i64 tb:=Lib.tabIs_of_head gTab gTabType underlying173 underlying3 cellsWord cellsTab h0;unfold Lib.TabIs World.var? at h1;rw[gTab]at h1;simp only[Ob]at h1;split at h1
 ·rename_i cs t fr hh;injection h1 with h1
  exact⟨t,fr,by rw[hh,h1];rfl⟩
 ·cases h1
theorem gNum:prog.globalNamed "cnc/vars.numbers"=some 0:=by kernel_rfl
theorem gNumType:(prog.globals[(0:Nat)]?).map (·.type)=some 173:=by kernel_rfl
theorem numbers{W:World}(h:laidMetH prog Rows.flowProgramsRow.laid W):Tn W:=by
 have h0:laidMet prog Rows.flowProgramsRow.laid W:=h;have h1:Lib.TabIs prog W "cnc/vars.numbers" .i64 locT:=Lib.tabIs_of_head (rest:=[]) gNum gNumType underlying173 underlying3 cellsWord cellsTab h0.tail;unfold Lib.TabIs World.var? at h1;rw[gNum]at h1;simp only[Ob]at h1;split at h1
 ·rename_i cs t fr hh;injection h1 with h1
  exact⟨t,fr,by rw[hh,h1];rfl⟩
 ·cases h1
theorem contract(H:Type)(enc:TypeId×Value->H)(W:World)(base:Nat)(args:Array Value)(ds gs:List (DataW H))(before:List MemPlace)
 (hval:∀(j:Nat) t v,Tryz.f9.params[j]? =some t->args[j]? =some v->Value.okWide prog W .any base t v)
 (hW:DataW.Whole enc prog Tryz.f9.params.toList Rows.flowProgramsSpec.vars false W args.toList ds gs before) (hL:laidMetH prog Rows.flowProgramsRow.laid W):
 Calls prog 9 args W λe W'=>∃v,e=.returned v/\Rows.flowProgramsSpec.post enc prog Tryz.f9 false true false false W args v W':=by
 have hW':=hW;obtain⟨p,q,hA0,hV,rfl,hfz,hnd⟩:=hW;have hA:DataW.TrodAll enc prog W 0 (λ_=>true) true Tryz.f9.params.toList args.toList ds p:=hA0;rw[Tryz.params9]at hA hval;obtain⟨v0,vs0,d0,ds0,p0,q0,hargs,rfl,rfl,h0,r0⟩:=trodAll_cons hA;obtain⟨v1,vs1,d1,ds1,p1,q1,rfl,rfl,rfl,h1,r1⟩:=trodAll_cons r0;obtain⟨rfl,rfl,rfl⟩:=trodAll_nil r1;obtain rfl:args= #[v0,v1]:=by cases args;simp_all
 obtain⟨rfl,rfl⟩:=trodVars_none hV;obtain⟨a0,len0,cap0,rfl⟩:=okWide_slice underlying22 (hval 0 22 v0 rfl rfl);have k0:=h0;have lt0:∀x∈p0,x.block<W.heap.size:=by obtain⟨m,hm⟩:=k0;exact DataW.trod_lt m _ _ _ hm
 have lok0:LOK W W.heap.size a0 len0:=bZ underlying22 underlying3 (by kernel_rfl) h0;obtain⟨a1,rfl,rfl,rfl⟩:=open_bool underlying4 (hval 1 4 v1 rfl rfl) h1;clear hA0;simp only[List.append_nil]at hW';refine(programsLaw_any a0 len0 cap0 a1 W lok0 (table hL) (numbers hL)).mono λe W' ⟨he,hb⟩=> ?_;subst he;exact⟨_,rfl,_,_,_,[],_,[],hW',(trodAll_cons_mk (shut_bool underlying4 _) trodAll_mk0),(trodAll_cons_mk (Below.trod laidOut (by kernel_rfl) (of_decide_eq_true (by kernel_rfl)) k0 hb lt0) (trodAll_cons_mk (shut_bool underlying4 a1) trodAll_mk0)),rfl,hb.frame _,λh=>by cases h⟩
noncomputable def laidWorld(os:Os):World:=
 let h0:=(World.holding prog os ⟨#[],#[],[]⟩).heap;let h1:=h0.modify 1 (λx=>match x with
  | .cells _ t frozen=>.cells #[.int .i64 45000000000,.int .i64 26565051177,.int .i64 14036243468,.int .i64 7125016349,.int .i64 3576334375,.int .i64 1789910608,.int .i64 895173710,.int .i64 447614171,.int .i64 223810500,.int .i64 111905677,.int .i64 55952892,.int .i64 27976453,.int .i64 13988227,.int .i64 6994114,.int .i64 3497057,.int .i64 1748528,.int .i64 874264,.int .i64 437132,.int .i64 218566,.int .i64 109283,.int .i64 54642,.int .i64 27321,.int .i64 13660,.int .i64 6830,.int .i64 3415,.int .i64 1708] t frozen
  |o=>o)
 let h2:=h1.modify 0 (λx=>match x with
  | .cells _ t frozen=>.cells #[.int .i64 1,.int .i64 2,.int .i64 3,.int .i64 7,.int .i64 8,.int .i64 9,.int .i64 0,.int .i64 11,.int .i64 4,.int .i64 5,.int .i64 6,.int .i64 0,.int .i64 13,.int .i64 0,.int .i64 0,.int .i64 0,.int .i64 17,.int .i64 18,.int .i64 19,.int .i64 20,.int .i64 21,.int .i64 22,.int .i64 23,.int .i64 24,.int .i64 25,.int .i64 26] t frozen
  |o=>o)
 {World.holding prog os ⟨#[],#[],[]⟩with heap:=h2}
theorem aJ(os:Os):laidMet prog Rows.flowProgramsRow.laid ((laidWorld os).forCall (λ_ _=>0) ⟨#[],#[.slice none 0 0,.bool false],[]⟩).memory:=
 laidMet_of_run' 8 (by kernel_rfl) (by kernel_rfl)
theorem reads(os:Os){H:Type}(enc:TypeId×Value->H):∃places,DataW.whole enc prog ((laidWorld os).forCall (λ_ _=>0) ⟨#[],#[.slice none 0 0,.bool false],[]⟩).memory Tryz.f9.params.toList Rows.flowProgramsSpec.vars false (#[.slice none 0 0,.bool false]:Array Value).toList 8=some ([.nil,.lit (.bool false)],[],places):=
 ⟨[],by kernel_rfl⟩
theorem lifted(os:Os)(started:os.Started)(H:Type)(enc:TypeId×Value->H)(F:Stop.Interp):
 ReturnsInHanded {} Tryz.checked os 9 .any ((OpenSpec.ofChange Rows.flowProgramsSpec).preRow enc prog Tryz.f9 Rows.flowProgramsRow.domain false Rows.flowProgramsRow.laid) (((OpenSpec.ofChange Rows.flowProgramsSpec).at F).post enc prog Tryz.f9 false true false false):=by
 obtain⟨places,hx⟩:=reads os enc;refine returnsInHanded_of_row (C:=Tryz.checked) (s:=OpenSpec.ofChange Rows.flowProgramsSpec) own started (by kernel_rfl) func9
  (witness_row_at (enc:=enc) (C:=Tryz.checked) false (laidWorld os) #[.slice none 0 0,.bool false] rfl (by kernel_rfl) (by kernel_rfl) (by kernel_rfl)
   (OpenSpec.preRow_of_cond 8 hx (by kernel_rfl) (λk hk=>by cases hk) (by kernel_rfl) (aJ os))) ?_
 intro W base args ds gs before hval hW _ _ _ hL _ _;exact contract H enc W base args ds gs before hval hW hL
theorem said:Rows.FlowProgramsSaid:=
 OpenClaim.holds_of_cond 9 Tryz.f9 rfl rfl rfl rfl rfl rfl rfl ⟨rfl,rfl,rfl,rfl,rfl⟩ rfl rfl rfl rfl rfl (by kernel_rfl) func9 (by kernel_rfl)
  (of_decide_eq_true (by kernel_rfl)) (by unfold Func.isWrapper;first|(rw[Ip (by decide+kernel)];kernel_rfl)|(rw[Iq (by decide+kernel)];exact⟨rfl,rfl⟩))
  (λos started H enc _ F=>by rw[OpenClaim.pre_eq_preRow];exact lifted os started H enc F)
theorem plain(f:FuncId)(fn:Func)(hf:Tryz.pinned.checked.prog.funcNamed "cnc/cnclaw10.FlowPrograms"=some f)(hfn:Tryz.pinned.checked.prog.funcs[f]? =some fn):
 false=Tryz.pinned.checked.prog.looks []/\∀(j:Nat) t,fn.params[j]? =some t->Tryz.pinned.checked.prog.wantsStandIn t=false:=by
 obtain rfl:f=9:=Oj ((show prog.funcNamed "cnc/cnclaw10.FlowPrograms"=some 9 by kernel_rfl).symm.trans hf)|>.symm
 obtain rfl:fn=Tryz.f9:=(Oj (func9.symm.trans hfn)).symm;refine⟨by kernel_rfl,λj t ht=> ?_⟩;rw[Tryz.params9]at ht;have hmem:=Array.mem_of_getElem? ht;have ht':t=22\/t=4:=by simpa using hmem
 rcases ht' with rfl|rfl
 ·exact(show prog.wantsStandIn 22=false by kernel_rfl)
 ·exact(show prog.wantsStandIn 4=false by kernel_rfl)
theorem card:Rows.FlowProgramsCardSaid:=
 Claim7.holds_tied_plain_at .later [] _ _ _ _ said (λ_ h=>by cases h) (by kernel_rfl) (λ_ h=>by cases h) flowPrograms_row_tie rfl ⟨rfl,rfl⟩ (by kernel_rfl) rfl plain (by kernel_rfl)
#print axioms card
end Go.Proofs.YtdcjbhdfphcefaaGreatDoor.flowPrograms
