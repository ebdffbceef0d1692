/- The law of steps on the plain machine: they grow with each result, an error of a limit has its reason, a machine that has ended or failed stays so. No program in sight. Conditions: those that each lemma names. -/
import Derived.Test.YtdcjbhdfphcefaaGreatDoorSk
set_option linter.unusedVariables false
set_option linter.unusedSimpArgs false
namespace Go.Proofs.YtdcjbhdfphcefaaGreatDoor
theorem chk10(n:Int):(chk n).2≠10:=by unfold chk;split<;>simp
theorem sca10(a b c:Int):(scaS a b c).2≠10:=by
 unfold scaS;split
 ·exact chk10 _
 ·simp
theorem un10(op a:Int):(unS op a).2≠10:=by
 unfold unS sqrtS roundS fixS fupS tanS
 repeat' split
 all_goals simp
theorem ar10(op a b:Int):(arS op a b).2≠10:=by
 unfold arS addS subS mulS divS modS
 repeat' split
 all_goals first|exact chk10 _|exact sca10 _ _ _|simp
theorem dir10(a b:Int):(dirS a b).2≠10:=by unfold dirS;split<;>simp
theorem fin10(V:Int→Int×Int)(hV:∀n,(V n).2≠10)(op n a b:Int):(finS V op n a b).2≠10:=by
 unfold finS;split
 ·simp
 split
 ·split
  ·exact hV _
  ·simp
 split
 ·exact dir10 _ _
 split
 ·exact un10 _ _
 split
 ·simp
 ·exact ar10 _ _ _
theorem evalS10(V:Int→Int×Int)(hV:∀n,(V n).2≠10)(t:Tr):(evalS V t).2≠10:=by
 induction t with
 |none_=>simp[evalS]
 |mk op n k kid ih=>
  rw[evalS];split
  ·exact fin10 V hV _ _ _ _
  split
  ·exact ih 0
  split
  ·exact fin10 V hV _ _ _ _
  split
  ·exact ih 1
  ·exact fin10 V hV _ _ _ _
theorem eval10(f:Int→Int)(t:Tr):(EvalS (getS f) t).2≠10:=by
 unfold EvalS;split
 ·exact evalS10 _ (fun n=>by unfold getS;split<;>simp) t
 ·simp
theorem vals10(f:Int→Int):∀l,(valsS f l).2≠10:=by
 intro l;induction l with
 |nil=>simp[valsS]
 |cons x r ih=>
  obtain⟨c,t⟩:=x;rw[valsS];split
  ·exact eval10 f t
  split
  ·exact ih
  ·simp
theorem vals_len(f:Int→Int):∀l,(valsS f l).2=0→(valsS f l).1.length=l.length:=by
 intro l;induction l with
 |nil=>intro _;rfl
 |cons x r ih=>
  obtain⟨c,t⟩:=x;rw[valsS];split
  ·rename_i h;intro q;exact absurd q h
  split
  ·rename_i h;intro q;exact absurd q h
  ·rename_i h;intro _;simp at h;simp[ih h]
theorem args10:∀(l:List (Int×Int)) (s:List Int),argsE s l≠10:=by
 intro l;induction l with
 |nil=>intro s;simp[argsE]
 |cons x r ih=>
  intro s;obtain⟨c,n⟩:=x;rw[argsE];split
  ·simp
  split
  ·simp
  split
  ·exact ih _
  ·simp
theorem push10{σ:Sto}{l:List (Int×Int)}(h:pushE σ l=10):σ.lv.length=9:=by
 unfold pushE at h;split at h
 ·assumption
 ·exact absurd h (args10 _ _)
theorem push_len{σ:Sto}{l:List (Int×Int)}(h:pushE σ l=0):(pushX σ l).lv.length=σ.lv.length+1:=by unfold pushX;rw[if_pos h];simp
theorem setX_len(σ:Sto)(n v:Int):(setX σ n v).lv.length=σ.lv.length:=by
 unfold setX;split
 ·split
  ·simp
  ·rfl
 ·rfl
structure GsP(m:MS)(e:Int):Prop where
 few:m.calls.length≤8
 lev:e=0→m.sto.lv.length=1+m.calls.countP (·.lev)
 lim:e=10→m.calls.length=8
theorem GsP.fail{m:MS}(h:GsP m 0){e:Int}(he:e≠10):GsP m e:=⟨h.few,fun _=>h.lev rfl,fun q=>absurd q he⟩
theorem GsP.same{m m':MS}(h:GsP m 0)(hc:m'.calls=m.calls)(hs:m'.sto.lv.length=m.sto.lv.length){e:Int}(he:e≠10):GsP m' e:=⟨by rw[hc];exact h.few,fun _=>by rw[hc,hs];exact h.lev rfl,fun q=>absurd q he⟩
theorem GsP.same0{m m':MS}(h:GsP m 0)(hc:m'.calls=m.calls)(hs:m'.sto.lv.length=m.sto.lv.length):GsP m' 0:=h.same hc hs (by decide)
theorem leave_gs(L:Lb){m:MS}(h:GsP m 0):GsP (leaveM L m).1 (leaveM L m).2:=by
 have hlev:=h.lev rfl;unfold leaveM;rcases hl:m.calls.getLast? with _|c
 ·exact h.same0 rfl rfl
 dsimp only;have hne:m.calls≠[]:=by
  intro e;rw[e]at hl;cases hl
 have hd:m.calls=m.calls.dropLast++[c]:=by
  rw[List.getLast?_eq_some_getLast hne]at hl;cases hl;exact(List.dropLast_concat_getLast hne).symm
 have hcnt:m.calls.countP (·.lev)=m.calls.dropLast.countP (·.lev)+(if c.lev then 1 else 0):=by
  conv=>lhs;rw[hd]
  rw[List.countP_append];simp[List.countP_cons]
 have hlen:m.calls.length=m.calls.dropLast.length+1:=by
  conv=>lhs;rw[hd]
  simp
 have hcl:=List.countP_le_length (p:=fun c:Cl=>c.lev) (l:=m.calls.dropLast);have hfew:=h.few;have hs1:(if c.lev then popX m.sto else m.sto).lv.length=1+m.calls.dropLast.countP (·.lev):=by
  cases hv:c.lev
  ·rw[hv]at hcnt;simp at hcnt⊢
   omega
  ·rw[hv]at hcnt;simp at hcnt⊢
   unfold popX;rw[if_neg (by omega)];simp;omega
 split
 ·exact h.fail (by unfold popE;split<;>omega)
 ·split
  ·refine⟨?_,fun he=> ?_,fun he=> ?_⟩
   ·simp only[List.length_append,List.length_cons,List.length_nil];omega
   ·dsimp only at he⊢
    rw[List.countP_append];cases hv:c.lev
    ·rw[hv]at hs1;simp[hv]at hs1⊢
     omega
    ·rw[hv]at hs1 he;simp[hv]at hs1 he⊢
     rw[push_len he];omega
   ·dsimp only at he⊢
    cases hv:c.lev
    ·rw[hv]at he;simp at he
    ·rw[hv]at hs1 he;simp at hs1 he;have:=push10 he;omega
  ·refine⟨?_,fun _=> ?_,fun he=> ?_⟩
   ·dsimp only;omega
   ·exact hs1
   ·simp at he
theorem enter_gs(L:Lb){m:MS}(h:GsP m 0)(l:List (Int×Int))(mc:Bool):GsP (enterM L m l mc) (enterE L m l mc):=by
 have hlev:=h.lev rfl;have hfew:=h.few;have hcl:=List.countP_le_length (p:=fun c:Cl=>c.lev) (l:=m.calls);by_cases e:enterE L m l mc=0
 ·have h8:m.calls.length≠8:=by
   intro q;unfold enterE at e;rw[if_pos q]at e
   repeat' split at e
   all_goals omega
  have hp:mc=true→pushE m.sto (enS l).args=0:=by
   rintro rfl;unfold enterE at e
   repeat' split at e
   all_goals first|omega|exact e|(exfalso;simp_all)
  rw[enter_ok L m l mc e];refine⟨by simp only[List.length_append,List.length_cons,List.length_nil];omega,fun _=> ?_,fun q=>absurd q (by omega)⟩;dsimp only;rw[List.countP_append];cases mc
  ·simp;omega
  ·simp;rw[push_len (hp rfl)];omega
 ·have q:enterM L m l mc=m:=by unfold enterM;rw[if_pos e]
  rw[q];refine⟨hfew,fun k=>absurd k e,fun k=> ?_⟩;unfold enterE at k
  repeat' split at k
  all_goals first|omega|skip
  have:=push10 k;omega
theorem jump_gs(L:Lb){m:MS}(h:GsP m 0)(x:Tr):GsP (jumpM L m x).1 (jumpM L m x).2:=by
 unfold jumpM;dsimp only;split
 ·exact h.fail (eval10 _ _)
 split
 ·exact h.fail (by simp)
 split
 ·exact h.fail (by simp)
 ·exact h.same0 rfl rfl
theorem set_gs{m:MS}(h:GsP m 0)(b:Bk):GsP (setM m b).1 (setM m b).2:=by
 unfold setM;dsimp only;split
 ·exact h.fail (eval10 _ _)
 split
 ·exact h.fail (eval10 _ _)
 split
 ·exact h.fail (by simp)
 ·show GsP {m with pos:=m.pos+1,sto:=setX m.sto (wholeS (EvalS (getS m.sto.f) b.left).1).1 (EvalS (getS m.sto.f) b.x).1} (setS (wholeS (EvalS (getS m.sto.f) b.left).1).1 (EvalS (getS m.sto.f) b.x).1);refine⟨h.few,fun _=>by
   dsimp only
   rw[setX_len]
   exact h.lev rfl,fun q=>absurd q ?_⟩
  unfold setS
  repeat' split
  all_goals simp
theorem words_gs(L:Lb){m:MS}(h:GsP m 0)(ws:List (Int×Tr)):GsP (wordsM L m ws).1 (wordsM L m ws).2.2:=by
 unfold wordsM;dsimp only;split
 ·exact h.fail (vals10 _ _)
 split
 ·exact h.fail (by simp)
 split
 ·exact h.fail (by simp)
 split
 ·exact leave_gs L h
 split
 ·exact enter_gs L h _ _
 ·exact h.same0 rfl rfl
theorem exe_gs(L:Lb)(sk:Bool){m:MS}(h:GsP m 0)(b:Bk):GsP (exeM L sk m b).1 (exeM L sk m b).2.2:=by
 unfold exeM;dsimp only;split
 ·exact h.same0 rfl rfl
 split
 ·exact set_gs h b
 split
 ·exact jump_gs L h _
 split
 ·split
  ·exact h.fail (eval10 _ _)
  split
  ·exact jump_gs L h _
  split<;>exact h.same0 rfl rfl
 split
 ·exact h.same0 rfl rfl
 split
 ·exact words_gs L h _
 ·exact h.same0 rfl rfl
theorem exe_told(L:Lb)(sk:Bool)(m:MS)(b:Bk){l:List (Int×Int)}(h:(exeM L sk m b).2.1=some l)(he:(exeM L sk m b).2.2=0):l≠[]:=by
 unfold exeM at h he;dsimp only at h he;split at h
 ·cases h
 split at h
 ·cases h
 split at h
 ·cases h
 split at h
 ·split at h
  ·cases h
  split at h
  ·cases h
  split at h<;>cases h
 split at h
 ·cases h
 split at h
 ·rename_i hb;unfold wordsM at h;dsimp only at h;split at h
  ·cases h
  rename_i hv;split at h
  ·cases h
  split at h
  ·cases h
  split at h
  ·cases h
  split at h
  ·cases h
  cases h;intro e;have q:=vals_len m.sto.f b.words (by omega);rw[e]at q;exact hb.2 (List.eq_nil_of_length_eq_zero q.symm)
 ·cases h
structure GsE(m:MS):Prop where
 st:0≤m.steps∧m.steps≤20000
 few:m.calls.length≤8
 lev:m.err=0→m.sto.lv.length=1+m.calls.countP (·.lev)
 lim:m.err=10→m.steps=20000∨m.calls.length=8
structure GsR(L:Lb)(sk:Bool)(m m':MS)(o:Option (Stp×Int)):Prop where
 inv:GsE m'
 up:m.steps≤m'.steps
 none:o=none→m'.err≠0∨m'.ended=true∨m.steps<m'.steps
 bad:∀t e,o=some (t,e)→e=m'.err∧(e≠0→t=(0,0,[]))∧(e=0→(t=(2,0,[])∧m'.ended=true)∨(t.1=1∧t.2.2≠[]∧m.steps<m'.steps))
theorem round_gs(L:Lb)(sk:Bool){m:MS}(h:GsE m):GsR L sk m (roundM L sk m).1 (roundM L sk m).2:=by
 have hst:=h.st;rw[round_eq];split
 ·rename_i he;exact⟨h,Int.le_refl _,fun q=>(by cases q),fun t e q=>(by cases q;exact⟨rfl,fun _=>rfl,fun q=>absurd q he⟩)⟩
 rename_i he;have he0:m.err=0:=by omega
 split
 ·rename_i hn;exact⟨h,Int.le_refl _,fun q=>(by cases q),fun t e q=>(by cases q;exact⟨he0.symm,fun q=>absurd rfl q,fun _=>.inl ⟨rfl,hn⟩⟩)⟩
 split
 ·rename_i h3;exact⟨⟨hst,h.few,fun q=>(by simp at q),fun _=>.inl h3⟩,Int.le_refl _,fun _=>.inl (by simp),fun t e q=>(by cases q)⟩
 rename_i h3;have hp:GsP {m with steps:=m.steps+1} 0:=⟨h.few,fun _=>h.lev he0,fun q=>absurd q (by decide)⟩;unfold afterM;split
 ·have hx:=leave_gs L hp;have hs:=leave_steps L {m with steps:=m.steps+1};generalize leaveM L {m with steps:=m.steps+1}=r at hx hs⊢
  obtain⟨m2,er⟩:=r;dsimp only at hx hs⊢
  exact⟨⟨by dsimp only;omega,hx.few,hx.lev,fun q=>.inr (hx.lim q)⟩,by dsimp only;omega,fun _=>.inr (.inr (by dsimp only;omega)),fun t e q=>(by cases q)⟩
 ·have hx:=exe_gs L sk hp (L.blk m.pos.toNat);have hs:=exe_steps L sk {m with steps:=m.steps+1} (L.blk m.pos.toNat);have ht:=fun l=>exe_told L sk {m with steps:=m.steps+1} (L.blk m.pos.toNat) (l:=l);dsimp only at hx hs ht⊢
  generalize exeM L sk {m with steps:=m.steps+1} (L.blk m.pos.toNat)=r at hx hs ht⊢
  obtain⟨m2,o,er⟩:=r;dsimp only at hx hs ht⊢
  rcases o with _|l
  ·exact⟨⟨by dsimp only;omega,hx.few,hx.lev,fun q=>.inr (hx.lim q)⟩,by dsimp only;omega,fun _=>.inr (.inr (by dsimp only;omega)),fun t e q=>(by cases q)⟩
  ·dsimp only;split
   ·rename_i h5;refine⟨⟨by dsimp only;omega,hx.few,hx.lev,fun q=>.inr (hx.lim q)⟩,by dsimp only;omega,fun q=>(by cases q),fun t e q=> ?_⟩;cases q;exact⟨h5.symm,fun q=>absurd rfl q,fun _=>.inr ⟨rfl,ht l rfl h5,by dsimp only;omega⟩⟩
   ·exact⟨⟨by dsimp only;omega,hx.few,hx.lev,fun q=>.inr (hx.lim q)⟩,by dsimp only;omega,fun _=>.inr (.inr (by dsimp only;omega)),fun t e q=>(by cases q)⟩
structure GsN(L:Lb)(sk:Bool)(m m':MS)(t:Stp)(e:Int):Prop where
 inv:GsE m'
 up:m.steps≤m'.steps
 err:m'.err=e
 bad:e≠0→t=(0,0,[])
 good:e=0→(t=(2,0,[])∧m'.ended=true)∨(t.1=1∧t.2.2≠[]∧m.steps<m'.steps)
theorem nextM_gs(L:Lb)(sk:Bool):∀k m,GsE m→restM m≤k→GsN L sk m (nextM L sk k m).1 (nextM L sk k m).2.1 (nextM L sk k m).2.2:=by
 intro k;induction k with
 |zero=>intro m _ hk;have:=rest_pos m;omega
 |succ k ih=>
  intro m h hk;have hr:=round_gs L sk h;have hd:=round_rest L sk m h.st;rw[nextM_succ];generalize roundM L sk m=r at hr hd⊢
  obtain⟨m2,o⟩:=r;dsimp only at hr hd⊢
  rcases o with _|⟨t,e⟩
  ·have hq:=ih m2 hr.inv (by have:=hd rfl;omega);dsimp only;refine⟨hq.inv,Int.le_trans hr.up hq.up,hq.err,hq.bad,fun he=> ?_⟩;rcases hq.good he with g|⟨g1,g2,g3⟩
   ·exact .inl g
   ·exact .inr ⟨g1,g2,by have:=hr.up;omega⟩
  ·dsimp only;obtain⟨h1,h2,h3⟩:=hr.bad t e rfl;exact⟨hr.inv,hr.up,h1.symm,h2,h3⟩
theorem nextS_gs(L:Lb)(sk:Bool){m:MS}(h:GsE m):GsN L sk m (nextS L sk m).1 (nextS L sk m).2.1 (nextS L sk m).2.2:=nextM_gs L sk _ m h (Nat.le_refl _)
theorem GsN.stay{L:Lb}{sk:Bool}{m m':MS}{t:Stp}{e:Int}(h:GsN L sk m m' t e)(hq:e≠0∨t.1=2):nextS L sk m'=(m',t,e):=by
 unfold nextS;obtain⟨r,hr⟩:∃r,restM m'=r+1:=⟨restM m'-1,by have:=rest_pos m';omega⟩;rw[hr,nextM_succ,round_eq];have herr:=h.err;by_cases he:e=0
 ·rw[if_neg (by omega)];rcases h.good he with⟨g1,g2⟩|⟨g1,_⟩
  ·rw[if_pos g2,g1,he]
  ·omega
 ·rw[if_pos (by omega),h.bad he,herr]
theorem gs_start(q:Nat×Int):GsE (startM q):=⟨by show(0:Int)≤0∧(0:Int)≤20000;omega,by show 0≤8;omega,fun _=>rfl,fun h=>(by cases h)⟩
end Go.Proofs.YtdcjbhdfphcefaaGreatDoor
