/- The walk of Same of cncref10: two steps that read alike are the same. -/
import Derived.Test.YtdcjbhdfphcefaaGreatDoorAx
set_option linter.unusedVariables false
set_option linter.unusedSimpArgs false
namespace Go.Proofs.YtdcjbhdfphcefaaGreatDoor
open Go.RowKit
def SmR(w:World)(n:Nat)(i:Value)(W:World):Prop:=∃k:Nat,k≤n∧i=.int .i64 (k:Int)∧Below w.heap.size w W
set_option maxRecDepth 100000 in
set_option maxHeartbeats 4000000 in
theorem same_any(w:World)(I J:Nat→Prop)(A1 A2:Option Addr)(c1 c2:Nat)(a b:Int)(l:List (Int×Int))(h1:RdV w I A1 l.length l)(h2:RdV w J A2 l.length l):
 Calls Tryz.prog 21 #[.agg #[.int .i64 a,.int .i64 b,.slice A1 l.length c1],.agg #[.int .i64 a,.int .i64 b,.slice A2 l.length c2]] w fun e w'=>e=.returned (.bool true)∧Below w.heap.size w w':=by
 obtain⟨_,hn2,_,hv1⟩:=h1;obtain⟨_,_,_,hv2⟩:=h2;have HV1:=Lib.hid hv1;have HV2:=Lib.hid hv2;unfold maxLen at hn2;clear hv1 hv2;obtain⟨W1,hW1⟩:∃W1,W1=w.alloc (.cells #[.int .i64 a,.int .i64 b,.slice A1 l.length c1] 40):=⟨_,rfl⟩;obtain⟨W2,hW2⟩:∃W2,W2=W1.alloc (.cells #[.int .i64 a,.int .i64 b,.slice A2 l.length c2] 40):=⟨_,rfl⟩;have HB1:Hid (Below w.heap.size w W1):=by unfold Hid;rw[hW1];exact(Below.refl _ _).alloc (Nat.le_refl _) _
 have HB2:Hid (Below w.heap.size w W2):=by unfold Hid;rw[hW2];exact HB1.out.alloc HB1.out.size _
 have q1:W1.heap[w.heap.size]? =some (.cells #[.int .i64 a,.int .i64 b,.slice A1 l.length c1] 40 (0,0)):=by rw[hW1];exact heap_alloc_new _ _
 have hs1:=hlS q1;have q2:W2.heap[w.heap.size]? =some (.cells #[.int .i64 a,.int .i64 b,.slice A1 l.length c1] 40 (0,0)):=by
  rw[←q1,hW2];exact((Below.refl _ W1).alloc (Nat.le_refl _) _).block _ hs1
 have q3:W2.heap[W1.heap.size]? =some (.cells #[.int .i64 a,.int .i64 b,.slice A2 l.length c2] 40 (0,0)):=by rw[hW2];exact heap_alloc_new _ _
 have a0:W2.cell? ⟨w.heap.size,0,none⟩=some (.int .i64 a):=cell_of_row W2 _ 0 _ _ _ q2;have a1:W2.cell? ⟨w.heap.size,1,none⟩=some (.int .i64 b):=cell_of_row W2 _ 1 _ _ _ q2;have a2:W2.cell? ⟨w.heap.size,2,none⟩=some (.slice A1 l.length c1):=cell_of_row W2 _ 2 _ _ _ q2;have b0:W2.cell? ⟨W1.heap.size,0,none⟩=some (.int .i64 a):=cell_of_row W2 _ 0 _ _ _ q3;have b1:W2.cell? ⟨W1.heap.size,1,none⟩=some (.int .i64 b):=cell_of_row W2 _ 1 _ _ _ q3;have b2:W2.cell? ⟨W1.heap.size,2,none⟩=some (.slice A2 l.length c2):=cell_of_row W2 _ 2 _ _ _ q3;have hz:W1.heap.size=w.heap.size+1:=by rw[hW1];exact Array.size_push _
 have hz2:=hlS q2;have hz3:=hlS q3;rw[hz]at b0 b1 b2 hz3;clear q1 q2 q3 hz;go_enter Tryz.func21,Tryz.ntmps21;go_upto_region 1 with(fail)
 rw[←hW1,←hW2];clear hW1 hW2;go_wp2_with fail;go_loopw[5] (SmR W2 l.length) (fun i _=>l.length-(intOf i).toNat)
 case atStart=>exact⟨0,by omega,rfl,Below.refl _ _⟩
 case round=>
  obtain⟨k,hk,rfl,hb⟩:=hrel;have HB:=Lib.hid hb;have HBW:Hid (Below w.heap.size w wr):=HB2.out.trans (hb.mono HB2.out.size);have f2:=(hb.cell (p:=⟨w.heap.size,2,none⟩) hz2).trans a2;have g2:=(hb.cell (p:=⟨w.heap.size+1,2,none⟩) hz3).trans b2;clear hb;by_cases hlt:k<l.length
  ·obtain⟨ab,off,rfl,_,hab,hc⟩:=HV1.out (by omega);obtain⟨ad,of2,rfl,_,had,hd⟩:=HV2.out (by omega);obtain⟨⟨cc,nn⟩,hx⟩:∃x,l[k]? =some x:=⟨_,List.getElem?_eq_getElem hlt⟩;have d0:=(HBW.out.cell (p:=⟨ab,off+k*2,none⟩) hab).trans (hc k _ hx).1;have d1:=(HBW.out.cell (p:=⟨ab,off+k*2+1,none⟩) hab).trans (hc k _ hx).2;have e0:=(HBW.out.cell (p:=⟨ad,of2+k*2,none⟩) had).trans (hd k _ hx).1;have e1:=(HBW.out.cell (p:=⟨ad,of2+k*2+1,none⟩) had).trans (hd k _ hx).2;dsimp only at d0 d1 e0 e1;have i0:(0:Int)≤(k:Int):=by omega
   have i1:(k:Int)<(l.length:Int):=by omega
   clear hc hd hx;go_upto_region 6 with(fail)
   go_quiet(fail);go_wp2_with fail;exact⟨⟨k+1,by omega,by go_num,below_dn HB.out nq⟩,by simp only[intOf];omega⟩
  ·have hke:k=l.length:=by omega
   go_wp2_with fail;go_ret;exact⟨rfl,HBW.out⟩
end Go.Proofs.YtdcjbhdfphcefaaGreatDoor
