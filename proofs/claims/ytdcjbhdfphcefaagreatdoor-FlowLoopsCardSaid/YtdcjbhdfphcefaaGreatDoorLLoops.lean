/- The walk of the law FlowLoops: it returns true. -/
import Derived.Test.YtdcjbhdfphcefaaGreatDoorLp
import Derived.Test.YtdcjbhdfphcefaaGreatDoorLk
set_option linter.unusedVariables false
set_option linter.unusedSimpArgs false
namespace Go.Proofs.YtdcjbhdfphcefaaGreatDoor
open Go.RowKit
theorem conv_one(W:World)(n:Nat)(hn:n≤8):(convert 46 9 (.slice (some ⟨W.heap.size,0,none⟩) 1 1)).run Tryz.prog (W.alloc (.cells #[.int .u8 (48+(n:Int))] 5))=.ok (.string ⟨#[dig n]⟩) (W.alloc (.cells #[.int .u8 (48+(n:Int))] 5)):=by
 refine run_convert_bytes_back (W.alloc (.cells #[.int .u8 (48+(n:Int))] 5)) 46 9 5 ⟨W.heap.size,0,none⟩ 1 [dig n] Tryz.underlying46 Tryz.underlying5 Tryz.underlying9 (fun j hj=> ?_);obtain rfl:j=0:=by simpa using hj
 have q:=heap_alloc_new W (.cells #[.int .u8 (48+(n:Int))] 5);refine(cell_of_row _ _ 0 _ _ _ q).trans ?_;have e:(dig n).toNat=48+n:=by unfold dig;rw[UInt8.toNat_ofNat'];omega
 simp[e]
def LoR(w:World)(B:Nat)(F:Fp)(L:Lb)(P:Nat)(i:Value)(W:World):Prop:=
 ∃(k:Nat) (ms:MS) (G:Fp),k≤P∧i=.int .i64 (k:Int)∧G.mb=F.mb∧MX W B G L false ms∧Below w.heap.size w W∧runB L (P-k) ms=true
theorem run_succ{L:Lb}{j:Nat}{s:MS}(h:runB L (j+1) s=true):∃(m2:MS) (l:List (Int×Int)),nextS L false s=(m2,(1,4,l),0)∧runB L j m2=true:=by
 rw[runB]at h;rcases hr:nextS L false s with⟨a,⟨k,b,l⟩,e⟩
 rw[hr]at h;simp only[Bool.and_eq_true,decide_eq_true_eq]at h;obtain⟨⟨⟨rfl,rfl⟩,rfl⟩,h⟩:=h;exact⟨a,l,rfl,h⟩
theorem run_zero{L:Lb}{s:MS}(h:runB L 0 s=true):∃(m2 m3:MS) (l l2:List (Int×Int)) (b2:Int),nextS L false s=(m2,(1,9,l),0)∧l.length=1∧nextS L false m2=(m3,(2,b2,l2),0):=by
 rw[runB]at h;rcases hr:nextS L false s with⟨a,⟨k,b,l⟩,e⟩
 rw[hr]at h;dsimp only at h;rcases hr2:nextS L false a with⟨a2,⟨k2,b2,l2⟩,e2⟩
 rw[hr2]at h;simp only[Bool.and_eq_true,decide_eq_true_eq]at h;obtain⟨⟨⟨⟨rfl,rfl⟩,hl⟩,rfl⟩,rfl,rfl⟩:=h;exact⟨a,a2,l,l2,b2,rfl,hl,hr2⟩
theorem all_two{p:Nat→Nat→Bool}(h:((List.range 9).all fun n=>(List.range 9).all fun m=>p n m)=true){n m:Nat}(hn:n≤8)(hm:m≤8):p n m=true:=
 List.all_eq_true.1 (List.all_eq_true.1 h n (List.mem_range.2 (by omega))) m (List.mem_range.2 (by omega))
theorem ok_new{n m:Nat}(hn:n≤8)(hm:m≤8):∃m0,newS (buildS (blL n m)).1=some m0∧runB (buildS (blL n m)).1 (n*m) m0=true:=
 Option.any_eq_true _ _|>.1 (all_two (p:=okB) ok_all hn hm)
set_option maxRecDepth 100000 in
set_option maxHeartbeats 16000000 in
theorem loopsLaw_any(a b:Int)(ha1: -9223372036854775808≤a)(ha2:a≤9223372036854775807)(hb1: -9223372036854775808≤b)(hb2:b≤9223372036854775807)(w:World)(ht:Tab w)(htn:Tn w):
 Calls Tryz.prog 4 #[.int .i64 a,.int .i64 b] w fun e w'=>e=.returned (.bool true)∧Below w.heap.size w w':=by
 have HT:=Lib.hid ht;have HTN:=Lib.hid htn;obtain⟨n,hn,hn2⟩:∃n:Nat,a%9=(n:Int)∧n≤8:=⟨(a%9).toNat,by omega,by omega⟩;obtain⟨m,hm,hm2⟩:∃m:Nat,b%9=(m:Int)∧m≤8:=⟨(b%9).toNat,by omega,by omega⟩;have HMA:Hid (∀W:World,Calls Tryz.prog 22 #[.int .i64 a,.int .i64 9] W fun e w'=>e=.returned (.int .i64 (n:Int))∧W=w'):=fun W=>by
  have q:=mod_any a 9 (by omega) (by omega) ha1 ha2 W;rw[hn]at q;exact q
 have HMB:Hid (∀W:World,Calls Tryz.prog 22 #[.int .i64 b,.int .i64 9] W fun e w'=>e=.returned (.int .i64 (m:Int))∧W=w'):=fun W=>by
  have q:=mod_any b 9 (by omega) (by omega) hb1 hb2 W;rw[hm]at q;exact q
 clear hn hm ha1 ha2 hb1 hb2 ht htn;obtain⟨m0,hN,hR⟩:=ok_new hn2 hm2;have HTX:Hid (∀W,Calls Tryz.prog 23 #[.string (txL n m)] W (LibPost (buildS (blL n m)).1 W)):=fun W=>text_of (txL n m) (blL n m) (by show 11≤2000;omega) (parse_L n m hn2 hm2) W;unfold txL at HTX;generalize(buildS (blL n m)).1=L at hN hR HTX;obtain⟨P,hP,hP2⟩:∃P:Nat,n*m=P∧P≤64:=⟨n*m,rfl,Nat.mul_le_mul hn2 hm2⟩;rw[hP]at hR;have hPi:(n:Int)*(m:Int)=(P:Int):=by rw[←hP];exact(Int.natCast_mul n m).symm
 have wP:IntKind.i64.wrap ((n:Int)*(m:Int))=(P:Int):=by rw[hPi];exact IntWalk.i64_in _ (by omega)
 have HN:=Lib.hid hN;have HR:=Lib.hid hR;have hts:=HT.out.lt;have htns:=HTN.out.lt;clear hN hR hP hPi;go_enter Tryz.func4,Tryz.ntmps4;go_upto_region 2 with(first|(go_at_call 22;with_reducible refine(HMA.out _).mono ?_;rintro e w' ⟨rfl,rfl⟩)|(go_at_call 22;with_reducible refine(HMB.out _).mono ?_;rintro e w' ⟨rfl,rfl⟩))
 have c1:=conv_one w n hn2;have c2:=conv_one (w.alloc (.cells #[.int .u8 (48+(n:Int))] 5)) m hm2;have hs1:(w.alloc (.cells #[.int .u8 (48+(n:Int))] 5)).heap.size=w.heap.size+1:=Array.size_push _;rw[hs1]at c2;clear hs1;go_upto_region 3 with(fail)
 obtain⟨W2,hW2⟩:∃W2,W2=(w.alloc (.cells #[.int .u8 (48+(n:Int))] 5)).alloc (.cells #[.int .u8 (48+(m:Int))] 5):=⟨_,rfl⟩;have HB2:Hid (Below w.heap.size w W2):=by unfold Hid;rw[hW2];exact((Below.refl _ _).alloc (Nat.le_refl _) _).alloc (by simp) _
 rw[←hW2];clear hW2 c1 c2;go_wp2_with fail;refine(HTX.out _).mono ?_;rintro e w5 ⟨A1,A2,A3,d1,d2,d3,rfl,hz,hb⟩;have HB5:=Lib.hid (HB2.out.trans (hb.mono HB2.out.size));have HQ:=Lib.hid (new_of HN.out w5 _ A1 A2 A3 d1 d2 d3 hz (HT.out.below HB5.out hts) (HTN.out.below HB5.out htns));have hs5:=HB5.out.size;clear hz hb HTX HB2;go_wp2_with fail;refine HQ.out.mono ?_;rintro e w6 ⟨hb,B,F,rfl,hx,hB,_,_⟩;have HB6:=Lib.hid (HB5.out.trans (hb.mono hs5));have HX6:=Lib.hid hx;have HWB:Hid (w.heap.size≤B):=Nat.le_trans hs5 hB;clear hb hx hB HQ HB5;go_wp2_with fail;refine(awake_any10 w6 HX6.out.tab HX6.out.tn).mono ?_;rintro e w7 ⟨rfl,hb⟩;have HR7:Hid (LoR w B F L P (.int .i64 0) w7):=⟨0,m0,F,by omega,rfl,rfl,HX6.out.below hb,HB6.out.trans (hb.mono HB6.out.size),HR.out⟩;clear hb HB6 HX6 HR;go_wp2_with fail;go_loopw[8] (LoR w B F L P) (fun i _=>P-(intOf i).toNat)
 case atStart=>exact HR7.out
 case round=>
  obtain⟨k,ms,G,hk,rfl,hmb,hx,hbe,hr⟩:=hrel;have HX:=Lib.hid hx;have HBE:=Lib.hid hbe;have HMB:=Lib.hid hmb;clear hbe HR7;by_cases hlt:k<P
  ·obtain⟨j,hj⟩:∃j,P-k=j+1:=⟨P-k-1,by omega⟩;rw[hj]at hr;obtain⟨m2,l,hn',hr2⟩:=run_succ hr;have hnc:=next_of hn' hx;rw[hmb]at hnc;have HNC:=Lib.hid hnc;have HRJ:Hid (runB L (P-(k+1)) m2=true):=by unfold Hid;rw[show P-(k+1)=j by omega];exact hr2
   have g1:decide ((k:Int)<(P:Int))=true:=decide_eq_true (by omega);clear hx hmb hr hn' hr2 hnc hj;go_wp2_with fail;refine HNC.out.mono ?_;rintro e w8 ⟨A5,c5,rfl,hrv,F5,hmv,hmx,hch⟩;have HB8:Hid (Below w.heap.size w w8):=HBE.out.trans (MP.bel HX.out ⟨F5,hmv,hmx,hch⟩ HWB.out);have HX8:=Lib.hid hmx;have HM8:Hid (F5.mb=F.mb):=hmv.mb.trans HMB.out;clear hmv hmx hch hrv HNC HX HBE;go_wp2_with fail;have hb9:∀o:Obj,Below w8.heap.size w8 (w8.alloc o):=fun o=>(Below.refl _ _).alloc (Nat.le_refl _) o;exact⟨⟨k+1,m2,F5,by omega,by go_num,HM8.out,HX8.out.below (hb9 _),HB8.out.trans ((hb9 _).mono HB8.out.size),HRJ.out⟩,by simp only[intOf];omega⟩
  ·obtain⟨m2,m3,l,l2,b2,hn',hl,hn3⟩:=run_zero (by rw[show P-k=0 by omega]at hr;exact hr);have hnc:=next_of hn' hx;rw[hmb]at hnc;have HNC:=Lib.hid hnc;have HN3:=Lib.hid hn3;have HL:=Lib.hid hl;have g1:decide ((k:Int)<(P:Int))=false:=decide_eq_false (by omega);clear hx hmb hr hn' hn3 hnc hl;go_wp2_with fail;refine HNC.out.mono ?_;rintro e w8 ⟨A5,c5,rfl,hrv,F5,hmv,hmx,hch⟩;have HB8:Hid (Below w.heap.size w w8):=HBE.out.trans (MP.bel HX.out ⟨F5,hmv,hmx,hch⟩ HWB.out);have hM8:F5.mb=F.mb:=hmv.mb.trans HMB.out;have hb9:∀o:Obj,Below w8.heap.size w8 (w8.alloc o):=fun o=>(Below.refl _ _).alloc (Nat.le_refl _) o;obtain⟨W9,hW9⟩:∃W9,W9=w8.alloc (.cells #[.int .i64 1,.int .i64 9,.slice A5 l.length c5] 40):=⟨_,rfl⟩;have HB9:Hid (Below w8.heap.size w8 W9):=by unfold Hid;rw[hW9];exact hb9 _
   have hq9:W9.heap[w8.heap.size]? =some (.cells #[.int .i64 1,.int .i64 9,.slice A5 l.length c5] 40 (0,0)):=by rw[hW9];exact heap_alloc_new _ _
   have HQ9:=Lib.hid hq9;have hno:¬F5.own w8.heap.size:=fun ho=>by have:=(hmx.own_ge _ ho).2;omega
   have HNO:=Lib.hid hno;have hnc2:=next_of HN3.out (hmx.below HB9.out);rw[hM8]at hnc2;have HNC2:=Lib.hid hnc2;have HX9:=Lib.hid (hmx.below HB9.out);clear hmv hmx hch hrv HNC HX HBE hnc2 hno hb9 hM8;dsimp only;go_upto_region 13 with(fail)
   rw[←hW9];clear hW9 hq9;go_wp2_with fail;refine HNC2.out.mono ?_;rintro e wa ⟨A6,c6,rfl,hrv,F6,hmv,hmx,hch⟩;dsimp only;have HBA:Hid (Below w.heap.size w wa):=(HB8.out.trans (HB9.out.mono HB8.out.size)).trans (MP.bel HX9.out ⟨F6,hmv,hmx,hch⟩ HWB.out);have hqa:=(hch.block _ (hlS HQ9.out) HNO.out).trans HQ9.out;have hla:=hlS hqa;obtain⟨WT,hWT⟩:∃WT,WT=wa.alloc (.cells #[.int .i64 2,.int .i64 b2,.slice A6 l2.length c6] 40):=⟨_,rfl⟩;have hbt:Below wa.heap.size wa WT:=by rw[hWT];exact(Below.refl _ _).alloc (Nat.le_refl _) _
   have qt:WT.heap[wa.heap.size]? =some (.cells #[.int .i64 2,.int .i64 b2,.slice A6 l2.length c6] 40 (0,0)):=by rw[hWT];exact heap_alloc_new _ _
   have qs:=(hbt.block _ hla).trans hqa;have k1:WT.cell? ⟨w8.heap.size,1,none⟩=some (.int .i64 9):=cell_of_row WT _ 1 _ _ _ qs;have k2:WT.cell? ⟨w8.heap.size,2,none⟩=some (.slice A5 l.length c5):=cell_of_row WT _ 2 _ _ _ qs;have t0:WT.cell? ⟨wa.heap.size,0,none⟩=some (.int .i64 2):=cell_of_row WT _ 0 _ _ _ qt;have HBT:=Lib.hid (HBA.out.trans (hbt.mono HBA.out.size));rw[HL.out]at k2;clear hmv hmx hch hrv hqa hla hbt qt qs HNC2 HX9 HBA;go_upto_region 14 with(fail)
   rw[←hWT];clear hWT;go_wp2_with fail;go_ret;exact⟨rfl,HBT.out⟩
end Go.Proofs.YtdcjbhdfphcefaaGreatDoor
