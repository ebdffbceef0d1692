/- The contracts of names, named, part and sign of cncref05. The contract of named of cncref05. Conditions: those that each lemma names. -/
import Derived.Test.YtdcjbhdfphcefaaGreatDoorPx
import Derived.Test.YtdcjbhdfphcefaaGreatDoorTk
import Derived.Test.YtdcjbhdfphcefaaGreatDoorFa
set_option linter.unusedVariables false
set_option linter.unusedSimpArgs false
namespace Go.Proofs.YtdcjbhdfphcefaaGreatDoor
open Go.RowKit Go.PlainAid
def namesC:Array Value:=⟨namesB.map .string⟩
set_option maxHeartbeats 4000000 in
theorem names_any(w:World):Calls Tryz.prog 167 #[] w fun e w'=>e=.returned (.slice (some ⟨w.heap.size,0,none⟩) 24 24)∧w'=w.alloc (.cells namesC 9):=by
 go_enter Tryz.func167,Tryz.ntmps167;go_wp2;go_ret;exact⟨rfl,rfl⟩
theorem part_any(c:Int)(w:World):
 Calls Tryz.prog 128 #[.int .u8 c] w fun e w'=>e=.returned (.bool (partB c))∧w=w':=by
 unfold partB;by_cases h1:48≤c<;>by_cases h2:c≤57<;>rcases h3:(c==46)with _|_
 all_goals
  go_enter Tryz.func128,Tryz.ntmps128;go_wp2;go_ret;exact⟨by simp[h1,h2,h3],rfl⟩
theorem sign_any5(c:Int)(w:World):
 Calls Tryz.prog 131 #[.int .u8 c] w fun e w'=>e=.returned (.bool (signB c))∧w=w':=by
 by_cases h:c=43∨c=45∨c=42∨c=47∨c=61∨c=35∨c=91∨c=93
 ·rcases h with rfl|rfl|rfl|rfl|rfl|rfl|rfl|rfl
  all_goals
   go_enter Tryz.func131,Tryz.ntmps131;go_wp2;go_ret;exact⟨rfl,rfl⟩
 ·have e:signB c=false:=by unfold signB;simp;omega
  have e1:(c==43)=false:=by simp;omega
  have e2:(c==45)=false:=by simp;omega
  have e3:(c==42)=false:=by simp;omega
  have e4:(c==47)=false:=by simp;omega
  have e5:(c==61)=false:=by simp;omega
  have e6:(c==35)=false:=by simp;omega
  have e7:(c==91)=false:=by simp;omega
  have e8:(c==93)=false:=by simp;omega
  rw[e];clear h e;go_enter Tryz.func131,Tryz.ntmps131;go_wp2;go_ret;exact⟨rfl,rfl⟩
end Go.Proofs.YtdcjbhdfphcefaaGreatDoor
namespace Go.Proofs.YtdcjbhdfphcefaaGreatDoor
open Go.RowKit Go.PlainAid
theorem namesB_small:∀nm∈namesB,nm.size≤5:=by decide
def NeRel(s:ByteArray)(i:Nat)(W0:World)(b j:Value)(W:World):Prop:=∃(best:ByteArray) (k:Nat),k≤24∧b=.string best∧best.size≤5∧j=.int .i64 (k:Int)∧Below W0.heap.size W0 W∧namedS s i=(namesB.drop k).foldl (named1 s i) best
set_option maxHeartbeats 8000000 in
theorem named_any(s:ByteArray)(i:Nat)(hs:s.size≤100000)(hi:i<s.size)(w:World):
 Calls Tryz.prog 130 #[.string s,.int .i64 (i:Nat)] w fun e w'=>e=.returned (.string (namedS s i))∧Below w.heap.size w w':=by
 obtain⟨W0,hW0⟩:∃W0,W0=w.alloc (.cells namesC 9):=⟨_,rfl⟩;have HB0:Hid (Below w.heap.size w W0):=by unfold Hid;rw[hW0];exact(Below.refl _ _).alloc (Nat.le_refl _) _
 have H0:Hid (W0.heap[w.heap.size]? =some (.cells namesC 9 (0,0))):=by unfold Hid;rw[hW0];exact heap_alloc_new w _
 have hs0:=hlS H0.out;have HR0:Hid (NeRel s i W0 (.string ⟨#[]⟩) (.int .i64 0) W0):=⟨⟨#[]⟩,0,by omega,rfl,by decide,rfl,Below.refl _ _,rfl⟩;go_enter Tryz.func130,Tryz.ntmps130;go_wp2_with(go_at_call 167;refine(names_any _).mono ?_;rintro e w1 ⟨rfl,hw1⟩;obtain rfl:w1=W0:=(by rw[hw1,hW0]);clear hw1 hW0);go_loopw[5,7] (NeRel s i w1) (fun _ j _=>24-(intOf j).toNat)
 case atStart=>exact HR0.out
 case round=>
  obtain⟨best,k,hk,rfl,hbs,rfl,hbw,her⟩:=hrel;have HBW:=Lib.hid hbw;have HER:=Lib.hid her;clear hbw her HR0;by_cases hlt:k<24
  ·obtain⟨nm,hnm⟩:∃nm,namesB[k]? =some nm:=⟨_,List.getElem?_eq_getElem (show k<namesB.length by show k<24;omega)⟩;have hn5:=namesB_small nm (List.mem_of_getElem? hnm);have c0:wr.cell? ⟨w.heap.size,k,none⟩=some (.string nm):=by
    refine(HBW.out.cell (p:=⟨w.heap.size,k,none⟩) hs0).trans ?_;refine(cell_of_row w1 _ k _ _ _ H0.out).trans ?_;unfold namesC;rw[List.getElem?_toArray,List.getElem?_map,hnm];rfl
   have HST:Hid (namedS s i=(namesB.drop (k+1)).foldl (named1 s i) (named1 s i best nm)):=by
    unfold Hid;rw[HER.out,drop_at hnm];rfl
   have w1':IntKind.i64.wrap ((s.size:Int)-(i:Int))=(s.size:Int)-i:=IntWalk.i64_in _ (by omega);have w2':IntKind.i64.wrap ((i:Int)+(nm.size:Int))=(i:Int)+nm.size:=IntWalk.i64_in _ (by omega);have i0:(0:Int)≤(k:Int):=by omega
   have i1:(k:Int)<24:=by omega
   clear hnm;by_cases hf:nm.size≤s.size-i
   ·have g1:decide ((s.size:Int)-(i:Int)≥(nm.size:Int))=true:=decide_eq_true (by omega);have g1b:decide ((nm.size:Int)≤(s.size:Int)-(i:Int))=true:=decide_eq_true (by omega);have i2:(0:Int)≤(i:Int):=by omega
    have i3:(i:Int)≤(i:Int)+(nm.size:Int):=by omega
    have i4:(i:Int)+(nm.size:Int)≤(s.size:Int):=by omega
    have t1:((i:Int)+(nm.size:Int)).toNat=i+nm.size:=by omega
    have t2:(IntKind.i64.wrap ((i:Int)+(nm.size:Int))).toNat=i+nm.size:=by rw[w2'];omega
    have t3:(i:Int)≤IntKind.i64.wrap ((i:Int)+(nm.size:Int)):=by rw[w2'];omega
    have t4:IntKind.i64.wrap ((i:Int)+(nm.size:Int))≤(s.size:Int):=by rw[w2'];omega
    have t5:(0:Int)≤IntKind.i64.wrap ((i:Int)+(nm.size:Int)):=by rw[w2'];omega
    by_cases hq:(s.extract i (i+nm.size)).toList=nm.toList
    ·have hq':decide ((s.extract i (i+nm.size)).toList=nm.toList)=true:=decide_eq_true hq;by_cases hl:best.size<nm.size
     ·have E1:Hid (named1 s i best nm=nm):=by unfold Hid named1;rw[if_pos ⟨hf,(Eq.mp (str_eq _ _) hq),hl⟩]
      have g2:decide ((nm.size:Int)>(best.size:Int))=true:=decide_eq_true (by omega);go_wp2_with fail;go_quiet(fail);go_wp2_with fail;exact⟨⟨nm,k+1,by omega,rfl,hn5,by go_num,below_dn HBW.out nq,by rw[HST.out,E1.out]⟩,by simp only[intOf];omega⟩
     ·have E1:Hid (named1 s i best nm=best):=by unfold Hid named1;rw[if_neg (by omega)]
      have g2:decide ((nm.size:Int)>(best.size:Int))=false:=decide_eq_false (by omega);go_wp2_with fail;go_quiet(fail);go_wp2_with fail;exact⟨⟨best,k+1,by omega,rfl,hbs,by go_num,below_dn HBW.out nq,by rw[HST.out,E1.out]⟩,by simp only[intOf];omega⟩
    ·have hq':decide ((s.extract i (i+nm.size)).toList=nm.toList)=false:=decide_eq_false hq;have E1:Hid (named1 s i best nm=best):=by unfold Hid named1;rw[if_neg (fun h=>hq (Eq.mpr (str_eq _ _) h.2.1))]
     go_wp2_with fail;go_quiet(fail);go_wp2_with fail;exact⟨⟨best,k+1,by omega,rfl,hbs,by go_num,below_dn HBW.out nq,by rw[HST.out,E1.out]⟩,by simp only[intOf];omega⟩
   ·have g1:decide ((s.size:Int)-(i:Int)≥(nm.size:Int))=false:=decide_eq_false (by omega);have g1b:decide ((nm.size:Int)≤(s.size:Int)-(i:Int))=false:=decide_eq_false (by omega);have E1:Hid (named1 s i best nm=best):=by unfold Hid named1;rw[if_neg (by omega)]
    go_wp2_with fail;go_quiet(fail);go_wp2_with fail;exact⟨⟨best,k+1,by omega,rfl,hbs,by go_num,below_dn HBW.out nq,by rw[HST.out,E1.out]⟩,by simp only[intOf];omega⟩
  ·have hke:k=24:=by omega
   subst hke;have E:Hid (namedS s i=best):=by unfold Hid;rw[HER.out];rfl
   go_wp2_with fail;go_ret;rw[E.out];exact⟨rfl,HB0.out.trans (HBW.out.mono HB0.out.size)⟩
end Go.Proofs.YtdcjbhdfphcefaaGreatDoor
