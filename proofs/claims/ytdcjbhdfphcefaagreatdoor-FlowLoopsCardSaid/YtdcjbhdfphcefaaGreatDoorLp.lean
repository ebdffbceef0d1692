/- The plain law of FlowLoops: the blocks of its text, and what the machine tells. The lines of FlowLoops' text and what Parse makes of the text. Conditions: those that each lemma names. -/
import Derived.Test.YtdcjbhdfphcefaaGreatDoorXe
import Derived.Test.YtdcjbhdfphcefaaGreatDoorSk
import Derived.Test.YtdcjbhdfphcefaaGreatDoorXl
import Derived.Test.YtdcjbhdfphcefaaGreatDoorAx
set_option linter.unusedVariables false
set_option linter.unusedSimpArgs false
namespace Go.Proofs.YtdcjbhdfphcefaaGreatDoor
def dig(n:Nat):UInt8:=UInt8.ofNat (48+n)
def vT(n:Int):Tr:=t1 1 (numT n)
def blL(n m:Nat):List Bk:=
 [⟨1,0,false,[],numT 100000000,numT ((n:Int)*1000000),0⟩,⟨4,0,false,[],zeroT,t2 19 (vT 100000000) (numT 0),1⟩,⟨1,0,false,[],numT 101000000,numT ((m:Int)*1000000),0⟩,⟨4,0,false,[],zeroT,t2 19 (vT 101000000) (numT 0),2⟩,
  ⟨0,0,false,[(71,numT 1000000),(88,numT 1000000)],zeroT,zeroT,0⟩,⟨1,0,false,[],numT 101000000,t2 4 (vT 101000000) (numT 1000000),0⟩,⟨5,0,false,[],zeroT,zeroT,2⟩,⟨1,0,false,[],numT 100000000,t2 4 (vT 100000000) (numT 1000000),0⟩,⟨5,0,false,[],zeroT,zeroT,1⟩,
  ⟨0,0,false,[(77,numT 30000000)],zeroT,zeroT,0⟩,⟨0,0,false,[(71,numT 1000000),(88,numT 2000000)],zeroT,zeroT,0⟩]
def runB(L:Lb):Nat→MS→Bool
 |0,s=>match nextS L false s with
  |(a,(k,b,l),e)=>decide (k=1)&&decide (b=9)&&decide (l.length=1)&&decide (e=0)&&(match nextS L false a with
   |(_,(k2,_,_),e2)=>decide (k2=2)&&decide (e2=0))
 |j+1,s=>match nextS L false s with
  |(a,(k,b,_),e)=>decide (k=1)&&decide (b=4)&&decide (e=0)&&runB L j a
def okB(n m:Nat):Bool:=(newS (buildS (blL n m)).1).any (runB (buildS (blL n m)).1 (n*m))
set_option maxRecDepth 100000 in
theorem ok_all:((List.range 9).all fun n=>(List.range 9).all fun m=>okB n m)=true:=by kernel_rfl
end Go.Proofs.YtdcjbhdfphcefaaGreatDoor
namespace Go.Proofs.YtdcjbhdfphcefaaGreatDoor
open Go.RowKit Go.PlainAid
def noAtB(l:List Tk):Bool:=l.all fun t=> !(t.kind==3)|| !(funS t.text==11)
theorem noAt_of{l:List Tk}(h:noAtB l=true):noAt l:=by
 intro r e;unfold opA at e;split at e
 ·rename_i hk;have hlt:r.1<l.length:=tokA_lt (by omega);have hm:tokA l r∈l:=by
   unfold tokA at hk⊢
   split at hk
   ·cases hk
   ·rename_i q;rw[if_neg q,List.getD_eq_getElem?_getD,List.getElem?_eq_getElem (by omega)];exact List.getElem_mem _
  have q:=List.all_eq_true.1 h _ hm;simp only[Bool.or_eq_true,Bool.not_eq_true',beq_eq_false_iff_ne,ne_eq]at q;rcases q with q|q
  ·exact q hk
  ·exact q e
 ·omega
theorem dz:depthS 17 zeroT≤16:=by decide
theorem line_set(s:ByteArray)(hs:s.size≤65536)(l:List Tk)(n0:Int)(htk:tokS s=(l,n0,0))(hA:noAtB l=true)(h1:isA l (0,-1) ⟨#[47]⟩=false)(h2:letA l (0,-1) 78=false)(ny:isA l (0,-1) ⟨#[35]⟩=true)(tl tx:Tr)(ra rb:Rs)(e1:EX l .cel (nxt (0,-1))=(tl,ra))(e2:EX l (.lev 0) (wantA l ra ⟨#[61]⟩)=(tx,rb))(e3:(endA l rb).2= -1)(d1:depthS 17 tl≤16)(d2:depthS 17 tx≤16)(w:World):Calls Tryz.prog 67 #[.string s] w (LnPost ⟨1,0,false,[],tl,tx,0⟩ (s.size:Int) w):=by
 refine line_of s hs l n0 htk h1 h2 _ (endA l rb) e3 (by simp) d1 d2 (fun p hp=>by cases hp) (fun W B rb' bb A c g1 g2 g3 g4=> ?_) w;have q:=rc_set W B rb' bb A c l (0,-1) false 0 (noAt_of hA) g1 g2 g3 g4 (by unfold I64;omega) ny;rw[e1]at q;dsimp only at q;rw[e2]at q;exact q
theorem line_while(s:ByteArray)(hs:s.size≤65536)(l:List Tk)(n0:Int)(htk:tokS s=(l,n0,0))(hA:noAtB l=true)(h1:isA l (0,-1) ⟨#[47]⟩=false)(h2:letA l (0,-1) 78=false)(n0':isA l (0,-1) ⟨#[35]⟩=false)(n1:isA l (0,-1) ⟨#[73,70]⟩=false)(n2:isA l (0,-1) ⟨#[71,79,84,79]⟩=false)(ny:isA l (0,-1) ⟨#[87,72,73,76,69]⟩=true)(tx:Tr)(v:Int)(ra rb:Rs)(e1:EX l .brk (nxt (0,-1))=(tx,ra))(e2:cntA l 3 (wantA l ra ⟨#[68,79]⟩)=(v,rb))(e3:(endA l rb).2= -1)(d2:depthS 17 tx≤16)(w:World):Calls Tryz.prog 67 #[.string s] w (LnPost ⟨4,0,false,[],zeroT,tx,v⟩ (s.size:Int) w):=by
 refine line_of s hs l n0 htk h1 h2 _ (endA l rb) e3 (by simp) dz d2 (fun p hp=>by cases hp) (fun W B rb' bb A c g1 g2 g3 g4=> ?_) w;have q:=rc_while W B rb' bb A c l (0,-1) false 0 (noAt_of hA) g1 g2 g3 g4 (by unfold I64;omega) n0' n1 n2 ny;rw[e1]at q;dsimp only at q;rw[e2]at q;exact q
theorem line_end(s:ByteArray)(hs:s.size≤65536)(l:List Tk)(n0:Int)(htk:tokS s=(l,n0,0))(hA:noAtB l=true)(h1:isA l (0,-1) ⟨#[47]⟩=false)(h2:letA l (0,-1) 78=false)(n0':isA l (0,-1) ⟨#[35]⟩=false)(n1:isA l (0,-1) ⟨#[73,70]⟩=false)(n2:isA l (0,-1) ⟨#[71,79,84,79]⟩=false)(n3:isA l (0,-1) ⟨#[87,72,73,76,69]⟩=false)(ny:isA l (0,-1) ⟨#[69,78,68]⟩=true)(v:Int)(rb:Rs)(e2:cntA l 3 (nxt (0,-1))=(v,rb))(e3:(endA l rb).2= -1)(w:World):Calls Tryz.prog 67 #[.string s] w (LnPost ⟨5,0,false,[],zeroT,zeroT,v⟩ (s.size:Int) w):=by
 refine line_of s hs l n0 htk h1 h2 _ (endA l rb) e3 (by simp) dz dz (fun p hp=>by cases hp) (fun W B rb' bb A c g1 g2 g3 g4=> ?_) w;have q:=rc_end W B rb' bb A c l (0,-1) false 0 (noAt_of hA) g1 g2 g3 g4 (by unfold I64;omega) n0' n1 n2 n3 ny;rw[e2]at q;exact q
theorem line_words(s:ByteArray)(hs:s.size≤65536)(l:List Tk)(n0:Int)(htk:tokS s=(l,n0,0))(hA:noAtB l=true)(h1:isA l (0,-1) ⟨#[47]⟩=false)(h2:letA l (0,-1) 78=false)(n0':isA l (0,-1) ⟨#[35]⟩=false)(n1:isA l (0,-1) ⟨#[73,70]⟩=false)(n2:isA l (0,-1) ⟨#[71,79,84,79]⟩=false)(n3:isA l (0,-1) ⟨#[87,72,73,76,69]⟩=false)(n4:isA l (0,-1) ⟨#[69,78,68]⟩=false)(n5:letA l (0,-1) 79=false)(ws:List (Int×Tr))(rb:Rs)(e2:wordsA l (leftA l (0,-1)) (0,-1) []=(ws,rb))(e3:(endA l rb).2= -1)(hw:ws.length≤24)(d3:∀p∈ws,depthS 17 p.2≤16)(w:World):Calls Tryz.prog 67 #[.string s] w (LnPost ⟨0,0,false,ws,zeroT,zeroT,0⟩ (s.size:Int) w):=by
 refine line_of s hs l n0 htk h1 h2 _ (endA l rb) e3 hw dz dz d3 (fun W B rb' bb A c g1 g2 g3 g4=> ?_) w;have q:=rc_words W B rb' bb A c l (0,-1) false 0 (noAt_of hA) g1 g2 g3 g4 (by unfold I64;omega) n0' n1 n2 n3 n4 n5;rw[e2]at q;exact q
def txL(n m:Nat):ByteArray:=(⟨#[35,49,48,48,32,61,32]⟩:ByteArray)++⟨#[dig n]⟩++⟨#[10,87,72,73,76,69,32,91,35,49,48,48,32,71,84,32,48,93,32,68,79,32,49,10,35,49,48,49,32,61,32]⟩++⟨#[dig m]⟩++⟨#[10,87,72,73,76,69,32,91,35,49,48,49,32,71,84,32,48,93,32,68,79,32,50,10,71,49,32,88,49,10,35,49,48,49,32,61,32,35,49,48,49,32,45,32,49,10,69,78,68,32,50,10,35,49,48,48,32,61,32,35,49,48,48,32,45,32,49,10,69,78,68,32,49,10,77,51,48,10,71,49,32,88,50,10]⟩
def ln0(n:Nat):ByteArray:=⟨#[35,49,48,48,32,61,32,dig n]⟩
def ln2(n:Nat):ByteArray:=⟨#[35,49,48,49,32,61,32,dig n]⟩
def lnL(n m:Nat):List ByteArray:=[ln0 n,⟨#[87,72,73,76,69,32,91,35,49,48,48,32,71,84,32,48,93,32,68,79,32,49]⟩,ln2 m,⟨#[87,72,73,76,69,32,91,35,49,48,49,32,71,84,32,48,93,32,68,79,32,50]⟩,⟨#[71,49,32,88,49]⟩,⟨#[35,49,48,49,32,61,32,35,49,48,49,32,45,32,49]⟩,⟨#[69,78,68,32,50]⟩,⟨#[35,49,48,48,32,61,32,35,49,48,48,32,45,32,49]⟩,⟨#[69,78,68,32,49]⟩,⟨#[77,51,48]⟩,⟨#[71,49,32,88,50]⟩]
theorem nine{n:Nat}(h:n≤8):n=0∨n=1∨n=2∨n=3∨n=4∨n=5∨n=6∨n=7∨n=8:=by omega
def txC(n m:Nat):ByteArray:=⟨#[35,49,48,48,32,61,32,dig n,10,87,72,73,76,69,32,91,35,49,48,48,32,71,84,32,48,93,32,68,79,32,49,10,35,49,48,49,32,61,32,dig m,10,87,72,73,76,69,32,91,35,49,48,49,32,71,84,32,48,93,32,68,79,32,50,10,71,49,32,88,49,10,35,49,48,49,32,61,32,35,49,48,49,32,45,32,49,10,69,78,68,32,50,10,35,49,48,48,32,61,32,35,49,48,48,32,45,32,49,10,69,78,68,32,49,10,77,51,48,10,71,49,32,88,50,10]⟩
set_option maxRecDepth 100000 in
theorem txL_eq(n m:Nat):txL n m=txC n m:=by unfold txL txC;rfl
def noNl(s:ByteArray)(i n:Nat):Bool:=(List.range' i n).all fun q=>decide (bt s q≠10)
theorem seg(s:ByteArray):∀(n i k fr:Nat),(∀q,i≤q→q<i+n→bt s q≠10)→bt s (i+n)=10→linesF s (k+n+1) fr i=s.extract fr (i+n)::linesF s k (i+n+1) (i+n+1):=by
 intro n;induction n with
 |zero=>
  intro i k fr _ h;rw[Nat.add_zero]at h;simp only[Nat.add_zero];rw[linesF,if_pos h]
 |succ n ih=>
  intro i k fr h1 h2;rw[show k+(n+1)+1=(k+n+1)+1 by omega,linesF,if_neg (h1 i (Nat.le_refl _) (by omega)),ih (i+1) k fr (fun q a b=>h1 q (by omega) (by omega)) (by rw[show i+1+n=i+(n+1)by omega];exact h2)];rw[show i+1+n=i+(n+1)by omega]
theorem noNl_of{s:ByteArray}{i n:Nat}(h:noNl s i n=true):∀q,i≤q→q<i+n→bt s q≠10:=fun q a b=>of_decide_eq_true (List.all_eq_true.1 h q (List.mem_range'_1.2 ⟨a,b⟩))
theorem dig_ne{n:Nat}(h:n≤8):((dig n).toNat:Int)≠10:=by
 rcases nine h with rfl|rfl|rfl|rfl|rfl|rfl|rfl|rfl|rfl<;>decide
set_option maxRecDepth 100000 in
theorem lines_L(n m:Nat)(hn:n≤8)(hm:m≤8):linesS (txL n m)=lnL n m:=by
 rw[txL_eq];have g0:∀fr,linesF (txC n m) 124 fr 0=(txC n m).extract fr 8::linesF (txC n m) 115 9 9:=fun fr=>seg (txC n m) 8 0 115 fr (fun q a b=>by
  by_cases hq:q=7
  ·subst hq;exact dig_ne hn
  ·exact noNl_of (s:=txC n m) (i:=0) (n:=7) (by kernel_rfl) q a (by omega)) (by kernel_rfl)
 have g1:∀fr,linesF (txC n m) 115 fr 9=(txC n m).extract fr 31::linesF (txC n m) 92 32 32:=fun fr=>seg (txC n m) 22 9 92 fr (noNl_of (s:=txC n m) (i:=9) (n:=22) (by kernel_rfl)) (by kernel_rfl);have g2:∀fr,linesF (txC n m) 92 fr 32=(txC n m).extract fr 40::linesF (txC n m) 83 41 41:=fun fr=>seg (txC n m) 8 32 83 fr (fun q a b=>by
  by_cases hq:q=39
  ·subst hq;exact dig_ne hm
  ·exact noNl_of (s:=txC n m) (i:=32) (n:=7) (by kernel_rfl) q a (by omega)) (by kernel_rfl)
 have g3:∀fr,linesF (txC n m) 83 fr 41=(txC n m).extract fr 63::linesF (txC n m) 60 64 64:=fun fr=>seg (txC n m) 22 41 60 fr (noNl_of (s:=txC n m) (i:=41) (n:=22) (by kernel_rfl)) (by kernel_rfl);have g4:∀fr,linesF (txC n m) 60 fr 64=(txC n m).extract fr 69::linesF (txC n m) 54 70 70:=fun fr=>seg (txC n m) 5 64 54 fr (noNl_of (s:=txC n m) (i:=64) (n:=5) (by kernel_rfl)) (by kernel_rfl);have g5:∀fr,linesF (txC n m) 54 fr 70=(txC n m).extract fr 85::linesF (txC n m) 38 86 86:=fun fr=>seg (txC n m) 15 70 38 fr (noNl_of (s:=txC n m) (i:=70) (n:=15) (by kernel_rfl)) (by kernel_rfl);have g6:∀fr,linesF (txC n m) 38 fr 86=(txC n m).extract fr 91::linesF (txC n m) 32 92 92:=fun fr=>seg (txC n m) 5 86 32 fr (noNl_of (s:=txC n m) (i:=86) (n:=5) (by kernel_rfl)) (by kernel_rfl);have g7:∀fr,linesF (txC n m) 32 fr 92=(txC n m).extract fr 107::linesF (txC n m) 16 108 108:=fun fr=>seg (txC n m) 15 92 16 fr (noNl_of (s:=txC n m) (i:=92) (n:=15) (by kernel_rfl)) (by kernel_rfl);have g8:∀fr,linesF (txC n m) 16 fr 108=(txC n m).extract fr 113::linesF (txC n m) 10 114 114:=fun fr=>seg (txC n m) 5 108 10 fr (noNl_of (s:=txC n m) (i:=108) (n:=5) (by kernel_rfl)) (by kernel_rfl);have g9:∀fr,linesF (txC n m) 10 fr 114=(txC n m).extract fr 117::linesF (txC n m) 6 118 118:=fun fr=>seg (txC n m) 3 114 6 fr (noNl_of (s:=txC n m) (i:=114) (n:=3) (by kernel_rfl)) (by kernel_rfl);have g10:∀fr,linesF (txC n m) 6 fr 118=(txC n m).extract fr 123::linesF (txC n m) 0 124 124:=fun fr=>seg (txC n m) 5 118 0 fr (noNl_of (s:=txC n m) (i:=118) (n:=5) (by kernel_rfl)) (by kernel_rfl);show linesF (txC n m) 124 0 0=lnL n m;rw[g0,g1,g2,g3,g4,g5,g6,g7,g8,g9,g10];kernel_rfl
set_option maxRecDepth 100000 in
theorem size_L(n m:Nat):(txL n m).size≤65536:=by
 rw[txL_eq];exact Nat.le_of_ble_eq_true rfl
set_option maxRecDepth 100000 in
theorem line_0(n:Nat)(hn:n≤8)(w:World):Calls Tryz.prog 67 #[.string (ln0 n)] w (LnPost ⟨1,0,false,[],numT 100000000,numT ((n:Int)*1000000),0⟩ ((ln0 n).size:Int) w):=by
 rcases nine hn with rfl|rfl|rfl|rfl|rfl|rfl|rfl|rfl|rfl<;>
  exact line_set _ (by decide) _ _ (Prod.ext rfl (Prod.ext rfl (by kernel_rfl))) (by kernel_rfl) (by kernel_rfl) (by kernel_rfl) (by kernel_rfl) _ _ (2,-1) (4,-1) (by kernel_rfl) (by kernel_rfl) (by kernel_rfl) (by decide) (by decide) w
set_option maxRecDepth 100000 in
theorem line_2(n:Nat)(hn:n≤8)(w:World):Calls Tryz.prog 67 #[.string (ln2 n)] w (LnPost ⟨1,0,false,[],numT 101000000,numT ((n:Int)*1000000),0⟩ ((ln2 n).size:Int) w):=by
 rcases nine hn with rfl|rfl|rfl|rfl|rfl|rfl|rfl|rfl|rfl<;>
  exact line_set _ (by decide) _ _ (Prod.ext rfl (Prod.ext rfl (by kernel_rfl))) (by kernel_rfl) (by kernel_rfl) (by kernel_rfl) (by kernel_rfl) _ _ (2,-1) (4,-1) (by kernel_rfl) (by kernel_rfl) (by kernel_rfl) (by decide) (by decide) w
set_option maxRecDepth 100000 in
theorem line_1(w:World):Calls Tryz.prog 67 #[.string ⟨#[87,72,73,76,69,32,91,35,49,48,48,32,71,84,32,48,93,32,68,79,32,49]⟩] w (LnPost ⟨4,0,false,[],zeroT,t2 19 (vT 100000000) (numT 0),1⟩ (((⟨#[87,72,73,76,69,32,91,35,49,48,48,32,71,84,32,48,93,32,68,79,32,49]⟩):ByteArray).size:Int) w):=
 line_while _ (by decide) _ _ (Prod.ext rfl (Prod.ext rfl (by kernel_rfl))) (by kernel_rfl) (by kernel_rfl) (by kernel_rfl) (by kernel_rfl) (by kernel_rfl) (by kernel_rfl) (by kernel_rfl) _ 1 (7,-1) (9,-1) (by kernel_rfl) (by kernel_rfl) (by kernel_rfl) (by decide) w
set_option maxRecDepth 100000 in
theorem line_3(w:World):Calls Tryz.prog 67 #[.string ⟨#[87,72,73,76,69,32,91,35,49,48,49,32,71,84,32,48,93,32,68,79,32,50]⟩] w (LnPost ⟨4,0,false,[],zeroT,t2 19 (vT 101000000) (numT 0),2⟩ (((⟨#[87,72,73,76,69,32,91,35,49,48,49,32,71,84,32,48,93,32,68,79,32,50]⟩):ByteArray).size:Int) w):=
 line_while _ (by decide) _ _ (Prod.ext rfl (Prod.ext rfl (by kernel_rfl))) (by kernel_rfl) (by kernel_rfl) (by kernel_rfl) (by kernel_rfl) (by kernel_rfl) (by kernel_rfl) (by kernel_rfl) _ 2 (7,-1) (9,-1) (by kernel_rfl) (by kernel_rfl) (by kernel_rfl) (by decide) w
set_option maxRecDepth 100000 in
theorem line_4(w:World):Calls Tryz.prog 67 #[.string ⟨#[71,49,32,88,49]⟩] w (LnPost ⟨0,0,false,[(71,numT 1000000),(88,numT 1000000)],zeroT,zeroT,0⟩ (((⟨#[71,49,32,88,49]⟩):ByteArray).size:Int) w):=
 line_words _ (by decide) _ _ (Prod.ext rfl (Prod.ext rfl (by kernel_rfl))) (by kernel_rfl) (by kernel_rfl) (by kernel_rfl) (by kernel_rfl) (by kernel_rfl) (by kernel_rfl) (by kernel_rfl) (by kernel_rfl) (by kernel_rfl) [(71,numT 1000000),(88,numT 1000000)] (4,-1) (by kernel_rfl) (by kernel_rfl) (by decide) (fun p hp=>by simp at hp;rcases hp with rfl|rfl<;>decide) w
set_option maxRecDepth 100000 in
theorem line_5(w:World):Calls Tryz.prog 67 #[.string ⟨#[35,49,48,49,32,61,32,35,49,48,49,32,45,32,49]⟩] w (LnPost ⟨1,0,false,[],numT 101000000,t2 4 (vT 101000000) (numT 1000000),0⟩ (((⟨#[35,49,48,49,32,61,32,35,49,48,49,32,45,32,49]⟩):ByteArray).size:Int) w):=
 line_set _ (by decide) _ _ (Prod.ext rfl (Prod.ext rfl (by kernel_rfl))) (by kernel_rfl) (by kernel_rfl) (by kernel_rfl) (by kernel_rfl) _ _ (2,-1) (7,-1) (by kernel_rfl) (by kernel_rfl) (by kernel_rfl) (by decide) (by decide) w
set_option maxRecDepth 100000 in
theorem line_6(w:World):Calls Tryz.prog 67 #[.string ⟨#[69,78,68,32,50]⟩] w (LnPost ⟨5,0,false,[],zeroT,zeroT,2⟩ (((⟨#[69,78,68,32,50]⟩):ByteArray).size:Int) w):=
 line_end _ (by decide) _ _ (Prod.ext rfl (Prod.ext rfl (by kernel_rfl))) (by kernel_rfl) (by kernel_rfl) (by kernel_rfl) (by kernel_rfl) (by kernel_rfl) (by kernel_rfl) (by kernel_rfl) (by kernel_rfl) 2 (2,-1) (by kernel_rfl) (by kernel_rfl) w
set_option maxRecDepth 100000 in
theorem line_7(w:World):Calls Tryz.prog 67 #[.string ⟨#[35,49,48,48,32,61,32,35,49,48,48,32,45,32,49]⟩] w (LnPost ⟨1,0,false,[],numT 100000000,t2 4 (vT 100000000) (numT 1000000),0⟩ (((⟨#[35,49,48,48,32,61,32,35,49,48,48,32,45,32,49]⟩):ByteArray).size:Int) w):=
 line_set _ (by decide) _ _ (Prod.ext rfl (Prod.ext rfl (by kernel_rfl))) (by kernel_rfl) (by kernel_rfl) (by kernel_rfl) (by kernel_rfl) _ _ (2,-1) (7,-1) (by kernel_rfl) (by kernel_rfl) (by kernel_rfl) (by decide) (by decide) w
set_option maxRecDepth 100000 in
theorem line_8(w:World):Calls Tryz.prog 67 #[.string ⟨#[69,78,68,32,49]⟩] w (LnPost ⟨5,0,false,[],zeroT,zeroT,1⟩ (((⟨#[69,78,68,32,49]⟩):ByteArray).size:Int) w):=
 line_end _ (by decide) _ _ (Prod.ext rfl (Prod.ext rfl (by kernel_rfl))) (by kernel_rfl) (by kernel_rfl) (by kernel_rfl) (by kernel_rfl) (by kernel_rfl) (by kernel_rfl) (by kernel_rfl) (by kernel_rfl) 1 (2,-1) (by kernel_rfl) (by kernel_rfl) w
set_option maxRecDepth 100000 in
theorem line_9(w:World):Calls Tryz.prog 67 #[.string ⟨#[77,51,48]⟩] w (LnPost ⟨0,0,false,[(77,numT 30000000)],zeroT,zeroT,0⟩ (((⟨#[77,51,48]⟩):ByteArray).size:Int) w):=
 line_words _ (by decide) _ _ (Prod.ext rfl (Prod.ext rfl (by kernel_rfl))) (by kernel_rfl) (by kernel_rfl) (by kernel_rfl) (by kernel_rfl) (by kernel_rfl) (by kernel_rfl) (by kernel_rfl) (by kernel_rfl) (by kernel_rfl) [(77,numT 30000000)] (2,-1) (by kernel_rfl) (by kernel_rfl) (by decide) (fun p hp=>by simp at hp;rw[hp];decide) w
set_option maxRecDepth 100000 in
theorem line_10(w:World):Calls Tryz.prog 67 #[.string ⟨#[71,49,32,88,50]⟩] w (LnPost ⟨0,0,false,[(71,numT 1000000),(88,numT 2000000)],zeroT,zeroT,0⟩ (((⟨#[71,49,32,88,50]⟩):ByteArray).size:Int) w):=
 line_words _ (by decide) _ _ (Prod.ext rfl (Prod.ext rfl (by kernel_rfl))) (by kernel_rfl) (by kernel_rfl) (by kernel_rfl) (by kernel_rfl) (by kernel_rfl) (by kernel_rfl) (by kernel_rfl) (by kernel_rfl) (by kernel_rfl) [(71,numT 1000000),(88,numT 2000000)] (4,-1) (by kernel_rfl) (by kernel_rfl) (by decide) (fun p hp=>by simp at hp;rcases hp with rfl|rfl<;>decide) w
theorem parse_L(n m:Nat)(hn:n≤8)(hm:m≤8)(w:World):Calls Tryz.prog 40 #[.string (txL n m)] w (PaPost (blL n m) w):=by
 refine parse_of (txL n m) (size_L n m) (blL n m) (by rw[lines_L n m hn hm];rfl) (by show 11≤2000;omega) (fun i x b hx hb w=> ?_) w;rw[lines_L n m hn hm]at hx
 match i,hx,hb with
 |0,hx,hb=>cases hx;cases hb;exact line_0 n hn w
 |1,hx,hb=>cases hx;cases hb;exact line_1 w
 |2,hx,hb=>cases hx;cases hb;exact line_2 m hm w
 |3,hx,hb=>cases hx;cases hb;exact line_3 w
 |4,hx,hb=>cases hx;cases hb;exact line_4 w
 |5,hx,hb=>cases hx;cases hb;exact line_5 w
 |6,hx,hb=>cases hx;cases hb;exact line_6 w
 |7,hx,hb=>cases hx;cases hb;exact line_7 w
 |8,hx,hb=>cases hx;cases hb;exact line_8 w
 |9,hx,hb=>cases hx;cases hb;exact line_9 w
 |10,hx,hb=>cases hx;cases hb;exact line_10 w
 |i+11,hx,hb=>simp[lnL]at hx
end Go.Proofs.YtdcjbhdfphcefaaGreatDoor
