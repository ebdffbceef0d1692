/- The contract of Parse of cncref06, given that of Line at each line. Conditions: those that parse_of names. -/
import Derived.Test.YtdcjbhdfphcefaaGreatDoorLn
import Derived.Test.YtdcjbhdfphcefaaGreatDoorDp
import Derived.Test.YtdcjbhdfphcefaaGreatDoorBx
set_option linter.unusedVariables false
set_option linter.unusedSimpArgs false
namespace Go.Proofs.YtdcjbhdfphcefaaGreatDoor
open Go.RowKit
def PaPost(bl:List Bk)(w:World)(e:Ending)(w':World):Prop:=
 ∃(C:Option Addr) (cp:Nat) (base:Nat) (xs:List Value),e=.returned (.tuple #[.slice C bl.length cp,.int .i64 (bl.length:Int),.int .i64 0])∧BkS w' base (fun _=>True) C cp bl xs∧Below w.heap.size w w'
theorem results_t3p{fn:Func}{t u v:Tmp}(h:fn.results= #[.tmp t,.tmp u,.tmp v])(tmps:Array Value)(P:Program)(w:World):
 (results fn tmps).run P w=.ok (.tuple #[tmps.getD t undef,tmps.getD u undef,tmps.getD v undef]) w:=by simp[results,h]
theorem Bz.sizes{w:World}{I:Nat→Prop}{b:Bk}{A:Option Addr}{k:Nat}{l0 l1 l2 x0 x1 x2:Value}(h:Bz w I b A k l0 l1 l2 x0 x1 x2):(∃lo ln lA lk lc,l0=.int .i64 lo∧l1=.int .i64 ln∧l2=.slice lA lk lc)∧∃lo ln lA lk lc,x0=.int .i64 lo∧x1=.int .i64 ln∧x2=.slice lA lk lc:=by
 obtain⟨a,b,c,d,e,h1,h2,h3⟩:=h.left.form;obtain⟨a',b',c',d',e',h4,h5,h6⟩:=h.x.form;exact⟨⟨a,b,c,d,e,h1,h2,h3⟩,a',b',c',d',e',h4,h5,h6⟩
theorem pa_push{W1 wr w2 W3 w9:World}{bl:List Bk}{b:Bk}{C:Option Addr}{cp k g9 c9:Nat}{xs:List Value}{o:Obj}{A2:Option Addr}{k2 c2:Nat}{l0 l1 l2 x0 x1 x2:Value}(h:BkS wr W1.heap.size (fun _=>True) C cp (bl.take k) xs)(h2:Below wr.heap.size wr w2)(h3:Below w2.heap.size w2 W3)
 (hz:Bz w2 (fun g=>wr.heap.size≤g) b A2 k2 l0 l1 l2 x0 x1 x2) (htk:(bl.take k).length=k) (ho:w9.ownsRow W1.heap.size 54 11 (.slice (some ⟨g9,0,none⟩) (k+1) c9) (k+1) (xs++cellsB b A2 k2 c2 l0 l1 l2 x0 x1 x2)) (hg:(W3.alloc o).grownBy w9 (Value.slice C k cp).ownBlock) (hl:(Value.slice C k cp).ownBlock=some g9∨g9=(W3.alloc o).heap.size) (hb:Below W1.heap.size W1 wr):
 BkS w9 W1.heap.size (fun _=>True) (some ⟨g9,0,none⟩) c9 (bl.take k++[b]) (xs++cellsB b A2 k2 c2 l0 l1 l2 x0 x1 x2)∧Below W1.heap.size W1 w9:=by
 have hs2:=h2.size;have hs3:=h3.size;have hb4:Below W3.heap.size W3 (W3.alloc o):=(Below.refl _ _).alloc (Nat.le_refl _) _;have hs4:=hb4.size;have hgs:=hg.size;have hbs:=hb.size;refine⟨h.push hs2 (fun q hq _=>h2.block q hq) hz (fun _ _=>trivial) (by omega) (fun q hq=>(hb4.block q (by omega)).trans (h3.block q hq)) (by rw[htk];exact ho) (by rw[htk];exact hg) (by rw[htk];exact hl),?_⟩;have kk:∀q,q<W1.heap.size→(Value.slice C k cp).ownBlock≠some q:=fun q hq e=>by
  have q2:=h.own;rw[htk]at q2;have:=(own_blk q2 e).1;omega
 exact⟨hg.os.trans (hb4.os.trans (h3.os.trans (h2.os.trans hb.os))),hg.tape.trans (hb4.tape.trans (h3.tape.trans (h2.tape.trans hb.tape))),hg.output.trans (hb4.output.trans (h3.output.trans (h2.output.trans hb.output))),by omega,fun q hq=>(hg.block q (by omega) (fun e=>kk q hq e.symm)).trans ((hb4.block q (by omega)).trans ((h3.block q (by omega)).trans ((h2.block q (by omega)).trans (hb.block q hq))))⟩
set_option maxRecDepth 100000 in
set_option maxHeartbeats 16000000 in
theorem parse_of(s:ByteArray)(hs:s.size≤65536)(bl:List Bk)(hn:(linesS s).length=bl.length)(hn2:bl.length≤2000)
 (hL:∀(i:Nat) (x:ByteArray) (b:Bk),(linesS s)[i]? =some x→bl[i]? =some b→∀w,Calls Tryz.prog 67 #[.string x] w (LnPost b (x.size:Int) w)) (w:World):
 Calls Tryz.prog 40 #[.string s] w (PaPost bl w):=by
 have HL:=Lib.hid hL;have HN:=Lib.hid hn;clear hL;obtain⟨iB,zB,hiB,hB0,hB1,hB2,hBs⟩:=infoBl_parts;have HIB:=Lib.hid hiB;have HZB:=Lib.hid hB0;have HLN:=Lib.hid (lines_any s (by omega) w);have g0:decide ((s.size:Int)>65536)=false:=decide_eq_false (by omega);clear hiB hB0 hn;go_enter Tryz.func40,Tryz.ntmps40;go_wp2_with(go_at_call 66;(refine HLN.out.mono ?_);rintro e W1 ⟨O,cO,rfl,hLS⟩;have HLS:=Lib.hid hLS;have hnl:=HN.out;have g1:decide ((((linesS s).length:Nat):Int)>2000)=false:=decide_eq_false (by omega);clear hLS);have hw1:=HLS.out.bel.size;go_loopw[6,7] (fun o i W=>∃(k:Nat) (C:Option Addr) (cp:Nat) (xs:List Value),k≤bl.length∧o=.slice C (bl.take k).length cp∧i=.int .i64 (k:Int)∧BkS W W1.heap.size (fun _=>True) C cp (bl.take k) xs∧Below W1.heap.size W1 W) (fun _ i _=>bl.length-(intOf i).toNat)
 case atStart=>exact⟨0,none,0,[],by omega,rfl,rfl,BkS.nil _ _ _,Below.refl _ _⟩
 case round=>
  obtain⟨k,C,cp,xs,hk,rfl,rfl,hB,hbw⟩:=hrel;have HB:=Lib.hid hB;have HBW:=Lib.hid hbw;have hbs:=hbw.size;clear hB hbw;have htk:(bl.take k).length=k:=by rw[List.length_take];omega
  by_cases hlt:k<bl.length
  ·obtain⟨x,hx⟩:∃x,(linesS s)[k]? =some x:=⟨_,List.getElem?_eq_getElem (by omega)⟩;obtain⟨b,hb⟩:∃b,bl[k]? =some b:=⟨_,List.getElem?_eq_getElem hlt⟩;have HLC:=Lib.hid (HL.out k x b hx hb wr);have htk1:bl.take (k+1)=bl.take k++[b]:=by rw[List.take_add_one,hb];rfl
   have HT1:=Lib.hid htk1;obtain⟨gO,hgO,q1,q2,q3,q4,_⟩:=own_some HLS.out.own (by omega);subst hgO;have c0:wr.cell? ⟨gO,k,none⟩=some (.string x):=by
    refine(HBW.out.cell (p:=⟨gO,k,none⟩) q2).trans ?_;rw[HLS.out.own.cellAt k (by omega),List.getElem?_map,hx];rfl
   have i0:(0:Int)≤(k:Int):=by omega
   have i1:(k:Int)<((linesS s).length:Int):=by omega
   have HOW:Hid (wr.ownsRow W1.heap.size 54 11 (.slice C k cp) k xs):=by have q:=HB.out.own;rw[htk]at q;exact q
   clear hx hb htk1;go_wp2_with(first
    |(go_at_call 67;(refine HLC.out.mono ?_);rintro e w2 ⟨A2,k2,c2,l0,l1,l2,x0,x1,x2,rfl,hz,hb2⟩;have HZ:=Lib.hid hz;(obtain⟨⟨lo,ln,lA,lk,lc,rfl,rfl,rfl⟩,xo,xn,xA,xk,xc,rfl,rfl,rfl⟩:=hz.sizes);have HB2:=Lib.hid hb2;clear hz hb2;unfold cellsB)
    |(at_builtin;(obtain⟨W3,hW3⟩:∃W3,W3=(w2.alloc (.cells #[.int .i64 b.kind,.int .i64 b.label,.bool b.skip,.slice A2 k2 c2,.int .i64 lo,.int .i64 ln,.slice lA lk lc,.int .i64 xo,.int .i64 xn,.slice xA xk xc,.int .i64 b.n] 54)):=⟨_,rfl⟩);rw[←hW3];have HB3:Hid (Below w2.heap.size w2 W3):=(by{unfold Hid;rw[hW3];exact(Below.refl _ _).alloc (Nat.le_refl _) _});have hs3e:W3.heap.size=w2.heap.size+1:=(by rw[hW3];simp);have HNB:Hid ((W3.alloc (.cells #[.int .i64 b.kind,.int .i64 b.label,.bool b.skip,.slice A2 k2 c2,.int .i64 lo,.int .i64 ln,.slice lA lk lc,.int .i64 xo,.int .i64 xn,.slice xA xk xc,.int .i64 b.n] 54)).heap[w2.heap.size+1]? =some (.cells #[.int .i64 b.kind,.int .i64 b.label,.bool b.skip,.slice A2 k2 c2,.int .i64 lo,.int .i64 ln,.slice lA lk lc,.int .i64 xo,.int .i64 xn,.slice xA xk xc,.int .i64 b.n] 54 (0,0))):=(by{unfold Hid;rw[←hs3e];exact heap_alloc_new W3 _});clear hW3;have hs2:=HB2.out.size;have hs3:=HB3.out.size;have HOW3:Hid (W3.ownsRow W1.heap.size 54 11 (.slice C k cp) k xs):=owns_keep HOW.out (fun g hg _=>(HB3.out.block g (by omega)).trans (HB2.out.block g hg));refine wpList_append_lies _ rfl (.tmp 38) (.tmp 40) 29 rfl W1.heap.size 54 iB zB 11 136 Tryz.underlying29 HIB.out HZB.out hB1 hB2 hBs (by omega) (.slice C k cp) k xs rfl (HOW3.out.alloc _) ⟨w2.heap.size+1,0,none⟩ 1 1 [.int .i64 b.kind,.int .i64 b.label,.bool b.skip,.slice A2 k2 c2,.int .i64 lo,.int .i64 ln,.slice lA lk lc,.int .i64 xo,.int .i64 xn,.slice xA xk xc,.int .i64 b.n] rfl rfl (World.news_of_block HNB.out) (by intro u hu;simp only[List.mem_cons,List.not_mem_nil,or_false]at hu;rcases hu with rfl|rfl|rfl|rfl|rfl|rfl|rfl|rfl|rfl|rfl|rfl<;>rfl) (by omega) (by unfold maxLen;omega) (by omega) (by simp;omega) _ rfl ?_;intro g9 c9 w9 ho9 hg9 hl9 hlt9;have HNX:=Lib.hid (pa_push HB.out HB2.out HB3.out HZ.out htk ho9 hg9 hl9 HBW.out);clear ho9 hg9 hl9 hlt9))
   exact⟨⟨k+1,some ⟨g9,0,none⟩,c9,_,by omega,by simp only[List.length_take];congr 1;omega,by go_num,by rw[HT1.out];exact HNX.out.1,HNX.out.2⟩,by simp only[intOf];omega⟩
  ·have hke:k=bl.length:=by omega
   subst hke;have hb2:=HB.out;rw[List.take_length]at hb2;have HB2:=Lib.hid hb2;clear hb2;go_wp2_with fail;refine bodyPost_ret (results_t3p Tryz.results40 _ _ _) rfl ⟨C,cp,W1.heap.size,xs,?_,HB2.out,HLS.out.bel.trans (HBW.out.mono hw1)⟩
   trace_state
   simp
end Go.Proofs.YtdcjbhdfphcefaaGreatDoor
