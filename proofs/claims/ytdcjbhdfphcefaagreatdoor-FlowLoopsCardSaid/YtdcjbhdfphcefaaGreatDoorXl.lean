/- The reader of cncref06: the contract of level; all expressions by induction on the cost. The contract of content of cncref06's reader, form by form, in general. The contract of content of cncref06's reader: words. Conditions: those that each lemma names. -/
import Derived.Test.YtdcjbhdfphcefaaGreatDoorXe
import Derived.Test.YtdcjbhdfphcefaaGreatDoorCt
import Derived.Test.YtdcjbhdfphcefaaGreatDoorMc
set_option linter.unusedVariables false
set_option linter.unusedSimpArgs false
namespace Go.Proofs.YtdcjbhdfphcefaaGreatDoor
open Go.RowKit
def lfM(rb:Nat)(l:List Tk)(W:World):Nat:=match W.cell? ⟨rb,1,none⟩,W.cell? ⟨rb,2,none⟩with
 |some (.int _ p),some (.int _ b)=>leftA l (p.toNat,b)
 |_,_=>0
theorem lfM_eq{w:World}{B rb:Nat}{A:Option Addr}{c:Nat}{l:List Tk}{r:Rs}(h:RX w B rb A c l r):lfM rb l w=leftA l r:=by
 obtain⟨_,c1,c2,_⟩:=h.cells;unfold lfM;rw[c1,c2];rfl
structure LvI(w:World)(B rb:Nat)(A:Option Addr)(c:Nat)(l:List Tk)(r:Rs)(n b0 xb:Nat)(t:Tr)(r':Rs)(x y z:Value)(W:World):Prop where
 rx:RX W B rb A c l r'
 left:leftA l r'≤leftA l r
 only:Only rb w W
 rb0:RB W w.heap.size
 xc:W.heap[xb]? =some (.cells #[x,y,z] 52 (0,0))
 rz:Rz W (fun g=>b0≤g∧g≠xb) t (.agg #[x,y,z])
 sg:W.heap[xb+1]? =some (.cells (signsC n) 9 (0,0))
 og:W.heap[xb+2]? =some (.cells (opsC n) 3 (0,0))
theorem LvI.move{w W W':World}{B rb:Nat}{A:Option Addr}{c:Nat}{l:List Tk}{r r' r2:Rs}{n b0 xb:Nat}{t:Tr}{x y z:Value}(h:LvI w B rb A c l r n b0 xb t r' x y z W)(hr:RP B rb A c l r2 W W')(hb:rb<w.heap.size)(hw:w.heap.size<b0)(hx:b0≤xb)(hl:leftA l r2≤leftA l r):LvI w B rb A c l r n b0 xb t r2 x y z W':=by
 have ho:=hr.2;have q1:=hlS h.xc;have q2:=hlS h.sg;have q3:=hlS h.og;exact⟨hr.1,hl,h.only.trans ho,h.rb0.only ho hb,(ho.2.2.2.2 _ q1 (by omega)).trans h.xc,h.rz.keep ho.2.2.2.1 (fun _ _ q=>q) fun g hg hi=>ho.2.2.2.2 g hg (by omega),(ho.2.2.2.2 _ q2 (by omega)).trans h.sg,(ho.2.2.2.2 _ q3 (by omega)).trans h.og⟩
theorem LvI.push{w W W2:World}{B rb:Nat}{A:Option Addr}{c:Nat}{l:List Tk}{r r':Rs}{n b0 xb:Nat}{t:Tr}{x y z x2 y2 z2:Value}{q:Tr×Rs}{op:Int}(h:LvI w B rb A c l r n b0 xb t r' x y z W)(hz:Rz W2 (fun g=>W.heap.size≤g) q.1 (.agg #[x2,y2,z2]))(hr:RP B rb A c l q.2 W W2)(hb:rb<w.heap.size)(hw:w.heap.size<b0)(hx:b0≤xb)(hl:leftA l q.2≤leftA l r)(ho:I64 op):
 LvI w B rb A c l r n b0 xb (t2 op t q.1) q.2 (.int .i64 op) (.int .i64 0) (.slice (some ⟨W2.heap.size,0,none⟩) 2 2) ((((W2.setCell ⟨xb,0,none⟩ (.int .i64 op)).setCell ⟨xb,1,none⟩ (.int .i64 0)).setCell ⟨xb,2,none⟩ (.slice (some ⟨W2.heap.size,0,none⟩) 2 2)).alloc (.cells #[x,y,z,x2,y2,z2] 52)):=by
 have m:=h.move hr hb hw hx hl;obtain⟨X,hX⟩:∃X,X=((W2.setCell ⟨xb,0,none⟩ (.int .i64 op)).setCell ⟨xb,1,none⟩ (.int .i64 0)).setCell ⟨xb,2,none⟩ (.slice (some ⟨W2.heap.size,0,none⟩) 2 2):=⟨_,rfl⟩;have hXs:X.heap.size=W2.heap.size:=by rw[hX];exact set3_size W2 xb 0 _ _ _
 have hk:∀g,g≠xb→X.heap[g]? =W2.heap[g]? :=fun g hg=>by rw[hX];exact set3_heap W2 xb 0 g _ _ _ hg
 have hxc:X.heap[xb]? =some (.cells #[.int .i64 op,.int .i64 0,.slice (some ⟨W2.heap.size,0,none⟩) 2 2] 52 (0,0)):=by rw[hX];exact set_three m.xc
 have l1:=hlS h.xc;have l2:=hlS m.sg;have l3:=hlS m.og;have l4:=hlS m.rb0.blk;have l5:=hlS m.xc;have hs:=hr.2.2.2.2.1;have hXo:Only rb w X:=by rw[hX];exact only_set3 m.only (by omega) _ _ _
 have hXr:RX X B rb A c l q.2:=by rw[hX];exact m.rx.set3 (by omega) _ _ _
 rw[←hX];have hbl:Below X.heap.size X (X.alloc (.cells #[x,y,z,x2,y2,z2] 52)):=(Below.refl _ _).alloc (Nat.le_refl _) _;have hnew:=heap_alloc_new X (.cells #[x,y,z,x2,y2,z2] 52);rw[hXs]at hnew;have kz:∀g,g<W2.heap.size→g≠xb→(X.alloc (.cells #[x,y,z,x2,y2,z2] 52)).heap[g]? =W2.heap[g]? :=fun g hg hn=>(hbl.block g (by omega)).trans (hk g hn);have hsz:=hbl.size;refine⟨hXr.below hbl,hl,hXo.trans (Only.of_below hbl),⟨(kz _ l4 (by omega)).trans m.rb0.blk⟩,(hbl.block _ (by omega)).trans hxc,?_,(kz _ l2 (by omega)).trans m.sg,(kz _ l3 (by omega)).trans m.og⟩;have rzA:Rz (X.alloc (.cells #[x,y,z,x2,y2,z2] 52)) (fun g=>b0≤g∧g≠xb) t (.agg #[x,y,z]):=m.rz.keep (by omega) (fun _ _ q=>q) fun g hg hi=>kz g hg hi.2;have rzB:Rz (X.alloc (.cells #[x,y,z,x2,y2,z2] 52)) (fun g=>b0≤g∧g≠xb) q.1 (.agg #[x2,y2,z2]):=hz.keep (by omega) (fun g _ (hg:W.heap.size≤g)=>⟨by omega,by omega⟩) fun g hg (hi:W.heap.size≤g)=>kz g hg (by omega);refine⟨_,2,rfl,ho,by unfold I64;omega,by unfold maxLen;omega,.inr ⟨W2.heap.size,rfl,⟨by omega,by omega⟩,hlS hnew,fun i hi=> ?_⟩⟩;obtain rfl|rfl:i=0∨i=1:=by omega
 ·exact⟨x,y,z,cell_of_row _ _ 0 _ _ _ hnew,cell_of_row _ _ 1 _ _ _ hnew,cell_of_row _ _ 2 _ _ _ hnew,rzA⟩
 ·exact⟨x2,y2,z2,cell_of_row _ _ 3 _ _ _ hnew,cell_of_row _ _ 4 _ _ _ hnew,cell_of_row _ _ 5 _ _ _ hnew,rzB⟩
theorem LvI.done{w W:World}{B rb:Nat}{A:Option Addr}{c:Nat}{l:List Tk}{r r':Rs}{n b0 xb:Nat}{t:Tr}{x y z:Value}(h:LvI w B rb A c l r n b0 xb t r' x y z W)(hb:rb<w.heap.size)(hw:w.heap.size<b0):
 XP B rb A c l (t,r') w (.returned (.agg #[x,y,z])) (((W.setCell ⟨w.heap.size,0,none⟩ x).setCell ⟨w.heap.size,1,none⟩ y).setCell ⟨w.heap.size,2,none⟩ z):=
 ⟨x,y,z,rfl,h.rz.keep (Nat.le_of_eq (set3_size W w.heap.size 0 x y z).symm) (fun g _ hg=>by have:=hg.1;show w.heap.size≤g;omega) (fun g _ hg=>set3_heap W w.heap.size 0 g x y z (by have:=hg.1;omega)),h.rx.set3 hb _ _ _,only_set3 h.only (Nat.le_refl _) _ _ _⟩
def LvR(w:World)(B rb:Nat)(A:Option Addr)(c:Nat)(l:List Tk)(r:Rs)(n b0 xb:Nat)(Q:Tr×Rs)(again:Value)(W:World):Prop:=
 ∃(b:Bool) (t:Tr) (r':Rs) (x y z:Value),again=.bool b∧LvI w B rb A c l r n b0 xb t r' x y z W∧(b=true→EX l (.lop n t) r'=Q)∧(b=false→(t,r')=Q)
def LvJ(w:World)(B rb:Nat)(A:Option Addr)(c:Nat)(l:List Tk)(r:Rs)(n b0 xb:Nat)(t0:Tr)(r0:Rs)(again i:Value)(W:World):Prop:=
 ∃(b:Bool) (k:Nat) (t:Tr) (r':Rs) (x y z:Value),again=.bool b∧i=.int .i64 (k:Int)∧k≤(opsS n).length∧LvI w B rb A c l r n b0 xb t r' x y z W∧(b=false→t=t0∧r'=r0∧opFrom l r0 (opsS n)=opFrom l r0 ((opsS n).drop k))∧
  (b=true→∃op,opFrom l r0 (opsS n)=some op∧t=t2 op t0 (EX l (.lev (n+1)) (nxt r0)).1∧r'=(EX l (.lev (n+1)) (nxt r0)).2)
theorem ops_bd:∀n,∀p∈opsS n,I64 p.2:=by
 intro n p hp;rcases n with _|_|_|_|n<;>simp only[opsS,List.mem_cons,List.not_mem_nil,or_false]at hp<;>(rcases hp with rfl|rfl|rfl|rfl|rfl|rfl)<;>(unfold I64;dsimp only;omega)
theorem ops_few(n:Nat):1≤(opsS n).length∧(opsS n).length≤6:=by
 rcases n with _|_|_|_|n<;>simp[opsS]
set_option maxHeartbeats 4000000 in
theorem rlevel5_any(w:World)(B rb:Nat)(A:Option Addr)(c:Nat)(l:List Tk)(r:Rs)(h:RX w B rb A c l r)(k:∀W,RX W B rb A c l r→Calls Tryz.prog 170 #[.pointer (some ⟨rb,0,none⟩)] W (XP B rb A c l (EX l .una r) W)):
 Calls Tryz.prog 138 #[.pointer (some ⟨rb,0,none⟩),.int .i64 5] w (XP B rb A c l (EX l (.lev 5) r) w):=by
 have K:=Lib.hid k;clear k;rw[EX_lev5];obtain⟨W0,hW0⟩:∃W0,W0=w.alloc (.cells #[.int .i64 0,.int .i64 0,.slice none 0 0] 52):=⟨_,rfl⟩;have HB0:Hid (Below w.heap.size w W0):=by unfold Hid;rw[hW0];exact(Below.refl _ _).alloc (Nat.le_refl _) _
 have HR0:Hid (RB W0 w.heap.size):=by unfold Hid;rw[hW0];exact RB.start w
 have hlt:=h.lt;have HX0:=Lib.hid (h.below HB0.out);have HO0:Hid (Only rb w W0):=Only.of_below HB0.out;have hs0:w.heap.size<W0.heap.size:=hlS HR0.out.blk;clear h;go_enter Tryz.func138,Tryz.ntmps138;go_wp2_with(rw[←hW0];clear hW0;go_at_call 170;refine(K.out _ HX0.out).mono ?_;rintro e w3 ⟨x,y,z,rfl,hz,hrp⟩;obtain⟨xo,xn,xA,xk,xc,rfl,rfl,rfl⟩:=hz.form;have HZ:=Lib.hid hz;have HRP:=Lib.hid hrp;have HR3:=Lib.hid (HR0.out.only hrp.2 hlt);obtain⟨m0,m1,m2,mf⟩:=HR3.out.facts;have hs3:w.heap.size<w3.heap.size:=hlS HR3.out.blk;clear hz hrp);exact bodyPost_ret (results_c1 Tryz.results138 _ _ w.heap.size _ _ _ _ rfl (set_three HR3.out.blk) Tryz.underlying52 (by kernel_rfl)) rfl (XP.done HO0.out HZ.out HRP.out hlt hs0)
set_option maxRecDepth 100000 in
set_option maxHeartbeats 16000000 in
theorem rlevel_any(n:Nat)(hn:n<5)(w:World)(B rb:Nat)(A:Option Addr)(c:Nat)(l:List Tk)(r:Rs)(h:RX w B rb A c l r)(k:∀r' W,leftA l r'≤leftA l r→RX W B rb A c l r'→Calls Tryz.prog 138 #[.pointer (some ⟨rb,0,none⟩),.int .i64 (n+1:Nat)] W (XP B rb A c l (EX l (.lev (n+1)) r') W)):
 Calls Tryz.prog 138 #[.pointer (some ⟨rb,0,none⟩),.int .i64 n] w (XP B rb A c l (EX l (.lev n) r) w):=by
 have K:=Lib.hid k;clear k;obtain⟨W0,hW0⟩:∃W0,W0=w.alloc (.cells #[.int .i64 0,.int .i64 0,.slice none 0 0] 52):=⟨_,rfl⟩;have HB0:Hid (Below w.heap.size w W0):=by unfold Hid;rw[hW0];exact(Below.refl _ _).alloc (Nat.le_refl _) _
 have HR0:Hid (RB W0 w.heap.size):=by unfold Hid;rw[hW0];exact RB.start w
 have hlt:=h.lt;have HX0:=Lib.hid (h.below HB0.out);have HO0:Hid (Only rb w W0):=Only.of_below HB0.out;have hs0:w.heap.size<W0.heap.size:=hlS HR0.out.blk;clear h;have K0:=Lib.hid (K.out r W0 (Nat.le_refl _) HX0.out);have hQ:=EX_lev l n hn r;have hlq:=left_EX l (.lev (n+1)) r;have g5:((n:Int)==5)=false:=beq_eq_false_iff_ne.2 (by omega);have wn:IntKind.i64.wrap ((n:Int)+1)=((n+1:Nat):Int):=by rw[IntWalk.i64_in _ (by omega)];omega
 have HOPS:Hid (∀W,Calls Tryz.prog 171 #[.int .i64 n] W fun e w'=>e=.returned (.tuple #[.slice (some ⟨W.heap.size,0,none⟩) (opsS n).length (opsS n).length,.slice (some ⟨W.heap.size+1,0,none⟩) (opsS n).length (opsS n).length])∧w'=(W.alloc (.cells (signsC n) 9)).alloc (.cells (opsC n) 3)):=fun W=>operators_any n hn W;obtain⟨hf1,hf2⟩:=ops_few n;obtain⟨M,hM⟩:∃M,M=(opsS n).length:=⟨_,rfl⟩;rw[←hM]at hf1 hf2;obtain⟨Q,hQe⟩:∃Q,EX l (.lev n) r=Q:=⟨_,rfl⟩;rw[hQe]at hQ⊢
 have HQ:=Lib.hid hQ.symm;have HM:=Lib.hid hM;clear hQ hQe hM;go_enter Tryz.func138,Tryz.ntmps138;go_wp2_with fail;rw[←hW0];clear hW0;try rw[wn]
 refine K0.out.mono ?_;rintro e w1 ⟨x,y,z,rfl,hz,hrp⟩;obtain⟨xo,xn,xA,xk,xc,rfl,rfl,rfl⟩:=hz.form;obtain⟨W1,hW1⟩:∃W1,W1=w1.alloc (.cells #[.int .i64 xo,.int .i64 xn,.slice xA xk xc] 52):=⟨_,rfl⟩;have HB1:Hid (Below w1.heap.size w1 W1):=by unfold Hid;rw[hW1];exact(Below.refl _ _).alloc (Nat.le_refl _) _
 have hW1s:W1.heap.size=w1.heap.size+1:=by rw[hW1];exact Array.size_push _
 obtain⟨W2,hW2⟩:∃W2,W2=(W1.alloc (.cells (signsC n) 9)).alloc (.cells (opsC n) 3):=⟨_,rfl⟩;have hI:LvI w B rb A c l r n W0.heap.size w1.heap.size (EX l (.lev (n+1)) r).1 (EX l (.lev (n+1)) r).2 (.int .i64 xo) (.int .i64 xn) (.slice xA xk xc) W2:=by
  have hb2:Below W1.heap.size W1 W2:=by rw[hW2];exact((Below.refl _ _).alloc (Nat.le_refl _) _).alloc (by simp) _
  have hb:Below w1.heap.size w1 W2:=HB1.out.trans (hb2.mono HB1.out.size);have n1:W1.heap[w1.heap.size]? =some (.cells #[.int .i64 xo,.int .i64 xn,.slice xA xk xc] 52 (0,0)):=by rw[hW1];exact heap_alloc_new _ _
  have n2:W2.heap[W1.heap.size]? =some (.cells (signsC n) 9 (0,0)):=by rw[hW2];exact(Below.heap_alloc _ _ _ (by simp)).trans (heap_alloc_new W1 _)
  have n3:W2.heap[W1.heap.size+1]? =some (.cells (opsC n) 3 (0,0)):=by
   rw[hW2];have:=heap_alloc_new (W1.alloc (.cells (signsC n) 9)) (.cells (opsC n) 3);simpa using this
  rw[hW1s]at n2 n3;refine⟨hrp.1.below hb,hlq,(HO0.out.trans hrp.2).trans (Only.of_below hb),(HR0.out.only hrp.2 hlt).below hb,(hb2.block _ (hlS n1)).trans n1,hz.keep hb.size (fun g hg (q:W0.heap.size≤g)=>⟨q,by omega⟩) fun g hg _=>hb.block g hg,n2,n3⟩
 have HXB:Hid (W0.heap.size≤w1.heap.size):=hrp.2.2.2.2.1;have HR2:Hid (LvR w B rb A c l r n W0.heap.size w1.heap.size Q (.bool true) W2):=⟨true,_,_,_,_,_,rfl,hI,fun _=>HQ.out,(fun e=>(by cases e))⟩;clear hz hrp hI;go_wp2_with(go_at_call 171;refine(HOPS.out _).mono ?_;rintro e w2 ⟨rfl,hw2⟩;obtain rfl:w2=W2:=(by rw[hw2,hW2,hW1]);clear hw2 hW2);clear hW1;go_loopw[8] (LvR w B rb A c l r n W0.heap.size w1.heap.size Q) (fun a W=>(match a with| .bool true=>1|_=>0)+2*lfM rb l W)
 case atStart=>exact HR2.out
 case round=>
  obtain⟨b,t0,r0,x,y,z,rfl,hI,hT,hF⟩:=hrel;have HI:=Lib.hid hI;obtain⟨xo,xn,xA,xk,xc,rfl,rfl,rfl⟩:=hI.rz.form;have m0:wr.cell? ⟨w1.heap.size,0,none⟩=some (.int .i64 xo):=cell_of_row wr _ 0 _ _ _ hI.xc;have m1:wr.cell? ⟨w1.heap.size,1,none⟩=some (.int .i64 xn):=cell_of_row wr _ 1 _ _ _ hI.xc;have m2:wr.cell? ⟨w1.heap.size,2,none⟩=some (.slice xA xk xc):=cell_of_row wr _ 2 _ _ _ hI.xc;rcases b with _|_
  ·have HE:=Lib.hid (hF rfl);obtain⟨f0,f1,f2,ff⟩:=hI.rb0.facts;have HRB:=Lib.hid hI.rb0;clear hI hT hF HR2;go_wp2_with fail;rw[←HE.out];exact bodyPost_ret (results_c1 Tryz.results138 _ _ w.heap.size _ _ _ _ rfl (set_three HRB.out.blk) Tryz.underlying52 (by kernel_rfl)) rfl (HI.out.done hlt hs0)
  have HT:=Lib.hid (hT rfl);have HRJ:Hid (LvJ w B rb A c l r n W0.heap.size w1.heap.size t0 r0 (.bool false) (.int .i64 0) wr):=⟨false,0,t0,r0,_,_,_,rfl,rfl,Nat.zero_le _,HI.out,fun _=>⟨rfl,rfl,rfl⟩,(fun e=>(by cases e))⟩;have hms:=lfM_eq HI.out.rx;have HMS:=Lib.hid hms;clear hI hT hF HR2 m0 m1 m2 hms;go_wp2_with fail;go_loopw[8,9] (LvJ w B rb A c l r n W0.heap.size w1.heap.size t0 r0) (fun _ i _=>(opsS n).length-(intOf i).toNat)
  case atStart=>exact HRJ.out
  case round=>
   obtain⟨b,k,t,r',x,y,z,rfl,rfl,hk,hI,hN,hY⟩:=hrel;have HI2:=Lib.hid hI;obtain⟨xo,xn,xA,xk,xc,rfl,rfl,rfl⟩:=hI.rz.form;have hms2:=lfM_eq hI.rx;have HMS2:=Lib.hid hms2;clear hI HRJ hms2;rcases b with _|_
   case true=>
    obtain⟨op,ho,rfl,rfl⟩:=hY rfl;have hl:=opFrom_left ho;have hle:=left_EX l (.lev (n+1)) (nxt r0);have hE:=EX_lop (x:=t0) hn ho;rw[HT.out]at hE;have HE:=Lib.hid hE;clear hN hY ho hE;have gk:decide (k<(opsS n).length)=decide (k<(opsS n).length):=rfl;by_cases h2:n=2
    ·have g2:((n:Int)==2)=true:=beq_iff_eq.2 (by omega);have HE2:=HE.out;rw[if_pos h2]at HE2;have HE3:=Lib.hid HE2;have HL2:=Lib.hid hl;clear HE2 h2 hl;rcases Nat.lt_or_ge k (opsS n).length with hlt2|hlt2
     all_goals
      go_wp2_with fail;exact⟨⟨false,_,_,_,_,_,rfl,HI2.out,(fun e=>(by cases e)),fun _=>HE3.out.symm⟩,by rw[HMS2.out,HMS.out];have:=HL2.out;dsimp only;omega⟩
    ·have g2:((n:Int)==2)=false:=beq_eq_false_iff_ne.2 (by omega);have HE2:=HE.out;rw[if_neg h2]at HE2;have HE3:=Lib.hid HE2;have HL2:=Lib.hid hl;clear HE2 h2 hl;rcases Nat.lt_or_ge k (opsS n).length with hlt2|hlt2
     all_goals
      go_wp2_with fail;exact⟨⟨true,_,_,_,_,_,rfl,HI2.out,fun _=>HE3.out.symm,(fun e=>(by cases e))⟩,by rw[HMS2.out,HMS.out];have:=HL2.out;dsimp only;omega⟩
   obtain⟨rfl,rfl,hd⟩:=hN rfl;clear hY;rcases Nat.lt_or_ge k (opsS n).length with hlt2|hge
   case inr=>
    have hke:k=(opsS n).length:=by omega
    have hno:opFrom l r' (opsS n)=none:=by rw[hd,hke,List.drop_length];rfl
    have hE:=EX_lop0 (x:=t) hno;rw[HT.out]at hE;have HE:=Lib.hid hE.symm;clear hd hke hno hE;by_cases h2:((n:Int)==2)=true
    ·go_wp2_with fail;exact⟨⟨false,_,_,_,_,_,rfl,HI2.out,(fun e=>(by cases e)),fun _=>HE.out⟩,by rw[HMS2.out,HMS.out];dsimp only;omega⟩
    ·have g2:((n:Int)==2)=false:=by simpa using h2
     clear h2;go_wp2_with fail;exact⟨⟨false,_,_,_,_,_,rfl,HI2.out,(fun e=>(by cases e)),fun _=>HE.out⟩,by rw[HMS2.out,HMS.out];dsimp only;omega⟩
   obtain⟨⟨sg,op⟩,hp⟩:∃p,(opsS n)[k]? =some p:=⟨_,List.getElem?_eq_getElem hlt2⟩;have hd2:opFrom l r' (opsS n)=if isA l r' sg=true then some op else opFrom l r' ((opsS n).drop (k+1)):=by rw[hd,drop_at hp];rfl
   have hob:=ops_bd n _ (List.mem_of_getElem? hp);have m3:wr.cell? ⟨w1.heap.size+1,k,none⟩=some (.string sg):=by
    refine(cell_of_row wr _ k _ _ _ HI2.out.sg).trans ?_;unfold signsC;rw[List.getElem?_toArray,List.getElem?_map,hp];rfl
   have HOG:Hid ((opsC n)[k]? =some (.int .i64 op)):=by
    unfold Hid opsC;rw[List.getElem?_toArray,List.getElem?_map,hp];rfl
   have hk6:k≤6:=by have:=(ops_few n).2;omega
   have i0:(0:Int)≤(k:Int):=by omega
   have i1:(k:Int)<((opsS n).length:Int):=by omega
   have HD2:=Lib.hid hd2;have HOB:=Lib.hid hob;clear hd hd2 hp hob;rcases hi:isA l r' sg with _|_
   ·have HD3:Hid (opFrom l r' (opsS n)=opFrom l r' ((opsS n).drop (k+1))):=by unfold Hid;rw[HD2.out,hi];rfl
    have HIS:=Lib.hid hi;clear hi;go_wp2_with(go_at_call 98;refine(take_no HIS.out HI2.out.rx).mono ?_;rintro e w3 ⟨rfl,hrp⟩;have HI3:=Lib.hid (HI2.out.move hrp hlt hs0 HXB.out HI2.out.left);clear hrp);exact⟨⟨false,k+1,_,_,_,_,_,rfl,by go_num,by omega,HI3.out,fun _=>⟨rfl,rfl,HD3.out⟩,(fun e=>(by cases e))⟩,by simp only[intOf];omega⟩
   ·have HD3:Hid (opFrom l r' (opsS n)=some op):=by unfold Hid;rw[HD2.out,hi];rfl
    have hl:=isA_left hi;have hle:=left_EX l (.lev (n+1)) (nxt r');have HIS:=Lib.hid hi;have hlr:=HI2.out.left;have KN:Hid (∀W,RX W B rb A c l (nxt r')→Calls Tryz.prog 138 #[.pointer (some ⟨rb,0,none⟩),.int .i64 (n+1:Nat)] W (XP B rb A c l (EX l (.lev (n+1)) (nxt r')) W)):=fun W hx=>K.out _ W (by omega) hx;have HLN:Hid (leftA l (nxt r')≤leftA l r):=Nat.le_trans (by omega) hlr;have HLE:Hid (leftA l (EX l (.lev (n+1)) (nxt r')).2≤leftA l r):=Nat.le_trans hle HLN.out;clear hi hl hle hlr;obtain⟨q,hq⟩:∃q,EX l (.lev (n+1)) (nxt r')=q:=⟨_,rfl⟩;rw[hq]at KN HLE;have HQQ:=Lib.hid hq;clear hq;go_upto_region 12 with(go_at_call 98;refine(take_yes HIS.out HI2.out.rx).mono ?_;rintro e w3 ⟨rfl,hrp⟩;have HI3:=Lib.hid (HI2.out.move hrp hlt hs0 HXB.out HLN.out);clear hrp)
    have p0:w3.cell? ⟨w1.heap.size,0,none⟩=some (.int .i64 xo):=cell_of_row w3 _ 0 _ _ _ HI3.out.xc;have p1:w3.cell? ⟨w1.heap.size,1,none⟩=some (.int .i64 xn):=cell_of_row w3 _ 1 _ _ _ HI3.out.xc;have p2:w3.cell? ⟨w1.heap.size,2,none⟩=some (.slice xA xk xc):=cell_of_row w3 _ 2 _ _ _ HI3.out.xc;have p3:w3.cell? ⟨w1.heap.size+1+1,k,none⟩=some (.int .i64 op):=(cell_of_row w3 _ k _ _ _ HI3.out.og).trans HOG.out;go_region_with(go_at_call 138;(first|(refine(KN.out _ (HI3.out.rx.below (below_dn (Below.refl _ _) 1))).mono ?_)|(rw[wn];refine(KN.out _ (HI3.out.rx.below (below_dn (Below.refl _ _) 1))).mono ?_));rintro e w4 ⟨x2,y2,z2,rfl,hz,hrp⟩;obtain⟨yo,yn,yA,yk,yc,rfl,rfl,rfl⟩:=hz.form;have HZ:=Lib.hid hz;have HRP:Hid (RP B rb A c l q.2 w3 w4):=⟨hrp.1,(Only.of_below (below_dn (Below.refl w3.heap.size w3) 1)).trans hrp.2⟩;have hi4:=HI3.out.move HRP.out hlt hs0 HXB.out HLE.out;have u0:w4.cell? ⟨w1.heap.size,0,none⟩=some (.int .i64 xo):=cell_of_row w4 _ 0 _ _ _ hi4.xc;have u1:w4.cell? ⟨w1.heap.size,1,none⟩=some (.int .i64 xn):=cell_of_row w4 _ 1 _ _ _ hi4.xc;have u2:w4.cell? ⟨w1.heap.size,2,none⟩=some (.slice xA xk xc):=cell_of_row w4 _ 2 _ _ _ hi4.xc;have u3:w4.cell? ⟨w1.heap.size+1+1,k,none⟩=some (.int .i64 op):=(cell_of_row w4 _ k _ _ _ hi4.og).trans HOG.out;have uf:∀i,w4.frozen? ⟨w1.heap.size,i,none⟩=false:=(fun i=>by simp[World.frozen?,hi4.xc]);have hx4:w1.heap.size<w4.heap.size:=hlS hi4.xc;have hx5:w1.heap.size+1+1<w4.heap.size:=hlS hi4.og;clear hz hrp hi4);all_goals
     go_wp2_with fail;exact⟨⟨true,k+1,_,q.2,_,_,_,rfl,by go_num,by omega,HI3.out.push HZ.out HRP.out hlt hs0 HXB.out HLE.out HOB.out,(fun e=>(by cases e)),fun _=>⟨op,HD3.out,by rw[HQQ.out],by rw[HQQ.out]⟩⟩,by simp only[intOf];omega⟩
def RdM(B rb:Nat)(A:Option Addr)(c:Nat)(l:List Tk):Md→Rs→World→Prop
 | .lev n,r,w=>Calls Tryz.prog 138 #[.pointer (some ⟨rb,0,none⟩),.int .i64 n] w (XP B rb A c l (EX l (.lev n) r) w)
 | .lop _ _,_,_=>True
 | .una,r,w=>Calls Tryz.prog 170 #[.pointer (some ⟨rb,0,none⟩)] w (XP B rb A c l (EX l .una r) w)
 | .pri,r,w=>Calls Tryz.prog 197 #[.pointer (some ⟨rb,0,none⟩)] w (XP B rb A c l (EX l .pri r) w)
 | .brk,r,w=>Calls Tryz.prog 139 #[.pointer (some ⟨rb,0,none⟩)] w (XP B rb A c l (EX l .brk r) w)
 | .cel,r,w=>Calls Tryz.prog 136 #[.pointer (some ⟨rb,0,none⟩)] w (XP B rb A c l (EX l .cel r) w)
def noAt(l:List Tk):Prop:=∀r:Rs,opA l r≠11
theorem c_levl{l:List Tk}{r r':Rs}{n:Nat}(hn:n<5)(h:leftA l r'≤leftA l r):costA l (.lev (n+1)) r'<costA l (.lev n) r:=by
 unfold costA;split<;>(try split)<;>simp only[b0,b1]<;>omega
theorem rdM_any(B rb:Nat)(A:Option Addr)(c:Nat)(l:List Tk)(hA:noAt l):∀N,∀(m:Md) (r:Rs) (w:World),m.ok→costA l m r≤N→RX w B rb A c l r→RdM B rb A c l m r w:=by
 intro N;induction N with
 |zero=>intro m r w _ h;have:=cost_pos l m r;omega
 |succ N ih=>
  intro m r w hok hN hx;cases m with
  |lev n=>
   have hn:n≤5:=hok;by_cases h5:n=5
   ·subst h5;exact rlevel5_any w B rb A c l r hx fun W hW=>ih .una r W trivial (by have:= @c_una l r;omega) hW
   ·exact rlevel_any n (by omega) w B rb A c l r hx fun r' W hl hW=>ih (.lev (n+1)) r' W (show n+1≤5 by omega) (by have:= @c_levl l r r' n (by omega) hl;omega) hW
  |lop n x=>trivial
  |una=>exact unary_any6 w B rb A c l r hx (fun h W hW=>ih .una (nxt r) W trivial (by have:costA l .una (nxt r)<costA l .una r:=c_sign (h.elim isA_left isA_left);omega) hW) fun W hW=>ih .pri r W trivial (by have:= @c_pri l r;omega) hW
  |pri=>exact primary_any w B rb A c l r hx (hA r) (fun h W hW=>ih .cel r W trivial (by have:= @c_cel l r;omega) hW) fun h W hW=>ih .brk (nxt r) W trivial (by have:=c_fun (opA_left h) (Nat.le_refl (leftA l (nxt r)));omega) hW
  |brk=>exact bracketed_any w B rb A c l r hx fun W hW=>ih (.lev 0) (wantA l r ⟨#[91]⟩) W (show 0≤5 by omega) (by have:=c_brk l r;omega) hW
  |cel=>exact cell_any w B rb A c l r hx (fun h W hW=>ih .cel (nxt r) W trivial (by have:=c_num (isA_left h);omega) hW) fun h W hW=>ih .brk r W trivial (by have:=c_in (isA_left h);omega) hW
theorem rcell_ok(w:World)(B rb:Nat)(A:Option Addr)(c:Nat)(l:List Tk)(r:Rs)(hA:noAt l)(h:RX w B rb A c l r):Calls Tryz.prog 136 #[.pointer (some ⟨rb,0,none⟩)] w (XP B rb A c l (EX l .cel r) w):=rdM_any B rb A c l hA _ .cel r w trivial (Nat.le_refl _) h
theorem rbrk_ok(w:World)(B rb:Nat)(A:Option Addr)(c:Nat)(l:List Tk)(r:Rs)(hA:noAt l)(h:RX w B rb A c l r):Calls Tryz.prog 139 #[.pointer (some ⟨rb,0,none⟩)] w (XP B rb A c l (EX l .brk r) w):=rdM_any B rb A c l hA _ .brk r w trivial (Nat.le_refl _) h
theorem rlev_ok(w:World)(B rb:Nat)(A:Option Addr)(c:Nat)(l:List Tk)(r:Rs)(hA:noAt l)(h:RX w B rb A c l r):Calls Tryz.prog 138 #[.pointer (some ⟨rb,0,none⟩),.int .i64 0] w (XP B rb A c l (EX l (.lev 0) r) w):=rdM_any B rb A c l hA _ (.lev 0) r w (show 0≤5 by omega) (Nat.le_refl _) h
theorem rval_ok(w:World)(B rb:Nat)(A:Option Addr)(c:Nat)(l:List Tk)(r:Rs)(hA:noAt l)(h:RX w B rb A c l r):Calls Tryz.prog 140 #[.pointer (some ⟨rb,0,none⟩)] w (XP B rb A c l (valA l r) w):=value_any6 w B rb A c l r h fun r' W hx=>rcell_ok W B rb A c l r' hA hx
end Go.Proofs.YtdcjbhdfphcefaaGreatDoor
namespace Go.Proofs.YtdcjbhdfphcefaaGreatDoor
open Go.RowKit
def endA(l:List Tk)(r:Rs):Rs:=if r.1<l.length then failA r else r
structure CtI(w:World)(B rb bb:Nat)(A:Option Addr)(c:Nat)(l:List Tk)(r':Rs)(b:Bk)(wa:Option Addr)(wn wc:Nat)(l0 l1 l2 x0 x1 x2:Value)(W:World):Prop where
 rx:RX W B rb A c l r'
 ch:Chg (fun g=>g=rb∨g=bb) w W
 bk:W.heap[bb]? =some (.cells ⟨cellsB b wa wn wc l0 l1 l2 x0 x1 x2⟩ 54 (0,0))
 bz:Bz W (fun g=>w.heap.size≤g) b wa wn l0 l1 l2 x0 x1 x2
section
variable {w W W':World} {B rb bb:Nat} {A:Option Addr} {c:Nat} {l:List Tk} {r' r2:Rs} {b:Bk} {wa:Option Addr} {wn wc:Nat} {l0 l1 l2 x0 x1 x2:Value}
theorem CtI.start{sk:Bool}{lb:Int}{r:Rs}(h:RX w B rb A c l r)(hbb:w.heap[bb]? =some (.cells (cells0 sk lb) 54 (0,0)))(hI:I64 lb):CtI w B rb bb A c l r ⟨0,lb,sk,[],zeroT,zeroT,0⟩ none 0 0 (.int .i64 0) (.int .i64 0) (.slice none 0 0) (.int .i64 0) (.int .i64 0) (.slice none 0 0) w:=
 ⟨h,Chg.refl _ _,hbb,by show I64 0;unfold I64;omega,hI,by show I64 0;unfold I64;omega,wz_nil _ _,rz_num _ _ _ (by unfold I64;omega),rz_num _ _ _ (by unfold I64;omega)⟩
theorem CtI.lt(h:CtI w B rb bb A c l r' b wa wn wc l0 l1 l2 x0 x1 x2 W):bb<W.heap.size:=hlS h.bk
theorem CtI.mv(h:CtI w B rb bb A c l r' b wa wn wc l0 l1 l2 x0 x1 x2 W)(hr:RP B rb A c l r2 W W')(hne:bb≠rb)(hb:rb<w.heap.size):CtI w B rb bb A c l r2 b wa wn wc l0 l1 l2 x0 x1 x2 W':=
 ⟨hr.1,h.ch.trans (chg_of_only hr.2),(hr.2.2.2.2.2 _ h.lt hne).trans h.bk,h.bz.keep hr.2.2.2.2.1 (fun _ _ q=>q) fun g hg (hi:w.heap.size≤g)=>hr.2.2.2.2.2 g hg (by omega)⟩
theorem CtI.bl(h:CtI w B rb bb A c l r' b wa wn wc l0 l1 l2 x0 x1 x2 W)(hb:Below W.heap.size W W'):CtI w B rb bb A c l r' b wa wn wc l0 l1 l2 x0 x1 x2 W':=
 ⟨h.rx.below hb,h.ch.trans (Chg.of_below hb),(hb.block _ h.lt).trans h.bk,h.bz.keep hb.size (fun _ _ q=>q) fun g hg _=>hb.block g hg⟩
theorem CtI.cells(h:CtI w B rb bb A c l r' b wa wn wc l0 l1 l2 x0 x1 x2 W):(∀(i:Nat) (v:Value),(cellsB b wa wn wc l0 l1 l2 x0 x1 x2)[i]? =some v→W.cell? ⟨bb,i,none⟩=some v)∧∀i,W.frozen? ⟨bb,i,none⟩=false:=
 ⟨fun i v hv=>(cell_of_row W bb i _ _ _ h.bk).trans (by rw[List.getElem?_toArray];exact hv),fun i=>by simp[World.frozen?,h.bk]⟩
theorem CtI.one(h:CtI w B rb bb A c l r' b wa wn wc l0 l1 l2 x0 x1 x2 W)(hne:bb≠rb)(hB:B≤bb)(hb:bb<w.heap.size){b2:Bk}(i:Nat)(v:Value)(he:(⟨cellsB b wa wn wc l0 l1 l2 x0 x1 x2⟩:Array Value).setIfInBounds i v=⟨cellsB b2 wa wn wc l0 l1 l2 x0 x1 x2⟩)(hz:∀V,Bz V (fun g=>w.heap.size≤g) b wa wn l0 l1 l2 x0 x1 x2→Bz V (fun g=>w.heap.size≤g) b2 wa wn l0 l1 l2 x0 x1 x2):CtI w B rb bb A c l r' b2 wa wn wc l0 l1 l2 x0 x1 x2 (W.setCell ⟨bb,i,none⟩ v):=
 ⟨h.rx.put hne hB i v,h.ch.trans (chg_set _ _ _ _ _ (.inr rfl)),by rw[←he];exact heap_set h.bk,hz _ (h.bz.keep (by simp[World.setCell]) (fun _ _ q=>q) fun g hg (hi:w.heap.size≤g)=>Below.heap_setCell _ _ _ g (by show g≠bb;omega))⟩
theorem CtI.kind(h:CtI w B rb bb A c l r' b wa wn wc l0 l1 l2 x0 x1 x2 W)(hne:bb≠rb)(hB:B≤bb)(hb:bb<w.heap.size){k:Int}(hk:I64 k):CtI w B rb bb A c l r' {b with kind:=k} wa wn wc l0 l1 l2 x0 x1 x2 (W.setCell ⟨bb,0,none⟩ (.int .i64 k)):=
 h.one hne hB hb 0 _ rfl fun V z=>⟨hk,z.label,z.n,z.words,z.left,z.x⟩
theorem CtI.num(h:CtI w B rb bb A c l r' b wa wn wc l0 l1 l2 x0 x1 x2 W)(hne:bb≠rb)(hB:B≤bb)(hb:bb<w.heap.size){k:Int}(hk:I64 k):CtI w B rb bb A c l r' {b with n:=k} wa wn wc l0 l1 l2 x0 x1 x2 (W.setCell ⟨bb,10,none⟩ (.int .i64 k)):=
 h.one hne hB hb 10 _ rfl fun V z=>⟨z.kind,z.label,hk,z.words,z.left,z.x⟩
theorem CtI.three(h:CtI w B rb bb A c l r' b wa wn wc l0 l1 l2 x0 x1 x2 W)(hne:bb≠rb)(hB:B≤bb)(hb:bb<w.heap.size){b2:Bk}{m0 m1 m2 y0 y1 y2 x y z:Value}(i:Nat)(he:(((⟨cellsB b wa wn wc l0 l1 l2 x0 x1 x2⟩:Array Value).setIfInBounds i x).setIfInBounds (i+1) y).setIfInBounds (i+2) z=⟨cellsB b2 wa wn wc m0 m1 m2 y0 y1 y2⟩)(hz:∀V,Bz V (fun g=>w.heap.size≤g) b wa wn l0 l1 l2 x0 x1 x2→(∀t u,Rz W (fun g=>w.heap.size≤g) t u→Rz V (fun g=>w.heap.size≤g) t u)→Bz V (fun g=>w.heap.size≤g) b2 wa wn m0 m1 m2 y0 y1 y2):
 CtI w B rb bb A c l r' b2 wa wn wc m0 m1 m2 y0 y1 y2 (((W.setCell ⟨bb,i,none⟩ x).setCell ⟨bb,i+1,none⟩ y).setCell ⟨bb,i+2,none⟩ z):=by
 have kk:∀g,w.heap.size≤g→(((W.setCell ⟨bb,i,none⟩ x).setCell ⟨bb,i+1,none⟩ y).setCell ⟨bb,i+2,none⟩ z).heap[g]? =W.heap[g]? :=fun g hg=>set3_heap W bb i g x y z (by omega);have ks:(((W.setCell ⟨bb,i,none⟩ x).setCell ⟨bb,i+1,none⟩ y).setCell ⟨bb,i+2,none⟩ z).heap.size=W.heap.size:=set3_size W bb i x y z;refine⟨((h.rx.put hne hB i x).put hne hB (i+1) y).put hne hB (i+2) z,h.ch.trans (((chg_set _ _ _ _ _ (.inr rfl)).trans (chg_set _ _ _ _ _ (.inr rfl))).trans (chg_set _ _ _ _ _ (.inr rfl))),by rw[←he];exact heap_set (heap_set (heap_set h.bk)),hz _ (h.bz.keep (Nat.le_of_eq ks.symm) (fun _ _ q=>q) fun g hg hi=>kk g hi) fun t u q=>q.keep (Nat.le_of_eq ks.symm) (fun _ _ q=>q) fun g hg hi=>kk g hi⟩
theorem CtI.lf(h:CtI w B rb bb A c l r' b wa wn wc l0 l1 l2 x0 x1 x2 W)(hne:bb≠rb)(hB:B≤bb)(hb:bb<w.heap.size){x y z:Value}{t:Tr}(ht:Rz W (fun g=>w.heap.size≤g) t (.agg #[x,y,z])):CtI w B rb bb A c l r' {b with left:=t} wa wn wc x y z x0 x1 x2 (((W.setCell ⟨bb,4,none⟩ x).setCell ⟨bb,5,none⟩ y).setCell ⟨bb,6,none⟩ z):=
 h.three hne hB hb 4 rfl fun V q k=>⟨q.kind,q.label,q.n,q.words,k _ _ ht,q.x⟩
theorem CtI.ex(h:CtI w B rb bb A c l r' b wa wn wc l0 l1 l2 x0 x1 x2 W)(hne:bb≠rb)(hB:B≤bb)(hb:bb<w.heap.size){x y z:Value}{t:Tr}(ht:Rz W (fun g=>w.heap.size≤g) t (.agg #[x,y,z])):CtI w B rb bb A c l r' {b with x:=t} wa wn wc l0 l1 l2 x y z (((W.setCell ⟨bb,7,none⟩ x).setCell ⟨bb,8,none⟩ y).setCell ⟨bb,9,none⟩ z):=
 h.three hne hB hb 7 rfl fun V q k=>⟨q.kind,q.label,q.n,q.words,q.left,k _ _ ht⟩
theorem CtI.up(h:CtI w B rb bb A c l r' b wa wn wc l0 l1 l2 x0 x1 x2 W){t:Tr}{v:Value}{V:World}(hz:Rz V (fun g=>W.heap.size≤g) t v):Rz V (fun g=>w.heap.size≤g) t v:=
 hz.keep (Nat.le_refl _) (fun g _ (q:W.heap.size≤g)=>Nat.le_trans h.ch.size q) fun _ _ _=>rfl
theorem CtI.post(h:CtI w B rb bb A c l r' b wa wn wc l0 l1 l2 x0 x1 x2 W):CtPost B rb bb A c l b r' w (.returned (.tuple #[])) W:=⟨rfl,h.rx,h.ch,wa,wn,wc,l0,l1,l2,x0,x1,x2,h.bk,h.bz⟩
end
set_option maxRecDepth 100000 in
set_option maxHeartbeats 8000000 in
theorem rc_set(w:World)(B rb bb:Nat)(A:Option Addr)(c:Nat)(l:List Tk)(r:Rs)(sk:Bool)(lb:Int)(hA:noAt l)(h:RX w B rb A c l r)(hbb:w.heap[bb]? =some (.cells (cells0 sk lb) 54 (0,0)))(hne:bb≠rb)(hBb:B≤bb)(hI:I64 lb)(ny:isA l r ⟨#[35]⟩=true):
 Calls Tryz.prog 101 #[.pointer (some ⟨rb,0,none⟩),.pointer (some ⟨bb,0,none⟩)] w (CtPost B rb bb A c l ⟨1,lb,sk,[],(EX l .cel (nxt r)).1,(EX l (.lev 0) (wantA l (EX l .cel (nxt r)).2 ⟨#[61]⟩)).1,0⟩ (endA l (EX l (.lev 0) (wantA l (EX l .cel (nxt r)).2 ⟨#[61]⟩)).2) w):=by
 have HC:=Lib.hid (CtI.start h hbb hI);have hrb:=h.lt;have hbl:=hlS hbb;clear h hbb;go_enter Tryz.func101,Tryz.ntmps101;go_wp2_with fail;refine(take_yes ny HC.out.rx).mono ?_;rintro e w1 ⟨rfl,hrp⟩;have HCn:=Lib.hid (HC.out.mv hrp hne hrb);clear HC hrp;have HC:=Lib.hid HCn.out;clear HCn;obtain⟨fc,ff⟩:=HC.out.cells;have f0:=fc 0 _ rfl;clear fc;have HCn:=Lib.hid (HC.out.kind hne hBb hbl (k:=1) (by unfold I64;omega));clear HC;have HC:=Lib.hid HCn.out;clear HCn;go_wp2_with fail;refine(rcell_ok _ _ _ _ _ _ _ hA HC.out.rx).mono ?_;rintro e w2 ⟨x,y,z,rfl,hz,hrp⟩;obtain⟨xo,xn,xA,xk,xc,rfl,rfl,rfl⟩:=hz.form;have HZ:=Lib.hid (HC.out.up hz);have HCn:=Lib.hid (HC.out.mv hrp hne hrb);clear HC hrp hz;have HC:=Lib.hid HCn.out;clear HCn;clear ff f0;obtain⟨fc,ff⟩:=HC.out.cells;have f4:=fc 4 _ rfl;have f5:=fc 5 _ rfl;have f6:=fc 6 _ rfl;clear fc;have HCn:=Lib.hid (HC.out.lf hne hBb hbl HZ.out);clear HC;have HC:=Lib.hid HCn.out;clear HCn;go_wp2_with fail;refine(want_any _ _ _ _ _ _ _ _ HC.out.rx).mono ?_;rintro e w3 ⟨rfl,hrp⟩;have HCn:=Lib.hid (HC.out.mv hrp hne hrb);clear HC hrp;have HC:=Lib.hid HCn.out;clear HCn;clear ff f4 f5 f6;clear HZ;go_wp2_with fail;refine(rlev_ok _ _ _ _ _ _ _ hA HC.out.rx).mono ?_;rintro e w4 ⟨x,y,z,rfl,hz,hrp⟩;obtain⟨xo,xn,xA,xk,xc,rfl,rfl,rfl⟩:=hz.form;have HZ:=Lib.hid (HC.out.up hz);have HCn:=Lib.hid (HC.out.mv hrp hne hrb);clear HC hrp hz;have HC:=Lib.hid HCn.out;clear HCn;obtain⟨fc,ff⟩:=HC.out.cells;have f7:=fc 7 _ rfl;have f8:=fc 8 _ rfl;have f9:=fc 9 _ rfl;clear fc;have HCn:=Lib.hid (HC.out.ex hne hBb hbl HZ.out);clear HC;have HC:=Lib.hid HCn.out;clear HCn;go_upto_region 30 with(fail)
 clear ff f7 f8 f9;generalize EX l (.lev 0) (wantA l (EX l .cel (nxt r)).2 ⟨#[61]⟩)=q at*
 obtain⟨qt,re⟩:=q;dsimp only at*
 obtain⟨p0,p1,p2,pf⟩:=HC.out.rx.cells;have HPO:=Lib.hid HC.out.post;by_cases he:re.1<l.length
 ·have hge:decide ((re.1:Int)<(l.length:Int))=true:=decide_eq_true (by omega);go_quiet(fail);go_wp2_with(go_at_call 135;refine(fail_any _ _ _ _ _ _ _ (HC.out.rx.below (below_dn (Below.refl _ _) nq))).mono ?_;rintro e wf ⟨rfl,hrp⟩;have HCn:=Lib.hid ((HC.out.bl (below_dn (Below.refl _ _) nq)).mv hrp hne hrb);clear hrp);have hee:endA l re=failA re:=if_pos he;rw[hee];exact bodyPost_end (results_none Tryz.results101 _ _ _) rfl HCn.out.post
 ·have hge:decide ((re.1:Int)<(l.length:Int))=false:=decide_eq_false (by omega);go_quiet(fail);go_wp2_with fail;have hee:endA l re=re:=if_neg he;rw[hee];exact bodyPost_end (results_none Tryz.results101 _ _ _) rfl (HC.out.bl (below_dn (Below.refl _ _) nq)).post
theorem cnt_bd{l:List Tk}{r:Rs}{most:Int}(hm:0≤most)(hm2:most≤1000000):I64 (cntA l most r).1:=by
 unfold cntA;dsimp only;split
 ·show I64 0;unfold I64;omega
 ·show I64 (wholeS _).1;unfold I64;omega
set_option maxRecDepth 100000 in
set_option maxHeartbeats 8000000 in
theorem rc_if(w:World)(B rb bb:Nat)(A:Option Addr)(c:Nat)(l:List Tk)(r:Rs)(sk:Bool)(lb:Int)(hA:noAt l)(h:RX w B rb A c l r)(hbb:w.heap[bb]? =some (.cells (cells0 sk lb) 54 (0,0)))(hne:bb≠rb)(hBb:B≤bb)(hI:I64 lb)(n0:isA l r ⟨#[35]⟩=false)(ny:isA l r ⟨#[73,70]⟩=true):
 Calls Tryz.prog 101 #[.pointer (some ⟨rb,0,none⟩),.pointer (some ⟨bb,0,none⟩)] w (CtPost B rb bb A c l ⟨3,lb,sk,[],(valA l (wantA l (EX l .brk (nxt r)).2 ⟨#[71,79,84,79]⟩)).1,(EX l .brk (nxt r)).1,0⟩ (endA l (valA l (wantA l (EX l .brk (nxt r)).2 ⟨#[71,79,84,79]⟩)).2) w):=by
 have HC:=Lib.hid (CtI.start h hbb hI);have hrb:=h.lt;have hbl:=hlS hbb;clear h hbb;go_enter Tryz.func101,Tryz.ntmps101;go_wp2_with fail;refine(take_no n0 HC.out.rx).mono ?_;rintro e wn0 ⟨rfl,hrp⟩;have HCn:=Lib.hid (HC.out.mv hrp hne hrb);clear HC hrp;have HC:=Lib.hid HCn.out;clear HCn;go_wp2_with fail;refine(take_yes ny HC.out.rx).mono ?_;rintro e w1 ⟨rfl,hrp⟩;have HCn:=Lib.hid (HC.out.mv hrp hne hrb);clear HC hrp;have HC:=Lib.hid HCn.out;clear HCn;obtain⟨fc,ff⟩:=HC.out.cells;have f0:=fc 0 _ rfl;clear fc;have HCn:=Lib.hid (HC.out.kind hne hBb hbl (k:=3) (by unfold I64;omega));clear HC;have HC:=Lib.hid HCn.out;clear HCn;go_wp2_with fail;refine(rbrk_ok _ _ _ _ _ _ _ hA HC.out.rx).mono ?_;rintro e w2 ⟨x,y,z,rfl,hz,hrp⟩;obtain⟨xo,xn,xA,xk,xc,rfl,rfl,rfl⟩:=hz.form;have HZ:=Lib.hid (HC.out.up hz);have HCn:=Lib.hid (HC.out.mv hrp hne hrb);clear HC hrp hz;have HC:=Lib.hid HCn.out;clear HCn;clear ff f0;obtain⟨fc,ff⟩:=HC.out.cells;have f7:=fc 7 _ rfl;have f8:=fc 8 _ rfl;have f9:=fc 9 _ rfl;clear fc;have HCn:=Lib.hid (HC.out.ex hne hBb hbl HZ.out);clear HC;have HC:=Lib.hid HCn.out;clear HCn;go_wp2_with fail;refine(want_any _ _ _ _ _ _ _ _ HC.out.rx).mono ?_;rintro e w3 ⟨rfl,hrp⟩;have HCn:=Lib.hid (HC.out.mv hrp hne hrb);clear HC hrp;have HC:=Lib.hid HCn.out;clear HCn;clear ff f7 f8 f9;clear HZ;go_wp2_with fail;refine(rval_ok _ _ _ _ _ _ _ hA HC.out.rx).mono ?_;rintro e w4 ⟨x,y,z,rfl,hz,hrp⟩;obtain⟨xo,xn,xA,xk,xc,rfl,rfl,rfl⟩:=hz.form;have HZ:=Lib.hid (HC.out.up hz);have HCn:=Lib.hid (HC.out.mv hrp hne hrb);clear HC hrp hz;have HC:=Lib.hid HCn.out;clear HCn;obtain⟨fc,ff⟩:=HC.out.cells;have f4:=fc 4 _ rfl;have f5:=fc 5 _ rfl;have f6:=fc 6 _ rfl;clear fc;have HCn:=Lib.hid (HC.out.lf hne hBb hbl HZ.out);clear HC;have HC:=Lib.hid HCn.out;clear HCn;go_upto_region 30 with(fail)
 clear ff f4 f5 f6;generalize valA l (wantA l (EX l .brk (nxt r)).2 ⟨#[71,79,84,79]⟩)=q at*
 obtain⟨qt,re⟩:=q;dsimp only at*
 obtain⟨p0,p1,p2,pf⟩:=HC.out.rx.cells;have HPO:=Lib.hid HC.out.post;by_cases he:re.1<l.length
 ·have hge:decide ((re.1:Int)<(l.length:Int))=true:=decide_eq_true (by omega);go_quiet(fail);go_wp2_with(go_at_call 135;refine(fail_any _ _ _ _ _ _ _ (HC.out.rx.below (below_dn (Below.refl _ _) nq))).mono ?_;rintro e wf ⟨rfl,hrp⟩;have HCn:=Lib.hid ((HC.out.bl (below_dn (Below.refl _ _) nq)).mv hrp hne hrb);clear hrp);have hee:endA l re=failA re:=if_pos he;rw[hee];exact bodyPost_end (results_none Tryz.results101 _ _ _) rfl HCn.out.post
 ·have hge:decide ((re.1:Int)<(l.length:Int))=false:=decide_eq_false (by omega);go_quiet(fail);go_wp2_with fail;have hee:endA l re=re:=if_neg he;rw[hee];exact bodyPost_end (results_none Tryz.results101 _ _ _) rfl (HC.out.bl (below_dn (Below.refl _ _) nq)).post
set_option maxRecDepth 100000 in
set_option maxHeartbeats 8000000 in
theorem rc_goto(w:World)(B rb bb:Nat)(A:Option Addr)(c:Nat)(l:List Tk)(r:Rs)(sk:Bool)(lb:Int)(hA:noAt l)(h:RX w B rb A c l r)(hbb:w.heap[bb]? =some (.cells (cells0 sk lb) 54 (0,0)))(hne:bb≠rb)(hBb:B≤bb)(hI:I64 lb)(n0:isA l r ⟨#[35]⟩=false)(n1:isA l r ⟨#[73,70]⟩=false)(ny:isA l r ⟨#[71,79,84,79]⟩=true):
 Calls Tryz.prog 101 #[.pointer (some ⟨rb,0,none⟩),.pointer (some ⟨bb,0,none⟩)] w (CtPost B rb bb A c l ⟨2,lb,sk,[],zeroT,(valA l (nxt r)).1,0⟩ (endA l (valA l (nxt r)).2) w):=by
 have HC:=Lib.hid (CtI.start h hbb hI);have hrb:=h.lt;have hbl:=hlS hbb;clear h hbb;go_enter Tryz.func101,Tryz.ntmps101;go_wp2_with fail;refine(take_no n0 HC.out.rx).mono ?_;rintro e wn0 ⟨rfl,hrp⟩;have HCn:=Lib.hid (HC.out.mv hrp hne hrb);clear HC hrp;have HC:=Lib.hid HCn.out;clear HCn;go_wp2_with fail;refine(take_no n1 HC.out.rx).mono ?_;rintro e wn1 ⟨rfl,hrp⟩;have HCn:=Lib.hid (HC.out.mv hrp hne hrb);clear HC hrp;have HC:=Lib.hid HCn.out;clear HCn;go_wp2_with fail;refine(take_yes ny HC.out.rx).mono ?_;rintro e w1 ⟨rfl,hrp⟩;have HCn:=Lib.hid (HC.out.mv hrp hne hrb);clear HC hrp;have HC:=Lib.hid HCn.out;clear HCn;obtain⟨fc,ff⟩:=HC.out.cells;have f0:=fc 0 _ rfl;clear fc;have HCn:=Lib.hid (HC.out.kind hne hBb hbl (k:=2) (by unfold I64;omega));clear HC;have HC:=Lib.hid HCn.out;clear HCn;go_wp2_with fail;refine(rval_ok _ _ _ _ _ _ _ hA HC.out.rx).mono ?_;rintro e w2 ⟨x,y,z,rfl,hz,hrp⟩;obtain⟨xo,xn,xA,xk,xc,rfl,rfl,rfl⟩:=hz.form;have HZ:=Lib.hid (HC.out.up hz);have HCn:=Lib.hid (HC.out.mv hrp hne hrb);clear HC hrp hz;have HC:=Lib.hid HCn.out;clear HCn;clear ff f0;obtain⟨fc,ff⟩:=HC.out.cells;have f7:=fc 7 _ rfl;have f8:=fc 8 _ rfl;have f9:=fc 9 _ rfl;clear fc;have HCn:=Lib.hid (HC.out.ex hne hBb hbl HZ.out);clear HC;have HC:=Lib.hid HCn.out;clear HCn;go_upto_region 30 with(fail)
 clear ff f7 f8 f9;generalize valA l (nxt r)=q at*
 obtain⟨qt,re⟩:=q;dsimp only at*
 obtain⟨p0,p1,p2,pf⟩:=HC.out.rx.cells;have HPO:=Lib.hid HC.out.post;by_cases he:re.1<l.length
 ·have hge:decide ((re.1:Int)<(l.length:Int))=true:=decide_eq_true (by omega);go_quiet(fail);go_wp2_with(go_at_call 135;refine(fail_any _ _ _ _ _ _ _ (HC.out.rx.below (below_dn (Below.refl _ _) nq))).mono ?_;rintro e wf ⟨rfl,hrp⟩;have HCn:=Lib.hid ((HC.out.bl (below_dn (Below.refl _ _) nq)).mv hrp hne hrb);clear hrp);have hee:endA l re=failA re:=if_pos he;rw[hee];exact bodyPost_end (results_none Tryz.results101 _ _ _) rfl HCn.out.post
 ·have hge:decide ((re.1:Int)<(l.length:Int))=false:=decide_eq_false (by omega);go_quiet(fail);go_wp2_with fail;have hee:endA l re=re:=if_neg he;rw[hee];exact bodyPost_end (results_none Tryz.results101 _ _ _) rfl (HC.out.bl (below_dn (Below.refl _ _) nq)).post
set_option maxRecDepth 100000 in
set_option maxHeartbeats 8000000 in
theorem rc_while(w:World)(B rb bb:Nat)(A:Option Addr)(c:Nat)(l:List Tk)(r:Rs)(sk:Bool)(lb:Int)(hA:noAt l)(h:RX w B rb A c l r)(hbb:w.heap[bb]? =some (.cells (cells0 sk lb) 54 (0,0)))(hne:bb≠rb)(hBb:B≤bb)(hI:I64 lb)(n0:isA l r ⟨#[35]⟩=false)(n1:isA l r ⟨#[73,70]⟩=false)(n2:isA l r ⟨#[71,79,84,79]⟩=false)(ny:isA l r ⟨#[87,72,73,76,69]⟩=true):
 Calls Tryz.prog 101 #[.pointer (some ⟨rb,0,none⟩),.pointer (some ⟨bb,0,none⟩)] w (CtPost B rb bb A c l ⟨4,lb,sk,[],zeroT,(EX l .brk (nxt r)).1,(cntA l 3 (wantA l (EX l .brk (nxt r)).2 ⟨#[68,79]⟩)).1⟩ (endA l (cntA l 3 (wantA l (EX l .brk (nxt r)).2 ⟨#[68,79]⟩)).2) w):=by
 have HC:=Lib.hid (CtI.start h hbb hI);have hrb:=h.lt;have hbl:=hlS hbb;clear h hbb;go_enter Tryz.func101,Tryz.ntmps101;go_wp2_with fail;refine(take_no n0 HC.out.rx).mono ?_;rintro e wn0 ⟨rfl,hrp⟩;have HCn:=Lib.hid (HC.out.mv hrp hne hrb);clear HC hrp;have HC:=Lib.hid HCn.out;clear HCn;go_wp2_with fail;refine(take_no n1 HC.out.rx).mono ?_;rintro e wn1 ⟨rfl,hrp⟩;have HCn:=Lib.hid (HC.out.mv hrp hne hrb);clear HC hrp;have HC:=Lib.hid HCn.out;clear HCn;go_wp2_with fail;refine(take_no n2 HC.out.rx).mono ?_;rintro e wn2 ⟨rfl,hrp⟩;have HCn:=Lib.hid (HC.out.mv hrp hne hrb);clear HC hrp;have HC:=Lib.hid HCn.out;clear HCn;go_wp2_with fail;refine(take_yes ny HC.out.rx).mono ?_;rintro e w1 ⟨rfl,hrp⟩;have HCn:=Lib.hid (HC.out.mv hrp hne hrb);clear HC hrp;have HC:=Lib.hid HCn.out;clear HCn;obtain⟨fc,ff⟩:=HC.out.cells;have f0:=fc 0 _ rfl;clear fc;have HCn:=Lib.hid (HC.out.kind hne hBb hbl (k:=4) (by unfold I64;omega));clear HC;have HC:=Lib.hid HCn.out;clear HCn;go_wp2_with fail;refine(rbrk_ok _ _ _ _ _ _ _ hA HC.out.rx).mono ?_;rintro e w2 ⟨x,y,z,rfl,hz,hrp⟩;obtain⟨xo,xn,xA,xk,xc,rfl,rfl,rfl⟩:=hz.form;have HZ:=Lib.hid (HC.out.up hz);have HCn:=Lib.hid (HC.out.mv hrp hne hrb);clear HC hrp hz;have HC:=Lib.hid HCn.out;clear HCn;clear ff f0;obtain⟨fc,ff⟩:=HC.out.cells;have f7:=fc 7 _ rfl;have f8:=fc 8 _ rfl;have f9:=fc 9 _ rfl;clear fc;have HCn:=Lib.hid (HC.out.ex hne hBb hbl HZ.out);clear HC;have HC:=Lib.hid HCn.out;clear HCn;go_wp2_with fail;refine(want_any _ _ _ _ _ _ _ _ HC.out.rx).mono ?_;rintro e w3 ⟨rfl,hrp⟩;have HCn:=Lib.hid (HC.out.mv hrp hne hrb);clear HC hrp;have HC:=Lib.hid HCn.out;clear HCn;clear ff f7 f8 f9;clear HZ;go_wp2_with fail;refine(count_any6 _ _ _ _ _ _ _ 3 HC.out.rx).mono ?_;rintro e w4 ⟨rfl,hrp⟩;have HCn:=Lib.hid (HC.out.mv hrp hne hrb);have HBD:=Lib.hid (cnt_bd (l:=l) (r:=wantA l (EX l .brk (nxt r)).2 ⟨#[68,79]⟩) (most:=3) (by omega) (by omega));clear HC hrp;have HC:=Lib.hid HCn.out;clear HCn;obtain⟨fc,ff⟩:=HC.out.cells;have f10:=fc 10 _ rfl;clear fc;have HCn:=Lib.hid (HC.out.num hne hBb hbl HBD.out);clear HC;have HC:=Lib.hid HCn.out;clear HCn;go_upto_region 30 with(fail)
 clear ff f10;generalize cntA l 3 (wantA l (EX l .brk (nxt r)).2 ⟨#[68,79]⟩)=q at*
 obtain⟨qt,re⟩:=q;dsimp only at*
 obtain⟨p0,p1,p2,pf⟩:=HC.out.rx.cells;have HPO:=Lib.hid HC.out.post;by_cases he:re.1<l.length
 ·have hge:decide ((re.1:Int)<(l.length:Int))=true:=decide_eq_true (by omega);go_quiet(fail);go_wp2_with(go_at_call 135;refine(fail_any _ _ _ _ _ _ _ (HC.out.rx.below (below_dn (Below.refl _ _) nq))).mono ?_;rintro e wf ⟨rfl,hrp⟩;have HCn:=Lib.hid ((HC.out.bl (below_dn (Below.refl _ _) nq)).mv hrp hne hrb);clear hrp);have hee:endA l re=failA re:=if_pos he;rw[hee];exact bodyPost_end (results_none Tryz.results101 _ _ _) rfl HCn.out.post
 ·have hge:decide ((re.1:Int)<(l.length:Int))=false:=decide_eq_false (by omega);go_quiet(fail);go_wp2_with fail;have hee:endA l re=re:=if_neg he;rw[hee];exact bodyPost_end (results_none Tryz.results101 _ _ _) rfl (HC.out.bl (below_dn (Below.refl _ _) nq)).post
set_option maxRecDepth 100000 in
set_option maxHeartbeats 8000000 in
theorem rc_end(w:World)(B rb bb:Nat)(A:Option Addr)(c:Nat)(l:List Tk)(r:Rs)(sk:Bool)(lb:Int)(hA:noAt l)(h:RX w B rb A c l r)(hbb:w.heap[bb]? =some (.cells (cells0 sk lb) 54 (0,0)))(hne:bb≠rb)(hBb:B≤bb)(hI:I64 lb)(n0:isA l r ⟨#[35]⟩=false)(n1:isA l r ⟨#[73,70]⟩=false)(n2:isA l r ⟨#[71,79,84,79]⟩=false)(n3:isA l r ⟨#[87,72,73,76,69]⟩=false)(ny:isA l r ⟨#[69,78,68]⟩=true):
 Calls Tryz.prog 101 #[.pointer (some ⟨rb,0,none⟩),.pointer (some ⟨bb,0,none⟩)] w (CtPost B rb bb A c l ⟨5,lb,sk,[],zeroT,zeroT,(cntA l 3 (nxt r)).1⟩ (endA l (cntA l 3 (nxt r)).2) w):=by
 have HC:=Lib.hid (CtI.start h hbb hI);have hrb:=h.lt;have hbl:=hlS hbb;clear h hbb;go_enter Tryz.func101,Tryz.ntmps101;go_wp2_with fail;refine(take_no n0 HC.out.rx).mono ?_;rintro e wn0 ⟨rfl,hrp⟩;have HCn:=Lib.hid (HC.out.mv hrp hne hrb);clear HC hrp;have HC:=Lib.hid HCn.out;clear HCn;go_wp2_with fail;refine(take_no n1 HC.out.rx).mono ?_;rintro e wn1 ⟨rfl,hrp⟩;have HCn:=Lib.hid (HC.out.mv hrp hne hrb);clear HC hrp;have HC:=Lib.hid HCn.out;clear HCn;go_wp2_with fail;refine(take_no n2 HC.out.rx).mono ?_;rintro e wn2 ⟨rfl,hrp⟩;have HCn:=Lib.hid (HC.out.mv hrp hne hrb);clear HC hrp;have HC:=Lib.hid HCn.out;clear HCn;go_wp2_with fail;refine(take_no n3 HC.out.rx).mono ?_;rintro e wn3 ⟨rfl,hrp⟩;have HCn:=Lib.hid (HC.out.mv hrp hne hrb);clear HC hrp;have HC:=Lib.hid HCn.out;clear HCn;go_wp2_with fail;refine(take_yes ny HC.out.rx).mono ?_;rintro e w1 ⟨rfl,hrp⟩;have HCn:=Lib.hid (HC.out.mv hrp hne hrb);clear HC hrp;have HC:=Lib.hid HCn.out;clear HCn;obtain⟨fc,ff⟩:=HC.out.cells;have f0:=fc 0 _ rfl;clear fc;have HCn:=Lib.hid (HC.out.kind hne hBb hbl (k:=5) (by unfold I64;omega));clear HC;have HC:=Lib.hid HCn.out;clear HCn;go_wp2_with fail;refine(count_any6 _ _ _ _ _ _ _ 3 HC.out.rx).mono ?_;rintro e w2 ⟨rfl,hrp⟩;have HCn:=Lib.hid (HC.out.mv hrp hne hrb);have HBD:=Lib.hid (cnt_bd (l:=l) (r:=nxt r) (most:=3) (by omega) (by omega));clear HC hrp;have HC:=Lib.hid HCn.out;clear HCn;clear ff f0;obtain⟨fc,ff⟩:=HC.out.cells;have f10:=fc 10 _ rfl;clear fc;have HCn:=Lib.hid (HC.out.num hne hBb hbl HBD.out);clear HC;have HC:=Lib.hid HCn.out;clear HCn;go_upto_region 30 with(fail)
 clear ff f10;generalize cntA l 3 (nxt r)=q at*
 obtain⟨qt,re⟩:=q;dsimp only at*
 obtain⟨p0,p1,p2,pf⟩:=HC.out.rx.cells;have HPO:=Lib.hid HC.out.post;by_cases he:re.1<l.length
 ·have hge:decide ((re.1:Int)<(l.length:Int))=true:=decide_eq_true (by omega);go_quiet(fail);go_wp2_with(go_at_call 135;refine(fail_any _ _ _ _ _ _ _ (HC.out.rx.below (below_dn (Below.refl _ _) nq))).mono ?_;rintro e wf ⟨rfl,hrp⟩;have HCn:=Lib.hid ((HC.out.bl (below_dn (Below.refl _ _) nq)).mv hrp hne hrb);clear hrp);have hee:endA l re=failA re:=if_pos he;rw[hee];exact bodyPost_end (results_none Tryz.results101 _ _ _) rfl HCn.out.post
 ·have hge:decide ((re.1:Int)<(l.length:Int))=false:=decide_eq_false (by omega);go_quiet(fail);go_wp2_with fail;have hee:endA l re=re:=if_neg he;rw[hee];exact bodyPost_end (results_none Tryz.results101 _ _ _) rfl (HC.out.bl (below_dn (Below.refl _ _) nq)).post
end Go.Proofs.YtdcjbhdfphcefaaGreatDoor
namespace Go.Proofs.YtdcjbhdfphcefaaGreatDoor
open Go.RowKit
def wordsA(l:List Tk):Nat→Rs→List (Int×Tr)→List (Int×Tr)×Rs
 |0,r,acc=>(acc,r)
 |k+1,r,acc=>if(tokA l r).kind=1∧letA l r 78=false∧letA l r 79=false then wordsA l k (valA l (nxt r)).2 (acc++[((tokA l r).n,(valA l (nxt r)).1)])else(acc,r)
theorem left_val(l:List Tk)(r:Rs):leftA l (valA l r).2≤leftA l r:=by
 unfold valA;split
 ·exact Nat.le_trans (left_EX l .cel (nxt r)) (left_nxt l r)
 ·split
  ·exact Nat.le_trans (left_EX l .cel (nxt r)) (left_nxt l r)
  ·exact left_EX l .cel r
structure CwI(w:World)(B rb bb:Nat)(A:Option Addr)(c:Nat)(l:List Tk)(r:Rs)(sk:Bool)(lb:Int)(r':Rs)(acc:List (Int×Tr))(wa:Option Addr)(wc:Nat)(ys:List Value)(W:World):Prop where
 rx:RX W B rb A c l r'
 ch:Chg (fun g=>g=rb∨g=bb) w W
 bk:W.heap[bb]? =some (.cells ⟨cellsB ⟨0,lb,sk,acc,zeroT,zeroT,0⟩ wa acc.length wc (.int .i64 0) (.int .i64 0) (.slice none 0 0) (.int .i64 0) (.int .i64 0) (.slice none 0 0)⟩ 54 (0,0))
 own:W.ownsRow w.heap.size 57 4 (.slice wa acc.length wc) acc.length ys
 len:acc.length+leftA l r'≤leftA l r
 i64:∀x∈acc,I64 x.1
 parts:∀(i:Nat) (cc:Int) (t:Tr),acc[i]? =some (cc,t)→ys[i*4]? =some (.int .i64 cc)∧∃x y z:Value,ys[i*4+1]? =some x∧ys[i*4+2]? =some y∧ys[i*4+3]? =some z∧Rz W (fun g=>w.heap.size≤g∧wa.map (·.block)≠some g) t (.agg #[x,y,z])
section
variable {w W W' W5 W7 W8 w9:World} {B rb bb:Nat} {A:Option Addr} {c:Nat} {l:List Tk} {r r' r2:Rs} {sk:Bool} {lb:Int} {acc:List (Int×Tr)} {wa:Option Addr} {wc:Nat} {ys:List Value}
theorem CwI.start(h:RX w B rb A c l r)(hbb:w.heap[bb]? =some (.cells (cells0 sk lb) 54 (0,0))):CwI w B rb bb A c l r sk lb r [] none 0 [] w:=
 ⟨h,Chg.refl _ _,hbb,World.ownsRow_nil _ _ _ _,by simp,fun x hx=>(by cases hx),fun i cc t hx=>(by cases hx)⟩
theorem CwI.bl(h:CwI w B rb bb A c l r sk lb r' acc wa wc ys W)(hb:Below W.heap.size W W'):CwI w B rb bb A c l r sk lb r' acc wa wc ys W':=
 ⟨h.rx.below hb,h.ch.trans (Chg.of_below hb),(hb.block _ (hlS h.bk)).trans h.bk,owns_keep h.own fun g hg _=>hb.block g hg,h.len,h.i64,fun i cc t hx=>by
  obtain⟨p0,x,y,z,p1,p2,p3,p4⟩:=h.parts i cc t hx
  exact⟨p0,x,y,z,p1,p2,p3,p4.keep hb.size (fun _ _ q=>q) fun g hg _=>hb.block g hg⟩⟩
theorem CwI.cells(h:CwI w B rb bb A c l r sk lb r' acc wa wc ys W):W.cell? ⟨bb,3,none⟩=some (.slice wa acc.length wc)∧∀i,W.frozen? ⟨bb,i,none⟩=false:=
 ⟨(cell_of_row W bb 3 _ _ _ h.bk).trans rfl,fun i=>by simp[World.frozen?,h.bk]⟩
theorem CwI.push{cc xo xn:Int}{xA:Option Addr}{xk xc g9 c9:Nat}{t:Tr}(h:CwI w B rb bb A c l r sk lb r' acc wa wc ys W5)(h7:RX W7 B rb A c l r2)(o7:Only rb W5 W7)(hz:Rz W7 (fun g=>W5.heap.size<g) t (.agg #[.int .i64 xo,.int .i64 xn,.slice xA xk xc]))(hb8:Below W7.heap.size W7 W8)
 (ho9:w9.ownsRow w.heap.size 57 4 (.slice (some ⟨g9,0,none⟩) (acc.length+1) c9) (acc.length+1) (ys++[.int .i64 cc,.int .i64 xo,.int .i64 xn,.slice xA xk xc])) (hg9:W8.grownBy w9 (wa.map (·.block))) (hl9:wa.map (·.block)=some g9∨g9=W8.heap.size)
 (hne:bb≠rb) (hrb:rb<w.heap.size) (hbb:bb<w.heap.size) (hBb:B≤bb) (hcc:I64 cc) (hlen:acc.length+1+leftA l r2≤leftA l r):
 CwI w B rb bb A c l r sk lb r2 (acc++[(cc,t)]) (some ⟨g9,0,none⟩) c9 (ys++[.int .i64 cc,.int .i64 xo,.int .i64 xn,.slice xA xk xc]) (w9.setCell ⟨bb,3,none⟩ (.slice (some ⟨g9,0,none⟩) (acc.length+1) c9)):=by
 have hs7:=o7.2.2.2.1;have hs8:=hb8.size;have hs9:=hg9.size;have hsw:=h.ch.size;have hlenA:(acc++[(cc,t)]).length=acc.length+1:=by simp
 have hol:∀q,wa.map (·.block)=some q→w.heap.size≤q∧q<W5.heap.size:=fun q hq=>own_blk h.own (by rw[own_mapblk];exact hq);have hg9w:w.heap.size≤g9∧g9<w9.heap.size:=own_blk ho9 rfl;obtain⟨V,hV⟩:∃V,V=w9.setCell ⟨bb,3,none⟩ (.slice (some ⟨g9,0,none⟩) (acc.length+1) c9):=⟨_,rfl⟩;rw[←hV];have hVs:V.heap.size=w9.heap.size:=by rw[hV];simp[World.setCell]
 have kV:∀q,q≠bb→V.heap[q]? =w9.heap[q]? :=fun q hq=>by rw[hV];exact Below.heap_setCell _ _ _ q hq
 have k9:∀q,q<W7.heap.size→wa.map (·.block)≠some q→w9.heap[q]? =W7.heap[q]? :=fun q hq hn=>(hg9.block q (by omega) (fun e=>hn e.symm)).trans (hb8.block q hq);have k5:∀q,q<W5.heap.size→wa.map (·.block)≠some q→q≠rb→q≠bb→V.heap[q]? =W5.heap[q]? :=fun q hq hn h1 h2=>(kV q h2).trans ((k9 q (by omega) hn).trans (o7.2.2.2.2 q hq h1));have nb:∀q,q<w.heap.size→wa.map (·.block)≠some q:=fun q hq e=>by have:=(hol q e).1;omega
 have hge:=h7.ge;have hlt7:=h7.lt;have hbk9:w9.heap[bb]? =some (.cells ⟨cellsB ⟨0,lb,sk,acc,zeroT,zeroT,0⟩ wa acc.length wc (.int .i64 0) (.int .i64 0) (.slice none 0 0) (.int .i64 0) (.int .i64 0) (.slice none 0 0)⟩ 54 (0,0)):=(k9 bb (by omega) (nb bb hbb)).trans ((o7.2.2.2.2 bb (by omega) hne).trans h.bk);refine⟨⟨h7.ge,(kV rb (fun e=>hne e.symm)).trans ((k9 rb hlt7 (nb rb hrb)).trans h7.blk),h7.tok.keep (fun p hp=>World.cell?_of_block ((kV p.block (by omega)).trans (k9 p.block (by omega) (nb _ (by omega))))) (Nat.le_refl _),h7.pos,h7.bad⟩,?_,?_,?_,by rw[hlenA];exact hlen,fun x hx=> ?_,fun i c2 t2 hx=> ?_⟩
 ·refine⟨?_,?_,?_,by omega,fun q hq hz=>(k5 q (by omega) (nb q hq) (fun e=>hz (.inl e)) (fun e=>hz (.inr e))).trans (h.ch.block q hq hz)⟩
  ·rw[hV];exact hg9.os.trans (hb8.os.trans (o7.1.trans h.ch.os))
  ·rw[hV];exact hg9.tape.trans (hb8.tape.trans (o7.2.1.trans h.ch.tape))
  ·rw[hV];exact hg9.output.trans (hb8.output.trans (o7.2.2.1.trans h.ch.output))
 ·rw[hV,hlenA];exact heap_set hbk9
 ·rw[hlenA];exact owns_keep ho9 fun q hq hv=>kV q (by
   simp only[Value.ownBlock,Option.some.injEq]at hv
   omega)
 ·rcases List.mem_append.1 hx with hx|hx
  ·exact h.i64 x hx
  ·rw[List.mem_singleton.1 hx];exact hcc
 ·have l1:=h.own.1;by_cases hi:i<acc.length
  ·rw[List.getElem?_append_left hi]at hx;obtain⟨p0,x,y,z,p1,p2,p3,p4⟩:=h.parts i c2 t2 hx;refine⟨by rw[List.getElem?_append_left (by omega)];exact p0,x,y,z,by rw[List.getElem?_append_left (by omega)];exact p1,by rw[List.getElem?_append_left (by omega)];exact p2,by rw[List.getElem?_append_left (by omega)];exact p3,p4.keep (by omega) (fun q hq hI=>⟨hI.1,fun e=> ?_⟩) fun q hq hI=>k5 q hq hI.2 (by have:=hI.1;omega) (by have:=hI.1;omega)⟩;simp only[Option.map_some,Option.some.injEq]at e;rcases hl9 with e1|e1
   ·exact hI.2 (e1.trans (by rw[e]))
   ·omega
  ·have hie:i=acc.length:=by
    have:=(List.getElem?_eq_some_iff.1 hx).1;rw[hlenA]at this;omega
   subst hie;rw[List.getElem?_append_right (Nat.le_refl _),Nat.sub_self]at hx;simp only[List.getElem?_cons_zero,Option.some.injEq,Prod.mk.injEq]at hx;obtain⟨rfl,rfl⟩:=hx;refine⟨by rw[show acc.length*4=acc.length*4+0 by omega,app_at3 l1];rfl,_,_,_,by rw[app_at3 l1];rfl,by rw[app_at3 l1];rfl,by rw[app_at3 l1];rfl,hz.keep (by omega) (fun q hq hi=>⟨by have q2:W5.heap.size<q:=hi;omega,fun e=> ?_⟩) fun q hq hi=>(kV q (by have q2:W5.heap.size<q:=hi;omega)).trans (k9 q hq fun e=>by have q2:W5.heap.size<q:=hi;have:=(hol q e).2;omega)⟩;simp only[Option.map_some,Option.some.injEq]at e;have q2:W5.heap.size<q:=hi;rcases hl9 with e1|e1
   ·have:=(hol g9 e1).2;omega
   ·omega
theorem CwI.done(h:CwI w B rb bb A c l r sk lb r' acc wa wc ys W)(hI:I64 lb)(hm:acc.length≤maxLen):CtI w B rb bb A c l r' ⟨0,lb,sk,acc,zeroT,zeroT,0⟩ wa acc.length wc (.int .i64 0) (.int .i64 0) (.slice none 0 0) (.int .i64 0) (.int .i64 0) (.slice none 0 0) W:=by
 refine⟨h.rx,h.ch,h.bk,by show I64 0;unfold I64;omega,hI,by show I64 0;unfold I64;omega,⟨rfl,hm,h.i64,?_⟩,rz_num _ _ _ (by unfold I64;omega),rz_num _ _ _ (by unfold I64;omega)⟩;rcases h.own.2 with⟨q,h0⟩|⟨g,cap,cur,p1,p2,p3,p4,p5,p6,p7⟩
 ·simp only[Value.slice.injEq]at q;exact .inl ⟨q.1,h0⟩
 ·simp only[Value.slice.injEq,true_and]at p1;obtain⟨rfl,rfl⟩:=p1;refine .inr ⟨g,rfl,p2,hlS p3,fun i cc t hx=> ?_⟩;obtain⟨q0,x,y,z,q1,q2,q3,q4⟩:=h.parts i cc t hx;exact⟨own_cell h.own q0,x,y,z,own_cell h.own q1,own_cell h.own q2,own_cell h.own q3,q4.keep (Nat.le_refl _) (fun _ _ q=>q.1) fun _ _ _=>rfl⟩
end
def CwR(w:World)(B rb bb:Nat)(A:Option Addr)(c:Nat)(l:List Tk)(r:Rs)(sk:Bool)(lb:Int)(W:World):Prop:=
 ∃(k:Nat) (r':Rs) (acc:List (Int×Tr)) (wa:Option Addr) (wc:Nat) (ys:List Value),CwI w B rb bb A c l r sk lb r' acc wa wc ys W∧leftA l r'≤k∧wordsA l (leftA l r) r []=wordsA l k r' acc
theorem tok_I64{w:World}{B rb:Nat}{A:Option Addr}{c:Nat}{l:List Tk}{r:Rs}(h:RX w B rb A c l r):I64 (tokA l r).n:=by
 unfold tokA;split
 ·show I64 0;unfold I64;omega
 ·rename_i q;rw[List.getD_eq_getElem?_getD,List.getElem?_eq_getElem (by omega)];exact(h.tok.2.1 _ (List.getElem_mem _)).2.1
set_option maxRecDepth 100000 in
set_option maxHeartbeats 16000000 in
theorem rc_words(w:World)(B rb bb:Nat)(A:Option Addr)(c:Nat)(l:List Tk)(r:Rs)(sk:Bool)(lb:Int)(hA:noAt l)(h:RX w B rb A c l r)(hbb:w.heap[bb]? =some (.cells (cells0 sk lb) 54 (0,0)))(hne:bb≠rb)(hBb:B≤bb)(hI:I64 lb)(n0:isA l r ⟨#[35]⟩=false)(n1:isA l r ⟨#[73,70]⟩=false)(n2:isA l r ⟨#[71,79,84,79]⟩=false)(n3:isA l r ⟨#[87,72,73,76,69]⟩=false)(n4:isA l r ⟨#[69,78,68]⟩=false)(n5:letA l r 79=false):
 Calls Tryz.prog 101 #[.pointer (some ⟨rb,0,none⟩),.pointer (some ⟨bb,0,none⟩)] w (CtPost B rb bb A c l ⟨0,lb,sk,(wordsA l (leftA l r) r []).1,zeroT,zeroT,0⟩ (endA l (wordsA l (leftA l r) r []).2) w):=by
 have HC:=Lib.hid (CwI.start (sk:=sk) (lb:=lb) h hbb);have hrb:=h.lt;have hbl:=hlS hbb;have hml:l.length≤100000:=h.tok.1;have HST:Hid (CtI w B rb bb A c l r ⟨0,lb,sk,[],zeroT,zeroT,0⟩ none 0 0 (.int .i64 0) (.int .i64 0) (.slice none 0 0) (.int .i64 0) (.int .i64 0) (.slice none 0 0) w):=CtI.start h hbb hI;clear h;go_enter Tryz.func101,Tryz.ntmps101;go_wp2_with fail;refine(take_no n0 HST.out.rx).mono ?_;rintro e wn0 ⟨rfl,hrp⟩;have HCn:=Lib.hid (HST.out.mv hrp hne hrb);clear HST hrp;have HST:=Lib.hid HCn.out;clear HCn;go_wp2_with fail;refine(take_no n1 HST.out.rx).mono ?_;rintro e wn1 ⟨rfl,hrp⟩;have HCn:=Lib.hid (HST.out.mv hrp hne hrb);clear HST hrp;have HST:=Lib.hid HCn.out;clear HCn;go_wp2_with fail;refine(take_no n2 HST.out.rx).mono ?_;rintro e wn2 ⟨rfl,hrp⟩;have HCn:=Lib.hid (HST.out.mv hrp hne hrb);clear HST hrp;have HST:=Lib.hid HCn.out;clear HCn;go_wp2_with fail;refine(take_no n3 HST.out.rx).mono ?_;rintro e wn3 ⟨rfl,hrp⟩;have HCn:=Lib.hid (HST.out.mv hrp hne hrb);clear HST hrp;have HST:=Lib.hid HCn.out;clear HCn;go_wp2_with fail;refine(take_no n4 HST.out.rx).mono ?_;rintro e wn4 ⟨rfl,hrp⟩;have HCn:=Lib.hid (HST.out.mv hrp hne hrb);clear HST hrp;have HST:=Lib.hid HCn.out;clear HCn;go_wp2_with fail;refine(letter_is n5 HST.out.rx).mono ?_;rintro e w1 ⟨rfl,hb⟩;have HCn:=Lib.hid (HST.out.bl hb);clear HST hb;have HST:=Lib.hid HCn.out;have HR0:Hid (CwR w B rb bb A c l r sk lb w1):=⟨leftA l r,r,[],none,0,[],⟨HST.out.rx,HST.out.ch,HST.out.bk,World.ownsRow_nil _ _ _ _,by simp,fun x hx=>(by cases hx),fun i cc t hx=>(by cases hx)⟩,Nat.le_refl _,rfl⟩;clear HCn HST HC hbb;go_wp2_with fail;go_loopw[] (fun W=>CwR w B rb bb A c l r sk lb W) (fun W=>lfM rb l W)
 case atStart=>exact HR0.out
 case round=>
  obtain⟨k,r',acc,wa,wc,ys,hC,hk,hw⟩:=hrel;have HC:=Lib.hid hC;have HW:=Lib.hid hw;have HMS:=Lib.hid (lfM_eq hC.rx);have HTI:=Lib.hid (tok_I64 hC.rx);have HLT:Hid ((tokA l r').kind≠0→r'.1<l.length):=tokA_lt;have HKL:Hid ((tokA l r').kind≠0→leftA l r'=leftA l (nxt r')+1∧0<leftA l (nxt r')):=kind_left;obtain⟨⟨tk,tn,tp,tx⟩,ht⟩:∃t,tokA l r'=t:=⟨_,rfl⟩;have HTK:Hid (∀W,RX W B rb A c l r'→Calls Tryz.prog 133 #[.pointer (some ⟨rb,0,none⟩)] W fun e w'=>e=.returned (.agg #[.int .i64 tk,.int .i64 tn,.int .i64 tp,.string tx])∧Below W.heap.size W w'):=fun W hx=>by
   have q:=token_any W B rb A c l r' hx;rw[ht]at q;exact q
  have HT:=Lib.hid ht;rw[ht]at HTI HLT HKL;dsimp only at HTI HLT HKL;have fd0:=tk_field0 (.int .i64 tk) (.int .i64 tn) (.int .i64 tp) (.string tx);have fd1:=tk_field1 (.int .i64 tk) (.int .i64 tn) (.int .i64 tp) (.string tx);clear hC hw ht HR0;by_cases hgo:tk=1∧letA l r' 78=false∧letA l r' 79=false
  case neg=>
   have hw2:wordsA l (leftA l r) r []=(acc,r'):=by
    rw[HW.out];rcases k with _|k
    ·rfl
    ·rw[wordsA,if_neg];rw[HT.out];exact hgo
   obtain⟨re,hre⟩:∃re,re=r':=⟨_,rfl⟩;rw[←hre]at hw2;have HWW:=Lib.hid hw2;have HTK2:=Lib.hid HTK.out;rw[←hre]at HC;rw[←hre]at HTK2 hgo;clear HTK HLT HKL HW HMS HT hw2 hre hk HTI;have HTK:=Lib.hid HTK2.out;clear HTK2;by_cases h1:tk=1
   ·have g1:(tk==1)=true:=beq_iff_eq.2 h1;rcases h78:letA l re 78 with _|_
    ·have h79:letA l re 79=true:=by
      rcases h:letA l re 79 with _|_
      ·exact absurd ⟨h1,h78,h⟩ hgo
      ·rfl
     have tok1:True:=trivial;have H78:=Lib.hid h78;have H79:=Lib.hid h79;clear h78 h79 hgo h1;go_upto_region 30 with(first|(go_at_call 133;refine(HTK.out _ HC.out.rx).mono ?_;rintro e w2 ⟨rfl,hb⟩;have HCn:=Lib.hid (HC.out.bl hb);clear HC hb;have HC:=Lib.hid HCn.out;clear HCn)|(clear tok1;go_at_call 99;refine(letter_is H78.out HC.out.rx).mono ?_;rintro e w3 ⟨rfl,hb⟩;have HCn:=Lib.hid (HC.out.bl hb);clear HC hb;have HC:=Lib.hid HCn.out;clear HCn)|(go_at_call 99;refine(letter_is H79.out HC.out.rx).mono ?_;rintro e w4 ⟨rfl,hb⟩;have HCn:=Lib.hid (HC.out.bl hb);clear HC hb;have HC:=Lib.hid HCn.out;clear HCn))
     have HC2:=Lib.hid (HC.out.done hI (by have:=HC.out.len;have h6:leftA l r≤l.length+1:=(by unfold leftA;split<;>omega);unfold maxLen;omega));clear HC;have HC:=Lib.hid HC2.out;clear HC2;obtain⟨p0,p1,p2,pf⟩:=HC.out.rx.cells;have HPO:=Lib.hid HC.out.post;by_cases he:re.1<l.length
     ·have hge:decide ((re.1:Int)<(l.length:Int))=true:=decide_eq_true (by omega);go_quiet(fail);go_wp2_with(go_at_call 135;refine(fail_any _ _ _ _ _ _ _ (HC.out.rx.below (below_dn (Below.refl _ _) nq))).mono ?_;rintro e wf ⟨rfl,hrp⟩;have HCn:=Lib.hid ((HC.out.bl (below_dn (Below.refl _ _) nq)).mv hrp hne hrb);clear hrp);have hee:endA l re=failA re:=if_pos he;rw[HWW.out];dsimp only;rw[hee];exact bodyPost_end (results_none Tryz.results101 _ _ _) rfl HCn.out.post
     ·have hge:decide ((re.1:Int)<(l.length:Int))=false:=decide_eq_false (by omega);go_quiet(fail);go_wp2_with fail;have hee:endA l re=re:=if_neg he;rw[HWW.out];dsimp only;rw[hee];exact bodyPost_end (results_none Tryz.results101 _ _ _) rfl (HC.out.bl (below_dn (Below.refl _ _) nq)).post
    ·have H78:=Lib.hid h78;clear h78 hgo h1;go_upto_region 30 with(first|(go_at_call 133;refine(HTK.out _ HC.out.rx).mono ?_;rintro e w2 ⟨rfl,hb⟩;have HCn:=Lib.hid (HC.out.bl hb);clear HC hb;have HC:=Lib.hid HCn.out;clear HCn)|(go_at_call 99;refine(letter_is H78.out HC.out.rx).mono ?_;rintro e w3 ⟨rfl,hb⟩;have HCn:=Lib.hid (HC.out.bl hb);clear HC hb;have HC:=Lib.hid HCn.out;clear HCn))
     have HC2:=Lib.hid (HC.out.done hI (by have:=HC.out.len;have h6:leftA l r≤l.length+1:=(by unfold leftA;split<;>omega);unfold maxLen;omega));clear HC;have HC:=Lib.hid HC2.out;clear HC2;obtain⟨p0,p1,p2,pf⟩:=HC.out.rx.cells;have HPO:=Lib.hid HC.out.post;by_cases he:re.1<l.length
     ·have hge:decide ((re.1:Int)<(l.length:Int))=true:=decide_eq_true (by omega);go_quiet(fail);go_wp2_with(go_at_call 135;refine(fail_any _ _ _ _ _ _ _ (HC.out.rx.below (below_dn (Below.refl _ _) nq))).mono ?_;rintro e wf ⟨rfl,hrp⟩;have HCn:=Lib.hid ((HC.out.bl (below_dn (Below.refl _ _) nq)).mv hrp hne hrb);clear hrp);have hee:endA l re=failA re:=if_pos he;rw[HWW.out];dsimp only;rw[hee];exact bodyPost_end (results_none Tryz.results101 _ _ _) rfl HCn.out.post
     ·have hge:decide ((re.1:Int)<(l.length:Int))=false:=decide_eq_false (by omega);go_quiet(fail);go_wp2_with fail;have hee:endA l re=re:=if_neg he;rw[HWW.out];dsimp only;rw[hee];exact bodyPost_end (results_none Tryz.results101 _ _ _) rfl (HC.out.bl (below_dn (Below.refl _ _) nq)).post
   ·have g1:(tk==1)=false:=beq_eq_false_iff_ne.2 h1;clear hgo h1;go_upto_region 30 with(first|(go_at_call 133;refine(HTK.out _ HC.out.rx).mono ?_;rintro e w2 ⟨rfl,hb⟩;have HCn:=Lib.hid (HC.out.bl hb);clear HC hb;have HC:=Lib.hid HCn.out;clear HCn))
    have HC2:=Lib.hid (HC.out.done hI (by have:=HC.out.len;have h6:leftA l r≤l.length+1:=(by unfold leftA;split<;>omega);unfold maxLen;omega));clear HC;have HC:=Lib.hid HC2.out;clear HC2;obtain⟨p0,p1,p2,pf⟩:=HC.out.rx.cells;have HPO:=Lib.hid HC.out.post;by_cases he:re.1<l.length
    ·have hge:decide ((re.1:Int)<(l.length:Int))=true:=decide_eq_true (by omega);go_quiet(fail);go_wp2_with(go_at_call 135;refine(fail_any _ _ _ _ _ _ _ (HC.out.rx.below (below_dn (Below.refl _ _) nq))).mono ?_;rintro e wf ⟨rfl,hrp⟩;have HCn:=Lib.hid ((HC.out.bl (below_dn (Below.refl _ _) nq)).mv hrp hne hrb);clear hrp);have hee:endA l re=failA re:=if_pos he;rw[HWW.out];dsimp only;rw[hee];exact bodyPost_end (results_none Tryz.results101 _ _ _) rfl HCn.out.post
    ·have hge:decide ((re.1:Int)<(l.length:Int))=false:=decide_eq_false (by omega);go_quiet(fail);go_wp2_with fail;have hee:endA l re=re:=if_neg he;rw[HWW.out];dsimp only;rw[hee];exact bodyPost_end (results_none Tryz.results101 _ _ _) rfl (HC.out.bl (below_dn (Below.refl _ _) nq)).post
  obtain⟨h1,h78,h79⟩:=hgo;have hlt:=HLT.out (by omega);have hkl:=HKL.out (by omega);have hlv:=left_val l (nxt r');have HW2:Hid (∃j,leftA l (valA l (nxt r')).2≤j∧wordsA l (leftA l r) r []=wordsA l j (valA l (nxt r')).2 (acc++[(tn,(valA l (nxt r')).1)])):=by
   rcases k with _|k
   ·omega
   ·refine⟨k,by omega,?_⟩;rw[HW.out,wordsA,if_pos (by rw[HT.out];exact⟨h1,h78,h79⟩),HT.out]
  have HLN:Hid (acc.length+1+leftA l (valA l (nxt r')).2≤leftA l r):=by have:=HC.out.len;unfold Hid;omega
  have HMN:Hid (leftA l (valA l (nxt r')).2<leftA l r'):=by unfold Hid;omega
  have g1:(tk==1)=true:=beq_iff_eq.2 h1;have HVAL:Hid (∀W,RX W B rb A c l (nxt r')→Calls Tryz.prog 140 #[.pointer (some ⟨rb,0,none⟩)] W (XP B rb A c l (valA l (nxt r')) W)):=fun W hx=>rval_ok W B rb A c l (nxt r') hA hx;obtain⟨qv,hqv⟩:∃q,valA l (nxt r')=q:=⟨_,rfl⟩;rw[hqv]at HW2 HLN HMN HVAL;have H78:=Lib.hid h78;have H79:=Lib.hid h79;have tok1:True:=trivial;have tok2:True:=trivial;have tok3:True:=trivial;have h6l:leftA l r≤l.length+1:=by unfold leftA;split<;>omega
  have hal:acc.length≤100001:=by have:=HC.out.len;omega
  clear h1 h78 h79 hkl hlv hqv HW HLT HKL HT hk;go_upto_region 3 with(first|(clear tok1;go_at_call 133;refine(HTK.out _ HC.out.rx).mono ?_;rintro e w2 ⟨rfl,hb⟩;have HCn:=Lib.hid (HC.out.bl hb);clear HC hb;have HC:=Lib.hid HCn.out;clear HCn)|(clear tok2;go_at_call 99;refine(letter_is H78.out HC.out.rx).mono ?_;rintro e w3 ⟨rfl,hb⟩;have HCn:=Lib.hid (HC.out.bl hb);clear HC hb;have HC:=Lib.hid HCn.out;clear HCn)|(clear tok3;go_at_call 99;refine(letter_is H79.out HC.out.rx).mono ?_;rintro e w4 ⟨rfl,hb⟩;have HCn:=Lib.hid (HC.out.bl hb);clear HC hb;have HC:=Lib.hid HCn.out;clear HCn)|(go_at_call 133;refine(HTK.out _ HC.out.rx).mono ?_;rintro e w5 ⟨rfl,hb⟩;have HB5:=Lib.hid (hb.alloc hb.size (.cells #[.int .i64 tn,.int .i64 0,.int .i64 0,.slice none 0 0] 57));have HC5:=Lib.hid (HC.out.bl hb);have HX5:=Lib.hid (HC.out.rx.below HB5.out);obtain⟨c0,c1,c2,cf⟩:=HX5.out.cells;have hml5:=HX5.out.tok.1;clear hb))
  obtain⟨wg,hwg⟩:∃wg,wg=w5.heap.size:=⟨_,rfl⟩;obtain⟨W6,hW6⟩:∃W6,W6=(w5.setCell ⟨rb,1,none⟩ (.int .i64 ((r'.1:Int)+1))).alloc (.cells #[.int .i64 tn,.int .i64 0,.int .i64 0,.slice none 0 0] 57):=⟨_,rfl⟩;have hrb5:rb<w5.heap.size:=HC5.out.rx.lt;have hbb5:bb<w5.heap.size:=hlS HC5.out.bk;have hbs:Below (w5.setCell ⟨rb,1,none⟩ (.int .i64 ((r'.1:Int)+1))).heap.size (w5.setCell ⟨rb,1,none⟩ (.int .i64 ((r'.1:Int)+1))) W6:=by rw[hW6];exact(Below.refl _ _).alloc (Nat.le_refl _) _
  have HX6:Hid (RX W6 B rb A c l (nxt r')):=(HC5.out.rx.next hlt).below hbs;have h6s:W6.heap.size=wg+1:=by rw[hW6,hwg];simp[World.setCell]
  have h6w:W6.heap[wg]? =some (.cells #[.int .i64 tn,.int .i64 0,.int .i64 0,.slice none 0 0] 57 (0,0)):=by
   have q:=heap_alloc_new (w5.setCell ⟨rb,1,none⟩ (.int .i64 ((r'.1:Int)+1))) (.cells #[.int .i64 tn,.int .i64 0,.int .i64 0,.slice none 0 0] 57);rw[←hW6]at q;rw[hwg];simpa[World.setCell]using q
  have HO6:Hid (Only rb w5 W6):=(HC5.out.rx.only 1 _).trans (Only.of_below hbs);clear hbs;have H6W:=Lib.hid h6w;have HWG:=Lib.hid hwg;have HV6:=Lib.hid (HVAL.out W6 HX6.out);clear c0 c1 c2 cf h6w;go_wp2_with fail;try rw[←hW6]
  clear hW6;refine HV6.out.mono ?_;rintro e w6 ⟨x,y,z,rfl,hz,hrp⟩;obtain⟨xo,xn,xA,xk,xc,rfl,rfl,rfl⟩:=hz.form;have HZ:=Lib.hid hz;have HX7:=Lib.hid hrp.1;have HO7:=Lib.hid hrp.2;have HWD6:Hid (w6.heap[wg]? =some (.cells #[.int .i64 tn,.int .i64 0,.int .i64 0,.slice none 0 0] 57 (0,0))):=(hrp.2.2.2.2.2 wg (by omega) (by omega)).trans H6W.out;have HWD5:=Lib.hid HWD6.out;rw[hwg]at HWD5;have e1:w6.cell? ⟨w5.heap.size,1,none⟩=some (.int .i64 0):=cell_of_row w6 _ 1 _ _ _ HWD5.out;have e2:w6.cell? ⟨w5.heap.size,2,none⟩=some (.int .i64 0):=cell_of_row w6 _ 2 _ _ _ HWD5.out;have e3:w6.cell? ⟨w5.heap.size,3,none⟩=some (.slice none 0 0):=cell_of_row w6 _ 3 _ _ _ HWD5.out;have ef:∀i,w6.frozen? ⟨w5.heap.size,i,none⟩=false:=fun i=>by simp[World.frozen?,HWD5.out]
  clear hz hrp HV6;go_upto_region 4 with(fail)
  obtain⟨W7,hW7⟩:∃W7,W7=((w6.setCell ⟨wg,1,none⟩ (.int .i64 xo)).setCell ⟨wg,2,none⟩ (.int .i64 xn)).setCell ⟨wg,3,none⟩ (.slice xA xk xc):=⟨_,rfl⟩;rw[←hwg,←hW7];clear e1 e2 e3 ef HWD5;have hk7:∀q,q≠wg→W7.heap[q]? =w6.heap[q]? :=fun q hq=>by rw[hW7];exact set3_heap w6 wg 1 q _ _ _ hq
  have hs7:W7.heap.size=w6.heap.size:=by rw[hW7];simp[World.setCell]
  have hs6:=HO7.out.2.2.2.1;have HX8:Hid (RX W7 B rb A c l qv.2):=by
   have hg:=HX7.out.ge;unfold Hid;rw[hW7];exact((HX7.out.put (show wg≠rb by omega) (by omega) 1 _).put (show wg≠rb by omega) (by omega) 2 _).put (show wg≠rb by omega) (by omega) 3 _
  have HO8:Hid (Only rb w5 W7):=by
   have o:=HO6.out.trans HO7.out;exact⟨by rw[←o.1,hW7];rfl,by rw[←o.2.1,hW7];rfl,by rw[←o.2.2.1,hW7];rfl,by rw[hs7];exact o.2.2.2.1,fun g hg hb=>(hk7 g (by omega)).trans (o.2.2.2.2 g hg hb)⟩
  have HWD7:Hid (W7.heap[wg]? =some (.cells #[.int .i64 tn,.int .i64 xo,.int .i64 xn,.slice xA xk xc] 57 (0,0))):=by
   have q1:=heap_set (i:=1) (u:=.int .i64 xo) HWD6.out;have q2:=heap_set (i:=2) (u:=.int .i64 xn) q1;have q3:=heap_set (i:=3) (u:=.slice xA xk xc) q2;unfold Hid;rw[hW7];simpa using q3
  have HZ7:Hid (Rz W7 (fun g=>w5.heap.size<g) qv.1 (.agg #[.int .i64 xo,.int .i64 xn,.slice xA xk xc])):=HZ.out.keep (by omega) (fun g _ hg=>by have q:W6.heap.size≤g:=hg;show w5.heap.size<g;omega) fun g _ hg=>hk7 g (by have q:W6.heap.size≤g:=hg;omega);have hwg7:wg<W7.heap.size:=hlS HWD7.out;have HWD8:=Lib.hid HWD7.out;rw[hwg]at HWD8;have hwg8:w5.heap.size<W7.heap.size:=hlS HWD8.out;have y0:W7.cell? ⟨w5.heap.size,0,none⟩=some (.int .i64 tn):=cell_of_row W7 _ 0 _ _ _ HWD8.out;have y1:W7.cell? ⟨w5.heap.size,1,none⟩=some (.int .i64 xo):=cell_of_row W7 _ 1 _ _ _ HWD8.out;have y2:W7.cell? ⟨w5.heap.size,2,none⟩=some (.int .i64 xn):=cell_of_row W7 _ 2 _ _ _ HWD8.out;have y3:W7.cell? ⟨w5.heap.size,3,none⟩=some (.slice xA xk xc):=cell_of_row W7 _ 3 _ _ _ HWD8.out;have HBK7:Hid (W7.heap[bb]? =w5.heap[bb]?):=HO8.out.2.2.2.2 bb hbb5 hne;have z3:W7.cell? ⟨bb,3,none⟩=some (.slice wa acc.length wc):=(cell_hp HBK7.out).trans HC5.out.cells.1;have hbb7:bb<W7.heap.size:=by omega
  have HOW:Hid (W7.ownsRow w.heap.size 57 4 (.slice wa acc.length wc) acc.length ys):=owns_keep HC5.out.own fun q hq hv=>HO8.out.2.2.2.2 q hq (by have:=(own_blk HC5.out.own hv).1;omega);have hsw7:w.heap.size≤W7.heap.size:=Nat.le_trans HC5.out.ch.size HO8.out.2.2.2.1;obtain⟨iW,zW,hiW,hW0,hWa,hWb,hWs⟩:=infoWo_parts;have HIW:=Lib.hid hiW;have HZW:=Lib.hid hW0;have HOA:Hid (∀q,wa.map (·.block)=some q→w.heap.size≤q):=fun q hq=>(own_blk HC5.out.own (by rw[own_mapblk];exact hq)).1;clear hiW hW0 hW7 hk7 hs7 H6W HWD6 HZ HX7 HO7 HX6 HO6 HX5 HB5 HC HTK HVAL;go_region_law(first|(refine step_append_lies _ rfl (.tmp 37) (.tmp 39) 49 rfl w.heap.size 57 iW zW 4 48 Tryz.underlying49 HIW.out HZW.out hWa hWb hWs (by omega) (.slice wa acc.length wc) acc.length ys (by simp[Act.eval,Act.put]) (HOW.out.alloc _) ⟨W7.heap.size,0,none⟩ 1 1 [.int .i64 tn,.int .i64 xo,.int .i64 xn,.slice xA xk xc] (by simp[Act.eval,Act.put]) rfl (World.news_of_block (heap_alloc_new W7 _)) (by intro u hu;simp at hu;rcases hu with rfl|rfl|rfl|rfl<;>rfl) (by omega) (by unfold maxLen;omega) (by omega) (by simp;omega) _ rfl ?_;intro g9 c9 w9 ho9 hg9 hl9 hlt9;rw[own_mapblk]at hg9 hl9;have HO9:=Lib.hid ho9;have HG9:=Lib.hid hg9;have HL9:=Lib.hid hl9;have hbk9:=(hg9.block bb (by simp;omega) (fun e=>by have:=HOA.out bb e.symm;omega)).trans ((Below.heap_alloc _ _ _ hbb7).trans HBK7.out);have z39:w9.cell? ⟨bb,3,none⟩=some (.slice wa acc.length wc):=(cell_hp hbk9).trans HC5.out.cells.1;have zf9:∀i,w9.frozen? ⟨bb,i,none⟩=false:=(fun i=>(World.frozen?_of_block (a:=⟨bb,i,none⟩) hbk9).trans (HC5.out.cells.2 i));clear ho9 hg9 hl9 hlt9 hbk9));all_goals
   go_wp2_with fail;obtain⟨j,hj1,hj2⟩:=HW2.out;have hb8:Below W7.heap.size W7 (W7.alloc (.cells #[.int .i64 tn,.int .i64 xo,.int .i64 xn,.slice xA xk xc] 57)).drew:=below_dn ((Below.refl _ _).alloc (Nat.le_refl _) _) 1;have hP:=HC5.out.push (cc:=tn) HX8.out HO8.out HZ7.out hb8 HO9.out HG9.out HL9.out hne hrb hbl hBb HTI.out HLN.out;exact⟨⟨j,qv.2,_,_,_,_,hP,hj1,hj2⟩,by rw[lfM_eq hP.rx,HMS.out];exact HMN.out⟩
end Go.Proofs.YtdcjbhdfphcefaaGreatDoor
