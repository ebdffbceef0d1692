/- The reader of cncref06 in memory; the contracts of token, is, take, letter, count, number, and of cell and value where no bracket and no # follows. The reader of cncref06: the contracts of fail and count. Conditions: those that each lemma names. -/
import Derived.Test.YtdcjbhdfphcefaaGreatDoorPx
import Derived.Test.YtdcjbhdfphcefaaGreatDoorBa
import Derived.Test.YtdcjbhdfphcefaaGreatDoorSvq
import Derived.Test.YtdcjbhdfphcefaaGreatDoorBg
import Derived.WalkMore
import Derived.Deep.CutRange
import Derived.ChangeKeysEq
import Derived.Test.YtdcjbhdfphcefaaGreatDoorBc
set_option linter.unusedVariables false
set_option linter.unusedSimpArgs false
namespace Go.Proofs.YtdcjbhdfphcefaaGreatDoor
open Go.RowKit
def RdT(w:World)(B:Nat)(A:Option Addr)(l:List Tk):Prop:=
 l.length≤100000∧(∀t∈l,I64 t.kind∧I64 t.n∧I64 t.pos)∧(0<l.length→∃ab off:Nat,A=some ⟨ab,off,none⟩∧ab<B∧∀(i:Nat) (t:Tk),l[i]? =some t→
  w.cell? ⟨ab,off+i*4,none⟩=some (.int .i64 t.kind)∧w.cell? ⟨ab,off+i*4+1,none⟩=some (.int .i64 t.n)∧w.cell? ⟨ab,off+i*4+2,none⟩=some (.int .i64 t.pos)∧w.cell? ⟨ab,off+i*4+3,none⟩=some (.string t.text))
theorem RdT.keep{w w':World}{B B':Nat}{A:Option Addr}{l:List Tk}(h:RdT w B A l)(hk:∀p:Addr,p.block<B→w'.cell? p=w.cell? p)(hB:B≤B'):RdT w' B' A l:=by
 obtain⟨h2,h3,h4⟩:=h;refine⟨h2,h3,fun hp=> ?_⟩;obtain⟨ab,off,e,hab,hc⟩:=h4 hp;exact⟨ab,off,e,by omega,fun i x hx=>⟨(hk ⟨ab,off+i*4,none⟩ hab).trans (hc i x hx).1,(hk ⟨ab,off+i*4+1,none⟩ hab).trans (hc i x hx).2.1,(hk ⟨ab,off+i*4+2,none⟩ hab).trans (hc i x hx).2.2.1,(hk ⟨ab,off+i*4+3,none⟩ hab).trans (hc i x hx).2.2.2⟩⟩
structure RX(w:World)(B rb:Nat)(A:Option Addr)(c:Nat)(l:List Tk)(r:Rs):Prop where
 ge:B≤rb
 blk:w.heap[rb]? =some (.cells #[.slice A l.length c,.int .i64 (r.1:Nat),.int .i64 r.2] 153 (0,0))
 tok:RdT w B A l
 pos:r.1≤l.length
 bad: -1≤r.2∧r.2≤l.length
section
variable {w w':World} {B rb:Nat} {A:Option Addr} {c:Nat} {l:List Tk} {r:Rs}
theorem RX.lt(h:RX w B rb A c l r):rb<w.heap.size:=hlS h.blk
theorem RX.below(h:RX w B rb A c l r)(hb:Below w.heap.size w w'):RX w' B rb A c l r:=
 ⟨h.ge,(hb.block _ h.lt).trans h.blk,h.tok.keep (fun p hp=>hb.cell (by have:=h.lt;have:=h.ge;omega)) (Nat.le_refl _),h.pos,h.bad⟩
theorem RX.cells(h:RX w B rb A c l r):w.cell? ⟨rb,0,none⟩=some (.slice A l.length c)∧w.cell? ⟨rb,1,none⟩=some (.int .i64 (r.1:Nat))∧w.cell? ⟨rb,2,none⟩=some (.int .i64 r.2)∧∀i,w.frozen? ⟨rb,i,none⟩=false:=
 ⟨cell_of_row w rb 0 _ _ _ h.blk,cell_of_row w rb 1 _ _ _ h.blk,cell_of_row w rb 2 _ _ _ h.blk,fun i=>by simp[World.frozen?,h.blk]⟩
theorem RX.next(h:RX w B rb A c l r)(hl:r.1<l.length):RX (w.setCell ⟨rb,1,none⟩ (.int .i64 ((r.1:Int)+1))) B rb A c l (nxt r):=by
 have k:∀g,g≠rb→(w.setCell ⟨rb,1,none⟩ (.int .i64 ((r.1:Int)+1))).heap[g]? =w.heap[g]? :=fun g hg=>Below.heap_setCell _ _ _ g hg;refine⟨h.ge,?_,h.tok.keep (fun p hp=>World.cell?_of_block (k p.block (by have:=h.ge;omega))) (Nat.le_refl _),?_,h.bad⟩
 ·have:=heap_set (i:=1) (u:=.int .i64 ((r.1:Int)+1)) h.blk;simpa[nxt]using this
 ·show r.1+1≤l.length;omega
theorem RX.only(h:RX w B rb A c l r)(i:Nat)(v:Value):Only rb w (w.setCell ⟨rb,i,none⟩ v):=⟨rfl,rfl,rfl,by simp[World.setCell],fun g _ hg=>Below.heap_setCell _ _ _ g hg⟩
theorem tokA_none(h:l.length≤r.1∨0≤r.2):tokA l r=noTk:=by unfold tokA;rw[if_pos h]
theorem tokA_at{t:Tk}(h1:r.1<l.length)(h2:r.2<0)(ht:l[r.1]? =some t):tokA l r=t:=by unfold tokA;rw[if_neg (by omega),List.getD_eq_getElem?_getD,ht];rfl
theorem tokA_lt(h:(tokA l r).kind≠0):r.1<l.length:=by
 rcases Nat.lt_or_ge r.1 l.length with q|q
 ·exact q
 ·rw[tokA_none (.inl q)]at h;exact absurd rfl h
theorem isA_lt{s:ByteArray}(h:isA l r s=true):r.1<l.length:=by
 refine tokA_lt (fun e=> ?_);unfold isA at h;rw[e]at h;simp at h
end
def tkV(t:Tk):Value:=.agg #[.int .i64 t.kind,.int .i64 t.n,.int .i64 t.pos,.string t.text]
theorem str_eq(a b:ByteArray):(a.toList=b.toList)=(a=b):=by
 rw[ByteArray.toList_eq,ByteArray.toList_eq];obtain⟨⟨a⟩⟩:=a;obtain⟨⟨b⟩⟩:=b;simp
theorem results_c1{fn:Func}{p:Tmp}{ty:TypeId}(h:fn.results= #[.cell p ty])(tmps:Array Value)(w:World)(g:Nat)(t:TypeId)(cs:Array Value)(fr:Nat×Nat)(fs:Array Field)
 (hp:tmps.getD p undef=.pointer (some ⟨g,0,none⟩)) (hg:w.heap[g]? =some (.cells cs t fr))
 (hu:Tryz.prog.underlying ty=some (.struct fs)) (hi:(Tryz.prog.info? ty).map (·.size)=some cs.size):
 (results fn tmps).run Tryz.prog w=.ok (.agg cs) w:=by
 have hp':tmps[p]?.getD undef=.pointer (some ⟨g,0,none⟩):=by simpa using hp
 simp[results,h,hp',asAddr,run_loadVar_row w g t ty cs fr (.struct fs) hg hu rfl hi]
theorem set_four{w:World}{g:Nat}{T:TypeId}{x0 x1 x2 x3 x y z u:Value}(h:w.heap[g]? =some (.cells #[x0,x1,x2,x3] T (0,0))):
 ((((w.setCell ⟨g,0,none⟩ x).setCell ⟨g,1,none⟩ y).setCell ⟨g,2,none⟩ z).setCell ⟨g,3,none⟩ u).heap[g]? =some (.cells #[x,y,z,u] T (0,0)):=by
 have h1:=heap_set (i:=0) (u:=x) h;have h2:=heap_set (i:=1) (u:=y) h1;have h3:=heap_set (i:=2) (u:=z) h2;have h4:=heap_set (i:=3) (u:=u) h3;simpa using h4
def set4(w:World)(g:Nat)(x y z u:Value):World:=(((w.setCell ⟨g,0,none⟩ x).setCell ⟨g,1,none⟩ y).setCell ⟨g,2,none⟩ z).setCell ⟨g,3,none⟩ u
theorem below_set4{B:Nat}{w w':World}(h:Below B w w'){g:Nat}(hg:B≤g)(x y z u:Value):Below B w (set4 w' g x y z u):=
 (((h.setCell (p:=⟨g,0,none⟩) hg x).setCell (p:=⟨g,1,none⟩) hg y).setCell (p:=⟨g,2,none⟩) hg z).setCell (p:=⟨g,3,none⟩) hg u
theorem set4_ne(w:World)(g j:Nat)(x y z u:Value)(h:j≠g):(set4 w g x y z u).heap[j]? =w.heap[j]? :=
 (Below.heap_setCell _ _ _ j h).trans ((Below.heap_setCell _ _ _ j h).trans ((Below.heap_setCell _ _ _ j h).trans (Below.heap_setCell _ _ _ j h)))
theorem token_any(w:World)(B rb:Nat)(A:Option Addr)(c:Nat)(l:List Tk)(r:Rs)(h:RX w B rb A c l r):
 Calls Tryz.prog 133 #[.pointer (some ⟨rb,0,none⟩)] w fun e w'=>e=.returned (tkV (tokA l r))∧Below w.heap.size w w':=by
 obtain⟨W0,hW0⟩:∃W0,W0=w.alloc (.cells #[.int .i64 0,.int .i64 0,.int .i64 0,.string ⟨#[]⟩] 157):=⟨_,rfl⟩;have HB0:Hid (Below w.heap.size w W0):=by unfold Hid;rw[hW0];exact(Below.refl _ _).alloc (Nat.le_refl _) _
 have H0:Hid (W0.heap[w.heap.size]? =some (.cells #[.int .i64 0,.int .i64 0,.int .i64 0,.string ⟨#[]⟩] 157 (0,0))):=by unfold Hid;rw[hW0];exact heap_alloc_new w _
 have hlt:=h.lt;have hge:=h.ge;have n0:W0.cell? ⟨w.heap.size,0,none⟩=some (.int .i64 0):=cell_of_row W0 _ 0 _ _ _ H0.out;have n1:W0.cell? ⟨w.heap.size,1,none⟩=some (.int .i64 0):=cell_of_row W0 _ 1 _ _ _ H0.out;have n2:W0.cell? ⟨w.heap.size,2,none⟩=some (.int .i64 0):=cell_of_row W0 _ 2 _ _ _ H0.out;have n3:W0.cell? ⟨w.heap.size,3,none⟩=some (.string ⟨#[]⟩):=cell_of_row W0 _ 3 _ _ _ H0.out;have nf:∀i,W0.frozen? ⟨w.heap.size,i,none⟩=false:=fun i=>by simp[World.frozen?,H0.out]
 have h2:=h.below HB0.out;obtain⟨c0,c1,c2,-⟩:=h2.cells;obtain⟨p,b⟩:=r;dsimp only at c1 c2;have hml:=h2.tok.1;have HT:=Lib.hid h2.tok.2.2;have hp:=h2.pos;have hb:=h2.bad;dsimp only at hp hb;clear h h2;by_cases h1:p<l.length
 ·have g1:decide ((p:Int)≥(l.length:Int))=false:=decide_eq_false (by omega);by_cases h2:b<0
  ·have g2:decide (b≥0)=false:=decide_eq_false (by omega);obtain⟨ab,off,rfl,hab,hc⟩:=HT.out (by omega);obtain⟨t,ht⟩:∃t,l[p]? =some t:=⟨_,List.getElem?_eq_getElem h1⟩;obtain⟨d0,d1,d2,d3⟩:=hc p t ht;have E:Hid (tokA l (p,b)=t):=tokA_at h1 h2 ht;have i1:(0:Int)≤(p:Int):=by omega
   have i2:(p:Int)<(l.length:Int):=by omega
   clear hc ht;have hne1:ab≠w.heap.size:=by omega
   have hne2:rb≠w.heap.size:=by omega
   go_enter Tryz.func133,Tryz.ntmps133;go_wp2_with fail;rw[←hW0];clear hW0;go_quiet(fail);go_wp2_with fail;have S0:Hid ((W0.drewN nq).drew.cell? ⟨rb,0,none⟩=some (.slice (some ⟨ab,off,none⟩) l.length c)∧(W0.drewN nq).drew.cell? ⟨rb,1,none⟩=some (.int .i64 (p:Nat))∧(W0.drewN nq).drew.cell? ⟨ab,off+p*4,none⟩=some (.int .i64 t.kind)∧(W0.drewN nq).drew.cell? ⟨ab,off+p*4+1,none⟩=some (.int .i64 t.n)∧(W0.drewN nq).drew.cell? ⟨ab,off+p*4+2,none⟩=some (.int .i64 t.pos)∧(W0.drewN nq).drew.cell? ⟨ab,off+p*4+3,none⟩=some (.string t.text)):=⟨c0,c1,d0,d1,d2,d3⟩;have S1:Hid ((set4 (W0.drewN (nq+1)) w.heap.size (.int .i64 t.kind) (.int .i64 t.n) (.int .i64 t.pos) (.string t.text)).cell? ⟨rb,0,none⟩=some (.slice (some ⟨ab,off,none⟩) l.length c)∧(set4 (W0.drewN (nq+1)) w.heap.size (.int .i64 t.kind) (.int .i64 t.n) (.int .i64 t.pos) (.string t.text)).cell? ⟨rb,1,none⟩=some (.int .i64 (p:Nat))∧(set4 (W0.drewN (nq+1)) w.heap.size (.int .i64 t.kind) (.int .i64 t.n) (.int .i64 t.pos) (.string t.text)).cell? ⟨ab,off+p*4,none⟩=some (.int .i64 t.kind)∧(set4 (W0.drewN (nq+1)) w.heap.size (.int .i64 t.kind) (.int .i64 t.n) (.int .i64 t.pos) (.string t.text)).cell? ⟨ab,off+p*4+1,none⟩=some (.int .i64 t.n)∧(set4 (W0.drewN (nq+1)) w.heap.size (.int .i64 t.kind) (.int .i64 t.n) (.int .i64 t.pos) (.string t.text)).cell? ⟨ab,off+p*4+2,none⟩=some (.int .i64 t.pos)∧(set4 (W0.drewN (nq+1)) w.heap.size (.int .i64 t.kind) (.int .i64 t.n) (.int .i64 t.pos) (.string t.text)).cell? ⟨ab,off+p*4+3,none⟩=some (.string t.text)):=by
    have q:∀g i,g≠w.heap.size→(set4 (W0.drewN (nq+1)) w.heap.size (.int .i64 t.kind) (.int .i64 t.n) (.int .i64 t.pos) (.string t.text)).cell? ⟨g,i,none⟩=W0.cell? ⟨g,i,none⟩:=fun g i hg=>World.cell?_of_block (a:=⟨g,i,none⟩) (set4_ne _ _ _ _ _ _ _ hg);exact⟨(q _ _ hne2).trans c0,(q _ _ hne2).trans c1,(q _ _ hne1).trans d0,(q _ _ hne1).trans d1,(q _ _ hne1).trans d2,(q _ _ hne1).trans d3⟩
   unfold set4 at S1;go_region_held3(fun w'=>w'.cell? ⟨rb,0,none⟩=some (.slice (some ⟨ab,off,none⟩) l.length c)∧w'.cell? ⟨rb,1,none⟩=some (.int .i64 (p:Nat))∧w'.cell? ⟨ab,off+p*4,none⟩=some (.int .i64 t.kind)∧w'.cell? ⟨ab,off+p*4+1,none⟩=some (.int .i64 t.n)∧w'.cell? ⟨ab,off+p*4+2,none⟩=some (.int .i64 t.pos)∧w'.cell? ⟨ab,off+p*4+3,none⟩=some (.string t.text)) (first|with_reducible exact S0.out|with_reducible exact S1.out|fail) (fail);go_wp2_with fail;rw[E.out];exact bodyPost_ret (results_c1 Tryz.results133 _ _ w.heap.size _ _ _ _ rfl (set_four H0.out) Tryz.underlying157 (by kernel_rfl)) rfl ⟨rfl,below_set4 (below_dn HB0.out (nq+1)) (Nat.le_refl _) _ _ _ _⟩
  ·have E:Hid (tokA l (p,b)=noTk):=tokA_none (.inr (by show 0≤b;omega));have g2:decide (b≥0)=true:=decide_eq_true (by omega);go_enter Tryz.func133,Tryz.ntmps133;go_wp2_with fail;rw[←hW0];clear hW0;go_quiet(fail);go_wp2_with fail;rw[E.out];exact bodyPost_ret (results_c1 Tryz.results133 _ _ w.heap.size _ _ _ _ rfl (set_four H0.out) Tryz.underlying157 (by kernel_rfl)) rfl ⟨rfl,below_set4 (below_dn HB0.out _) (Nat.le_refl _) _ _ _ _⟩
 ·have E:Hid (tokA l (p,b)=noTk):=tokA_none (.inl (by show l.length≤p;omega));have g1:decide ((p:Int)≥(l.length:Int))=true:=decide_eq_true (by omega);go_enter Tryz.func133,Tryz.ntmps133;go_wp2_with fail;rw[←hW0];clear hW0;go_quiet(fail);go_wp2_with fail;rw[E.out];exact bodyPost_ret (results_c1 Tryz.results133 _ _ w.heap.size _ _ _ _ rfl (set_four H0.out) Tryz.underlying157 (by kernel_rfl)) rfl ⟨rfl,below_set4 (below_dn HB0.out _) (Nat.le_refl _) _ _ _ _⟩
def RP(B rb:Nat)(A:Option Addr)(c:Nat)(l:List Tk)(r':Rs)(w w':World):Prop:=RX w' B rb A c l r'∧Only rb w w'
theorem RP.of{w w':World}{B rb:Nat}{A:Option Addr}{c:Nat}{l:List Tk}{r:Rs}(h:RX w B rb A c l r)(hb:Below w.heap.size w w'):RP B rb A c l r w w':=⟨h.below hb,Only.of_below hb⟩
set_option maxHeartbeats 4000000 in
theorem is_any6(w:World)(B rb:Nat)(A:Option Addr)(c:Nat)(l:List Tk)(r:Rs)(s:ByteArray)(h:RX w B rb A c l r):
 Calls Tryz.prog 132 #[.pointer (some ⟨rb,0,none⟩),.string s] w fun e w'=>e=.returned (.bool (isA l r s))∧Below w.heap.size w w':=by
 have HC:=Lib.hid (token_any w B rb A c l r h);clear h;unfold isA;generalize tokA l r=t at HC;obtain⟨tk,tn,tp,tx⟩:=t;unfold tkV at HC;dsimp only at HC⊢
 have HB0:Hid (Below w.heap.size w w):=Below.refl _ _;rw[←decide_eq_decide.2 (Iff.of_eq (str_eq tx s))];rcases h4:(tk==4)with _|_<;>rcases h3:(tk==3)with _|_<;>rcases hs:decide (tx.toList=s.toList)with _|_
 all_goals
  go_enter Tryz.func132,Tryz.ntmps132;go_wp2_with(go_at_call 133;refine HC.out.mono ?_;rintro e w1 ⟨rfl,hb⟩;have HB1:=Lib.hid hb;clear hb);go_ret;exact⟨by simp at hs;simp[h4,h3,hs],HB1.out.alloc HB1.out.size _⟩
set_option maxHeartbeats 4000000 in
theorem take_any6(w:World)(B rb:Nat)(A:Option Addr)(c:Nat)(l:List Tk)(r:Rs)(s:ByteArray)(h:RX w B rb A c l r):
 Calls Tryz.prog 98 #[.pointer (some ⟨rb,0,none⟩),.string s] w fun e w'=>e=.returned (.bool (takeA l r s).1)∧RP B rb A c l (takeA l r s).2 w w':=by
 have HC:=Lib.hid (is_any6 w B rb A c l r s h);have HX:=Lib.hid h;clear h;rcases hi:isA l r s with _|_
 ·have E:Hid (takeA l r s=(false,r)):=by unfold Hid takeA;rw[hi];rfl
  rw[hi]at HC;rw[E.out];go_enter Tryz.func98,Tryz.ntmps98;go_wp2_with(go_at_call 132;refine HC.out.mono ?_;rintro e w1 ⟨rfl,hb⟩;have HB1:=Lib.hid hb;clear hb);go_ret;exact⟨rfl,RP.of HX.out HB1.out⟩
 ·have E:Hid (takeA l r s=(true,nxt r)):=by unfold Hid takeA;rw[hi];rfl
  have hlt:=isA_lt hi;rw[hi]at HC;rw[E.out];clear hi;go_enter Tryz.func98,Tryz.ntmps98;go_wp2_with(go_at_call 132;refine HC.out.mono ?_;rintro e w1 ⟨rfl,hb⟩;have HX1:=Lib.hid (HX.out.below hb);have HB1:=Lib.hid hb;clear hb;obtain⟨c0,c1,c2,cf⟩:=HX1.out.cells;have hml:=HX1.out.tok.1);go_ret;exact⟨rfl,HX1.out.next hlt,(Only.of_below HB1.out).trans (HX1.out.only _ _)⟩
set_option maxHeartbeats 4000000 in
theorem letter_any6(w:World)(B rb:Nat)(A:Option Addr)(c:Nat)(l:List Tk)(r:Rs)(q:Int)(h:RX w B rb A c l r):
 Calls Tryz.prog 99 #[.pointer (some ⟨rb,0,none⟩),.int .i64 q] w fun e w'=>e=.returned (.bool (letA l r q))∧Below w.heap.size w w':=by
 have HC:=Lib.hid (token_any w B rb A c l r h);clear h;unfold letA;generalize tokA l r=t at HC;obtain⟨tk,tn,tp,tx⟩:=t;unfold tkV at HC;dsimp only at HC⊢
 rcases h4:(tk==1)with _|_<;>rcases h3:(tn==q)with _|_
 all_goals
  go_enter Tryz.func99,Tryz.ntmps99;go_wp2_with(go_at_call 133;refine HC.out.mono ?_;rintro e w1 ⟨rfl,hb⟩;have HB1:=Lib.hid hb;clear hb);go_ret;exact⟨by simp[h4,h3],HB1.out.alloc HB1.out.size _⟩
end Go.Proofs.YtdcjbhdfphcefaaGreatDoor
namespace Go.Proofs.YtdcjbhdfphcefaaGreatDoor
open Go.RowKit
theorem RX.fail{w:World}{B rb:Nat}{A:Option Addr}{c:Nat}{l:List Tk}{r:Rs}(h:RX w B rb A c l r)(hb:r.2<0):RX (w.setCell ⟨rb,2,none⟩ (.int .i64 (r.1:Nat))) B rb A c l (failA r):=by
 have k:∀g,g≠rb→(w.setCell ⟨rb,2,none⟩ (.int .i64 (r.1:Nat))).heap[g]? =w.heap[g]? :=fun g hg=>Below.heap_setCell _ _ _ g hg;have e:failA r=(r.1,(r.1:Int)):=by unfold failA;rw[if_pos hb]
 have hp:=h.pos;rw[e];refine⟨h.ge,?_,h.tok.keep (fun p hp=>World.cell?_of_block (k p.block (by have:=h.ge;omega))) (Nat.le_refl _),hp,?_⟩
 ·have:=heap_set (i:=2) (u:=.int .i64 (r.1:Nat)) h.blk;simpa using this
 ·dsimp only;omega
set_option maxHeartbeats 4000000 in
theorem fail_any(w:World)(B rb:Nat)(A:Option Addr)(c:Nat)(l:List Tk)(r:Rs)(h:RX w B rb A c l r):
 Calls Tryz.prog 135 #[.pointer (some ⟨rb,0,none⟩)] w fun e w'=>e=.returned (.tuple #[])∧RP B rb A c l (failA r) w w':=by
 have HX:=Lib.hid h;obtain⟨c0,c1,c2,cf⟩:=h.cells;clear h;by_cases hb:r.2<0
 ·have g1:decide (r.2<0)=true:=decide_eq_true hb;go_enter Tryz.func135,Tryz.ntmps135;go_wp2_with fail;exact bodyPost_end (results_none Tryz.results135 _ _ _) rfl ⟨rfl,HX.out.fail hb,HX.out.only _ _⟩
 ·have g1:decide (r.2<0)=false:=decide_eq_false hb;have e:failA r=r:=by unfold failA;rw[if_neg hb]
  rw[e];go_enter Tryz.func135,Tryz.ntmps135;go_wp2_with fail;exact bodyPost_end (results_none Tryz.results135 _ _ _) rfl ⟨rfl,RP.of HX.out (Below.refl _ _)⟩
set_option maxHeartbeats 4000000 in
theorem count_any6(w:World)(B rb:Nat)(A:Option Addr)(c:Nat)(l:List Tk)(r:Rs)(most:Int)(h:RX w B rb A c l r):
 Calls Tryz.prog 100 #[.pointer (some ⟨rb,0,none⟩),.int .i64 most] w fun e w'=>e=.returned (.int .i64 (cntA l most r).1)∧RP B rb A c l (cntA l most r).2 w w':=by
 have HC:=Lib.hid (token_any w B rb A c l r h);have HX:=Lib.hid h;have HLT:Hid ((tokA l r).kind≠0→r.1<l.length):=tokA_lt;clear h;unfold cntA;generalize tokA l r=t at HC HLT;obtain⟨tk,tn,tp,tx⟩:=t;unfold tkV at HC;dsimp only at HC HLT⊢
 have HW:=fun w=>Lib.hid (whole_ref tn w);generalize wholeS tn=q at HW;obtain⟨qn,qk⟩:=q;dsimp only at HW⊢
 by_cases hgo:tk=2∧qk=true∧1≤qn∧qn≤most
 ·obtain⟨rfl,rfl,h1,h2⟩:=hgo;rw[if_neg (by simp;omega)];have hlt:=HLT.out (by omega);have g1:decide (qn<1)=false:=decide_eq_false (by omega);have g2:decide (qn>most)=false:=decide_eq_false (by omega);go_enter Tryz.func100,Tryz.ntmps100;go_wp2_with(first|(go_at_call 133;refine HC.out.mono ?_;rintro e w1 ⟨rfl,hb⟩;have HB1:=Lib.hid (hb.alloc hb.size (.cells #[.int .i64 2,.int .i64 tn,.int .i64 tp,.string tx] 157));clear hb;have HX1:=Lib.hid (HX.out.below HB1.out);obtain⟨c0,c1,c2,cf⟩:=HX1.out.cells;have hml:=HX1.out.tok.1)|(go_at_call 134;refine(HW _).out.mono ?_;rintro e w2 ⟨rfl,rfl⟩));go_ret;exact⟨rfl,HX1.out.next hlt,(Only.of_below HB1.out).trans (HX1.out.only _ _)⟩
 ·rw[if_pos (by rcases Classical.em (tk=2)with a|a;·{rcases qk with _|_;·{exact .inr (.inl rfl)};·{have:¬(1≤qn∧qn≤most):=fun h=>hgo ⟨a,rfl,h⟩;omega}};·{exact .inl a})];dsimp only;have HNG:Hid (¬(tk=2∧qk=true∧1≤qn∧qn≤most)):=hgo;clear hgo;by_cases ha:tk=2
  ·subst ha;rcases qk with _|_
   ·go_enter Tryz.func100,Tryz.ntmps100;go_wp2_with(first|(go_at_call 133;refine HC.out.mono ?_;rintro e w1 ⟨rfl,hb⟩;have HB1:=Lib.hid (hb.alloc hb.size (.cells #[.int .i64 2,.int .i64 tn,.int .i64 tp,.string tx] 157));clear hb;have HX1:=Lib.hid (HX.out.below HB1.out))|(go_at_call 134;refine(HW _).out.mono ?_;rintro e w2 ⟨rfl,rfl⟩)|(go_at_call 135;refine(fail_any _ _ _ _ _ _ _ HX1.out).mono ?_;rintro e w3 ⟨rfl,hrp⟩;have HRP:=Lib.hid hrp;clear hrp));go_ret;exact⟨rfl,HRP.out.1,(Only.of_below HB1.out).trans HRP.out.2⟩
   ·by_cases hb1:qn<1
    ·have g1:decide (qn<1)=true:=decide_eq_true hb1;go_enter Tryz.func100,Tryz.ntmps100;go_wp2_with(first|(go_at_call 133;refine HC.out.mono ?_;rintro e w1 ⟨rfl,hb⟩;have HB1:=Lib.hid (hb.alloc hb.size (.cells #[.int .i64 2,.int .i64 tn,.int .i64 tp,.string tx] 157));clear hb;have HX1:=Lib.hid (HX.out.below HB1.out))|(go_at_call 134;refine(HW _).out.mono ?_;rintro e w2 ⟨rfl,rfl⟩)|(go_at_call 135;refine(fail_any _ _ _ _ _ _ _ HX1.out).mono ?_;rintro e w3 ⟨rfl,hrp⟩;have HRP:=Lib.hid hrp;clear hrp));go_ret;exact⟨rfl,HRP.out.1,(Only.of_below HB1.out).trans HRP.out.2⟩
    ·have g1:decide (qn<1)=false:=decide_eq_false hb1;have hm:most<qn:=by
      have h:=HNG.out;rcases Int.lt_or_le most qn with q|q
      ·exact q
      ·exact absurd ⟨rfl,rfl,by omega,q⟩ h
     have g2:decide (qn>most)=true:=decide_eq_true hm;go_enter Tryz.func100,Tryz.ntmps100;go_wp2_with(first|(go_at_call 133;refine HC.out.mono ?_;rintro e w1 ⟨rfl,hb⟩;have HB1:=Lib.hid (hb.alloc hb.size (.cells #[.int .i64 2,.int .i64 tn,.int .i64 tp,.string tx] 157));clear hb;have HX1:=Lib.hid (HX.out.below HB1.out))|(go_at_call 134;refine(HW _).out.mono ?_;rintro e w2 ⟨rfl,rfl⟩)|(go_at_call 135;refine(fail_any _ _ _ _ _ _ _ HX1.out).mono ?_;rintro e w3 ⟨rfl,hrp⟩;have HRP:=Lib.hid hrp;clear hrp));go_ret;exact⟨rfl,HRP.out.1,(Only.of_below HB1.out).trans HRP.out.2⟩
  ·have ha1:(tk==2)=false:=by simpa using ha
   have ha2:(tk !=2)=true:=by simpa using ha
   go_enter Tryz.func100,Tryz.ntmps100;go_wp2_with(first|(go_at_call 133;refine HC.out.mono ?_;rintro e w1 ⟨rfl,hb⟩;have HB1:=Lib.hid (hb.alloc hb.size (.cells #[.int .i64 tk,.int .i64 tn,.int .i64 tp,.string tx] 157));clear hb;have HX1:=Lib.hid (HX.out.below HB1.out))|(go_at_call 134;refine(HW _).out.mono ?_;rintro e w2 ⟨rfl,rfl⟩)|(go_at_call 135;refine(fail_any _ _ _ _ _ _ _ HX1.out).mono ?_;rintro e w3 ⟨rfl,hrp⟩;have HRP:=Lib.hid hrp;clear hrp));go_ret;exact⟨rfl,HRP.out.1,(Only.of_below HB1.out).trans HRP.out.2⟩
end Go.Proofs.YtdcjbhdfphcefaaGreatDoor
