/- The contract. -/
import Derived.Test.YtdcjbhdfphcefaaGreatDoorTn
import Derived.Test.YtdcjbhdfphcefaaGreatDoorCd
import Derived.Test.YtdcjbhdfphcefaaGreatDoorTz
import Derived.Test.YtdcjbhdfphcefaaGreatDoorDp
import Derived.Test.YtdcjbhdfphcefaaGreatDoorEn
namespace Go.Proofs.YtdcjbhdfphcefaaGreatDoor
set_option linter.all false
set_option maxRecDepth 100000
set_option maxHeartbeats 16000000
open Go.Proofs.Tryz
open Go.RowKit
theorem dJ{w:World}{B rb:Nat}{A:OA}{c:Nat}{l:List Tk}{r:Rs}{q:Int}{v:Bool}(hs:zgB l r q=v)(h:RX w B rb A c l r):
 Calls prog 99 #[.pointer (some ⟨rb,0,none⟩),.int .i64 q] w λe w'=>e=.returned (.bool v)/\Bw w w':=by
 have q:=qcN w B rb A c l r q h;rw[hs]at q;exact q
theorem RX.put{w:World}{B rb:Nat}{A:OA}{c:Nat}{l:List Tk}{r:Rs}(h:RX w B rb A c l r){g:Nat}(hg:g≠rb)(hB:B<=g)(i:Nat)(v:Value):RX (w.setCell ⟨g,i,none⟩ v) B rb A c l r:=by
 have k:∀q,q≠g->(w.setCell ⟨g,i,none⟩ v).heap[q]? =w.heap[q]? :=λq hq=>Bj _ _ _ q hq;exact⟨h.ge,(k _ (λe=>hg e.symm)).trans h.blk,h.tok.keep (λp hp=>Wb (k p.block (by omega))) (Le _),h.pos,h.bad⟩
theorem qD(a b c d:Value)(W:World):(Instr.field 157 (.agg #[a,b,c,d]) 0).run prog W=.ok a W:=by
 simp[Instr.field,run_underlying underlying157,asAgg,part,go_sem]
theorem wG(a b c d:Value)(W:World):(Instr.field 157 (.agg #[a,b,c,d]) 1).run prog W=.ok b W:=by
 simp[Instr.field,run_underlying underlying157,asAgg,part,go_sem]
def zdW(sk:Bool)(lb:Int):Array Value:=⟨[.int .i64 0,.int .i64 lb,.bool sk,.slice none 0 0,.int .i64 0,.int .i64 0,.slice none 0 0,.int .i64 0,.int .i64 0,.slice none 0 0,.int .i64 0]⟩
def zkQ(B rb bb:Nat)(A:OA)(c:Nat)(l:List Tk)(b:Bk)(r2:Rs)(w:World)(e:Ending)(w':World):Prop:=
 e=.returned (.tuple #[])/\RX w' B rb A c l r2/\Chg (λg=>g=rb\/g=bb) w w'/\∃(A:OA) (n c:Nat) (l0 l1 l2 x0 x1 x2:Value),w'.heap[bb]? =some (.cells ⟨zaW b A n c l0 l1 l2 x0 x1 x2⟩ 54 (0,0))/\Bz w' (λg=>w.heap.size<=g) b A n l0 l1 l2 x0 x1 x2
theorem eY{rb bb:Nat}{w w':World}(h:zaZ rb w w'):Chg (λg=>g=rb\/g=bb) w w':=⟨h.1,h.2.1,h.2.2.1,h.2.2.2.1,λg hg hz=>h.2.2.2.2 g hg λe=>hz (.inl e)⟩
theorem mW(w:World)(I:Nat->Prop):Wz w I none 0 []:=⟨rfl,Lq _,λx h=>by simp at h,.inl ⟨rfl,rfl⟩⟩
theorem qbT{fn:Func}{p u v:Tmp}{ty:TypeId}(h:fn.results= #[.cell p ty,.tmp u,.tmp v])(tmps:Array Value)(w:World)(g:Nat)(t:TypeId)(cs:Array Value)(fr:Nat×Nat)(fs:Array Field)
 (hp:tmps.getD p undef=.pointer (some ⟨g,0,none⟩)) (hg:w.heap[g]? =some (.cells cs t fr))
 (hu:prog.underlying ty=some (.struct fs)) (hi:(prog.info? ty).map (·.size)=some cs.size):
 (results fn tmps).run prog w=.ok (.tuple #[.agg cs,tmps.getD u undef,tmps.getD v undef]) w:=by
 have hp':tmps[p]?.getD undef=.pointer (some ⟨g,0,none⟩):=by simpa using hp
 simp[results,h,hp',asAddr,run_loadVar_row w g t ty cs fr (.struct fs) hg hu rfl hi]
def zgI(w:World)(g:Nat)(v0 v1 v2 v3 v4 v5 v6 v7 v8 v9 v10:Value):World:=(((((((((((w.setCell ⟨g,0,none⟩ v0).setCell ⟨g,1,none⟩ v1).setCell ⟨g,2,none⟩ v2).setCell ⟨g,3,none⟩ v3).setCell ⟨g,4,none⟩ v4).setCell ⟨g,5,none⟩ v5).setCell ⟨g,6,none⟩ v6).setCell ⟨g,7,none⟩ v7).setCell ⟨g,8,none⟩ v8).setCell ⟨g,9,none⟩ v9).setCell ⟨g,10,none⟩ v10)
theorem gW(w:World)(g q:Nat)(v0 v1 v2 v3 v4 v5 v6 v7 v8 v9 v10:Value)(h:q≠g):(zgI w g v0 v1 v2 v3 v4 v5 v6 v7 v8 v9 v10).heap[q]? =w.heap[q]? :=by
 unfold zgI
 repeat rw[Bj _ _ _ q h]
theorem fO(w:World)(g:Nat)(v0 v1 v2 v3 v4 v5 v6 v7 v8 v9 v10:Value):(zgI w g v0 v1 v2 v3 v4 v5 v6 v7 v8 v9 v10).heap.size=w.heap.size:=by
 have q:∀(w:World) (p:Addr) (v:Value),(w.setCell p v).heap.size=w.heap.size:=λw p v=>by simp[World.setCell]
 unfold zgI;simp only[q]
theorem gF{B:Nat}{w w':World}(h:Below B w w'){g:Nat}(hg:B<=g)(v0 v1 v2 v3 v4 v5 v6 v7 v8 v9 v10:Value):Below B w (zgI w' g v0 v1 v2 v3 v4 v5 v6 v7 v8 v9 v10):=by
 exact(((((((((((h.setCell (p:=⟨g,0,none⟩) hg v0).setCell (p:=⟨g,1,none⟩) hg v1).setCell (p:=⟨g,2,none⟩) hg v2).setCell (p:=⟨g,3,none⟩) hg v3).setCell (p:=⟨g,4,none⟩) hg v4).setCell (p:=⟨g,5,none⟩) hg v5).setCell (p:=⟨g,6,none⟩) hg v6).setCell (p:=⟨g,7,none⟩) hg v7).setCell (p:=⟨g,8,none⟩) hg v8).setCell (p:=⟨g,9,none⟩) hg v9).setCell (p:=⟨g,10,none⟩) hg v10)
theorem jA{w:World}{g:Nat}{T:TypeId}{u0 u1 u2 u3 u4 u5 u6 u7 u8 u9 u10 v0 v1 v2 v3 v4 v5 v6 v7 v8 v9 v10:Value}(h:w.heap[g]? =some (.cells ⟨[u0,u1,u2,u3,u4,u5,u6,u7,u8,u9,u10]⟩ T (0,0))):(zgI w g v0 v1 v2 v3 v4 v5 v6 v7 v8 v9 v10).heap[g]? =some (.cells ⟨[v0,v1,v2,v3,v4,v5,v6,v7,v8,v9,v10]⟩ T (0,0)):=by
 have h0:=aD (i:=0) (u:=v0) h;have h1:=aD (i:=1) (u:=v1) h0;have h2:=aD (i:=2) (u:=v2) h1;have h3:=aD (i:=3) (u:=v3) h2;have h4:=aD (i:=4) (u:=v4) h3;have h5:=aD (i:=5) (u:=v5) h4;have h6:=aD (i:=6) (u:=v6) h5;have h7:=aD (i:=7) (u:=v7) h6;have h8:=aD (i:=8) (u:=v8) h7;have h9:=aD (i:=9) (u:=v9) h8;have h10:=aD (i:=10) (u:=v10) h9;simpa[zgI]using h10
def zkO(Q:Bk->Int->Prop)(w:World)(e:Ending)(w':World):Prop:=
 ∃(b:Bk) (n er:Int) (A:OA) (k c:Nat) (l0 l1 l2 x0 x1 x2:Value),Q b er/\e=.returned (.tuple #[.agg #[.int .i64 b.kind,.int .i64 b.label,.bool b.skip,.slice A k c,l0,l1,l2,x0,x1,x2,.int .i64 b.n],.int .i64 n,.int .i64 er])/\Bz w' (λg=>w.heap.size<=g) b A k l0 l1 l2 x0 x1 x2/\Bw w w'
def zjG(P:List Bk->Int->Prop)(w:World)(e:Ending)(w':World):Prop:=
 ∃(bl:List Bk) (C:OA) (cp:Nat) (base:Nat) (xs:LV) (n er:Int),P bl er/\bl.length<=2000/\e=.returned (.tuple #[.slice C bl.length cp,.int .i64 n,.int .i64 er])/\BkS w' base (λ_=>True) C cp bl xs/\Bw w w'
def PaQ(s:ByteArray)(Q:Nat->Bk->Int->Prop)(bl:List Bk)(er:Int):Prop:=
 (bl.length=(zcF s).length/\er=0/\∀i b,bl[i]? =some b->Q i b 0)\/(er≠0/\(65536<s.size\/2000<(zcF s).length\/∃(i:Nat) (b:Bk) (er:Int),i<(zcF s).length/\er≠0/\Q i b er))
theorem qbS{fn:Func}{t u v:Tmp}(h:fn.results= #[.tmp t,.tmp u,.tmp v])(tmps:Array Value)(P:Program)(w:World):
 (results fn tmps).run P w=.ok (.tuple #[tmps.getD t undef,tmps.getD u undef,tmps.getD v undef]) w:=by simp[results,h]
theorem Bz.sizes{w:World}{I:Nat->Prop}{b:Bk}{A:OA}{k:Nat}{l0 l1 l2 x0 x1 x2:Value}(h:Bz w I b A k l0 l1 l2 x0 x1 x2):(∃lo ln lA lk lc,l0=.int .i64 lo/\l1=.int .i64 ln/\l2=.slice lA lk lc)/\∃lo ln lA lk lc,x0=.int .i64 lo/\x1=.int .i64 ln/\x2=.slice lA lk lc:=by
 obtain⟨a,b,c,d,e,h1,h2,h3⟩:=h.left.form;obtain⟨a',b',c',d',e',h4,h5,h6⟩:=h.x.form;exact⟨⟨a,b,c,d,e,h1,h2,h3⟩,a',b',c',d',e',h4,h5,h6⟩
theorem quG{W1 wr w2 W3 w9:World}{bl:List Bk}{b:Bk}{C:OA}{cp k g9 c9:Nat}{xs:LV}{o:Obj}{A2:OA}{k2 c2:Nat}{l0 l1 l2 x0 x1 x2:Value}(h:BkS wr W1.heap.size (λ_=>True) C cp bl xs)(h2:Bw wr w2)(h3:Bw w2 W3)
 (hz:Bz w2 (λg=>wr.heap.size<=g) b A2 k2 l0 l1 l2 x0 x1 x2) (htk:bl.length=k) (ho:w9.ownsRow W1.heap.size 54 11 (.slice (some ⟨g9,0,none⟩) (k+1) c9) (k+1) (xs++zaW b A2 k2 c2 l0 l1 l2 x0 x1 x2)) (hg:(W3.alloc o).grownBy w9 (Value.slice C k cp).ownBlock) (hl:(Value.slice C k cp).ownBlock=some g9\/g9=(W3.alloc o).heap.size) (hb:Bw W1 wr):
 BkS w9 W1.heap.size (λ_=>True) (some ⟨g9,0,none⟩) c9 (bl++[b]) (xs++zaW b A2 k2 c2 l0 l1 l2 x0 x1 x2)/\Bw W1 w9:=by
 have hs2:=h2.size;have hs3:=h3.size;have hb4:Bw W3 (W3.alloc o):=nB _ _;have hs4:=hb4.size;have hgs:=hg.size;have hbs:=hb.size;refine⟨h.push hs2 (λq hq _=>h2.block q hq) hz (λ_ _=>trivial) (by omega) (λq hq=>(hb4.block q (by omega)).trans (h3.block q hq)) (by rw[htk];exact ho) (by rw[htk];exact hg) (by rw[htk];exact hl),?_⟩;have kk:∀q,q<W1.heap.size->(Value.slice C k cp).ownBlock≠some q:=λq hq e=>by
  have q2:=h.own;rw[htk]at q2;have:=(aI q2 e).1;omega
 exact⟨hg.os.trans (hb4.os.trans (h3.os.trans (h2.os.trans hb.os))),hg.tape.trans (hb4.tape.trans (h3.tape.trans (h2.tape.trans hb.tape))),hg.output.trans (hb4.output.trans (h3.output.trans (h2.output.trans hb.output))),by omega,λq hq=>(hg.block q (by omega) (λe=>kk q hq e.symm)).trans ((hb4.block q (by omega)).trans ((h3.block q (by omega)).trans ((h2.block q (by omega)).trans (hb.block q hq))))⟩
theorem zjP(s:ByteArray)(Q:Nat->Bk->Int->Prop)(hL:s.size<=65536->∀(i:Nat) (x:ByteArray),(zcF s)[i]? =some x->∀w,Calls prog 67 #[.string x] w (zkO (Q i) w))(w:World):
 Calls prog 40 #[.string s] w (zjG (PaQ s Q) w):=by
 obtain⟨iB,zB,hiB,hB0,hB1,hB2,hBs⟩:=eG;have HIB:=Hd hiB;have HZB:=Hd hB0;clear hiB hB0;by_cases hs:s.size<=65536
 case neg=>
  have g0:decide ((s.size:Int)>65536)=true:=Dt (by omega);have HP:Hid (PaQ s Q [] 10):=.inr ⟨by decide,.inl (by omega)⟩;go_enter func40,ntmps40;go_wp2_with fail;exact bodyPost_ret (qbS results40 _ _ _) rfl ⟨[],none,0,0,[],_,_,HP.o,by simp,rfl,BkS.nil _ _ _,Bf _ _⟩
 have HL:=Hd (hL hs);clear hL;have HLN:=Hd (qkB s (by omega) w);have g0:decide ((s.size:Int)>65536)=false:=Df (by omega);by_cases hn2:(zcF s).length<=2000
 case neg=>
  have HP:Hid (PaQ s Q [] 10):=.inr ⟨by decide,.inr (.inl (by omega))⟩;go_enter func40,ntmps40;go_wp2_with(go_at_call 66;(refine HLN.o.mono ?_);rintro e W1 ⟨O,cO,rfl,hLS⟩;have HLS:=Hd hLS;have g1:decide ((((zcF s).length:Nat):Int)>2000)=true:=Dt (by omega);clear hLS);exact bodyPost_ret (qbS results40 _ _ _) rfl ⟨[],none,0,0,[],_,_,HP.o,by simp,rfl,BkS.nil _ _ _,HLS.o.bel⟩
 have HQ1:Hid (∀bl:List Bk,bl.length=(zcF s).length->(∀i b,bl[i]? =some b->Q i b 0)->PaQ s Q bl 0):=λbl h1 h2=>.inl ⟨h1,rfl,h2⟩;have HQ2:Hid (∀(i:Nat) (b:Bk) (er:Int),i<(zcF s).length->er≠0->Q i b er->PaQ s Q [] er):=λi b er h1 h2 h3=>.inr ⟨h2,.inr (.inr ⟨i,b,er,h1,h2,h3⟩)⟩;generalize PaQ s Q=PQ at HQ1 HQ2⊢
 go_enter func40,ntmps40;go_wp2_with(go_at_call 66;(refine HLN.o.mono ?_);rintro e W1 ⟨O,cO,rfl,hLS⟩;have HLS:=Hd hLS;have g1:decide ((((zcF s).length:Nat):Int)>2000)=false:=Df (by omega);clear hLS);have hw1:=HLS.o.bel.size;go_loopw[6,7] (λo i W=>∃(bl:List Bk) (C:OA) (cp:Nat) (xs:LV),bl.length<=(zcF s).length/\o=.slice C bl.length cp/\i=.int .i64 (bl.length:Int)/\BkS W W1.heap.size (λ_=>True) C cp bl xs/\Bw W1 W/\∀i b,bl[i]? =some b->Q i b 0) (λ_ i _=>(zcF s).length-(intOf i).toNat)
 case atStart=>exact⟨[],none,0,[],by simp,rfl,rfl,BkS.nil _ _ _,Bf _ _,by simp⟩
 case round=>
  obtain⟨bl,C,cp,xs,hk,rfl,rfl,hB,hbw,hq⟩:=hrel;have HB:=Hd hB;have HBW:=Hd hbw;have HBQ:=Hd hq;have hbs:=hbw.size;clear hB hbw hq;obtain⟨k,htk⟩:∃k,bl.length=k:=⟨_,rfl⟩;have HTK:=Hd htk;have HOW:Hid (wr.ownsRow W1.heap.size 54 11 (.slice C k cp) k xs):=by have q:=HB.o.own;rw[htk]at q;exact q
  rw[htk]at hk;rw[htk];by_cases hlt:k<(zcF s).length
  ·obtain⟨x,hx⟩:∃x,(zcF s)[k]? =some x:=⟨_,Gg (by omega)⟩;have HLC:=Hd (HL.o k x hx wr);obtain⟨gO,hgO,q1,q2,q3,q4,_⟩:=dQ HLS.o.own (by omega);subst hgO;have c0:wr.cell? ⟨gO,k,none⟩=some (.string x):=by
    refine(HBW.o.cel gO k q2).trans ?_;rw[HLS.o.own.cellAt k (by omega),Gm,hx];rfl
   have i0:(0:Int)<=(k:Int):=by omega
   have i1:(k:Int)<((zcF s).length:Int):=by omega
   clear hx htk;go_wp2_with fail;refine HLC.o.mono ?_;rintro e w2 ⟨b,n2,er,A2,k2,c2,l0,l1,l2,x0,x1,x2,hQ,rfl,hz,hb2⟩;have HZ:=Hd hz;obtain⟨⟨lo,ln,lA,lk,lc,rfl,rfl,rfl⟩,xo,xn,xA,xk,xc,rfl,rfl,rfl⟩:=hz.sizes;have HB2:=Hd hb2;have HQQ:=Hd hQ;clear hz hb2 hQ;by_cases her:er=0
   ·subst her;go_wp2_with(at_builtin;(obtain⟨W3,hW3⟩:∃W3,W3=(w2.alloc (.cells #[.int .i64 b.kind,.int .i64 b.label,.bool b.skip,.slice A2 k2 c2,.int .i64 lo,.int .i64 ln,.slice lA lk lc,.int .i64 xo,.int .i64 xn,.slice xA xk xc,.int .i64 b.n] 54)):=⟨_,rfl⟩);rw[<-hW3];have HB3:Hid (Bw w2 W3):=(by{unfold Hid;rw[hW3];exact nB _ _});have hs3e:W3.heap.size=w2.heap.size+1:=(by rw[hW3];simp);have HNB:Hid ((W3.alloc (.cells #[.int .i64 b.kind,.int .i64 b.label,.bool b.skip,.slice A2 k2 c2,.int .i64 lo,.int .i64 ln,.slice lA lk lc,.int .i64 xo,.int .i64 xn,.slice xA xk xc,.int .i64 b.n] 54)).heap[w2.heap.size+1]? =some (.cells #[.int .i64 b.kind,.int .i64 b.label,.bool b.skip,.slice A2 k2 c2,.int .i64 lo,.int .i64 ln,.slice lA lk lc,.int .i64 xo,.int .i64 xn,.slice xA xk xc,.int .i64 b.n] 54 (0,0))):=(by{unfold Hid;rw[<-hs3e];exact Hn W3 _});clear hW3;have hs2:=HB2.o.size;have hs3:=HB3.o.size;have HOW3:Hid (W3.ownsRow W1.heap.size 54 11 (.slice C k cp) k xs):=aC HOW.o (λg hg _=>(HB3.o.block g (by omega)).trans (HB2.o.block g hg));refine wpList_append_lies _ rfl (.tmp 38) (.tmp 40) 29 rfl W1.heap.size 54 iB zB 11 136 underlying29 HIB.o HZB.o hB1 hB2 hBs (by omega) (.slice C k cp) k xs rfl (HOW3.o.alloc _) ⟨w2.heap.size+1,0,none⟩ 1 1 [.int .i64 b.kind,.int .i64 b.label,.bool b.skip,.slice A2 k2 c2,.int .i64 lo,.int .i64 ln,.slice lA lk lc,.int .i64 xo,.int .i64 xn,.slice xA xk xc,.int .i64 b.n] rfl rfl (Nk HNB.o) (by intro u hu;simp only[List.mem_cons,List.not_mem_nil,or_false]at hu;rcases hu with rfl|rfl|rfl|rfl|rfl|rfl|rfl|rfl|rfl|rfl|rfl<;>rfl) (by omega) (by unfold maxLen;omega) (by omega) (by simp;omega) _ rfl ?_;intro g9 c9 w9 ho9 hg9 hl9 hlt9;have HNX:=Hd (quG HB.o HB2.o HB3.o HZ.o HTK.o ho9 hg9 hl9 HBW.o);clear ho9 hg9 hl9 hlt9);have hlen:(bl++[b]).length=k+1:=by rw[La,HTK.o];rfl
    refine⟨⟨bl++[b],some ⟨g9,0,none⟩,c9,_,by omega,by rw[hlen],by rw[hlen];go_num,HNX.o.1,HNX.o.2,λi b' hb'=> ?_⟩,by simp only[intOf];omega⟩;by_cases hi:i<k
    ·rw[Gc (by rw[HTK.o];exact hi)]at hb';exact HBQ.o i b' hb'
    ·have hi2:=(Gu.1 hb').1;rw[hlen]at hi2;obtain rfl:i=k:=by omega
     rw[Ga (by rw[HTK.o];exact Le _),HTK.o,Nat.sub_self]at hb';cases hb';exact HQQ.o
   ·have g2:(er !=0)=true:=bne_iff_ne.2 her;have HP:=Hd (HQ2.o k b er hlt her HQQ.o);clear her;go_wp2_with fail;exact bodyPost_ret (qbS results40 _ _ _) rfl ⟨[],none,0,0,[],_,_,HP.o,by simp,rfl,BkS.nil _ _ _,(HLS.o.bel.trans ((HBW.o.trans (HB2.o.mono hbs)).mono hw1)).alloc (by have:=HB2.o.size;omega) _⟩
  ·have hke:k=(zcF s).length:=by omega
   subst hke;have HP:=Hd (HQ1.o bl HTK.o HBQ.o);clear htk;go_wp2_with fail;exact bodyPost_ret (qbS results40 _ _ _) rfl ⟨bl,C,cp,W1.heap.size,xs,_,_,HP.o,by rw[HTK.o];exact hn2,by rw[HTK.o];rfl,HB.o,HLS.o.bel.trans (HBW.o.mono hw1)⟩
