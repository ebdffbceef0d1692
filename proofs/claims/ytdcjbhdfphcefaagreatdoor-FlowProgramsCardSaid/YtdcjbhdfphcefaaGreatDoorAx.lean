/- The contract. -/
import Derived.Test.YtdcjbhdfphcefaaGreatDoorBu
import Derived.Test.YtdcjbhdfphcefaaGreatDoorYl
import Derived.Test.YtdcjbhdfphcefaaGreatDoorNm
import Derived.Test.YtdcjbhdfphcefaaGreatDoorNw
namespace Go.Proofs.YtdcjbhdfphcefaaGreatDoor
set_option linter.all false
set_option maxRecDepth 100000
set_option maxHeartbeats 16000000
open Go.Proofs.Tryz
open Go.RowKit
theorem rO{W:World}{n:Nat}{a0 a1 a2:OA}{k0 k1 k2 d0 d1 d2:Nat}{T:TypeId}(h:W.heap[n]? =some (.cells #[.slice a0 k0 d0,.slice a1 k1 d1,.slice a2 k2 d2] T (0,0)))(o:Nat)(k:IntKind)(z:Int):W.cell? ⟨n,o,none⟩≠some (.int k z):=by
 intro e;simp[World.cell?,h]at e;rcases o with _|_|_|o<;>simp at e
theorem LzB.put3{W:World}{I:Nat->Prop}{L:Lb}{A1 A2 A3:OA}{n:Nat}{a0 a1 a2:OA}{k0 k1 k2 d0 d1 d2:Nat}{T:TypeId}(h:LzB W I L A1 A2 A3)(hI:∀g,I g->g≠n)(hb:W.heap[n]? =some (.cells #[.slice a0 k0 d0,.slice a1 k1 d1,.slice a2 k2 d2] T (0,0)))(x y z:Value):LzB (set3 W n 0 x y z) I L A1 A2 A3:=by
 have hs:=bJ W n 0 x y z;have hk:∀g,g≠n->(set3 W n 0 x y z).heap[g]? =W.heap[g]? :=λg hg=>aL _ _ _ _ _ _ _ hg;refine⟨Lz.keep (Nat.le_of_eq hs.symm) (λ_ _ h=>h) (λg _ hg=>hk g (hI g hg)) h.bl,?_,h.prA,?_,h.mtA,h.slim,h.fine,h.prN⟩
 ·obtain⟨h1,h2,h3,h4⟩:=h.pr;refine⟨h1,h2,h3,λhp=> ?_⟩;obtain⟨ab,off,e,hab,hc⟩:=h4 hp;have hne:ab≠n:=by
   rintro rfl;obtain⟨p,hp2⟩:∃p,L.pr[0]? =some p:=⟨_,Gg hp⟩;exact rO hb _ _ _ (hc 0 p hp2).1
  exact⟨ab,off,e,by omega,λi p hp2=>⟨(aB (hk ab hne)).trans (hc i p hp2).1,(aB (hk ab hne)).trans (hc i p hp2).2.1,(aB (hk ab hne)).trans (hc i p hp2).2.2⟩⟩
 ·obtain⟨h1,h2,h3,h4⟩:=h.mt;refine⟨h1,h2,h3,λhp=> ?_⟩;obtain⟨ab,off,e,hab,hc⟩:=h4 hp;have hne:ab≠n:=by
   rintro rfl;obtain⟨p,hp2⟩:∃p,L.mt[0]? =some p:=⟨_,Gg hp⟩;exact rO hb _ _ _ (hc 0 p hp2)
  exact⟨ab,off,e,by omega,λi p hp2=>(aB (hk ab hne)).trans (hc i p hp2)⟩
def zeX(L:Lb)(w:World)(e:Ending)(w':World):Prop:=
 ∃(A1 A2 A3:OA) (c1 c2 c3:Nat),e=.returned (.agg #[.slice A1 L.bl.length c1,.slice A2 L.pr.length c2,.slice A3 L.mt.length c3])/\LzB w' (λg=>w.heap.size<g) L A1 A2 A3/\Bw w w'
theorem iJ(w:World)(B:Nat)(A:OA)(c:Nat)(bs:List Bk)(h:RdL w B A bs.length bs)(hB:B<=w.heap.size):Calls prog 15 #[.slice A bs.length c] w (zeX (zbN bs).1 w):=by
 obtain⟨W0,hW0,HB0,H0⟩:=newWH w #[.slice none 0 0,.slice none 0 0,.slice none 0 0] 32;have hs0:=hlS H0.o;have HBU:=Hd (qlH W0 B A c bs (h.keep (λp hp=>HB0.o.cell (by omega)) (Le _)) (Ly hB HB0.o.size));have HE:Hid (∃L x y,zbN bs=(L,x,y)):=⟨_,_,_,rfl⟩;obtain⟨L,ex,ey,hE⟩:=HE.o;unfold ziI at HBU;rw[hE]at HBU⊢
 dsimp only at HBU⊢
 clear h HE hE;go_enter func15,ntmps15;go_wp2_with(rw[<-hW0];clear hW0;go_at_call 35;(refine HBU.o.mono ?_);rintro e w1 ⟨A1,A2,A3,c1,c2,c3,rfl,hz,hb⟩;have HZ:=Hd hz;have HB1:=Hd hb;have hs1:=hb.size;have q0:w1.heap[w.heap.size]? =some (.cells #[.slice none 0 0,.slice none 0 0,.slice none 0 0] 32 (0,0)):=(hb.block _ hs0).trans H0.o;have HQ:=Hd q0;have n0:=Ro w1 _ 0 _ _ _ q0;have n1:=Ro w1 _ 1 _ _ _ q0;have n2:=Ro w1 _ 2 _ _ _ q0;have nf:∀i,w1.frozen? ⟨w.heap.size,i,none⟩=false:=(λi=>by simp[World.frozen?,q0]);have hlt1:w.heap.size<w1.heap.size:=(by omega);have hne:¬w1.heap.size=w.heap.size:=(by omega);clear hz hb q0);have hsz3:w.heap.size<(set3 w1 w.heap.size 0 (.slice A1 L.bl.length c1) (.slice A2 L.pr.length c2) (.slice A3 L.mt.length c3)).heap.size:=by rw[bJ];exact hlt1
 refine bodyPost_ret (aN results15 _ _ w.heap.size _ _ _ _ rfl ((Bm _ _ _ hsz3).trans (cL HQ.o)) underlying32 (by kernel_rfl)) rfl ⟨A1,A2,A3,c1,c2,c3,rfl,?_,?_⟩
 ·have q:=HZ.o.put3 (n:=w.heap.size) (λg hg=>by have q:W0.heap.size<=g:=hg;omega) HQ.o (.slice A1 L.bl.length c1) (.slice A2 L.pr.length c2) (.slice A3 L.mt.length c3);have q2:=q.below ((Bf _ _).alloc (Le _) (.cells #[.slice A1 L.bl.length c1,.slice A2 L.pr.length c2,.slice A3 L.mt.length c3] 32));exact⟨Lz.keep (Le _) (λg _ hg=>by have q:W0.heap.size<=g:=hg;show w.heap.size<g;omega) (λ_ _ _=>rfl) q2.bl,q2.pr,q2.prA,q2.mt,q2.mtA,q2.slim,q2.fine,q2.prN⟩
 ·exact(aQ (HB0.o.tm HB1.o) (Le _) 0 _ _ _).alloc (by rw[bJ];omega) _
theorem zjS(s:ByteArray)(P:List Bk->Int->Prop)(HP:∀w,Calls prog 40 #[.string s] w (zjG P w))(w:World):Calls prog 23 #[.string s] w λe w'=>∃bl er,P bl er/\zeX (zbN bl).1 w e w':=by
 obtain⟨W0,hW0,HB0,H0⟩:=newWH w #[.slice none 0 0,.slice none 0 0,.slice none 0 0] 32;have hs0:=hlS H0.o;have HPP:=Hd (HP W0);clear HP;go_enter func23,ntmps23;go_wp2_with(first
  |(go_at_call 40;rw[<-hW0];clear hW0;(refine HPP.o.mono ?_);rintro e w1 ⟨bl,C,cp,base,xs,n,er,hP,hn,rfl,hbs,hb⟩;have HLB:=Hd (iJ w1 _ C cp bl (hbs.rd (by unfold maxLen;omega)) (Le _));have HB1:=Hd hb;have HPQ:=Hd hP;(obtain⟨L,hL⟩:∃L,(zbN bl).1=L:=⟨_,rfl⟩);rw[hL]at HLB;have HEL:=Hd hL;clear hbs hb hP hL)
  |(go_at_call 15;(refine HLB.o.mono ?_);rintro e w2 ⟨A1,A2,A3,c1,c2,c3,rfl,hz,hb⟩;have HZ:=Hd hz;have HB2:=Hd hb;have q0:w2.heap[w.heap.size]? =some (.cells #[.slice none 0 0,.slice none 0 0,.slice none 0 0] 32 (0,0)):=(hb.block _ (Lt hs0 HB1.o.size)).trans ((HB1.o.block _ hs0).trans H0.o);have HQ:=Hd q0;have n0:=Ro w2 _ 0 _ _ _ q0;have n1:=Ro w2 _ 1 _ _ _ q0;have n2:=Ro w2 _ 2 _ _ _ q0;have nf:∀i,w2.frozen? ⟨w.heap.size,i,none⟩=false:=(λi=>by simp[World.frozen?,q0]);clear hz hb q0))
 have hs1:=HB1.o.size;refine bodyPost_ret (aN results23 _ _ w.heap.size _ _ _ _ rfl (cL HQ.o) underlying32 (by kernel_rfl)) rfl ⟨bl,er,HPQ.o,?_⟩;rw[HEL.o];refine⟨A1,A2,A3,c1,c2,c3,rfl,?_,?_⟩
 ·have q:=HZ.o.put3 (n:=w.heap.size) (λg hg=>by have q:w1.heap.size<g:=hg;omega) HQ.o (.slice A1 L.bl.length c1) (.slice A2 L.pr.length c2) (.slice A3 L.mt.length c3);refine⟨Lz.keep (Le _) (λg _ hg=>by have q:w1.heap.size<g:=hg;show w.heap.size<g;omega) (λ_ _ _=>rfl) q.bl,q.pr,q.prA,q.mt,q.mtA,q.slim,q.fine,q.prN⟩
 ·exact aQ ((HB0.o.tm HB1.o).trans (HB2.o.mono (by have:=HB0.o.size;omega))) (Le _) 0 _ _ _
theorem ziK(s:ByteArray)(w:World):Calls prog 23 #[.string s] w λe w'=>∃bl er,PaQ s (LnQ s) bl er/\zeX (zbN bl).1 w e w':=zjS s _ (zjQ s) w
theorem yF(s:ByteArray)(hs:s.size<=65536)(bl0:List Bk)(hn:(zcF s).length=bl0.length)(hn2:bl0.length<=2000)(h:∀(i:Nat) x,(zcF s)[i]? =some x->∃b0,bl0[i]? =some b0/\zdQ x b0)(w:World):Calls prog 23 #[.string s] w (zeX (zbN bl0).1 w):=by
 refine(ziK s w).mono λe w' ⟨bl,er,hp,hl⟩=> ?_;rcases hp with⟨h1,_,h2⟩|⟨h0,h1|h1|⟨i,b,er,hi,he,hq⟩⟩
 ·have e:bl=bl0:=List.ext_getElem? λi=>by
   rcases hb:bl[i]? with _|b
   ·have:=List.getElem?_eq_none_iff.1 hb;exact(List.getElem?_eq_none_iff.2 (by omega)).symm
   ·have hi:=(Gu.1 hb).1;obtain⟨x,hx⟩:∃x,(zcF s)[i]? =some x:=⟨_,Gg (by omega)⟩;obtain⟨b0,e0,hk⟩:=h i x hx;rw[e0,(h2 i b hb x b0 hx hk).1]
  rw[<-e];exact hl
 ·omega
 ·omega
 ·obtain⟨x,hx⟩:∃x,(zcF s)[i]? =some x:=⟨_,Gg hi⟩;obtain⟨b0,_,hk⟩:=h i x hx;exact absurd (hq x b0 hx hk).2 he
def tkO:List Tk:=[⟨1,79,0,⟨#[]⟩⟩,⟨2,10000000,1,⟨#[]⟩⟩]
def tkM:List Tk:=[⟨1,77,0,⟨#[]⟩⟩,⟨2,99000000,1,⟨#[]⟩⟩]
def tkG:List Tk:=[⟨3,0,0,⟨#[71,79,84,79]⟩⟩,⟨2,5000000,5,⟨#[]⟩⟩]
def bkO:Bk:=⟨6,0,false,[],zcL,zcL,10⟩
def bkM:Bk:=⟨0,0,false,[(77,zhR 99000000)],zcL,zcL,0⟩
def bkG:Bk:=⟨2,0,false,[],zcL,zhR 5000000,0⟩
theorem znE:zfV ⟨#[79,49,48]⟩=(tkO,3,0):=by kernel_rfl
theorem znF:zfV ⟨#[77,57,57]⟩=(tkM,3,0):=by kernel_rfl
theorem znG:zfV ⟨#[71,79,84,79,32,53]⟩=(tkG,6,0):=by kernel_rfl
theorem ok_O:zdQ ⟨#[79,49,48]⟩ bkO:=⟨tkO,3,(2,-1),znE,by kernel_rfl,by kernel_rfl,by kernel_rfl,by decide,by decide,by decide,by decide,λp hp=>by simp[bkO]at hp⟩
theorem ok_M:zdQ ⟨#[77,57,57]⟩ bkM:=⟨tkM,3,(2,-1),znF,by kernel_rfl,by kernel_rfl,by kernel_rfl,by decide,by decide,by decide,by decide,λp hp=>by simp[bkM]at hp;rw[hp];decide⟩
theorem ok_G:zdQ ⟨#[71,79,84,79,32,53]⟩ bkG:=⟨tkG,6,(2,-1),znG,by kernel_rfl,by kernel_rfl,by kernel_rfl,by decide,by decide,by decide,by decide,λp hp=>by simp[bkG]at hp⟩
def txA:ByteArray:=⟨#[79,49,48,10,77,57,57,10]⟩
def txB:ByteArray:=⟨#[71,79,84,79,32,53,10]⟩
theorem qhN:zcF txA=[⟨#[79,49,48]⟩,⟨#[77,57,57]⟩]:=by kernel_rfl
theorem qhM:zcF txB=[⟨#[71,79,84,79,32,53]⟩]:=by kernel_rfl
def lbA:Lb:=⟨[bkO,bkM],[⟨0,0,0⟩,⟨10,0,2⟩],[-1,-1]⟩
def lbB:Lb:=⟨[bkG],[⟨0,0,1⟩],[-1]⟩
theorem qvU:zbN [bkO,bkM]=(lbA,2,0):=by kernel_rfl
theorem qvT:zbN [bkG]=(lbB,1,0):=by kernel_rfl
theorem znN:zgA lbA=some ⟨1,0,[],ziX,0,false,0⟩:=by kernel_rfl
theorem znM:zgA lbB=some ⟨0,0,[],ziX,0,false,0⟩:=by kernel_rfl
theorem qxV:zcY lbA false ⟨1,0,[],ziX,0,false,0⟩=(⟨1,1,[],ziX,2,true,0⟩,(2,0,[]),0):=by kernel_rfl
theorem qxU:zcY lbB false ⟨0,0,[],ziX,0,false,0⟩=(⟨0,0,[],ziX,1,false,6⟩,(0,0,[]),6):=by kernel_rfl
theorem zlZ(w:World):Calls prog 23 #[.string txA] w (zeX lbA w):=by
 have q:=yF txA (by decide) [bkO,bkM] (by rw[qhN];rfl) (by decide) (λi x hx=>by
  rw[qhN]at hx
  match i,hx with
  |0,hx=>cases hx;exact⟨_,rfl,ok_O⟩
  |1,hx=>cases hx;exact⟨_,rfl,ok_M⟩
  |i+2,hx=>simp at hx) w
 rw[qvU]at q;exact q
theorem zlY(w:World):Calls prog 23 #[.string txB] w (zeX lbB w):=by
 have q:=yF txB (by decide) [bkG] (by rw[qhM];rfl) (by decide) (λi x hx=>by
  rw[qhM]at hx
  match i,hx with
  |0,hx=>cases hx;exact⟨_,rfl,ok_G⟩
  |i+1,hx=>simp at hx) w
 rw[qvT]at q;exact q
theorem cK{w:World}{g:Nat}{n:Int}(d8:w.cell? ⟨g,8,none⟩=some (.int .i64 n)):
 Calls prog 18 #[.pointer (some ⟨g,0,none⟩)] w λe w'=>e=.returned (.int .i64 n)/\w=w':=by
 go_enter func18,ntmps18;go_wp2;go_ret;exact⟨rfl,rfl⟩
theorem dO{w:World}{g:Nat}{A:OA}{n c:Nat}(d6:w.cell? ⟨g,6,none⟩=some (.slice A n c)):
 Calls prog 20 #[.pointer (some ⟨g,0,none⟩)] w λe w'=>e=.returned (.int .i64 (n:Nat))/\w=w':=by
 go_enter func20,ntmps20;go_wp2;go_ret;exact⟨rfl,rfl⟩
theorem MX.steps_at{w:World}{B:Nat}{F:Fp}{L:Lb}{sk:Bool}{m:MS}(h:MX w B F L sk m):w.cell? ⟨F.mb,8,none⟩=some (.int .i64 m.steps):=by
 obtain⟨A1,A2,A3,AC,c1,c2,c3,capc,xs,⟨_,_,_,_,_,_,_,_,d8,_,_⟩,_⟩:=h.cells;exact d8
theorem MX.depth_at{w:World}{B:Nat}{F:Fp}{L:Lb}{sk:Bool}{m:MS}(h:MX w B F L sk m):∃(A:OA) (c:Nat),w.cell? ⟨F.mb,6,none⟩=some (.slice A m.calls.length c):=by
 obtain⟨A1,A2,A3,AC,c1,c2,c3,capc,xs,⟨_,_,_,_,_,_,d6,_,_,_,_⟩,_⟩:=h.cells;exact⟨AC,capc,d6⟩
theorem dU{L:Lb}{sk:Bool}{m m':MS}{t:Stp}{er:Int}(hn:zcY L sk m=(m',t,er)){w:World}{B:Nat}{F:Fp}(h:MX w B F L sk m):
 Calls prog 19 #[.pointer (some ⟨F.mb,0,none⟩)] w λe w'=>∃(A:OA) (c:Nat),e=.returned (.tuple #[.agg #[.int .i64 t.1,.int .i64 t.2.1,.slice A t.2.2.length c],.int .i64 er])/\RdV w' (λg=>w.heap.size<=g) A t.2.2.length t.2.2/\MP B F L sk m' w w':=by
 have q:=qM w B F L sk m h;unfold zjH at q;rw[hn]at q;refine q.mono ?_;rintro e w' ⟨v,n1,he,⟨A,c,hv,hr,_⟩,h1,F',_,h2⟩;subst hv;exact⟨A,c,he,hr.keep (Le _) (λ_ _ q=>Ly h1 q) (λ_ _ _=>rfl),F',h2⟩
def TxN(L:Lb)(m:MS)(n0:Nat)(w':World)(B:Nat)(F:Fp):Prop:=
 MX w' B F L false m/\n0<=B/\F.av=[]/\∀w2:World,w'.heap.size<=w2.heap.size->(∀g,n0<=g->g<w'.heap.size->w2.heap[g]? =w'.heap[g]?)->Tab w2->Tn w2->MX w2 B F L false m
theorem qfA{L:Lb}{m:MS}(hm:zgA L=some m)(w:World)(I:Nat->Prop)(A1 A2 A3:OA)(c1 c2 c3:Nat)(h:LzB w I L A1 A2 A3)(ht:Tab w)(htn:Tn w):
 Calls prog 14 #[.agg #[.slice A1 L.bl.length c1,.slice A2 L.pr.length c2,.slice A3 L.mt.length c3],.bool false] w λe w'=>Bw w w'/\∃(B:Nat) (F:Fp),e=.returned (.tuple #[.pointer (some ⟨F.mb,0,none⟩),.int .i64 0])/\TxN L m w.heap.size w' B F:=by
 have q:=lU w I L false A1 A2 A3 c1 c2 c3 h ht htn;unfold ziG at q;rw[hm]at q;refine q.mono ?_;rintro e w' ⟨hb,B,F,he,hx,h1,h2,h3⟩;exact⟨hb,B,F,he,hx,h1,h2,h3⟩
theorem bG(w:World)(ht:Tab w)(htn:Tn w):Calls prog 13 #[] w λe w'=>e=.returned (.bool true)/\Bw w w':=by
 have HT:=Hd ht;have HTN:=Hd htn;have HTA:Hid (∀W,Calls prog 23 #[.string txA] W (zeX lbA W)):=zlZ;have HTB:Hid (∀W,Calls prog 23 #[.string txB] W (zeX lbB W)):=zlY;have HNA:=Hd qxV;have HNB:=Hd qxU;clear ht htn;have tok1:=trivial;have tok2:=trivial;have tok3:=trivial;have tok4:=trivial;have tok5:=trivial;have tok6:=trivial;go_enter func13,ntmps13;go_wp2_with(first
  |(clear tok1;go_at_call 23;(refine(HTA.o w).mono ?_);rintro e w1 ⟨A1,A2,A3,c1,c2,c3,rfl,hz,hb⟩;have HZ1:=Hd hz;have HB1:=Hd hb;clear hz hb)
  |(clear tok2;go_at_call 14;(refine(qfA znN w1 _ A1 A2 A3 c1 c2 c3 HZ1.o (HT.o.below HB1.o HT.o.lt) (HTN.o.below HB1.o HTN.o.lt)).mono ?_);rintro e w2 ⟨hb,B1,F1,rfl,hx⟩;have HX2:=Hd hx;have HB2:=Hd (HB1.o.tm hb);clear hx hb)
  |(clear tok3;go_at_call 23;(refine(HTB.o w2).mono ?_);rintro e w3 ⟨D1,D2,D3,d1,d2,d3,rfl,hz,hb⟩;have HZ3:=Hd hz;have HB3:=Hd hb;clear hz hb)
  |(clear tok4;go_at_call 14;(refine(qfA znM w3 _ D1 D2 D3 d1 d2 d3 HZ3.o (HX2.o.1.tab.below HB3.o HX2.o.1.tab.lt) (HX2.o.1.tn.below HB3.o HX2.o.1.tn.lt)).mono ?_);rintro e w4 ⟨hb,B2,F2,rfl,hx⟩;have HX4:=Hd hx;have HB4:=Hd hb;clear hx hb)
  |(clear tok5;go_at_call 19;(have HBX:Hid (Bw w2 w4):=HB3.o.tm HB4.o);(refine(dU HNA.o (HX2.o.1.below HBX.o)).mono ?_);rintro e w5 ⟨A5,c5,rfl,_,F5,hmv,hmx,hch⟩;have HB5:=Hd ((Bf w5.heap.size w5).alloc (Le _) (.cells #[.int .i64 2,.int .i64 0,.slice A5 0 c5] 40));have HC5:=Hd hch;have HX5:=Hd hmx;have HMB:=Hd hmv.mb;have hs45:=hch.size;have hmb1:F1.mb<w2.heap.size:=HX2.o.1.lt;clear hch hmv hmx)
  |(clear tok6;go_at_call 19;(have HX6:Hid (MX (w5.alloc (.cells #[.int .i64 2,.int .i64 0,.slice A5 0 c5] 40)) B2 F2 lbB false ⟨0,0,[],ziX,0,false,0⟩):=(by{refine HX4.o.2.2.2 _ (Ly hs45 HB5.o.size) (λg h1 h2=> ?_) (HX5.o.tab.below HB5.o HX5.o.tab.lt) (HX5.o.tn.below HB5.o HX5.o.tn.lt);exact(HB5.o.block g (Lt h2 hs45)).trans (HC5.o.block g h2 (λho=>by{have q1:=(HX2.o.1.own_ge g ho).2;have q2:=HB3.o.size;omega}))}));(refine(dU HNB.o HX6.o).mono ?_);rintro e w6 ⟨A6,c6,rfl,_,F6,hmv,hmx,hch⟩;have HB6:=Hd ((Bf w6.heap.size w6).alloc (Le _) (.cells #[.int .i64 0,.int .i64 0,.slice A6 0 c6] 40));have hs56:=hch.size;have hs5a:=HB5.o.size;have E8:Hid ((w6.alloc (.cells #[.int .i64 0,.int .i64 0,.slice A6 0 c6] 40)).cell? ⟨F1.mb,8,none⟩=some (.int .i64 2)):=(by{have q:=HX5.o.steps_at;rw[HMB.o]at q;have h25:=HB3.o.size;have h34:=HB4.o.size;refine(HB6.o.cel F1.mb 8 (by{show F1.mb<w6.heap.size;omega})).trans ((aB (hch.block F1.mb (by omega) (λho=> ?_))).trans ((HB5.o.cel F1.mb 8 (by{show F1.mb<w5.heap.size;omega})).trans q));have q1:=(HX6.o.own_ge _ ho).1;have q2:=HX4.o.2.1;omega});have E6:Hid (∃(A:OA) (c:Nat),(w6.alloc (.cells #[.int .i64 0,.int .i64 0,.slice A6 0 c6] 40)).cell? ⟨F2.mb,6,none⟩=some (.slice A 0 c)):=(by{obtain⟨A,c,q⟩:=hmx.depth_at;rw[hmv.mb]at q;exact⟨A,c,(HB6.o.cel F2.mb 6 (vG q)).trans q⟩});have y0:w6.cell? ⟨w5.heap.size,0,none⟩=some (.int .i64 2):=(by{have q:=Hn w5 (.cells #[.int .i64 2,.int .i64 0,.slice A5 0 c5] 40);have h5:=hlS q;have h25:=HB3.o.size;have q2:=hch.block _ h5 (λho=>by{have q1:=(HX4.o.1.own_ge _ ho).2;omega});exact Ro w6 _ 0 _ _ _ (q2.trans q)});have hlt56:w5.heap.size<w6.heap.size:=(vG y0);have hne56:¬w6.heap.size=w5.heap.size:=(by omega);have HBE:Hid (Bw w (w6.alloc (.cells #[.int .i64 0,.int .i64 0,.slice A6 0 c6] 40))):=(by{have c1:Bw w w4:=HB2.o.tm HBX.o;have s1:=HB1.o.size;have s2:=HB2.o.size;have s3:=HB3.o.size;have s4:=HB4.o.size;have c2:Below w.heap.size w4 w5:=⟨HC5.o.os,HC5.o.tape,HC5.o.output,HC5.o.size,λg hg=>HC5.o.block g (by omega) (λho=>by{have q:=(HX2.o.1.own_ge g ho).1;have q2:=HX2.o.2.1;omega})⟩;have c4:Below w.heap.size (w5.alloc (.cells #[.int .i64 2,.int .i64 0,.slice A5 0 c5] 40)) w6:=⟨hch.os,hch.tape,hch.output,hch.size,λg hg=>hch.block g (by omega) (λho=>by{have q:=(HX6.o.own_ge g ho).1;have q2:=HX4.o.2.1;omega})⟩;exact(((c1.trans c2).trans (HB5.o.mono (by omega))).trans c4).trans (HB6.o.mono (by omega))});clear hch hmv hmx)
  |(go_at_call 18;(refine(cK E8.o).mono ?_);rintro e w7 ⟨rfl,rfl⟩)
  |(go_at_call 20;(obtain⟨A9,c9,q9⟩:=E6.o);(refine(dO q9).mono ?_);rintro e w8 ⟨rfl,rfl⟩))
 go_ret;exact⟨rfl,HBE.o⟩
