/- Blocks, prog. -/
import Derived.Test.YtdcjbhdfphcefaaGreatDoorPm
namespace Go.Proofs.YtdcjbhdfphcefaaGreatDoor
set_option linter.all false
set_option maxRecDepth 100000
set_option maxHeartbeats 4000000
open Go.Proofs.Tryz
open Go.RowKit
def RdE(w:World)(B g o:Nat)(t:Tr):Prop:=
 ∃x y z:Value,w.cell? ⟨g,o,none⟩=some x/\w.cell? ⟨g,o+1,none⟩=some y/\w.cell? ⟨g,o+2,none⟩=some z/\Rd w B t (.agg #[x,y,z])
theorem RdE.keep{w w':World}{B B' g o:Nat}{t:Tr}(h:RdE w B g o t)(hg:g<B)(hk:∀p:Addr,p.block<B->w'.cell? p=w.cell? p)(hB:B<=B'):RdE w' B' g o t:=by
 obtain⟨x,y,z,c0,c1,c2,hr⟩:=h;exact⟨x,y,z,(hk ⟨g,o,none⟩ hg).trans c0,(hk ⟨g,o+1,none⟩ hg).trans c1,(hk ⟨g,o+2,none⟩ hg).trans c2,hr.keep hk hB⟩
def RdW(w:World)(B:Nat)(A:OA)(k:Nat)(ws:List (Int×Tr)):Prop:=
 k=ws.length/\k<=maxLen/\(∀x∈ws,I64 x.1)/\
  (0<k->∃ab off:Nat,A=some ⟨ab,off,none⟩/\ab<B/\∀(i:Nat) (x:Int×Tr),ws[i]? =some x->w.cell? ⟨ab,off+i*4,none⟩=some (.int .i64 x.1)/\RdE w B ab (off+i*4+1) x.2)
theorem RdW.keep{w w':World}{B B':Nat}{A:OA}{k:Nat}{ws:List (Int×Tr)}(h:RdW w B A k ws)(hk:∀p:Addr,p.block<B->w'.cell? p=w.cell? p)(hB:B<=B'):RdW w' B' A k ws:=by
 obtain⟨h1,h2,h3,h4⟩:=h;refine⟨h1,h2,h3,λhp=> ?_⟩;obtain⟨ab,off,e,hab,hc⟩:=h4 hp;exact⟨ab,off,e,by omega,λi x hx=>⟨(hk ⟨ab,off+i*4,none⟩ hab).trans (hc i x hx).1,(hc i x hx).2.keep hab hk hB⟩⟩
def zaW(b:Bk)(A:OA)(k c:Nat)(l0 l1 l2 x0 x1 x2:Value):LV:=
 [.int .i64 b.kind,.int .i64 b.label,.bool b.skip,.slice A k c,l0,l1,l2,x0,x1,x2,.int .i64 b.n]
structure RdB(w:World)(B:Nat)(b:Bk)(A:OA)(k:Nat)(l0 l1 l2 x0 x1 x2:Value):Prop where
 kind:I64 b.kind
 label:I64 b.label
 n:I64 b.n
 words:RdW w B A k b.words
 left:Rd w B b.left (.agg #[l0,l1,l2])
 x:Rd w B b.x (.agg #[x0,x1,x2])
theorem RdB.keep{w w':World}{B B':Nat}{b:Bk}{A:OA}{k:Nat}{l0 l1 l2 x0 x1 x2:Value}(h:RdB w B b A k l0 l1 l2 x0 x1 x2)(hk:∀p:Addr,p.block<B->w'.cell? p=w.cell? p)(hB:B<=B'):RdB w' B' b A k l0 l1 l2 x0 x1 x2:=
 ⟨h.kind,h.label,h.n,h.words.keep hk hB,h.left.keep hk hB,h.x.keep hk hB⟩
def RdK(w:World)(B g o:Nat)(b:Bk):Prop:=
 ∃(A:OA) (k c:Nat) (l0 l1 l2 x0 x1 x2:Value),(∀(j:Nat) (v:Value),(zaW b A k c l0 l1 l2 x0 x1 x2)[j]? =some v->w.cell? ⟨g,o+j,none⟩=some v)/\RdB w B b A k l0 l1 l2 x0 x1 x2
theorem RdK.keep{w w':World}{B B' g o:Nat}{b:Bk}(h:RdK w B g o b)(hg:g<B)(hk:∀p:Addr,p.block<B->w'.cell? p=w.cell? p)(hB:B<=B'):RdK w' B' g o b:=by
 obtain⟨A,k,c,l0,l1,l2,x0,x1,x2,hc,hr⟩:=h;exact⟨A,k,c,l0,l1,l2,x0,x1,x2,λj v hv=>(hk ⟨g,o+j,none⟩ hg).trans (hc j v hv),hr.keep hk hB⟩
theorem RdK.cells{w:World}{B g o:Nat}{b:Bk}(h:RdK w B g o b):∃(A:OA) (k c:Nat) (l0 l1 l2 x0 x1 x2:Value),RdB w B b A k l0 l1 l2 x0 x1 x2/\
 w.cell? ⟨g,o,none⟩=some (.int .i64 b.kind)/\w.cell? ⟨g,o+1,none⟩=some (.int .i64 b.label)/\w.cell? ⟨g,o+2,none⟩=some (.bool b.skip)/\w.cell? ⟨g,o+3,none⟩=some (.slice A k c)/\
 w.cell? ⟨g,o+4,none⟩=some l0/\w.cell? ⟨g,o+5,none⟩=some l1/\w.cell? ⟨g,o+6,none⟩=some l2/\w.cell? ⟨g,o+7,none⟩=some x0/\w.cell? ⟨g,o+8,none⟩=some x1/\w.cell? ⟨g,o+9,none⟩=some x2/\w.cell? ⟨g,o+10,none⟩=some (.int .i64 b.n):=by
 obtain⟨A,k,c,l0,l1,l2,x0,x1,x2,hc,hr⟩:=h;exact⟨A,k,c,l0,l1,l2,x0,x1,x2,hr,hc 0 _ rfl,hc 1 _ rfl,hc 2 _ rfl,hc 3 _ rfl,hc 4 _ rfl,hc 5 _ rfl,hc 6 _ rfl,hc 7 _ rfl,hc 8 _ rfl,hc 9 _ rfl,hc 10 _ rfl⟩
def RdL(w:World)(B:Nat)(A:OA)(k:Nat)(l:List Bk):Prop:=
 k=l.length/\k<=maxLen/\(0<k->∃ab off:Nat,A=some ⟨ab,off,none⟩/\ab<B/\∀(i:Nat) (b:Bk),l[i]? =some b->RdK w B ab (off+i*11) b)
theorem RdL.keep{w w':World}{B B':Nat}{A:OA}{k:Nat}{l:List Bk}(h:RdL w B A k l)(hk:∀p:Addr,p.block<B->w'.cell? p=w.cell? p)(hB:B<=B'):RdL w' B' A k l:=by
 obtain⟨h1,h2,h4⟩:=h;refine⟨h1,h2,λhp=> ?_⟩;obtain⟨ab,off,e,hab,hc⟩:=h4 hp;exact⟨ab,off,e,by omega,λi x hx=>(hc i x hx).keep hab hk hB⟩
def RdP(w:World)(B:Nat)(A:OA)(k:Nat)(l:List Pg):Prop:=
 k=l.length/\k<=maxLen/\(∀p∈l,I64 p.num/\I64 p.first/\I64 p.stop)/\(0<k->∃ab off:Nat,A=some ⟨ab,off,none⟩/\ab<B/\∀(i:Nat) (p:Pg),l[i]? =some p->
  w.cell? ⟨ab,off+i*3,none⟩=some (.int .i64 p.num)/\w.cell? ⟨ab,off+i*3+1,none⟩=some (.int .i64 p.first)/\w.cell? ⟨ab,off+i*3+2,none⟩=some (.int .i64 p.stop))
theorem RdP.keep{w w':World}{B B':Nat}{A:OA}{k:Nat}{l:List Pg}(h:RdP w B A k l)(hk:∀p:Addr,p.block<B->w'.cell? p=w.cell? p)(hB:B<=B'):RdP w' B' A k l:=by
 obtain⟨h1,h2,h3,h4⟩:=h;refine⟨h1,h2,h3,λhp=> ?_⟩;obtain⟨ab,off,e,hab,hc⟩:=h4 hp;exact⟨ab,off,e,by omega,λi x hx=>⟨(hk ⟨ab,off+i*3,none⟩ hab).trans (hc i x hx).1,(hk ⟨ab,off+i*3+1,none⟩ hab).trans (hc i x hx).2.1,(hk ⟨ab,off+i*3+2,none⟩ hab).trans (hc i x hx).2.2⟩⟩
def RdI(w:World)(B:Nat)(A:OA)(k:Nat)(l:List Int):Prop:=
 k=l.length/\k<=maxLen/\(∀x∈l,I64 x)/\(0<k->∃ab off:Nat,A=some ⟨ab,off,none⟩/\ab<B/\∀(i:Nat) (x:Int),l[i]? =some x->w.cell? ⟨ab,off+i,none⟩=some (.int .i64 x))
theorem RdI.keep{w w':World}{B B':Nat}{A:OA}{k:Nat}{l:List Int}(h:RdI w B A k l)(hk:∀p:Addr,p.block<B->w'.cell? p=w.cell? p)(hB:B<=B'):RdI w' B' A k l:=by
 obtain⟨h1,h2,h3,h4⟩:=h;refine⟨h1,h2,h3,λhp=> ?_⟩;obtain⟨ab,off,e,hab,hc⟩:=h4 hp;exact⟨ab,off,e,by omega,λi x hx=>(hk ⟨ab,off+i,none⟩ hab).trans (hc i x hx)⟩
structure RdLb(w:World)(B:Nat)(L:Lb)(A1:OA)(k1:Nat)(A2:OA)(k2:Nat)(A3:OA)(k3:Nat):Prop where
 bl:RdL w B A1 k1 L.bl
 pr:RdP w B A2 k2 L.pr
 mt:RdI w B A3 k3 L.mt
theorem RdLb.keep{w w':World}{B B':Nat}{L:Lb}{A1 A2 A3:OA}{k1 k2 k3:Nat}(h:RdLb w B L A1 k1 A2 k2 A3 k3)(hk:∀p:Addr,p.block<B->w'.cell? p=w.cell? p)(hB:B<=B'):RdLb w' B' L A1 k1 A2 k2 A3 k3:=
 ⟨h.bl.keep hk hB,h.pr.keep hk hB,h.mt.keep hk hB⟩
theorem RdLb.below{w w':World}{B:Nat}{L:Lb}{A1 A2 A3:OA}{k1 k2 k3:Nat}(h:RdLb w B L A1 k1 A2 k2 A3 k3)(hb:Below B w w'):RdLb w' B L A1 k1 A2 k2 A3 k3:=h.keep (λ_ hp=>hb.cell hp) (Le _)
theorem cE{α:Type}{l:List α}{k:Nat}{x:α}(h:l[k]? =some x):l.drop k=x::l.drop (k+1):=by
 obtain⟨hk,e⟩:=Gu.1 h;rw[List.drop_eq_getElem_cons hk,e]
def zoM(w:World)(l:List Pg)(n:Int)(i:Value)(W:World):Prop:=∃k:Nat,k<=l.length/\i=.int .i64 (k:Int)/\Bw w W/\zbM n l 0=zbM n (l.drop k) k
theorem qqZ(w:World)(B:Nat)(L:Lb)(A1 A2 A3:OA)(k1 c1 k2 c2 k3 c3:Nat)(n:Int)(hL:RdLb w B L A1 k1 A2 k2 A3 k3)(hB:B<=w.heap.size):
 Calls prog 127 #[.agg #[.slice A1 k1 c1,.slice A2 k2 c2,.slice A3 k3 c3],.int .i64 n] w λe w'=>e=.returned (.tuple #[.int .i64 (zdO L n).1,.bool (zdO L n).2])/\Bw w w':=by
 obtain⟨hn1,hn2,hnb,hc⟩:=hL.pr;have HC:=Hd hc;have hnl:=hn2;unfold maxLen at hnl;clear hc hnb hL;subst hn1;have HB0:Hid (∀o:Obj,Bw w (w.alloc o)):=λo=>(Bf _ _).alloc (Le _) o;go_enter func127,ntmps127;go_wp2;go_loopw[11] (zoM w L.pr n) (λi _=>L.pr.length-(intOf i).toNat)
 case atStart=>exact⟨0,by omega,rfl,HB0.o _,rfl⟩
 case round=>
  obtain⟨k,hk,rfl,hb,her⟩:=hrel;have HB:=Hd hb;have HER:=Hd her;clear hb her;by_cases hlt:k<L.pr.length
  ·obtain⟨ab,off,rfl,hab,hc⟩:=HC.o (by omega);obtain⟨p,hx⟩:∃x,L.pr[k]? =some x:=⟨_,Gg hlt⟩;obtain⟨d0,d1,d2⟩:=hc k _ hx;have hab':ab<w.heap.size:=by omega
   have e0:=HB.o.ct hab' d0;have e1:=HB.o.ct hab' d1;have e2:=HB.o.ct hab' d2;have HX:=Hd hx;clear hc d0 d1 d2 hx;have hcase:zbM n L.pr 0=if p.num=n then((k:Int),true)else zbM n (L.pr.drop (k+1)) (k+1):=by
    rw[HER.o,cE HX.o];rfl
   have HCS:=Hd hcase;clear hcase;by_cases hpn:p.num=n
   ·have hpn':(p.num==n)=true:=by simpa using hpn
    have E1:Hid (zdO L n=((k:Int),true)):=by unfold Hid zdO;rw[HCS.o,Ip hpn]
    clear hpn;go_wp2_with fail;go_ret2;rw[E1.o];exact⟨rfl,HB.o.alloc HB.o.size _⟩
   ·have hpn':(p.num==n)=false:=by simpa using hpn
    have E1:Hid (zbM n L.pr 0=zbM n (L.pr.drop (k+1)) (k+1)):=by unfold Hid;rw[HCS.o,Iq hpn]
    clear hpn;go_wp2_with fail;exact⟨⟨k+1,by omega,by go_num,HB.o.alloc HB.o.size _,E1.o⟩,by simp only[intOf];omega⟩
  ·have hke:k=L.pr.length:=by omega
   subst hke;have E1:Hid (zdO L n=(0,false)):=by
    unfold Hid zdO;rw[HER.o,Dl];rfl
   go_wp2_with fail;go_ret2;rw[E1.o];exact⟨rfl,HB.o⟩
def zoI(W0:World)(L:Lb)(F:Nat)(stop n:Int)(i:Value)(W:World):Prop:=∃k:Nat,F<=k/\k<=L.bl.length/\i=.int .i64 (k:Int)/\W=W0/\zbB L n (stop.toNat-F) F=zbB L n (stop.toNat-k) k
theorem qkF(w:World)(B:Nat)(L:Lb)(A1 A2 A3:OA)(k1 c1 k2 c2 k3 c3:Nat)(p:Nat)(n:Int)(hL:RdLb w B L A1 k1 A2 k2 A3 k3)(hB:B<=w.heap.size)(hok:L.ok)(hp:p<L.pr.length):
 Calls prog 90 #[.agg #[.slice A1 k1 c1,.slice A2 k2 c2,.slice A3 k3 c3],.int .i64 (p:Int),.int .i64 n] w λe w'=>e=.returned (.tuple #[.int .i64 (zcD L p n).1,.bool (zcD L p n).2])/\Bw w w':=by
 obtain⟨hn1,hn2,hnb,hc⟩:=hL.pr;obtain⟨hm1,hm2,hd⟩:=hL.bl;have HC:=Hd hc;have HD:=Hd hd;have hnl:=hn2;have hml:=hm2;unfold maxLen at hnl hml;clear hc hnb hL hd;subst hn1 hm1;have HB0:Hid (∀o:Obj,Bw w (w.alloc o)):=λo=>(Bf _ _).alloc (Le _) o;by_cases hn:n<1
 ·have e1:Hid (zcD L p n=(0,false)):=by unfold Hid zcD;rw[Ip (.inl hn)]
  have g1:decide (n<1)=true:=Dt hn;clear hn;go_enter func90,ntmps90;go_wp2;go_ret2;rw[e1.o];exact⟨rfl,HB0.o _⟩
 have g1:decide (n<1)=false:=Df hn;have g2:decide ((p:Int)<0)=false:=Df (by omega);have g3:decide ((L.pr.length:Int)<=(p:Int))=false:=Df (by omega);obtain⟨ab,off,rfl,hab,hc⟩:=HC.o (by omega);obtain⟨q,hx⟩:∃x,L.pr[p]? =some x:=⟨_,Gg hp⟩;obtain⟨e0,e1,e2⟩:=hc p _ hx;have hab':ab<w.heap.size:=by omega
 obtain⟨o1,o2,o3⟩:=hok p q hx;have hq:L.prg p=q:=by unfold Lb.prg;rw[Gd,hx];rfl
 have ELS0:zcD L p n=zbB L n (q.stop.toNat-q.first.toNat) q.first.toNat:=by unfold zcD;rw[Iq (by omega),hq]
 rcases q with⟨num,first,stop⟩
 dsimp only at e0 e1 e2 o1 o2 o3 ELS0;obtain⟨F,rfl⟩:∃F:Nat,first=(F:Int):=⟨first.toNat,by omega⟩
 rw[It]at ELS0;have ELS:=Hd ELS0;have d0:=λo:Obj=>((HB0.o o).cel ab (off+p*3) hab').trans e0;have d1:=λo:Obj=>((HB0.o o).cel ab (off+p*3+1) hab').trans e1;have d2:=λo:Obj=>((HB0.o o).cel ab (off+p*3+2) hab').trans e2;have m1:max (F:Int) 0=(F:Int):=by omega
 have m2:min stop (L.bl.length:Int)=stop:=by omega
 clear hc hx e0 e1 e2 hq ELS0;obtain⟨W0,hW0⟩:∃W0,W0=((w.alloc (.cells #[.slice A1 L.bl.length c1,.slice (some ⟨ab,off,none⟩) L.pr.length c2,.slice A3 k3 c3] 32)).alloc (.cells #[.int .i64 num,.int .i64 (F:Int),.int .i64 stop] 73)):=⟨_,rfl⟩;have HB1:Hid (Bw w W0):=by unfold Hid;rw[hW0];exact(nB _ _).alloc (by simp) _
 have b1:W0.cell? ⟨w.heap.size,0,none⟩=some (.slice A1 L.bl.length c1):=by rw[hW0];simp[World.cell?_alloc_new,Wl]
 have b2:W0.cell? ⟨w.heap.size+1,2,none⟩=some (.int .i64 stop):=by
  rw[hW0];have:=Hn (w.alloc (.cells #[.slice A1 L.bl.length c1,.slice (some ⟨ab,off,none⟩) L.pr.length c2,.slice A3 k3 c3] 32)) (.cells #[.int .i64 num,.int .i64 (F:Int),.int .i64 stop] 73);rw[show(w.alloc (.cells #[.slice A1 L.bl.length c1,.slice (some ⟨ab,off,none⟩) L.pr.length c2,.slice A3 k3 c3] 32)).heap.size=w.heap.size+1 by simp]at this;exact Ro _ _ 2 _ _ _ this
 go_enter func90,ntmps90;go_wp2;rw[<-hW0];clear hW0 d0 d1 d2;go_loopw[9] (zoI W0 L F stop n) (λi _=>L.bl.length-(intOf i).toNat)
 case atStart=>exact⟨F,by omega,by omega,rfl,rfl,rfl⟩
 case round=>
  obtain⟨k,hFk,hk,rfl,rfl,her⟩:=hrel;have HER:=Hd her;clear her;by_cases hlt:(k:Int)<stop
  ·have g4:decide ((k:Int)<stop)=true:=Dt hlt;have hkl:k<L.bl.length:=by omega
   obtain⟨ab1,off1,rfl,hab1,hd⟩:=HD.o (by omega);obtain⟨x,hx⟩:∃x,L.bl[k]? =some x:=⟨_,Gg hkl⟩;obtain⟨A,kk,cc,l0,l1,l2,x0,x1,x2,hr,y0,y1,_⟩:=(hd k x hx).cells;have z1:=(HB1.o.cel ab1 (off1+k*11+1) (by show ab1<_;omega)).trans y1;have hbk:L.blk k=x:=by unfold Lb.blk;rw[Gd,hx];rfl
   have hcase:zbB L n (stop.toNat-F) F=if x.label=n then((k:Int),true)else zbB L n (stop.toNat-(k+1)) (k+1):=by
    rw[HER.o,show stop.toNat-k=(stop.toNat-(k+1))+1 by omega,zbB,hbk]
   have HCS:=Hd hcase;clear hcase hd hx y0 y1 hbk hr;by_cases hpn:x.label=n
   ·have hpn':(x.label==n)=true:=by simpa using hpn
    have E1:Hid (zcD L p n=((k:Int),true)):=by unfold Hid;rw[ELS.o,HCS.o,Ip hpn]
    clear hpn;go_wp2_with fail;go_ret2;rw[E1.o];exact⟨rfl,HB1.o⟩
   ·have hpn':(x.label==n)=false:=by simpa using hpn
    have E1:Hid (zbB L n (stop.toNat-F) F=zbB L n (stop.toNat-(k+1)) (k+1)):=by unfold Hid;rw[HCS.o,Iq hpn]
    clear hpn;go_wp2_with fail;exact⟨⟨k+1,by omega,by omega,by go_num,rfl,E1.o⟩,by simp only[intOf];omega⟩
  ·have g4:decide ((k:Int)<stop)=false:=Df hlt;have E1:Hid (zcD L p n=(0,false)):=by
    unfold Hid;rw[ELS.o,HER.o,show stop.toNat-k=0 by omega];rfl
   go_wp2_with fail;go_ret2;rw[E1.o];exact⟨rfl,HB1.o⟩
theorem tZ{w:World}{base:Nat}{e:TypeId}{size:Nat}{v:Value}{n:Nat}{xs:LV}(h:w.ownsRow base e size v n xs):∃a c,v=.slice a n c:=by
 rcases h.2 with⟨rfl,rfl⟩|⟨g,cap,cur,rfl,_⟩
 ·exact⟨none,0,rfl⟩
 ·exact⟨_,cap,rfl⟩
def zgX(l:List Int):LV:=l.map (.int .i64 ·)
def zhM(w:World)(xs:List Int)(e:Ending)(w':World):Prop:=
 ∃(C:OA) (cap:Nat),e=.returned (.slice C xs.length cap)/\w'.ownsRow w.heap.size 3 1 (.slice C xs.length cap) xs.length (zgX xs)/\Bw w w'
theorem qcT:(prog.info? 3).map (λi=>(i.zero,i.size,i.bytes))=some (some (.int .i64 0),1,8):=by kernel_rfl
def zlT(w:World)(l:List Int)(at_:Int)(lv iv:Value)(W:World):Prop:=
 ∃(k cap:Nat) (C:OA) (acc:List Int),lv=.slice C acc.length cap/\iv=.int .i64 (k:Int)/\k<=l.length/\acc.length<=k/\zbC at_ l 0=acc++zbC at_ (l.drop k) k/\
  W.ownsRow w.heap.size 3 1 (.slice C acc.length cap) acc.length (zgX acc)/\Bw w W
theorem xH{w:World}{base:Nat}{e:TypeId}{A:OA}{c n m:Nat}{xs ys:LV}(h:w.ownsRow base e 1 (.slice A n c) n xs)(h1:n=m)(h2:xs=ys):w.ownsRow base e 1 (.slice A m c) m ys:=by subst h1 h2;exact h
theorem qfI(w:World)(B:Nat)(L:Lb)(A1 A2 A3:OA)(k1 c1 k2 c2 k3 c3:Nat)(at_:Int)(hL:RdLb w B L A1 k1 A2 k2 A3 k3)(hB:B<=w.heap.size)(hm:L.mt.length<=100000):
 Calls prog 91 #[.agg #[.slice A1 k1 c1,.slice A2 k2 c2,.slice A3 k3 c3],.int .i64 at_] w (zhM w (zbF L at_)):=by
 obtain⟨i0,hi,hz0,hz1,hz2⟩:=info_parts qcT;obtain⟨hn1,hn2,hnb,hc⟩:=hL.mt;have hbl:=hL.bl.1;have HC:=Hd hc;have hnl:=hn2;unfold maxLen at hnl;clear hc hnb hL;subst hn1 hbl;have HB0:Hid (∀o:Obj,Bw w (w.alloc o)):=λo=>(Bf _ _).alloc (Le _) o;by_cases ha:at_<0
 ·have e1:Hid (zbF L at_=[]):=by unfold Hid zbF;rw[Ip (.inl ha)]
  have g1:decide (at_<0)=true:=Dt ha;clear ha;go_enter func91,ntmps91;go_wp2;go_ret;rw[e1.o];exact⟨none,0,rfl,World.ownsRow_nil _ _ _ _,HB0.o _⟩
 have g1:decide (at_<0)=false:=Df ha;by_cases hb:(L.bl.length:Int)<=at_
 ·have e1:Hid (zbF L at_=[]):=by unfold Hid zbF;rw[Ip (.inr hb)]
  have g2:decide ((L.bl.length:Int)<=at_)=true:=Dt hb;clear ha hb;go_enter func91,ntmps91;go_wp2;go_ret;rw[e1.o];exact⟨none,0,rfl,World.ownsRow_nil _ _ _ _,HB0.o _⟩
 have g2:decide ((L.bl.length:Int)<=at_)=false:=Df hb;have EI:Hid (zbF L at_=zbC at_ L.mt 0):=by unfold Hid zbF;rw[Iq (by omega)]
 clear ha hb;go_enter func91,ntmps91;go_wp2;clear g1 g2;go_loopw[5,20] (zlT w L.mt at_) (λ_ i _=>L.mt.length-(intOf i).toNat)
 case atStart=>exact⟨0,0,none,[],rfl,rfl,by omega,by simp,rfl,World.ownsRow_nil _ _ _ _,HB0.o _⟩
 case round=>
  obtain⟨k,cap,C,acc,rfl,rfl,hk,hak,her,hown,hnx⟩:=hrel;have HER:=Hd her;have hsize:=hnx.size;clear her;by_cases hlt:k<L.mt.length
  ·obtain⟨ab,off,rfl,hab,hc⟩:=HC.o (by omega);obtain⟨m,hx⟩:∃x,L.mt[k]? =some x:=⟨_,Gg hlt⟩;have d0:=(hnx.cel ab (off+k) (by show ab<_;omega)).trans (hc k m hx);have hcase:zbC at_ L.mt 0=acc++(if(k:Int)<at_/\at_<=m then(k:Int)::zbC at_ (L.mt.drop (k+1)) (k+1)else zbC at_ (L.mt.drop (k+1)) (k+1)):=by
    rw[HER.o,cE hx];rfl
   have HCS:=Hd hcase;clear hcase hc hx;by_cases q1:(k:Int)<at_
   ·have g3:decide ((k:Int)<at_)=true:=Dt q1;by_cases q2:at_<=m
    ·have g4:decide (at_<=m)=true:=Dt q2;have E1:Hid (zbC at_ L.mt 0=(acc++[(k:Int)])++zbC at_ (L.mt.drop (k+1)) (k+1)):=by
      unfold Hid;rw[HCS.o,Ip ⟨q1,q2⟩,List.append_assoc];rfl
     clear q1 q2;have HN:=Hd hnx;have HO:=Hd hown;go_wp2_with(first|(at_builtin;refine wpList_append_own _ rfl (.tmp 33) (.tmp 35) 22 rfl w.heap.size 3 i0 (.int .i64 0) 1 8 underlying22 hi hz0 hz1 hz2 rfl (by decide) _ _ _ rfl (HO.o.alloc _) ⟨wr.heap.size,0,none⟩ 1 1 [.int .i64 _] rfl rfl (cell_one_new _ _ _) (by intro u hu;simp at hu;subst hu;rfl) (by unfold maxLen;omega) (by omega) (by simp;omega) ?_;intro v1 w1 hown1 hgrow1 hnil1));obtain⟨A9,c9,rfl⟩:=tZ hown1;refine⟨⟨k+1,c9,A9,acc++[(k:Int)],by simp,by go_num,by omega,by simp;omega,E1.o,xH hown1 (by simp) (by simp[zgX]),(HN.o.alloc (by omega) _).grown hgrow1 (by simp;omega) (λj hj=>(HO.o.lt j hj).1)⟩,by simp only[intOf];omega⟩
    ·have g4:decide (at_<=m)=false:=Df q2;have E1:Hid (zbC at_ L.mt 0=acc++zbC at_ (L.mt.drop (k+1)) (k+1)):=by
      unfold Hid;rw[HCS.o,Iq (λh=>q2 h.2)]
     clear q1 q2;go_wp2_with fail;exact⟨⟨k+1,cap,C,acc,rfl,by go_num,by omega,by omega,E1.o,hown,hnx⟩,by simp only[intOf];omega⟩
   ·have g3:decide ((k:Int)<at_)=false:=Df q1;have E1:Hid (zbC at_ L.mt 0=acc++zbC at_ (L.mt.drop (k+1)) (k+1)):=by
     unfold Hid;rw[HCS.o,Iq (λh=>q1 h.1)]
    clear q1;go_wp2_with fail;exact⟨⟨k+1,cap,C,acc,rfl,by go_num,by omega,by omega,E1.o,hown,hnx⟩,by simp only[intOf];omega⟩
  ·have hke:k=L.mt.length:=by omega
   subst hke;have E1:Hid (zbF L at_=acc):=by
    unfold Hid;rw[EI.o,HER.o,Dl];simp[zbC]
   go_wp2_with fail;go_ret;rw[E1.o];exact⟨C,cap,rfl,hown,hnx⟩
theorem uQ(c x letter n:Int)(w:World)(hn:0<=n/\n<=1000):
 Calls prog 95 #[.agg #[.int .i64 c,.int .i64 x],.int .i64 letter,.int .i64 n] w λe w'=>e=.returned (.bool (isC (c,x) letter n))/\Bw w w':=by
 have hw:IntKind.i64.wrap (n*1000000)=n*1000000:=IntWalk.i64_in _ (by omega);have HB0:Hid (∀o:Obj,Bw w (w.alloc o)):=λo=>(Bf _ _).alloc (Le _) o;by_cases h:c=letter
 ·have h':(c==letter)=true:=by simpa using h
  have e:isC (c,x) letter n=(x==n*1000000):=by unfold isC;rw[h'];simp
  rw[e];clear h e;go_enter func95,ntmps95;go_wp2;go_ret;exact⟨rfl,HB0.o _⟩
 ·have h':(c==letter)=false:=by simpa using h
  have e:isC (c,x) letter n=false:=by unfold isC;rw[h'];simp
  rw[e];clear h e;go_enter func95,ntmps95;go_wp2;go_ret;exact⟨rfl,HB0.o _⟩
def zlU(w:World)(l:LI)(mc:Bool)(ov iv:Value)(W:World):Prop:=
 ∃(k s:Nat),ov=.int .i64 (s:Int)/\iv=.int .i64 (k:Int)/\k<=l.length/\s<=k/\Bw w W/\
  l.countP (λv=> !(v.1==80||v.1==76)&& !(mc&&v.1 !=71))=s+(l.drop k).countP (λv=> !(v.1==80||v.1==76)&& !(mc&&v.1 !=71))
theorem qqY(w:World)(I:Nat->Prop)(A:OA)(n c:Nat)(l:LI)(mc:Bool)(hv:RdV w I A n l):
 Calls prog 126 #[.slice A n c,.bool mc] w λe w'=>e=.returned (.bool (zhS l mc))/\Bw w w':=by
 obtain⟨hn1,hn2,hvb,hvc⟩:=hv;have HVC:=Hd hvc;have hnl:=hn2;unfold maxLen at hnl;clear hvb hvc;subst hn1;go_enter func126,ntmps126;go_wp2;go_loopw[5,10] (zlU w l mc) (λ_ i _=>l.length-(intOf i).toNat)
 case atStart=>exact⟨0,0,rfl,rfl,by omega,by omega,Bf _ _,by simp⟩
 case round=>
  obtain⟨k,s,rfl,rfl,hk,hsk,hb,her⟩:=hrel;have HB:=Hd hb;have HER:=Hd her;clear hb her;by_cases hlt:k<l.length
  ·obtain⟨ab,off,rfl,_,hab,hc⟩:=HVC.o (by omega);obtain⟨⟨cc,nn⟩,hx⟩:∃x,l[k]? =some x:=⟨_,Gg hlt⟩;obtain⟨x0,x1⟩:=hc k _ hx;dsimp only at x0 x1;have d0:=HB.o.ct hab x0;have d1:=HB.o.ct hab x1;have hcase:l.countP (λv=> !(v.1==80||v.1==76)&& !(mc&&v.1 !=71))=(if(!(cc==80||cc==76)&& !(mc&&cc !=71))=true then s+1 else s)+(l.drop (k+1)).countP (λv=> !(v.1==80||v.1==76)&& !(mc&&v.1 !=71)):=by
    rw[HER.o,cE hx,List.countP_cons];dsimp only;split<;>omega
   have HCS:=Hd hcase;clear hcase hc hx x0 x1;have fin:∀(z:Nat) (zi:Int) (o:Obj),zi=(z:Int)->(if(!(cc==80||cc==76)&& !(mc&&cc !=71))=true then s+1 else s)=z->z<=k+1->zlU w l mc (.int .i64 zi) (.int .i64 ((k:Int)+1)) (wr.alloc o):=λz zi o h0 h1 h2=>
    ⟨k+1,z,by rw[h0],by go_num,by omega,h2,HB.o.alloc HB.o.size _,by rw[HCS.o,h1]⟩
   have FIN:=Hd fin;clear fin;by_cases p1:cc=80
   ·have g1:(cc==80)=true:=by simpa using p1
    go_wp2_with fail;exact⟨FIN.o s _ _ rfl (by simp[g1]) (by omega),by simp only[intOf];omega⟩
   have g1:(cc==80)=false:=by simpa using p1
   by_cases p2:cc=76
   ·have g2:(cc==76)=true:=by simpa using p2
    go_wp2_with fail;exact⟨FIN.o s _ _ rfl (by simp[g1,g2]) (by omega),by simp only[intOf];omega⟩
   have g2:(cc==76)=false:=by simpa using p2
   rcases mc with _|_
   ·go_wp2_with fail;exact⟨FIN.o (s+1) _ _ (by omega) (by simp[g1,g2]) (by omega),by simp only[intOf];omega⟩
   ·by_cases p3:cc=71
    ·have g3:(cc==71)=true:=by simpa using p3
     have g4:(cc !=71)=false:=by simpa using p3
     go_wp2_with fail;exact⟨FIN.o (s+1) _ _ (by omega) (by simp[g1,g2,g4]) (by omega),by simp only[intOf];omega⟩
    ·have g3:(cc==71)=false:=by simpa using p3
     have g4:(cc !=71)=true:=by simpa using p3
     go_wp2_with fail;exact⟨FIN.o s _ _ rfl (by simp[g1,g2,g4]) (by omega),by simp only[intOf];omega⟩
  ·have hke:k=l.length:=by omega
   subst hke;have E1:Hid (zhS l mc=((s:Int)==1)):=by
    unfold Hid zhS;rw[HER.o,Dl,List.countP_nil,Nat.add_zero];rw[Bool.eq_iff_iff];simp;omega
   go_wp2_with fail;go_ret;rw[E1.o];exact⟨rfl,HB.o⟩
def Rz(w:World)(I:Nat->Prop):Tr->Value->Prop
 | .none_,_=>False
 | .mk op n k kid,v=>∃(A:OA) (c:Nat),v=.agg #[.int .i64 op,.int .i64 n,.slice A k c]/\I64 op/\I64 n/\k<=maxLen/\
  ((A=none/\k=0)\/∃g:Nat,A=some ⟨g,0,none⟩/\I g/\g<w.heap.size/\∀i,i<k->∃x y z:Value,w.cell? ⟨g,i*3,none⟩=some x/\w.cell? ⟨g,i*3+1,none⟩=some y/\w.cell? ⟨g,i*3+2,none⟩=some z/\Rz w I (kid i) (.agg #[x,y,z]))
theorem vG{w:World}{ab o:Nat}{v:Value}(h:w.cell? ⟨ab,o,none⟩=some v):ab<w.heap.size:=Nat.lt_of_not_le λhb=>by simp[World.cell?,Array.getElem?_eq_none hb]at h
theorem aB{w w':World}{g o:Nat}(h:w'.heap[g]? =w.heap[g]?):w'.cell? ⟨g,o,none⟩=w.cell? ⟨g,o,none⟩:=cekC g o h
theorem Rz.keep{w w':World}{I I':Nat->Prop}{t:Tr}(hs:w.heap.size<=w'.heap.size)(hI:∀g,g<w.heap.size->I g->I' g)(hk:∀g,g<w.heap.size->I g->w'.heap[g]? =w.heap[g]?):∀{v:Value},Rz w I t v->Rz w' I' t v:=by
 induction t with
 |none_=>intro v h;exact h.elim
 |mk op n k kid ih=>
  intro v ⟨A,c,h1,h2,h3,h4,h5⟩;refine⟨A,c,h1,h2,h3,h4,?_⟩;rcases h5 with h5|⟨g,e,hi,hl,hr⟩
  ·exact .inl h5
  refine .inr ⟨g,e,hI g hl hi,Lt hl hs,λi hi'=> ?_⟩;obtain⟨x,y,z,c1,c2,c3,c4⟩:=hr i hi';have e:=hk g hl hi;exact⟨x,y,z,(aB e).trans c1,(aB e).trans c2,(aB e).trans c3,ih i c4⟩
theorem Rz.below{w w':World}{I:Nat->Prop}{t:Tr}{v:Value}(h:Rz w I t v)(hb:Bw w w'):Rz w' I t v:=h.keep hb.size (λ_ _ h=>h) λg hg _=>hb.block g hg
theorem Rz.rd{w:World}{I:Nat->Prop}{t:Tr}:∀{v:Value},Rz w I t v->Rd w w.heap.size t v:=by
 induction t with
 |none_=>intro v h;exact h.elim
 |mk op n k kid ih=>
  intro v ⟨A,c,h1,h2,h3,h4,h5⟩;refine⟨A,c,h1,h2,h3,h4,λh=> ?_⟩;rcases h5 with⟨_,h5⟩|⟨g,e,hi,hl,hr⟩
  ·omega
  refine⟨g,0,e,hl,λi hi'=> ?_⟩;obtain⟨x,y,z,c1,c2,c3,c4⟩:=hr i hi';rw[Nat.zero_add];exact⟨x,y,z,c1,c2,c3,ih i c4⟩
theorem Rz.agg3{w:World}{I:Nat->Prop}{t:Tr}{v:Value}(h:Rz w I t v):∃x y z:Value,v=.agg #[x,y,z]/\x.oneCell'=true/\y.oneCell'=true/\z.oneCell'=true:=by
 cases t with
 |none_=>exact h.elim
 |mk op n k kid=>obtain⟨A,c,h1,_⟩:=h;exact⟨_,_,_,h1,rfl,rfl,rfl⟩
theorem Rz.form{w:World}{I:Nat->Prop}{t:Tr}{x y z:Value}(h:Rz w I t (.agg #[x,y,z])):∃(o n:Int) (A:OA) (k c:Nat),x=.int .i64 o/\y=.int .i64 n/\z=.slice A k c:=by
 cases t with
 |none_=>exact h.elim
 |mk op n k kid=>
  obtain⟨A,c,h1,_⟩:=h;simp only[Value.agg.injEq,Array.mk.injEq,List.cons.injEq,and_true]at h1;exact⟨op,n,A,k,c,h1.1,h1.2.1,h1.2.2⟩
def Wz(w:World)(I:Nat->Prop)(A:OA)(k:Nat)(ws:List (Int×Tr)):Prop:=
 k=ws.length/\k<=maxLen/\(∀x∈ws,I64 x.1)/\
  ((A=none/\k=0)\/∃g:Nat,A=some ⟨g,0,none⟩/\I g/\g<w.heap.size/\∀(i:Nat) (c:Int) (t:Tr),ws[i]? =some (c,t)->w.cell? ⟨g,i*4,none⟩=some (.int .i64 c)/\
   ∃x y z:Value,w.cell? ⟨g,i*4+1,none⟩=some x/\w.cell? ⟨g,i*4+2,none⟩=some y/\w.cell? ⟨g,i*4+3,none⟩=some z/\Rz w I t (.agg #[x,y,z]))
theorem Wz.keep{w w':World}{I I':Nat->Prop}{A:OA}{k:Nat}{ws:List (Int×Tr)}(hs:w.heap.size<=w'.heap.size)(hI:∀g,g<w.heap.size->I g->I' g)(hk:∀g,g<w.heap.size->I g->w'.heap[g]? =w.heap[g]?)(h:Wz w I A k ws):Wz w' I' A k ws:=by
 obtain⟨h1,h2,h3,h4⟩:=h;refine⟨h1,h2,h3,?_⟩;rcases h4 with h4|⟨g,e,hi,hl,hr⟩
 ·exact .inl h4
 refine .inr ⟨g,e,hI g hl hi,Lt hl hs,λi c t hx=> ?_⟩;obtain⟨c0,x,y,z,c1,c2,c3,c4⟩:=hr i c t hx;have e:=hk g hl hi;exact⟨(aB e).trans c0,x,y,z,(aB e).trans c1,(aB e).trans c2,(aB e).trans c3,c4.keep hs hI hk⟩
theorem Wz.rd{w:World}{I:Nat->Prop}{A:OA}{k:Nat}{ws:List (Int×Tr)}(h:Wz w I A k ws):RdW w w.heap.size A k ws:=by
 obtain⟨h1,h2,h3,h4⟩:=h;refine⟨h1,h2,h3,λhp=> ?_⟩;rcases h4 with⟨_,h4⟩|⟨g,e,hi,hl,hr⟩
 ·omega
 refine⟨g,0,e,hl,λi x hx=> ?_⟩;obtain⟨c,t⟩:=x;obtain⟨c0,x,y,z,c1,c2,c3,c4⟩:=hr i c t hx;rw[Nat.zero_add];exact⟨c0,x,y,z,c1,c2,c3,c4.rd⟩
structure Bz(w:World)(I:Nat->Prop)(b:Bk)(A:OA)(k:Nat)(l0 l1 l2 x0 x1 x2:Value):Prop where
 kind:I64 b.kind
 label:I64 b.label
 n:I64 b.n
 words:Wz w I A k b.words
 left:Rz w I b.left (.agg #[l0,l1,l2])
 x:Rz w I b.x (.agg #[x0,x1,x2])
theorem Bz.keep{w w':World}{I I':Nat->Prop}{b:Bk}{A:OA}{k:Nat}{l0 l1 l2 x0 x1 x2:Value}(hs:w.heap.size<=w'.heap.size)(hI:∀g,g<w.heap.size->I g->I' g)(hk:∀g,g<w.heap.size->I g->w'.heap[g]? =w.heap[g]?)(h:Bz w I b A k l0 l1 l2 x0 x1 x2):Bz w' I' b A k l0 l1 l2 x0 x1 x2:=
 ⟨h.kind,h.label,h.n,Wz.keep hs hI hk h.words,h.left.keep hs hI hk,h.x.keep hs hI hk⟩
def Kz(w:World)(I:Nat->Prop)(g o:Nat)(b:Bk):Prop:=
 ∃(A:OA) (k c:Nat) (l0 l1 l2 x0 x1 x2:Value),(∀(j:Nat) (v:Value),(zaW b A k c l0 l1 l2 x0 x1 x2)[j]? =some v->w.cell? ⟨g,o+j,none⟩=some v)/\Bz w I b A k l0 l1 l2 x0 x1 x2
theorem Kz.keep{w w':World}{I I':Nat->Prop}{g o:Nat}{b:Bk}(hs:w.heap.size<=w'.heap.size)(hI:∀g,g<w.heap.size->I g->I' g)(hk:∀g,g<w.heap.size->I g->w'.heap[g]? =w.heap[g]?)(hg:∀j,j<11->w'.cell? ⟨g,o+j,none⟩=w.cell? ⟨g,o+j,none⟩)(h:Kz w I g o b):Kz w' I' g o b:=by
 obtain⟨A,k,c,l0,l1,l2,x0,x1,x2,h1,h2⟩:=h;refine⟨A,k,c,l0,l1,l2,x0,x1,x2,λj v hj=> ?_,h2.keep hs hI hk⟩;have hl:j<11:=by
  have:=(Gu.1 hj).1;simpa[zaW]using this
 exact(hg j hl).trans (h1 j v hj)
theorem Kz.rd{w:World}{I:Nat->Prop}{g o:Nat}{b:Bk}(h:Kz w I g o b):RdK w w.heap.size g o b:=by
 obtain⟨A,k,c,l0,l1,l2,x0,x1,x2,h1,h2⟩:=h;exact⟨A,k,c,l0,l1,l2,x0,x1,x2,h1,h2.kind,h2.label,h2.n,h2.words.rd,h2.left.rd,h2.x.rd⟩
theorem Kz.cells{w:World}{I:Nat->Prop}{g o:Nat}{b:Bk}(h:Kz w I g o b):∃(A:OA) (k c:Nat) (l0 l1 l2 x0 x1 x2:Value),Bz w I b A k l0 l1 l2 x0 x1 x2/\
 w.cell? ⟨g,o,none⟩=some (.int .i64 b.kind)/\w.cell? ⟨g,o+1,none⟩=some (.int .i64 b.label)/\w.cell? ⟨g,o+2,none⟩=some (.bool b.skip)/\w.cell? ⟨g,o+3,none⟩=some (.slice A k c)/\
 w.cell? ⟨g,o+4,none⟩=some l0/\w.cell? ⟨g,o+5,none⟩=some l1/\w.cell? ⟨g,o+6,none⟩=some l2/\w.cell? ⟨g,o+7,none⟩=some x0/\w.cell? ⟨g,o+8,none⟩=some x1/\w.cell? ⟨g,o+9,none⟩=some x2/\w.cell? ⟨g,o+10,none⟩=some (.int .i64 b.n):=by
 obtain⟨A,k,c,l0,l1,l2,x0,x1,x2,hc,hr⟩:=h;exact⟨A,k,c,l0,l1,l2,x0,x1,x2,hr,hc 0 _ rfl,hc 1 _ rfl,hc 2 _ rfl,hc 3 _ rfl,hc 4 _ rfl,hc 5 _ rfl,hc 6 _ rfl,hc 7 _ rfl,hc 8 _ rfl,hc 9 _ rfl,hc 10 _ rfl⟩
def Lz(w:World)(I:Nat->Prop)(A:OA)(k:Nat)(l:List Bk):Prop:=
 k=l.length/\k<=maxLen/\((A=none/\k=0)\/∃g:Nat,A=some ⟨g,0,none⟩/\I g/\g<w.heap.size/\∀(i:Nat) (b:Bk),l[i]? =some b->Kz w (λj=>I j/\j≠g) g (i*11) b)
theorem Lz.keep{w w':World}{I I':Nat->Prop}{A:OA}{k:Nat}{l:List Bk}(hs:w.heap.size<=w'.heap.size)(hI:∀g,g<w.heap.size->I g->I' g)(hk:∀g,g<w.heap.size->I g->w'.heap[g]? =w.heap[g]?)(h:Lz w I A k l):Lz w' I' A k l:=by
 obtain⟨h1,h2,h4⟩:=h;refine⟨h1,h2,?_⟩;rcases h4 with h4|⟨g,e,hi,hl,hr⟩
 ·exact .inl h4
 refine .inr ⟨g,e,hI g hl hi,Lt hl hs,λi b hb=> ?_⟩;have e:=hk g hl hi;exact(hr i b hb).keep hs (λj hj q=>⟨hI j hj q.1,q.2⟩) (λj hj q=>hk j hj q.1) λj _=>aB e
theorem Lz.rd{w:World}{I:Nat->Prop}{A:OA}{k:Nat}{l:List Bk}(h:Lz w I A k l):RdL w w.heap.size A k l:=by
 obtain⟨h1,h2,h4⟩:=h;refine⟨h1,h2,λhp=> ?_⟩;rcases h4 with⟨_,h4⟩|⟨g,e,hi,hl,hr⟩
 ·omega
 refine⟨g,0,e,hl,λi b hb=> ?_⟩;rw[Nat.zero_add];exact(hr i b hb).rd
def zfW:Tr->Prop
 | .none_=>True
 | .mk _ _ k kid=>k<=1000/\∀i,i<k->zfW (kid i)
theorem tR{t:Tr}:∀{m:Nat},zaV m t=true->zfW t:=by
 induction t with
 |none_=>intro m h;trivial
 |mk op n k kid ih=>
  intro m h;rcases m with _|m
  ·cases h
  obtain⟨h1,h2,h3⟩:=cH h;have:=jV op;exact⟨by omega,λi hi=>ih i (h3 i hi)⟩
theorem qjP{t:Tr}(h:zcX t=true):zfW t:=by
 cases t with
 |none_=>trivial
 |mk op n k kid=>
  simp only[zcX,Ba1,beq_iff_eq]at h;obtain⟨_,rfl⟩:=h;exact⟨by omega,λi hi=>absurd hi (by omega)⟩
def zhG(b:Bk):Prop:=b.words.length<=1000/\zfW b.left/\zfW b.x/\∀x∈b.words,zfW x.2
theorem xE{need:Bool}{t:Tr}(h:zcK need t=true):zfW t:=by
 unfold zcK at h;split at h
 ·exact tR h
 ·exact qjP h
theorem sV{b:Bk}(h:zbA b=true):zhG b:=by
 have hw:=rH h;unfold zbA at h;simp only[Ba1,List.all_eq_true]at h;refine⟨by omega,xE h.1.1.2,xE h.1.2,λx hx=> ?_⟩;have:=h.1.1.1.2 x hx;unfold zeR at this;simp only[Ba1]at this;exact tR this.2
theorem qgF(bs:List Bk):∀b∈(zbN bs).1.bl,zhG b:=by
 unfold zbN;split
 ·intro b hb;simp[noL]at hb
 ·split
  ·intro b hb;simp[noL]at hb
  ·rename_i hbad;unfold ziF;split
   ·intro b hb;simp[noL]at hb
   ·split
    ·intro b hb;simp[noL]at hb
    ·intro b hb;exact sV (pW bs 0 hbad b hb)
def set3(w:World)(g o:Nat)(x y z:Value):World:=((w.setCell ⟨g,o,none⟩ x).setCell ⟨g,o+1,none⟩ y).setCell ⟨g,o+2,none⟩ z
theorem bJ(w:World)(g o:Nat)(x y z:Value):(set3 w g o x y z).heap.size=w.heap.size:=by simp[set3,World.setCell]
theorem aL(w:World)(g o j:Nat)(x y z:Value)(h:j≠g):(set3 w g o x y z).heap[j]? =w.heap[j]? :=
 (Bj _ _ _ j h).trans ((Bj _ _ _ j h).trans (Bj _ _ _ j h))
theorem bP{w:World}{g i j:Nat}{v:Value}(h:i≠j):(w.setCell ⟨g,i,none⟩ v).cell? ⟨g,j,none⟩=w.cell? ⟨g,j,none⟩:=
 World.cell?_setCell_other _ _ _ _ (λe=>h (by injection e))
theorem cS(w:World)(g o j:Nat)(x y z:Value)(h:j<o\/o+3<=j):(set3 w g o x y z).cell? ⟨g,j,none⟩=w.cell? ⟨g,j,none⟩:=
 (bP (by omega)).trans ((bP (by omega)).trans (bP (by omega)))
theorem rU{w:World}{g o:Nat}{x y z a b c:Value}(h0:w.cell? ⟨g,o,none⟩=some a)(h1:w.cell? ⟨g,o+1,none⟩=some b)(h2:w.cell? ⟨g,o+2,none⟩=some c):
 (set3 w g o x y z).cell? ⟨g,o,none⟩=some x/\(set3 w g o x y z).cell? ⟨g,o+1,none⟩=some y/\(set3 w g o x y z).cell? ⟨g,o+2,none⟩=some z:=by
 refine⟨(bP (by omega)).trans ((bP (by omega)).trans (World.cell?_setCell_same _ _ _ h0)),(bP (by omega)).trans (World.cell?_setCell_same _ _ _ ((bP (by omega)).trans h1)),World.cell?_setCell_same _ _ _ ((bP (by omega)).trans ((bP (by omega)).trans h2))⟩
theorem oN{w:World}{g o:Nat}{v:Value}{cs:Array Value}{T:TypeId}(h:w.heap[g]? =some (.cells cs T (0,0))):∃cs',(w.setCell ⟨g,o,none⟩ v).heap[g]? =some (.cells cs' T (0,0))/\cs'.size=cs.size:=by
 refine⟨cs.setIfInBounds o v,?_,by simp⟩;simp[World.setCell,Array.getElem?_modify,h]
theorem oP{w:World}{g o:Nat}{x y z:Value}{cs:Array Value}{T:TypeId}(h:w.heap[g]? =some (.cells cs T (0,0))):∃cs',(set3 w g o x y z).heap[g]? =some (.cells cs' T (0,0))/\cs'.size=cs.size:=by
 obtain⟨c1,h1,e1⟩:=oN (o:=o) (v:=x) h;obtain⟨c2,h2,e2⟩:=oN (o:=o+1) (v:=y) h1;obtain⟨c3,h3,e3⟩:=oN (o:=o+2) (v:=z) h2;exact⟨c3,h3,by rw[e3,e2,e1]⟩
theorem cL{w:World}{g:Nat}{T:TypeId}{x0 x1 x2 x y z:Value}(h:w.heap[g]? =some (.cells #[x0,x1,x2] T (0,0))):
 (((w.setCell ⟨g,0,none⟩ x).setCell ⟨g,1,none⟩ y).setCell ⟨g,2,none⟩ z).heap[g]? =some (.cells #[x,y,z] T (0,0)):=by
 have h1:(w.setCell ⟨g,0,none⟩ x).heap[g]? =some (.cells #[x,x1,x2] T (0,0)):=by simp[World.setCell,Array.getElem?_modify,h]
 have h2:((w.setCell ⟨g,0,none⟩ x).setCell ⟨g,1,none⟩ y).heap[g]? =some (.cells #[x,y,x2] T (0,0)):=by
  generalize w.setCell ⟨g,0,none⟩ x=w1 at h1;simp[World.setCell,Array.getElem?_modify,h1]
 generalize(w.setCell ⟨g,0,none⟩ x).setCell ⟨g,1,none⟩ y=w2 at h2;simp[World.setCell,Array.getElem?_modify,h2]
theorem aQ{B:Nat}{w w':World}(h:Below B w w'){g:Nat}(hg:B<=g)(o:Nat)(x y z:Value):Below B w (set3 w' g o x y z):=
 ((h.setCell (p:=⟨g,o,none⟩) hg x).setCell (p:=⟨g,o+1,none⟩) hg y).setCell (p:=⟨g,o+2,none⟩) hg z
