/- The contract. -/
import Derived.Test.YtdcjbhdfphcefaaGreatDoorJm
import Derived.Test.YtdcjbhdfphcefaaGreatDoorCn
namespace Go.Proofs.YtdcjbhdfphcefaaGreatDoor
set_option linter.all false
set_option maxRecDepth 100000
set_option maxHeartbeats 4000000
open Go.Proofs.Tryz
open Go.RowKit
def zdS(l:LI):LV:=l.flatMap λx=>[.int .i64 x.1,.int .i64 x.2]
theorem qK(l:LI)(x:Int×Int):zdS (l++[x])=zdS l++[.int .i64 x.1,.int .i64 x.2]:=by simp[zdS]
theorem qnZ{l:LI}{i:Nat}{x:Int×Int}(h:l[i]? =some x):(zdS l)[i*2]? =some (.int .i64 x.1)/\(zdS l)[i*2+1]? =some (.int .i64 x.2):=by
 induction l generalizing i with
 |nil=>simp at h
 |cons y r ih=>
  have e:zdS (y::r)=.int .i64 y.1::.int .i64 y.2::zdS r:=rfl;rw[e];rcases i with _|i
  ·simp at h;subst h;exact⟨rfl,rfl⟩
  ·simp at h;have:=ih h;rw[show(i+1)*2=i*2+1+1 by omega,show i*2+1+1+1=(i*2+1)+1+1 by omega];simpa using this
def Vi(l:LI):Prop:=∀x∈l,(-9223372036854775808<=x.1/\x.1<=9223372036854775807)/\(-9223372036854775808<=x.2/\x.2<=9223372036854775807)
theorem oR{w:World}{base:Nat}{C:OA}{n cap:Nat}{l:LI}(h:w.ownsRow base 59 2 (.slice C n cap) n (zdS l))(hl:n=l.length)(hv:Vi l):RdV w (λg=>base<=g) C n l:=by
 subst hl;rcases h.2 with⟨_,e⟩|⟨g,c,cur,e1,e2,e3,e4,e5,e6,e7⟩
 ·exact⟨rfl,by omega,hv,λh0=>by omega⟩
 ·simp only[Vs,true_and]at e1;obtain⟨rfl,rfl⟩:=e1;refine⟨rfl,by omega,hv,λ_=>⟨g,0,rfl,e2,hlS e3,λi x hx=> ?_⟩⟩;have hi:i<l.length:=(Gu.1 hx).1;obtain⟨p0,p1⟩:=qnZ hx;rw[<-e7,Gt,Ip (by omega)]at p0 p1;rw[Ro w g _ _ _ _ e3,Ro w g _ _ _ _ e3];exact⟨by rw[Nat.zero_add];simpa using p0,by rw[Nat.zero_add];simpa using p1⟩
theorem qqJ:(Tryz.prog.info? 59).bind (λi=>i.zero.map λz=>(i.size,i.bytes,z.cells.size))=some (2,16,2):=by kernel_rfl
theorem oD:∃(i:TypeInfo) (z:Value),Tryz.prog.info? 59=some i/\i.zero=some z/\i.size=2/\i.bytes=16/\z.cells.size=2:=by
 have h:=qqJ;rcases hi:Tryz.prog.info? 59 with _|i
 ·rw[hi]at h;cases h
 rw[hi]at h;rcases hz:i.zero with _|z
 ·simp only[Ob,hz,On]at h;cases h
 simp only[Ob,hz,Om,Oi,Pj]at h;exact⟨i,z,rfl,hz,h.1,h.2.1,h.2.2⟩
theorem yD(w:World)(a b:Value)(t:TypeId):∀j u,([a,b]:LV)[j]? =some u->(w.alloc (.cells #[a,b] t)).cell? ((⟨w.heap.size,0,none⟩:Addr).add j)=some u:=
 Nk (cs:= #[a,b]) (Hn w (.cells #[a,b] t))
theorem qjL{w:World}{base:Nat}{e:TypeId}{s:Nat}{A:OA}{c n m:Nat}{xs ys:LV}(h:w.ownsRow base e s (.slice A n c) n xs)(h1:n=m)(h2:xs=ys):w.ownsRow base e s (.slice A m c) m ys:=by subst h1 h2;exact h
theorem qbA(w:World)(o:Obj)(a b:Value)(t:TypeId):∀j u,([a,b]:LV)[j]? =some u->((w.alloc o).alloc (.cells #[a,b] t)).cell? ((⟨w.heap.size+1,0,none⟩:Addr).add j)=some u:=by
 have:=yD (w.alloc o) a b t;simpa using this
theorem zkU(k k':IntKind)(a b:Int):∀u∈([.int k a,.int k' b]:LV),u.oneCell'=true:=by
 intro u hu;simp at hu;rcases hu with rfl|rfl<;>rfl
theorem MX.open{w w':World}{B:Nat}{F:Fp}{L:Lb}{sk:Bool}{m:MS}{g cap cp:Nat}{A:OA}{c:Cl}{AC:OA}{capc:Nat}{xs:LV}(h:MX w B F L sk m)(h6:w.cell? ⟨F.mb,6,none⟩=some (.slice AC m.calls.length capc))(hxs:∀ys,w.ownsRow B 102 6 (.slice AC m.calls.length capc) m.calls.length ys->ys=xs)
 (ho:w'.ownsRow B 102 6 (.slice (some ⟨g,0,none⟩) (m.calls.length+1) cap) (m.calls.length+1) (xs++zcW c A cp)) (hg:w.grownBy w' (Value.slice AC m.calls.length capc).ownBlock) (hg2:(Value.slice AC m.calls.length capc).ownBlock=some g\/g=w.heap.size)
 (hv:RdV w F.far A c.args.length c.args) (hb:I64 c.back) (hl:I64 c.left) (hfew:m.calls.length<8) (hc:c.prog<L.pr.length/\c.caller<L.pr.length/\0<=c.left):
 Mv w F {F with ac:=some g}/\MX (w'.setCell ⟨F.mb,6,none⟩ (.slice (some ⟨g,0,none⟩) (m.calls.length+1) cap)) B {F with ac:=some g} L sk {m with calls:=m.calls++[c]}:=by
 have hge:=h.mb_ge;have hlt:=h.lt;have hslt:=h.sto.lt;have hn1:=h.ne1;have hn2:=h.ne2;have hown:=h.own_ge;obtain⟨A1,A2,A3,AC',c1,c2,c3,capc',xs',hbk,hL,ho',hf,ha,hr⟩:=h.ex;have e6:some (Value.slice AC' m.calls.length capc')=some (.slice AC m.calls.length capc):=((Ro w F.mb 6 _ _ _ hbk).symm.trans h6);simp only[Oi,Vs,true_and]at e6;obtain⟨rfl,rfl⟩:=e6;obtain rfl:=hxs _ ho';have hrow:(Value.slice AC' m.calls.length capc').ownBlock=F.ac:=by
  rw[<-ha];rcases AC' with _|a<;>rfl
 rw[hrow]at hg hg2;have hgm:g≠F.mb/\g≠F.sb/\g≠F.lb:=by
  rcases hg2 with e|e
  ·exact hf g e
  ·omega
 have ks:∀j,j<w.heap.size->F.ac≠some j->w'.heap[j]? =w.heap[j]? :=λj hj hne=>hg.block j hj (λe=>hne e.symm);have kw:∀j,j<w.heap.size->j≠F.mb->F.ac≠some j->(w'.setCell ⟨F.mb,6,none⟩ (.slice (some ⟨g,0,none⟩) (m.calls.length+1) cap)).heap[j]? =w.heap[j]? :=λj hj h1 h2=>(Bj _ _ _ j h1).trans (ks j hj h2);have kl:∀j,j<B->(w'.setCell ⟨F.mb,6,none⟩ (.slice (some ⟨g,0,none⟩) (m.calls.length+1) cap)).heap[j]? =w.heap[j]? :=λj hj=>kw j (by omega) (by omega) λe=>by have:=(hown j (.inr (.inr (.inr e)))).1;omega
 obtain⟨t1,t2,t3⟩:=h.tab;obtain⟨n1,n2,n3⟩:=h.tn;have hsz:w.heap.size<=(w'.setCell ⟨F.mb,6,none⟩ (.slice (some ⟨g,0,none⟩) (m.calls.length+1) cap)).heap.size:=by have:=hg.size;simpa[World.setCell]using this
 have k2:=kw F.sb hslt.1 (λe=>hn1 e.symm) λe=>(hf _ e).2.1 rfl;have k3:=kw F.lb hslt.2 (λe=>hn2 e.symm) λe=>(hf _ e).2.2 rfl;have hfar:∀j,j<w.heap.size->F.far j->{F with ac:=some g}.far j:=λj hj hI=>⟨λk=>by
  rcases k with e|e|e|e
  ·exact hI.1 (.inl e)
  ·exact hI.1 (.inr (.inl e))
  ·exact hI.1 (.inr (.inr (.inl e)))
  ·rcases hg2 with q|q
   ·exact hI.1 (.inr (.inr (.inr (q.trans e))))
   ·simp at e;omega,hI.2⟩
 have hkI:∀j,j<w.heap.size->F.far j->(w'.setCell ⟨F.mb,6,none⟩ (.slice (some ⟨g,0,none⟩) (m.calls.length+1) cap)).heap[j]? =w.heap[j]? :=λj hj hI=>kw j hj (λe=>hI.1 (.inl e)) λe=>hI.1 (.inr (.inr (.inr e)));refine⟨⟨rfl,rfl,rfl,.inl rfl,?_⟩,⟨h.mb_ge,h.sb_ge,h.lb_ge,h.ne1,h.ne2,λx hx=>Lt (h.av x hx) hsz,⟨t1,t2,(kl _ h.tabB).trans t3⟩,h.tabB,⟨n1,n2,(kl _ h.tnB).trans n3⟩,h.tnB,h.fine,h.sto.keep k2 k3,h.vf,h.pos,h.prog,h.steps,h.err,by rw[La,List.length_singleton];omega,λd hd=> ?_,
  A1,A2,A3,some ⟨g,0,none⟩,c1,c2,c3,cap,xs'++zcW c A cp,?_,hL.keep (λp hp=>Wb (kl p.block hp)) (Le _),?_,λj hj=> ?_,rfl,?_⟩⟩
 ·rcases hg2 with e|e
  ·exact .inl e.symm
  ·exact .inr ⟨g,rfl,by omega⟩
 ·rcases Ma.1 hd with q|q
  ·exact h.calls d q
  ·rw[Mt.1 q];exact hc
 ·have hb':w'.heap[F.mb]? =some (.cells ⟨zdG A1 A2 A3 AC' c1 c2 c3 capc' F.sb L sk m⟩ 81 (0,0)):=(ks F.mb hlt λe=>(hf _ e).1 rfl).trans hbk;have:=aD (i:=6) (u:=.slice (some ⟨g,0,none⟩) (m.calls.length+1) cap) hb';rw[this];simp[zdG]
 ·have:=aC (w':=w'.setCell ⟨F.mb,6,none⟩ (.slice (some ⟨g,0,none⟩) (m.calls.length+1) cap)) ho λj hj hv=>Bj _ _ _ j (by
   simp[Value.ownBlock]at hv
   show j≠F.mb
   rw[<-hv];exact hgm.1)
  rw[La,List.length_singleton];exact this
 ·simp at hj;subst hj;exact hgm
 ·intro i d hd;have hxl:xs'.length=m.calls.length*6:=ho'.1;by_cases hi:i<m.calls.length
  ·rw[Gc hi]at hd;obtain⟨a1,a2,A',cp',a3,a4⟩:=hr i d hd;refine⟨a1,a2,A',cp',a3.keep hsz hfar hkI,λj v hv=> ?_⟩;have q:=a4 j v hv;rw[Gc ((Gu.1 q).1)];exact q
  ·rw[Ga (by omega)]at hd;have hi0:i-m.calls.length=0:=by
    have:=(Gu.1 hd).1;simp at this;omega
   rw[hi0]at hd;simp at hd;subst hd;refine⟨hb,hl,A,cp,hv.keep hsz hfar hkI,λj v hv=> ?_⟩;rw[Ga (by omega),show i*6+j-xs'.length=j by omega];exact hv
theorem qhV(L:Lb)(n:Int):(zdO L n).2=true->0<=(zdO L n).1/\(zdO L n).1.toNat<L.pr.length:=by
 have key:∀(l:List Pg) (i:Nat),(zbM n l i).2=true->0<=(zbM n l i).1/\(zbM n l i).1.toNat<i+l.length:=by
  intro l;induction l with
  |nil=>intro i h;simp[zbM]at h
  |cons p r ih=>
   intro i h;rw[zbM]at h⊢
   split
   ·simp
   ·rename_i hn;rw[Iq hn]at h;have:=ih (i+1) h;rw[Lc];omega
 intro h;have:=key L.pr 0 h;unfold zdO;omega
theorem kW(c:Cl)(A:OA)(cp:Nat):∀u∈zcW c A cp,u.oneCell'=true:=by
 intro u hu;simp[zcW]at hu;rcases hu with rfl|rfl|rfl|rfl|rfl|rfl<;>rfl
theorem dM{w:World}{g i j:Nat}{v:Value}(h:j≠i):(w.setCell ⟨g,i,none⟩ v).cell? ⟨g,j,none⟩=w.cell? ⟨g,j,none⟩:=by
 rcases hb:w.heap[g]? with _|o
 ·simp[World.cell?,World.setCell,Array.getElem?_modify,hb]
 ·rcases o with⟨cs,t,fr⟩|_
  all_goals simp[World.cell?,World.setCell,Array.getElem?_modify,hb]
  try(rw[Ah,Iq (λe=>h e.symm)])
theorem MX.row_ne{w:World}{B:Nat}{F:Fp}{L:Lb}{sk:Bool}{m:MS}(h:MX w B F L sk m){AC:OA}{n c:Nat}(ha:AC.map (·.block)=F.ac):some F.mb≠(Value.slice AC n c).ownBlock:=by
 obtain⟨_,_,_,_,_,_,_,_,_,_,_,_,hf,_⟩:=h.ex;intro e;have:F.ac=some F.mb:=by
  rw[<-ha];rcases AC with _|a
  ·simp[Value.ownBlock]at e
  ·simpa[Value.ownBlock]using e.symm
 exact(hf _ this).1 rfl
theorem jK{w:World}{b b':Nat}{e e':TypeId}{s n:Nat}{v:Value}{xs ys:LV}(h:w.ownsRow b e s v n xs)(k:w.ownsRow b' e' s v n ys):xs=ys:=by
 have h1:=h.1;have k1:=k.1;rcases h.2 with⟨e1,e2⟩|⟨g,cap,cur,a1,a2,a3,a4,a5,a6,a7⟩
 ·subst e2;have hx:=Ez (show xs.length=0 by simpa using h1);have hy:=Ez (show ys.length=0 by simpa using k1);rw[hx,hy]
 ·rcases k.2 with⟨e1,e2⟩|⟨g',cap',cur',b1,b2,b3,b4,b5,b6,b7⟩
  ·subst e2;have hx:=Ez (show xs.length=0 by simpa using h1);have hy:=Ez (show ys.length=0 by simpa using k1);rw[hx,hy]
  ·rw[a1]at b1;simp only[Vs,Oi,Addr.mk.injEq,true_and,and_true]at b1;obtain⟨rfl,rfl⟩:=b1;rw[a3]at b3;simp only[Oi,Obj.cells.injEq]at b3;rw[<-a7,<-b7,b3.1]
theorem own_row{F:Fp}{AC:OA}{n c j:Nat}(ha:AC.map (·.block)=F.ac)(e:some j=(Value.slice AC n c).ownBlock):F.own j:=by
 refine .inr (.inr (.inr ?_));rw[<-ha];rcases AC with _|a
 ·simp[Value.ownBlock]at e
 ·simpa[Value.ownBlock]using e.symm
theorem Mv.of_size{w w':World}{F F':Fp}(h:Mv w F F')(hs:w'.heap.size<=w.heap.size):Mv w' F F':=(Mv.refl w' F).trans h hs
theorem MP.trans2{B:Nat}{F F1:Fp}{L:Lb}{sk:Bool}{m2:MS}{w w1 w2:World}(hm:Mv w F F1)(hc:Chg F.own w w1)(k:MP B F1 L sk m2 w1 w2):MP B F L sk m2 w w2:=by
 obtain⟨F2,b1,b2,b3⟩:=k;exact⟨F2,hm.trans b1 hc.size,b2,⟨b3.os.trans hc.os,b3.tape.trans hc.tape,b3.output.trans hc.output,Ly hc.size b3.size,λg hg ho=>(b3.block g (Lt hg hc.size) λk=>ho (hm.own g hg k)).trans (hc.block g hg ho)⟩⟩
def zoN(w:World)(l:LI)(av nv tv nn rv iv:Value)(W:World):Prop:=
 ∃(k cap:Nat) (C:OA),k<=l.length/\iv=.int .i64 (k:Int)/\av=.slice C (enS (l.take k)).args.length cap/\nv=.int .i64 (enS (l.take k)).number/\tv=.int .i64 (enS (l.take k)).times/\nn=.int .i64 (enS (l.take k)).numbers/\rv=.int .i64 (enS (l.take k)).repeats/\
  W.ownsRow w.heap.size 59 2 (.slice C (enS (l.take k)).args.length cap) (enS (l.take k)).args.length (zdS (enS (l.take k)).args)/\Bw w W
theorem qrL{l:LI}{k:Nat}{x:Int×Int}(h:l[k]? =some x):enS (l.take (k+1))=en1 (enS (l.take k)) x:=by
 unfold enS;rw[Ta,h];simp
theorem qzV:∀(l:LI) (s:En),0<=s.numbers/\0<=s.repeats->0<=(l.foldl en1 s).numbers/\(l.foldl en1 s).numbers<=s.numbers+l.length/\0<=(l.foldl en1 s).repeats/\(l.foldl en1 s).repeats<=s.repeats+l.length/\(l.foldl en1 s).args.length<=s.args.length+l.length:=by
 intro l;induction l with
 |nil=>intro s h;simp;omega
 |cons x r ih=>
  intro s h;rw[List.foldl_cons,Lc];have key:0<=(en1 s x).numbers/\(en1 s x).numbers<=s.numbers+1/\0<=(en1 s x).repeats/\(en1 s x).repeats<=s.repeats+1/\(en1 s x).args.length<=s.args.length+1:=by
   unfold en1
   repeat' split
   all_goals try dsimp only
   all_goals try rw[La,List.length_singleton]
   all_goals omega
  have:=ih (en1 s x) ⟨key.1,key.2.2.1⟩;omega
theorem qvK(l:LI):0<=(enS l).numbers/\(enS l).numbers<=l.length/\0<=(enS l).repeats/\(enS l).repeats<=l.length/\(enS l).args.length<=l.length:=by
 have:=qzV l ⟨0,1000000,0,0,[]⟩ ⟨Int.le_refl _,Int.le_refl _⟩;unfold enS;simpa using this
theorem qzU:∀(l:LI) (s:En),Vi l->Vi s.args->Vi (l.foldl en1 s).args:=by
 intro l;induction l with
 |nil=>intro s _ h;exact h
 |cons x r ih=>
  intro s h h2;rw[List.foldl_cons];refine ih _ (λy hy=>h y (Mm _ hy)) ?_;unfold en1;split
  ·exact h2
  split
  ·exact h2
  split
  ·exact h2
  ·intro y hy;rcases Ma.1 hy with q|q
   ·exact h2 y q
   ·rw[Mt.1 q];exact h x Mu
def zeI(B:Nat)(F:Fp)(L:Lb)(sk:Bool)(m:MS)(l:LI)(mc:Bool)(w:World)(e:Ending)(w':World):Prop:=
 e=.returned (.int .i64 (zbH L m l mc))/\MP B F L sk (zcV L m l mc) w w'
theorem zeI.no{B:Nat}{F:Fp}{L:Lb}{sk:Bool}{m:MS}{l:LI}{mc:Bool}{w w':World}{er:Int}(h:MX w B F L sk m)(hb:Bw w w')(he:zbH L m l mc=er)(h0:er≠0):zeI B F L sk m l mc w (.returned (.int .i64 er)) w':=
 ⟨by rw[he],by unfold zcV;rw[he,Ip h0];exact MP.below h hb⟩
theorem qkU(w:World)(B:Nat)(F:Fp)(L:Lb)(sk:Bool)(m:MS)(I:Nat->Prop)(A:OA)(n c:Nat)(l:LI)(mc:Bool)(h:MX w B F L sk m)(hv:RdV w I A n l)(hp:0<=m.pos/\m.pos<=1000000)(hlen:l.length<=1000):
 Calls Tryz.prog 96 #[.pointer (some ⟨F.mb,0,none⟩),.slice A n c,.bool mc] w (zeI B F L sk m l mc w):=by
 obtain⟨i0,z0,hi,hz0,hz1,hz2,hzs⟩:=oD;have HX:=Hd h;have HVV:=Hd hv;have HFT:=Hd (qqY w I A n c l mc hv);obtain⟨hn1,hn2,hvb,hvc⟩:=hv;have HVB:Hid (Vi l):=hvb;have HVC:=Hd hvc;have hnl:=hn2;unfold maxLen at hnl;clear h hvb hvc;subst hn1;rcases hft:zhS l mc with _|_
 ·have EJ:Hid (zbH L m l mc=8):=by unfold Hid zbH;rw[Ip hft]
  rw[hft]at HFT;clear hft;go_enter func96,ntmps96;go_wp2_with(go_at_call 126;refine HFT.o.mono ?_;rintro e w1 ⟨rfl,hb1⟩;have HB1:=Hd hb1;clear hb1);go_ret;exact zeI.no HX.o HB1.o EJ.o (by decide)
 rw[hft]at HFT;have HFIT:=Hd hft;clear hft;have HI:=Hd hi;go_enter func96,ntmps96;go_wp2_with(go_at_call 126;refine HFT.o.mono ?_;rintro e w1 ⟨rfl,hb1⟩;have HB1:=Hd hb1;clear hb1);go_loopw[7,8,9,10,11,27] (zoN w l) (λ_ _ _ _ _ i _=>l.length-(intOf i).toNat)
 case atStart=>exact⟨0,0,none,Lq _,rfl,rfl,rfl,rfl,rfl,rfl,World.ownsRow_nil _ _ _ _,HB1.o⟩
 case round=>
  obtain⟨k,cap,C,hk,rfl,rfl,rfl,rfl,rfl,rfl,hown,hnx⟩:=hrel;have hsize:=hnx.size;have hnum:=qvK (l.take k);have htk:(l.take k).length<=k:=by rw[Lr];omega
  by_cases hlt:k<l.length
  ·obtain⟨ab,off,rfl,_,hab,hc⟩:=HVC.o (by omega);obtain⟨⟨cc,nn⟩,hx⟩:∃x,l[k]? =some x:=⟨_,Gg hlt⟩;obtain⟨x0,x1⟩:=hc k _ hx;dsimp only at x0 x1;have d0:=hnx.ct hab x0;have d1:=hnx.ct hab x1;have HST:=Hd (qrL hx);clear hc hx x0 x1;generalize enS (l.take k)=s at*
   obtain⟨number,times,numbers,repeats,args⟩:=s;dsimp only at*
   have HN:=Hd hnx;have HO:=Hd hown;clear hnx hown;by_cases p1:cc=80
   ·subst p1;have E1:Hid (enS (l.take (k+1))=⟨nn,times,numbers+1,repeats,args⟩):=by unfold Hid;rw[HST.o];rfl
    go_wp2_with fail;exact⟨⟨k+1,cap,C,by omega,by go_num,by rw[E1.o],by rw[E1.o],by rw[E1.o],by rw[E1.o];try go_num,by rw[E1.o],by rw[E1.o];exact HO.o.alloc _,HN.o.alloc (by omega) _⟩,by simp only[intOf];omega⟩
   have g1:(cc==80)=false:=by simpa using p1
   by_cases p2:cc=76
   ·subst p2;have E1:Hid (enS (l.take (k+1))=⟨number,nn,numbers,repeats+1,args⟩):=by unfold Hid;rw[HST.o];rfl
    go_wp2_with fail;exact⟨⟨k+1,cap,C,by omega,by go_num,by rw[E1.o],by rw[E1.o],by rw[E1.o],by rw[E1.o],by rw[E1.o];try go_num,by rw[E1.o];exact HO.o.alloc _,HN.o.alloc (by omega) _⟩,by simp only[intOf];omega⟩
   have g2:(cc==76)=false:=by simpa using p2
   by_cases p3:cc=71
   ·subst p3;have E1:Hid (enS (l.take (k+1))=⟨number,times,numbers,repeats,args⟩):=by unfold Hid;rw[HST.o];rfl
    go_wp2_with fail;exact⟨⟨k+1,cap,C,by omega,by go_num,by rw[E1.o],by rw[E1.o],by rw[E1.o],by rw[E1.o],by rw[E1.o],by rw[E1.o];exact HO.o.alloc _,HN.o.alloc (by omega) _⟩,by simp only[intOf];omega⟩
   have g3:(cc==71)=false:=by simpa using p3
   have E1:Hid (enS (l.take (k+1))=⟨number,times,numbers,repeats,args++[(cc,nn)]⟩):=by
    unfold Hid;rw[HST.o];unfold en1;dsimp only;rw[Iq p1,Iq p2,Iq p3]
   clear p1 p2 p3;have hal:args.length<=k:=by omega
   go_wp2_with(first|(at_builtin;refine wpList_append_lies _ rfl (.tmp 33) (.tmp 35) 38 rfl w.heap.size 59 i0 z0 2 16 underlying38 HI.o hz0 hz1 hz2 hzs (by omega) (.slice C args.length cap) args.length (zdS args) rfl ((HO.o.alloc _).alloc _) ⟨wr.heap.size+1,0,none⟩ 1 1 [.int .i64 cc,.int .i64 nn] rfl rfl (qbA _ _ _ _ _) (zkU _ _ _ _) (by omega) (by unfold maxLen;omega) (by omega) (by simp;omega) _ rfl ?_;intro g9 c9 w9 ho9 hg9 _ _));exact⟨⟨k+1,c9,some ⟨g9,0,none⟩,by omega,by go_num,by rw[E1.o];simp,by rw[E1.o],by rw[E1.o],by rw[E1.o],by rw[E1.o],by rw[E1.o];exact qjL ho9 (by simp) (by simp[zdS]),(((HN.o.alloc (by omega) _).alloc (by simp;omega) _).grown hg9 (by simp;omega) (λj hj=>(HO.o.lt j hj).1))⟩,by simp only[intOf];omega⟩
  ·have hke:k=l.length:=by omega
   subst hke;rw[Tm]at hown hnum;rw[Tm];have HENS0:Hid (enS l=enS l):=rfl;have HVI:Hid (Vi (enS l).args):=qzU l _ HVB.o (by intro x hx;cases hx);generalize hens:enS l=s at*
   have HENS:Hid (s=enS l):=hens.symm;clear hens HENS0;obtain⟨number,times,numbers,repeats,args⟩:=s;dsimp only at*
   have HB:=Hd hnx;have HO:=Hd hown;clear hnx hown;obtain⟨A1,A2,A3,AC,c1,c2,c3,capc,xs,⟨d0,d1,d2,_,d4,d5,d6,d7,_,_,_⟩,hL,_,_,_,hfr⟩:=HX.o.cells;have hmb:=HX.o.lt;have HL:=Hd hL;have HFD:Hid (∀W:World,Bw w W->Calls Tryz.prog 127 #[.agg #[.slice A1 L.bl.length c1,.slice A2 L.pr.length c2,.slice A3 L.mt.length c3],.int .i64 (zaY number).1] W λe w'=>e=.returned (.tuple #[.int .i64 (zdO L (zaY number).1).1,.bool (zdO L (zaY number).1).2])/\Bw W w'):=
    λW hW=>qqZ W B L A1 A2 A3 _ c1 _ c2 _ c3 _ (HL.o.below (hW.mono HX.o.Ble)) (Ly HX.o.Ble hW.size)
   have HDP:Hid (∀W:World,Bw w W->Calls Tryz.prog 20 #[.pointer (some ⟨F.mb,0,none⟩)] W λe w'=>e=.returned (.int .i64 (m.calls.length:Nat))/\W=w'):=
    λW hW=>xW W B F L sk m (HX.o.below hW)
   have e0:=HB.o.ct hmb d0;have e1:=HB.o.ct hmb d1;have e2:=HB.o.ct hmb d2;have D7:=Hd d7;have HFR:=Hd hfr;clear d0 d1 d2 d4 d5 d6 d7 hL hfr;by_cases c1':1<numbers
   ·have g1:decide (numbers>1)=true:=Dt c1';have EJ:Hid (zbH L m l mc=7):=by unfold Hid zbH;rw[HFIT.o,<-HENS.o];dsimp only;rw[Iq (by decide),Ip (.inl c1')]
    go_wp2_with fail;go_ret;exact zeI.no HX.o HB.o EJ.o (by decide)
   have g1:decide (numbers>1)=false:=Df c1';by_cases c2':1<repeats
   ·have g2:decide (repeats>1)=true:=Dt c2';have EJ:Hid (zbH L m l mc=7):=by unfold Hid zbH;rw[HFIT.o,<-HENS.o];dsimp only;rw[Iq (by decide),Ip (.inr c2')]
    go_wp2_with fail;go_ret;exact zeI.no HX.o HB.o EJ.o (by decide)
   have g2:decide (repeats>1)=false:=Df c2';by_cases c3':numbers=0
   ·have g3:(numbers==0)=true:=by simpa using c3'
    have EJ:Hid (zbH L m l mc=9):=by unfold Hid zbH;rw[HFIT.o,<-HENS.o];dsimp only;rw[Iq (by decide),Iq (by omega),Ip c3']
    go_wp2_with fail;go_ret;exact zeI.no HX.o HB.o EJ.o (by decide)
   have g3:(numbers==0)=false:=by simpa using c3'
   have EJ0:Hid (zbH L m l mc=if(zaY number).2=false\/(zdO L (zaY number).1).2=false then 6
    else if(zaY times).2=false\/(zaY times).1<1\/999<(zaY times).1 then 1
    else if m.calls.length=8 then 10
    else if mc then zcG m.sto args else 0):=by
    unfold Hid zbH;rw[HFIT.o,<-HENS.o];dsimp only;rw[Iq (by decide),Iq (by omega),Iq c3']
   clear c1' c2' c3';have HFIND:Hid ((zdO L (zaY number).1).2=true->0<=(zdO L (zaY number).1).1/\(zdO L (zaY number).1).1.toNat<L.pr.length):=qhV L _;generalize hwn:zaY number=qn at*
   obtain⟨wn,wk⟩:=qn;generalize hwt:zaY times=qt at*
   obtain⟨wt,tk⟩:=qt;generalize hfd:zdO L wn=qf at*
   obtain⟨fi,fk⟩:=qf;have HWN:Hid (∀W:World,Calls Tryz.prog 88 #[.int .i64 number] W λe w'=>e=.returned (.tuple #[.int .i64 wn,.bool wk])/\W=w'):=λW=>by have:=cT number W;rw[hwn]at this;exact this
   have HWT:Hid (∀W:World,Calls Tryz.prog 88 #[.int .i64 times] W λe w'=>e=.returned (.tuple #[.int .i64 wt,.bool tk])/\W=w'):=λW=>by have:=cT times W;rw[hwt]at this;exact this
   have HWN1:=Hd hwn;have HWT1:=Hd hwt;have HFD1:=Hd hfd;try dsimp only at HFD HFIND EJ0
   clear hwn hwt hfd;rcases wk with _|_
   ·have EJ:Hid (zbH L m l mc=6):=by unfold Hid;rw[EJ0.o];rw[Ip (.inl rfl)]
    have tok1:=trivial;have tok2:=trivial;go_wp2_with(first|(go_at_call 88;clear tok1;refine(HWN.o _).mono ?_;rintro e w' ⟨rfl,rfl⟩)|(go_at_call 88;clear tok2;refine(HWT.o _).mono ?_;rintro e w' ⟨rfl,rfl⟩)|(go_at_call 127;refine(HFD.o _ HB.o).mono ?_;rintro e w2 ⟨rfl,hb2⟩;have HB2:=Hd (HB.o.tm hb2);have HN2:Hid (Bw wr w2):=(unB hb2);clear hb2;skip));go_ret;exact zeI.no HX.o HB2.o EJ.o (by decide)
   rcases fk with _|_
   ·have EJ:Hid (zbH L m l mc=6):=by unfold Hid;rw[EJ0.o];rw[Ip (.inr rfl)]
    have tok1:=trivial;have tok2:=trivial;go_wp2_with(first|(go_at_call 88;clear tok1;refine(HWN.o _).mono ?_;rintro e w' ⟨rfl,rfl⟩)|(go_at_call 88;clear tok2;refine(HWT.o _).mono ?_;rintro e w' ⟨rfl,rfl⟩)|(go_at_call 127;refine(HFD.o _ HB.o).mono ?_;rintro e w2 ⟨rfl,hb2⟩;have HB2:=Hd (HB.o.tm hb2);have HN2:Hid (Bw wr w2):=(unB hb2);clear hb2;skip));go_ret;exact zeI.no HX.o HB2.o EJ.o (by decide)
   have HF2:=Hd (HFIND.o rfl);clear HFIND;rcases tk with _|_
   ·have EJ:Hid (zbH L m l mc=1):=by unfold Hid;rw[EJ0.o];rw[Iq (by simp),Ip (.inl rfl)]
    have tok1:=trivial;have tok2:=trivial;go_wp2_with(first|(go_at_call 88;clear tok1;refine(HWN.o _).mono ?_;rintro e w' ⟨rfl,rfl⟩)|(go_at_call 88;clear tok2;refine(HWT.o _).mono ?_;rintro e w' ⟨rfl,rfl⟩)|(go_at_call 127;refine(HFD.o _ HB.o).mono ?_;rintro e w2 ⟨rfl,hb2⟩;have HB2:=Hd (HB.o.tm hb2);have HN2:Hid (Bw wr w2):=(unB hb2);clear hb2;skip));go_ret;exact zeI.no HX.o HB2.o EJ.o (by decide)
   by_cases c4:wt<1
   ·have g4:decide (wt<1)=true:=Dt c4;have EJ:Hid (zbH L m l mc=1):=by unfold Hid;rw[EJ0.o];rw[Iq (by simp),Ip (.inr (.inl c4))]
    have tok1:=trivial;have tok2:=trivial;go_wp2_with(first|(go_at_call 88;clear tok1;refine(HWN.o _).mono ?_;rintro e w' ⟨rfl,rfl⟩)|(go_at_call 88;clear tok2;refine(HWT.o _).mono ?_;rintro e w' ⟨rfl,rfl⟩)|(go_at_call 127;refine(HFD.o _ HB.o).mono ?_;rintro e w2 ⟨rfl,hb2⟩;have HB2:=Hd (HB.o.tm hb2);have HN2:Hid (Bw wr w2):=(unB hb2);clear hb2;skip));go_ret;exact zeI.no HX.o HB2.o EJ.o (by decide)
   have g4:decide (wt<1)=false:=Df c4;by_cases c5:999<wt
   ·have g5:decide (wt>999)=true:=Dt c5;have EJ:Hid (zbH L m l mc=1):=by unfold Hid;rw[EJ0.o];rw[Iq (by simp),Ip (.inr (.inr c5))]
    have tok1:=trivial;have tok2:=trivial;go_wp2_with(first|(go_at_call 88;clear tok1;refine(HWN.o _).mono ?_;rintro e w' ⟨rfl,rfl⟩)|(go_at_call 88;clear tok2;refine(HWT.o _).mono ?_;rintro e w' ⟨rfl,rfl⟩)|(go_at_call 127;refine(HFD.o _ HB.o).mono ?_;rintro e w2 ⟨rfl,hb2⟩;have HB2:=Hd (HB.o.tm hb2);have HN2:Hid (Bw wr w2):=(unB hb2);clear hb2;skip));go_ret;exact zeI.no HX.o HB2.o EJ.o (by decide)
   have g5:decide (wt>999)=false:=Df c5;have EJ1:Hid (zbH L m l mc=if m.calls.length=8 then 10 else if mc then zcG m.sto args else 0):=by
    unfold Hid;rw[EJ0.o,Iq (by simp),Iq (by simp;omega)]
   obtain⟨N,hN⟩:∃N,N=m.calls.length:=⟨_,rfl⟩;rw[<-hN]at HDP EJ1;have HN:=Hd hN;clear hN EJ0;by_cases c6:N=8
   ·have g6:((N:Int)==8)=true:=by rw[c6];rfl
    have EJ:Hid (zbH L m l mc=10):=by unfold Hid;rw[EJ1.o,Ip c6]
    have tok1:=trivial;have tok2:=trivial;go_wp2_with(first|(go_at_call 88;clear tok1;refine(HWN.o _).mono ?_;rintro e w' ⟨rfl,rfl⟩)|(go_at_call 88;clear tok2;refine(HWT.o _).mono ?_;rintro e w' ⟨rfl,rfl⟩)|(go_at_call 127;refine(HFD.o _ HB.o).mono ?_;rintro e w2 ⟨rfl,hb2⟩;have HB2:=Hd (HB.o.tm hb2);have HN2:Hid (Bw wr w2):=(unB hb2);clear hb2;skip)|(go_at_call 20;refine(HDP.o w2 HB2.o).mono ?_;rintro e w' ⟨rfl,rfl⟩));go_ret;exact zeI.no HX.o HB2.o EJ.o (by decide)
   have g6:((N:Int)==8)=false:=by simp;omega
   have EJ2:Hid (zbH L m l mc=if mc then zcG m.sto args else 0):=by unfold Hid;rw[EJ1.o,Iq c6]
   have hN7:N<8:=by have:=HX.o.few;have:=HN.o;omega
   clear EJ1 c6;obtain⟨i1,z1,hi1,hy0,hy1,hy2,hys⟩:=pG;have HI1:=Hd hi1;have HFARG:Hid (∀g,w.heap.size<=g/\g<wr.heap.size->F.far g):=λg hg=>⟨λk=>by have:=(HX.o.own_ge g k).2;omega,λk=>by have:=HX.o.av g k;omega⟩;have HARG:Hid (RdV wr (λg=>w.heap.size<=g/\g<wr.heap.size) C args.length args):=(oR HO.o rfl HVI.o).keep (Le _) (λg hg hI=>⟨hI,hg⟩) (λ_ _ _=>rfl);have HY0:=Hd hy0;clear hi1 hy0;have hN8:N<=8:=by have:=HX.o.few;have:=HN.o;omega
   obtain⟨P,hP⟩:∃P:Nat,fi=(P:Int):=⟨fi.toNat,by have:=HF2.o.1;omega⟩;subst hP;have hPl:P<L.pr.length:=by have:=HF2.o.2;simpa using this
   have hal:args.length<=1000:=by have:=hnum.2.2.2.2;omega
   rcases mc with _|_
   ·have EJ:Hid (zbH L m l false=0):=by unfold Hid;rw[EJ2.o];rfl
    have tok1:=trivial;have tok2:=trivial;go_wp2_with(first|(go_at_call 88;clear tok1;refine(HWN.o _).mono ?_;rintro e w' ⟨rfl,rfl⟩)|(go_at_call 88;clear tok2;refine(HWT.o _).mono ?_;rintro e w' ⟨rfl,rfl⟩)|(go_at_call 127;refine(HFD.o _ HB.o).mono ?_;rintro e w2 ⟨rfl,hb2⟩;have HB2:=Hd (HB.o.tm hb2);have HN2:Hid (Bw wr w2):=(unB hb2);clear hb2;skip)|(go_at_call 20;refine(HDP.o w2 HB2.o).mono ?_;rintro e w' ⟨rfl,rfl⟩));have HX2:=Hd (HX.o.below HB2.o);have hw1:IntKind.i64.wrap (m.pos+1)=m.pos+1:=IntWalk.i64_in _ (by omega);have hw2:IntKind.i64.wrap (wt-1)=wt-1:=IntWalk.i64_in _ (by omega);have HBA:Hid (∀o:Obj,MX (w2.drew.alloc o) B F L sk m):=λo=>HX2.o.below ((aA (Bf _ w2) 1).alloc (Le _) o);have HAV:Hid (∀o:Obj,RdV (w2.drew.alloc o) F.far C args.length args):=λo=>HARG.o.keep (Ly HN2.o.size (bxS (B:=w2.drew.heap.size) (w:=w2.drew) o (Le _)).size) (λg hg hI=>HFARG.o g hI) (λg hg hI=>((bxS (B:=w2.drew.heap.size) (w:=w2.drew) o (Le _)).block g (Lt hg HN2.o.size)).trans (HN2.o.block g hg));have EM:Hid (zcV L m l false={m with calls:=m.calls++[⟨P,m.prog,m.pos+1,wt-1,args,false⟩],prog:=P,pos:=(L.prg P).first}):=by
     unfold Hid zcV;rw[EJ.o,<-HENS.o];simp[HWN1.o,HWT1.o,HFD1.o]
    obtain⟨_,_,_,AC,_,_,_,capc,xs,⟨_,_,_,_,d4,d5,d6,_⟩,_,ho5,hac5,_,hfr5⟩:=HX2.o.cells;try dsimp only at d4 d5 d6 ho5
    rw[<-HN.o]at d6 ho5;have HOW:=Hd ho5;have HFR5:=Hd hfr5;have HOLD:Hid (∀(o:Obj) (g:Nat) x,w2.heap[g]? =some x->(w2.drew.alloc o).heap[g]? =some x):=λo g x hx=>(Bm w2.drew o g (hlS hx)).trans hx;have HNEW:Hid (∀o:Obj,(w2.drew.alloc o).heap[w2.heap.size]? =some o):=λo=>Hn w2.drew o;have HBW:Hid (∀o:Obj,B<=(w2.drew.alloc o).heap.size):=λo=>Ly HX2.o.Ble (bxS (B:=w2.drew.heap.size) (w:=w2.drew) o (Le _)).size;have hmW:=HX2.o.lt;have hac:=hac5;have hrowne:some F.mb≠(Value.slice AC N capc).ownBlock:=HX2.o.row_ne hac5;try dsimp only at hmW
    have HK6:Hid (∀(o:Obj) (w9:World),(w2.drew.alloc o).grownBy w9 (Value.slice AC N capc).ownBlock->w9.cell? ⟨F.mb,6,none⟩=some (.slice AC N capc)/\w9.frozen? ⟨F.mb,6,none⟩=false/\w9.cell? ⟨F.mb,4,none⟩=some (.int .i64 (m.prog:Nat))/\w9.cell? ⟨F.mb,5,none⟩=some (.int .i64 m.pos)):=λo w9 hg=>by
     have hb:w9.heap[F.mb]? =w2.heap[F.mb]? :=(hg.block F.mb (Lt hmW (bxS (B:=w2.drew.heap.size) (w:=w2.drew) o (Le _)).size) hrowne).trans (Bm w2.drew o F.mb hmW);exact⟨(cekC F.mb 6 hb).trans d6,(cekF F.mb 6 hb).trans (HFR5.o 6),(cekC F.mb 4 hb).trans d4,(cekC F.mb 5 hb).trans d5⟩
    have HSA:Hid (∀o:Obj,(w2.drew.alloc o).cell? ⟨F.mb,4,none⟩=some (.int .i64 (m.prog:Nat))/\(w2.drew.alloc o).cell? ⟨F.mb,5,none⟩=some (.int .i64 m.pos)):=λo=>
     ⟨(cekC F.mb 4 (Bm w2.drew o F.mb hmW)).trans d4,(cekC F.mb 5 (Bm w2.drew o F.mb hmW)).trans d5⟩
    have d6o:∀o:Obj,(w2.drew.alloc o).cell? ⟨F.mb,6,none⟩=some (.slice AC N capc):=λo=>(cekC F.mb 6 (Bm w2.drew o F.mb hmW)).trans d6;clear ho5 hfr5 hac5;refine wp_region_noPanic ?_;refine wp_region_held_drew (S:=(λw'=>w'.cell? ⟨F.mb,4,none⟩=some (.int .i64 (m.prog:Nat))/\w'.cell? ⟨F.mb,5,none⟩=some (.int .i64 m.pos))) (by kernel_rfl) ⟨d4,d5⟩ (λhH=> ?_);refine tkA 0 ?_;refine tkA 1 ?_;refine tkA 2 ?_;refine tkA 3 ?_;refine tkA 5 ?_;refine tkA 6 ?_;refine tkA 7 ?_;refine tkA 8 ?_;refine tkA 9 ?_;refine tkA 10 ?_;refine tkA 11 ?_;refine tkA 12 ?_;refine tkA 13 ?_;refine tkA 14 ?_;refine tkA 15 ?_;refine tkA 16 ?_;refine tkA 17 ?_;refine tkA 18 ?_;refine tkA 19 ?_;try simp only[Act.put,L0,L4,L5]
    refine rd2 4 20 rfl rfl (λK hK=> ?_) λK hK=> ?_
    ·go_simp;refine hK.o _ _ ?_ (λhH=> ?_)
     ·exact⟨d4,d5⟩
     clear hK K;try simp only[Act.put,L0,L4,L5]
     refine rd1 20 rfl λK hK=> ?_;go_simp;refine hK.o _ _ ?_ (λhH=> ?_)
     ·exact HSA.o _
     clear hK K;try simp only[Act.put,L0,L4,L5]
     refine rd1 21 rfl λK hK=> ?_;refine step_append_lies _ rfl (.tmp 117) (.tmp 133) 79 rfl B 102 i1 z1 6 64 underlying79 HI1.o HY0.o hy1 hy2 hys (by omega) (.slice AC N capc) N xs (by simp[Act.eval,Act.put]) ?_ ⟨w2.heap.size,0,none⟩ 1 1 (zcW ⟨P,m.prog,m.pos+1,wt-1,args,false⟩ C cap) (by simp[Act.eval,Act.put]) rfl ?_ ?_ (by omega) ?_ (by omega) ?_ _ rfl ?_
     ·exact bW (HOLD.o _) HOW.o
     ·exact Nk (cs:=⟨zcW ⟨P,m.prog,m.pos+1,wt-1,args,false⟩ C cap⟩) (HNEW.o _)
     ·exact kW _ _ _
     ·unfold maxLen;omega
     ·exact HBW.o _
     intro g9 c9 w9 ho9 hg9 hl9 hlt9;have k6:=HK6.o _ _ hg9;obtain⟨k6,k6f,k4,k5⟩:=k6;have HS9:Hid (w9.cell? ⟨F.mb,4,none⟩=some (.int .i64 (m.prog:Nat))/\w9.cell? ⟨F.mb,5,none⟩=some (.int .i64 m.pos)):=⟨k4,k5⟩;have HS10:Hid (∀v:Value,(w9.setCell ⟨F.mb,6,none⟩ v).cell? ⟨F.mb,4,none⟩=some (.int .i64 (m.prog:Nat))/\(w9.setCell ⟨F.mb,6,none⟩ v).cell? ⟨F.mb,5,none⟩=some (.int .i64 m.pos)):=λv=>⟨(dM (by decide)).trans k4,(dM (by decide)).trans k5⟩;clear k4 k5;have HO9:=Hd ho9;have HG9:=Hd hg9;have HL9:=Hd hl9;clear ho9 hg9 hl9 hlt9;refine hK.o _ _ ?_ (λhH=> ?_)
     ·exact HS9.o
     clear hK K;try simp only[Act.put,L0,L4,L5]
     refine tkA 22 ?_;refine tkA 23 ?_;try simp only[Act.put,L0,L4,L5]
     refine rd1 24 rfl λK hK=> ?_;go_simp;refine hK.o _ _ ?_ (λhH=> ?_)
     ·exact HS10.o _
     clear hK K;try simp only[Act.put,L0,L4,L5]
     refine wpAnyH_done (by kernel_rfl) ?_ _;refine NoPanic.normal ?_;have HOP:=Hd (MX.open (w:=w2.drew.alloc (.cells ⟨zcW ⟨P,m.prog,m.pos+1,wt-1,args,false⟩ C cap⟩ 102)) (w':=w9) (g:=g9) (cap:=c9) (c:=⟨P,m.prog,m.pos+1,wt-1,args,false⟩) (A:=C) (cp:=cap) (AC:=AC) (capc:=capc) (xs:=xs) (HBA.o _) (by rw[show(m:MS).calls.length=N from HN.o.symm];exact d6o _) (λys hy=>jK hy (by rw[show(m:MS).calls.length=N from HN.o.symm];exact bW (HOLD.o _) HOW.o))
      (by rw[show(m:MS).calls.length=N from HN.o.symm];exact HO9.o) (by rw[show(m:MS).calls.length=N from HN.o.symm];exact HG9.o) (by rw[show(m:MS).calls.length=N from HN.o.symm];exact HL9.o) (HAV.o _) (by unfold I64;dsimp only;omega) (by unfold I64;dsimp only;omega) (by have:=HN.o;show m.calls.length<8;omega) ⟨hPl,HX.o.prog,by dsimp only;omega⟩)
     rw[show(m:MS).calls.length=N from HN.o.symm]at HOP;obtain⟨w10,hw10⟩:∃w10,w10=w9.setCell ⟨F.mb,6,none⟩ (.slice (some ⟨g9,0,none⟩) (N+1) c9):=⟨_,rfl⟩;rw[<-hw10];have HOPM:Hid (MX w10 B {F with ac:=some g9} L sk {m with calls:=m.calls++[⟨P,m.prog,m.pos+1,wt-1,args,false⟩]}):=by unfold Hid;rw[hw10];exact HOP.o.2
     have HCH10:Hid (Chg F.own w2 w10):=by
      unfold Hid;rw[hw10];refine Chg.trans ⟨HG9.o.os,HG9.o.tape,HG9.o.output,Ly (bxS (B:=w2.drew.heap.size) (w:=w2.drew) _ (Le _)).size HG9.o.size,λj hj hno=>(HG9.o.block j (Lt hj (bxS (B:=w2.drew.heap.size) (w:=w2.drew) _ (Le _)).size) λe=>hno (own_row hac e)).trans (Bm w2.drew _ j hj)⟩ (aH _ _ _ _ _ (.inl rfl))
     clear hw10 k6 k6f;obtain⟨_,_,_,_,_,_,_,_,_,⟨-,-,-,-,y4,y5,-⟩,-,-,-,-,hfr10⟩:=HOPM.o.cells;obtain⟨Ay,cy,aby,offy,y1,rfl,haby,yf,_,hfst,hply⟩:=HOPM.o.prog_cells hPl;unfold maxLen at hply;dsimp only at y4 y5 y1;have y4f:=hfr10 4;have y5f:=hfr10 5;dsimp only at y4f y5f;have HFB:Hid (I64 (L.prg P).first):=I64.small hfst.1 (Int.le_trans hfst.2.1 (by have:=HX.o.fine.bl;omega));clear hfr10 hfst d4 d5 d6 d6o;go_wp2_with fail;go_ret;refine⟨by rw[EJ.o];rfl,?_⟩;rw[EM.o];have HX11:=(HOPM.o.set_prog hPl).set_pos HFB.o;exact MP.then (Chg.of_below HB2.o) ⟨_,HOP.o.1.of_size (bxS (B:=w2.drew.heap.size) (w:=w2.drew) _ (Le _)).size,HX11,(HCH10.o.trans (aH _ _ _ _ _ F.own_mb)).trans (aH _ _ _ _ _ F.own_mb)⟩
    ·go_simp;refine hK.o _ _ ?_ (λhH=> ?_)
     ·exact HSA.o _
     clear hK K;try simp only[Act.put,L0,L4,L5]
     refine rd1 4 rfl λK hK=> ?_;go_simp;refine hK.o _ _ ?_ (λhH=> ?_)
     ·exact HSA.o _
     clear hK K;try simp only[Act.put,L0,L4,L5]
     refine rd1 21 rfl λK hK=> ?_;refine step_append_lies _ rfl (.tmp 117) (.tmp 133) 79 rfl B 102 i1 z1 6 64 underlying79 HI1.o HY0.o hy1 hy2 hys (by omega) (.slice AC N capc) N xs (by simp[Act.eval,Act.put]) ?_ ⟨w2.heap.size,0,none⟩ 1 1 (zcW ⟨P,m.prog,m.pos+1,wt-1,args,false⟩ C cap) (by simp[Act.eval,Act.put]) rfl ?_ ?_ (by omega) ?_ (by omega) ?_ _ rfl ?_
     ·exact bW (HOLD.o _) HOW.o
     ·exact Nk (cs:=⟨zcW ⟨P,m.prog,m.pos+1,wt-1,args,false⟩ C cap⟩) (HNEW.o _)
     ·exact kW _ _ _
     ·unfold maxLen;omega
     ·exact HBW.o _
     intro g9 c9 w9 ho9 hg9 hl9 hlt9;have k6:=HK6.o _ _ hg9;obtain⟨k6,k6f,k4,k5⟩:=k6;have HS9:Hid (w9.cell? ⟨F.mb,4,none⟩=some (.int .i64 (m.prog:Nat))/\w9.cell? ⟨F.mb,5,none⟩=some (.int .i64 m.pos)):=⟨k4,k5⟩;have HS10:Hid (∀v:Value,(w9.setCell ⟨F.mb,6,none⟩ v).cell? ⟨F.mb,4,none⟩=some (.int .i64 (m.prog:Nat))/\(w9.setCell ⟨F.mb,6,none⟩ v).cell? ⟨F.mb,5,none⟩=some (.int .i64 m.pos)):=λv=>⟨(dM (by decide)).trans k4,(dM (by decide)).trans k5⟩;clear k4 k5;have HO9:=Hd ho9;have HG9:=Hd hg9;have HL9:=Hd hl9;clear ho9 hg9 hl9 hlt9;refine hK.o _ _ ?_ (λhH=> ?_)
     ·exact HS9.o
     clear hK K;try simp only[Act.put,L0,L4,L5]
     refine tkA 22 ?_;refine tkA 23 ?_;try simp only[Act.put,L0,L4,L5]
     refine rd1 24 rfl λK hK=> ?_;go_simp;refine hK.o _ _ ?_ (λhH=> ?_)
     ·exact HS10.o _
     clear hK K;try simp only[Act.put,L0,L4,L5]
     refine wpAnyH_done (by kernel_rfl) ?_ _;refine NoPanic.normal ?_;have HOP:=Hd (MX.open (w:=w2.drew.alloc (.cells ⟨zcW ⟨P,m.prog,m.pos+1,wt-1,args,false⟩ C cap⟩ 102)) (w':=w9) (g:=g9) (cap:=c9) (c:=⟨P,m.prog,m.pos+1,wt-1,args,false⟩) (A:=C) (cp:=cap) (AC:=AC) (capc:=capc) (xs:=xs) (HBA.o _) (by rw[show(m:MS).calls.length=N from HN.o.symm];exact d6o _) (λys hy=>jK hy (by rw[show(m:MS).calls.length=N from HN.o.symm];exact bW (HOLD.o _) HOW.o))
      (by rw[show(m:MS).calls.length=N from HN.o.symm];exact HO9.o) (by rw[show(m:MS).calls.length=N from HN.o.symm];exact HG9.o) (by rw[show(m:MS).calls.length=N from HN.o.symm];exact HL9.o) (HAV.o _) (by unfold I64;dsimp only;omega) (by unfold I64;dsimp only;omega) (by have:=HN.o;show m.calls.length<8;omega) ⟨hPl,HX.o.prog,by dsimp only;omega⟩)
     rw[show(m:MS).calls.length=N from HN.o.symm]at HOP;obtain⟨w10,hw10⟩:∃w10,w10=w9.setCell ⟨F.mb,6,none⟩ (.slice (some ⟨g9,0,none⟩) (N+1) c9):=⟨_,rfl⟩;rw[<-hw10];have HOPM:Hid (MX w10 B {F with ac:=some g9} L sk {m with calls:=m.calls++[⟨P,m.prog,m.pos+1,wt-1,args,false⟩]}):=by unfold Hid;rw[hw10];exact HOP.o.2
     have HCH10:Hid (Chg F.own w2 w10):=by
      unfold Hid;rw[hw10];refine Chg.trans ⟨HG9.o.os,HG9.o.tape,HG9.o.output,Ly (bxS (B:=w2.drew.heap.size) (w:=w2.drew) _ (Le _)).size HG9.o.size,λj hj hno=>(HG9.o.block j (Lt hj (bxS (B:=w2.drew.heap.size) (w:=w2.drew) _ (Le _)).size) λe=>hno (own_row hac e)).trans (Bm w2.drew _ j hj)⟩ (aH _ _ _ _ _ (.inl rfl))
     clear hw10 k6 k6f;obtain⟨_,_,_,_,_,_,_,_,_,⟨-,-,-,-,y4,y5,-⟩,-,-,-,-,hfr10⟩:=HOPM.o.cells;obtain⟨Ay,cy,aby,offy,y1,rfl,haby,yf,_,hfst,hply⟩:=HOPM.o.prog_cells hPl;unfold maxLen at hply;dsimp only at y4 y5 y1;have y4f:=hfr10 4;have y5f:=hfr10 5;dsimp only at y4f y5f;have HFB:Hid (I64 (L.prg P).first):=I64.small hfst.1 (Int.le_trans hfst.2.1 (by have:=HX.o.fine.bl;omega));clear hfr10 hfst d4 d5 d6 d6o;go_wp2_with fail;go_ret;refine⟨by rw[EJ.o];rfl,?_⟩;rw[EM.o];have HX11:=(HOPM.o.set_prog hPl).set_pos HFB.o;exact MP.then (Chg.of_below HB2.o) ⟨_,HOP.o.1.of_size (bxS (B:=w2.drew.heap.size) (w:=w2.drew) _ (Le _)).size,HX11,(HCH10.o.trans (aH _ _ _ _ _ F.own_mb)).trans (aH _ _ _ _ _ F.own_mb)⟩
   ·have HPU:Hid (∀W,Bw w W->Bw wr W->Calls Tryz.prog 59 #[.pointer (some ⟨F.sb,0,none⟩),.slice C args.length cap] W (zeH F.sb F.lb m.sto args W)):=
     λW h1 h2=>qbY W F.sb F.lb m.sto _ C args.length cap args ((HX.o.below h1).sto) (HARG.o.keep h2.size (λ_ _ q=>q) (λg hg _=>h2.block g hg)) (HX.o.below h1).tn
    by_cases hpu:zcG m.sto args=0
    case neg=>
     have g7:(zcG m.sto args !=0)=true:=by simpa using hpu
     have EJ:Hid (zbH L m l true=zcG m.sto args):=by unfold Hid;rw[EJ2.o];rfl
     have EM:Hid (zcV L m l true=m):=by unfold Hid zcV;rw[EJ.o,Ip hpu]
     have hpx:Hid (zbU m.sto args=m.sto):=by unfold Hid zbU;rw[Iq hpu]
     clear hpu;have tok1:=trivial;have tok2:=trivial;go_wp2_with(first|(go_at_call 88;clear tok1;refine(HWN.o _).mono ?_;rintro e w' ⟨rfl,rfl⟩)|(go_at_call 88;clear tok2;refine(HWT.o _).mono ?_;rintro e w' ⟨rfl,rfl⟩)|(go_at_call 127;refine(HFD.o _ HB.o).mono ?_;rintro e w2 ⟨rfl,hb2⟩;have HB2:=Hd (HB.o.tm hb2);have HN2:Hid (Bw wr w2):=(unB hb2);clear hb2;have d7:=HB2.o.ct hmb D7.o)|(go_at_call 20;refine(HDP.o w2 HB2.o).mono ?_;rintro e w' ⟨rfl,rfl⟩)|(go_at_call 59;refine(HPU.o _ HB2.o HN2.o).mono ?_;rintro e w5 ⟨rfl,lb5,hlb5,hs5,hc5⟩;have HS5:=Hd hs5;have HL5:=Hd hlb5;have HC5:=Hd hc5;clear hs5 hlb5 hc5));go_ret;refine⟨by rw[EJ.o];rfl,?_⟩;rw[EM.o];have hs5:=HS5.o;rw[hpx.o]at hs5;have HST:=(HX.o.below HB2.o).store hs5 HX.o.vf HL5.o HC5.o;exact MP.then (Chg.of_below HB2.o) ⟨_,HST.1,HST.2,vF HC5.o⟩
    have HPU2:Hid (∀W,Bw w W->Bw wr W->Calls Tryz.prog 59 #[.pointer (some ⟨F.sb,0,none⟩),.slice C args.length cap] W λe w5=>e=.returned (.int .i64 0)/\∃lb5,(lb5=F.lb\/W.heap.size<=lb5)/\Chg (λg=>g=F.sb\/g=F.lb) W w5/\Mv W F {F with lb:=lb5}/\MX w5 B {F with lb:=lb5} L sk {m with sto:=zbU m.sto args}):=λW h1 h2=>(HPU.o W h1 h2).mono λe w5 h=>by
     obtain⟨rfl,lb5,hlb5,hs5,hc5⟩:=h;have HST:=(HX.o.below h1).store hs5 (HX.o.vf.push _) hlb5 hc5;exact⟨by rw[hpu],lb5,hlb5,hc5,HST.1,HST.2⟩
    have EJ:Hid (zbH L m l true=0):=by unfold Hid;rw[EJ2.o];exact hpu
    clear hpu HPU;have tok1:=trivial;have tok2:=trivial;go_wp2_with(first|(go_at_call 88;clear tok1;refine(HWN.o _).mono ?_;rintro e w' ⟨rfl,rfl⟩)|(go_at_call 88;clear tok2;refine(HWT.o _).mono ?_;rintro e w' ⟨rfl,rfl⟩)|(go_at_call 127;refine(HFD.o _ HB.o).mono ?_;rintro e w2 ⟨rfl,hb2⟩;have HB2:=Hd (HB.o.tm hb2);have HN2:Hid (Bw wr w2):=(unB hb2);clear hb2;have d7:=HB2.o.ct hmb D7.o)|(go_at_call 20;refine(HDP.o w2 HB2.o).mono ?_;rintro e w' ⟨rfl,rfl⟩)|(go_at_call 59;refine(HPU2.o _ HB2.o HN2.o).mono ?_;rintro e w5 ⟨rfl,lb5,hlb5,hc5,hmv5,hx5⟩;have HX5:=Hd hx5;have HL5:=Hd hlb5;have HC5:=Hd hc5;have HMV5:=Hd hmv5;clear hx5 hlb5 hc5 hmv5));have hw1:IntKind.i64.wrap (m.pos+1)=m.pos+1:=IntWalk.i64_in _ (by omega);have hw2:IntKind.i64.wrap (wt-1)=wt-1:=IntWalk.i64_in _ (by omega);have HBA:Hid (∀o:Obj,MX (w5.drew.alloc o) B {F with lb:=lb5} L sk {m with sto:=zbU m.sto args}):=λo=>HX5.o.below ((aA (Bf _ w5) 1).alloc (Le _) o);have HAV:Hid (∀o:Obj,RdV (w5.drew.alloc o) ({F with lb:=lb5}:Fp).far C args.length args):=λo=>HARG.o.keep (Ly HN2.o.size (Ly HC5.o.size (bxS (B:=w5.drew.heap.size) (w:=w5.drew) o (Le _)).size))
     (λg hg hI=>HMV5.o.far g (Lt hg HN2.o.size) (HFARG.o g hI))
     (λg hg hI=>(((bxS (B:=w5.drew.heap.size) (w:=w5.drew) o (Le _)).block g (Lt (Lt hg HN2.o.size) HC5.o.size)).trans (HC5.o.block g (Lt hg HN2.o.size) (by
      have:=HFARG.o g hI
      rintro(e|e)
      ·exact this.1 (.inr (.inl e))
      ·exact this.1 (.inr (.inr (.inl e)))))).trans (HN2.o.block g hg))
    have EM:Hid (zcV L m l true={m with sto:=zbU m.sto args,calls:=m.calls++[⟨P,m.prog,m.pos+1,wt-1,args,true⟩],prog:=P,pos:=(L.prg P).first}):=by
     unfold Hid zcV;rw[EJ.o,<-HENS.o];simp[HWN1.o,HWT1.o,HFD1.o]
    obtain⟨_,_,_,AC,_,_,_,capc,xs,⟨_,_,_,_,d4,d5,d6,_⟩,_,ho5,hac5,_,hfr5⟩:=HX5.o.cells;try dsimp only at d4 d5 d6 ho5
    rw[<-HN.o]at d6 ho5;have HOW:=Hd ho5;have HFR5:=Hd hfr5;have HOLD:Hid (∀(o:Obj) (g:Nat) x,w5.heap[g]? =some x->(w5.drew.alloc o).heap[g]? =some x):=λo g x hx=>(Bm w5.drew o g (hlS hx)).trans hx;have HNEW:Hid (∀o:Obj,(w5.drew.alloc o).heap[w5.heap.size]? =some o):=λo=>Hn w5.drew o;have HBW:Hid (∀o:Obj,B<=(w5.drew.alloc o).heap.size):=λo=>Ly HX5.o.Ble (bxS (B:=w5.drew.heap.size) (w:=w5.drew) o (Le _)).size;have hmW:=HX5.o.lt;have hac:=hac5;have hrowne:some F.mb≠(Value.slice AC N capc).ownBlock:=HX5.o.row_ne hac5;try dsimp only at hmW
    have HK6:Hid (∀(o:Obj) (w9:World),(w5.drew.alloc o).grownBy w9 (Value.slice AC N capc).ownBlock->w9.cell? ⟨F.mb,6,none⟩=some (.slice AC N capc)/\w9.frozen? ⟨F.mb,6,none⟩=false/\w9.cell? ⟨F.mb,4,none⟩=some (.int .i64 (m.prog:Nat))/\w9.cell? ⟨F.mb,5,none⟩=some (.int .i64 m.pos)):=λo w9 hg=>by
     have hb:w9.heap[F.mb]? =w5.heap[F.mb]? :=(hg.block F.mb (Lt hmW (bxS (B:=w5.drew.heap.size) (w:=w5.drew) o (Le _)).size) hrowne).trans (Bm w5.drew o F.mb hmW);exact⟨(cekC F.mb 6 hb).trans d6,(cekF F.mb 6 hb).trans (HFR5.o 6),(cekC F.mb 4 hb).trans d4,(cekC F.mb 5 hb).trans d5⟩
    have HSA:Hid (∀o:Obj,(w5.drew.alloc o).cell? ⟨F.mb,4,none⟩=some (.int .i64 (m.prog:Nat))/\(w5.drew.alloc o).cell? ⟨F.mb,5,none⟩=some (.int .i64 m.pos)):=λo=>
     ⟨(cekC F.mb 4 (Bm w5.drew o F.mb hmW)).trans d4,(cekC F.mb 5 (Bm w5.drew o F.mb hmW)).trans d5⟩
    have d6o:∀o:Obj,(w5.drew.alloc o).cell? ⟨F.mb,6,none⟩=some (.slice AC N capc):=λo=>(cekC F.mb 6 (Bm w5.drew o F.mb hmW)).trans d6;clear ho5 hfr5 hac5;refine wp_region_noPanic ?_;refine wp_region_held_drew (S:=(λw'=>w'.cell? ⟨F.mb,4,none⟩=some (.int .i64 (m.prog:Nat))/\w'.cell? ⟨F.mb,5,none⟩=some (.int .i64 m.pos))) (by kernel_rfl) ⟨d4,d5⟩ (λhH=> ?_);refine tkA 0 ?_;refine tkA 1 ?_;refine tkA 2 ?_;refine tkA 3 ?_;refine tkA 5 ?_;refine tkA 6 ?_;refine tkA 7 ?_;refine tkA 8 ?_;refine tkA 9 ?_;refine tkA 10 ?_;refine tkA 11 ?_;refine tkA 12 ?_;refine tkA 13 ?_;refine tkA 14 ?_;refine tkA 15 ?_;refine tkA 16 ?_;refine tkA 17 ?_;refine tkA 18 ?_;refine tkA 19 ?_;try simp only[Act.put,L0,L4,L5]
    refine rd2 4 20 rfl rfl (λK hK=> ?_) λK hK=> ?_
    ·go_simp;refine hK.o _ _ ?_ (λhH=> ?_)
     ·exact⟨d4,d5⟩
     clear hK K;try simp only[Act.put,L0,L4,L5]
     refine rd1 20 rfl λK hK=> ?_;go_simp;refine hK.o _ _ ?_ (λhH=> ?_)
     ·exact HSA.o _
     clear hK K;try simp only[Act.put,L0,L4,L5]
     refine rd1 21 rfl λK hK=> ?_;refine step_append_lies _ rfl (.tmp 117) (.tmp 133) 79 rfl B 102 i1 z1 6 64 underlying79 HI1.o HY0.o hy1 hy2 hys (by omega) (.slice AC N capc) N xs (by simp[Act.eval,Act.put]) ?_ ⟨w5.heap.size,0,none⟩ 1 1 (zcW ⟨P,m.prog,m.pos+1,wt-1,args,true⟩ C cap) (by simp[Act.eval,Act.put]) rfl ?_ ?_ (by omega) ?_ (by omega) ?_ _ rfl ?_
     ·exact bW (HOLD.o _) HOW.o
     ·exact Nk (cs:=⟨zcW ⟨P,m.prog,m.pos+1,wt-1,args,true⟩ C cap⟩) (HNEW.o _)
     ·exact kW _ _ _
     ·unfold maxLen;omega
     ·exact HBW.o _
     intro g9 c9 w9 ho9 hg9 hl9 hlt9;have k6:=HK6.o _ _ hg9;obtain⟨k6,k6f,k4,k5⟩:=k6;have HS9:Hid (w9.cell? ⟨F.mb,4,none⟩=some (.int .i64 (m.prog:Nat))/\w9.cell? ⟨F.mb,5,none⟩=some (.int .i64 m.pos)):=⟨k4,k5⟩;have HS10:Hid (∀v:Value,(w9.setCell ⟨F.mb,6,none⟩ v).cell? ⟨F.mb,4,none⟩=some (.int .i64 (m.prog:Nat))/\(w9.setCell ⟨F.mb,6,none⟩ v).cell? ⟨F.mb,5,none⟩=some (.int .i64 m.pos)):=λv=>⟨(dM (by decide)).trans k4,(dM (by decide)).trans k5⟩;clear k4 k5;have HO9:=Hd ho9;have HG9:=Hd hg9;have HL9:=Hd hl9;clear ho9 hg9 hl9 hlt9;refine hK.o _ _ ?_ (λhH=> ?_)
     ·exact HS9.o
     clear hK K;try simp only[Act.put,L0,L4,L5]
     refine tkA 22 ?_;refine tkA 23 ?_;try simp only[Act.put,L0,L4,L5]
     refine rd1 24 rfl λK hK=> ?_;go_simp;refine hK.o _ _ ?_ (λhH=> ?_)
     ·exact HS10.o _
     clear hK K;try simp only[Act.put,L0,L4,L5]
     refine wpAnyH_done (by kernel_rfl) ?_ _;refine NoPanic.normal ?_;have HOP:=Hd (MX.open (w:=w5.drew.alloc (.cells ⟨zcW ⟨P,m.prog,m.pos+1,wt-1,args,true⟩ C cap⟩ 102)) (w':=w9) (g:=g9) (cap:=c9) (c:=⟨P,m.prog,m.pos+1,wt-1,args,true⟩) (A:=C) (cp:=cap) (AC:=AC) (capc:=capc) (xs:=xs) (HBA.o _) (by rw[show(({m with sto:=zbU m.sto args}:MS):MS).calls.length=N from HN.o.symm];exact d6o _) (λys hy=>jK hy (by rw[show(({m with sto:=zbU m.sto args}:MS):MS).calls.length=N from HN.o.symm];exact bW (HOLD.o _) HOW.o))
      (by rw[show(({m with sto:=zbU m.sto args}:MS):MS).calls.length=N from HN.o.symm];exact HO9.o) (by rw[show(({m with sto:=zbU m.sto args}:MS):MS).calls.length=N from HN.o.symm];exact HG9.o) (by rw[show(({m with sto:=zbU m.sto args}:MS):MS).calls.length=N from HN.o.symm];exact HL9.o) (HAV.o _) (by unfold I64;dsimp only;omega) (by unfold I64;dsimp only;omega) (by have:=HN.o;show m.calls.length<8;omega) ⟨hPl,HX.o.prog,by dsimp only;omega⟩)
     rw[show(({m with sto:=zbU m.sto args}:MS):MS).calls.length=N from HN.o.symm]at HOP;obtain⟨w10,hw10⟩:∃w10,w10=w9.setCell ⟨F.mb,6,none⟩ (.slice (some ⟨g9,0,none⟩) (N+1) c9):=⟨_,rfl⟩;rw[<-hw10];have HOPM:Hid (MX w10 B {({F with lb:=lb5}:Fp)with ac:=some g9} L sk {({m with sto:=zbU m.sto args}:MS)with calls:=m.calls++[⟨P,m.prog,m.pos+1,wt-1,args,true⟩]}):=by unfold Hid;rw[hw10];exact HOP.o.2
     have HCH10:Hid (Chg ({F with lb:=lb5}:Fp).own w5 w10):=by
      unfold Hid;rw[hw10];refine Chg.trans ⟨HG9.o.os,HG9.o.tape,HG9.o.output,Ly (bxS (B:=w5.drew.heap.size) (w:=w5.drew) _ (Le _)).size HG9.o.size,λj hj hno=>(HG9.o.block j (Lt hj (bxS (B:=w5.drew.heap.size) (w:=w5.drew) _ (Le _)).size) λe=>hno (own_row hac e)).trans (Bm w5.drew _ j hj)⟩ (aH _ _ _ _ _ (.inl rfl))
     clear hw10 k6 k6f;obtain⟨_,_,_,_,_,_,_,_,_,⟨-,-,-,-,y4,y5,-⟩,-,-,-,-,hfr10⟩:=HOPM.o.cells;obtain⟨Ay,cy,aby,offy,y1,rfl,haby,yf,_,hfst,hply⟩:=HOPM.o.prog_cells hPl;unfold maxLen at hply;dsimp only at y4 y5 y1;have y4f:=hfr10 4;have y5f:=hfr10 5;dsimp only at y4f y5f;have HFB:Hid (I64 (L.prg P).first):=I64.small hfst.1 (Int.le_trans hfst.2.1 (by have:=HX.o.fine.bl;omega));clear hfr10 hfst d4 d5 d6 d6o;go_wp2_with fail;go_ret;refine⟨by rw[EJ.o];rfl,?_⟩;rw[EM.o];have HX11:=(HOPM.o.set_prog hPl).set_pos HFB.o;exact MP.then (Chg.of_below HB2.o) (MP.trans2 HMV5.o (vF HC5.o) ⟨_,HOP.o.1.of_size (bxS (B:=w5.drew.heap.size) (w:=w5.drew) _ (Le _)).size,HX11,(HCH10.o.trans (aH _ _ _ _ _ (Fp.own_mb _))).trans (aH _ _ _ _ _ (Fp.own_mb _))⟩)
    ·go_simp;refine hK.o _ _ ?_ (λhH=> ?_)
     ·exact HSA.o _
     clear hK K;try simp only[Act.put,L0,L4,L5]
     refine rd1 4 rfl λK hK=> ?_;go_simp;refine hK.o _ _ ?_ (λhH=> ?_)
     ·exact HSA.o _
     clear hK K;try simp only[Act.put,L0,L4,L5]
     refine rd1 21 rfl λK hK=> ?_;refine step_append_lies _ rfl (.tmp 117) (.tmp 133) 79 rfl B 102 i1 z1 6 64 underlying79 HI1.o HY0.o hy1 hy2 hys (by omega) (.slice AC N capc) N xs (by simp[Act.eval,Act.put]) ?_ ⟨w5.heap.size,0,none⟩ 1 1 (zcW ⟨P,m.prog,m.pos+1,wt-1,args,true⟩ C cap) (by simp[Act.eval,Act.put]) rfl ?_ ?_ (by omega) ?_ (by omega) ?_ _ rfl ?_
     ·exact bW (HOLD.o _) HOW.o
     ·exact Nk (cs:=⟨zcW ⟨P,m.prog,m.pos+1,wt-1,args,true⟩ C cap⟩) (HNEW.o _)
     ·exact kW _ _ _
     ·unfold maxLen;omega
     ·exact HBW.o _
     intro g9 c9 w9 ho9 hg9 hl9 hlt9;have k6:=HK6.o _ _ hg9;obtain⟨k6,k6f,k4,k5⟩:=k6;have HS9:Hid (w9.cell? ⟨F.mb,4,none⟩=some (.int .i64 (m.prog:Nat))/\w9.cell? ⟨F.mb,5,none⟩=some (.int .i64 m.pos)):=⟨k4,k5⟩;have HS10:Hid (∀v:Value,(w9.setCell ⟨F.mb,6,none⟩ v).cell? ⟨F.mb,4,none⟩=some (.int .i64 (m.prog:Nat))/\(w9.setCell ⟨F.mb,6,none⟩ v).cell? ⟨F.mb,5,none⟩=some (.int .i64 m.pos)):=λv=>⟨(dM (by decide)).trans k4,(dM (by decide)).trans k5⟩;clear k4 k5;have HO9:=Hd ho9;have HG9:=Hd hg9;have HL9:=Hd hl9;clear ho9 hg9 hl9 hlt9;refine hK.o _ _ ?_ (λhH=> ?_)
     ·exact HS9.o
     clear hK K;try simp only[Act.put,L0,L4,L5]
     refine tkA 22 ?_;refine tkA 23 ?_;try simp only[Act.put,L0,L4,L5]
     refine rd1 24 rfl λK hK=> ?_;go_simp;refine hK.o _ _ ?_ (λhH=> ?_)
     ·exact HS10.o _
     clear hK K;try simp only[Act.put,L0,L4,L5]
     refine wpAnyH_done (by kernel_rfl) ?_ _;refine NoPanic.normal ?_;have HOP:=Hd (MX.open (w:=w5.drew.alloc (.cells ⟨zcW ⟨P,m.prog,m.pos+1,wt-1,args,true⟩ C cap⟩ 102)) (w':=w9) (g:=g9) (cap:=c9) (c:=⟨P,m.prog,m.pos+1,wt-1,args,true⟩) (A:=C) (cp:=cap) (AC:=AC) (capc:=capc) (xs:=xs) (HBA.o _) (by rw[show(({m with sto:=zbU m.sto args}:MS):MS).calls.length=N from HN.o.symm];exact d6o _) (λys hy=>jK hy (by rw[show(({m with sto:=zbU m.sto args}:MS):MS).calls.length=N from HN.o.symm];exact bW (HOLD.o _) HOW.o))
      (by rw[show(({m with sto:=zbU m.sto args}:MS):MS).calls.length=N from HN.o.symm];exact HO9.o) (by rw[show(({m with sto:=zbU m.sto args}:MS):MS).calls.length=N from HN.o.symm];exact HG9.o) (by rw[show(({m with sto:=zbU m.sto args}:MS):MS).calls.length=N from HN.o.symm];exact HL9.o) (HAV.o _) (by unfold I64;dsimp only;omega) (by unfold I64;dsimp only;omega) (by have:=HN.o;show m.calls.length<8;omega) ⟨hPl,HX.o.prog,by dsimp only;omega⟩)
     rw[show(({m with sto:=zbU m.sto args}:MS):MS).calls.length=N from HN.o.symm]at HOP;obtain⟨w10,hw10⟩:∃w10,w10=w9.setCell ⟨F.mb,6,none⟩ (.slice (some ⟨g9,0,none⟩) (N+1) c9):=⟨_,rfl⟩;rw[<-hw10];have HOPM:Hid (MX w10 B {({F with lb:=lb5}:Fp)with ac:=some g9} L sk {({m with sto:=zbU m.sto args}:MS)with calls:=m.calls++[⟨P,m.prog,m.pos+1,wt-1,args,true⟩]}):=by unfold Hid;rw[hw10];exact HOP.o.2
     have HCH10:Hid (Chg ({F with lb:=lb5}:Fp).own w5 w10):=by
      unfold Hid;rw[hw10];refine Chg.trans ⟨HG9.o.os,HG9.o.tape,HG9.o.output,Ly (bxS (B:=w5.drew.heap.size) (w:=w5.drew) _ (Le _)).size HG9.o.size,λj hj hno=>(HG9.o.block j (Lt hj (bxS (B:=w5.drew.heap.size) (w:=w5.drew) _ (Le _)).size) λe=>hno (own_row hac e)).trans (Bm w5.drew _ j hj)⟩ (aH _ _ _ _ _ (.inl rfl))
     clear hw10 k6 k6f;obtain⟨_,_,_,_,_,_,_,_,_,⟨-,-,-,-,y4,y5,-⟩,-,-,-,-,hfr10⟩:=HOPM.o.cells;obtain⟨Ay,cy,aby,offy,y1,rfl,haby,yf,_,hfst,hply⟩:=HOPM.o.prog_cells hPl;unfold maxLen at hply;dsimp only at y4 y5 y1;have y4f:=hfr10 4;have y5f:=hfr10 5;dsimp only at y4f y5f;have HFB:Hid (I64 (L.prg P).first):=I64.small hfst.1 (Int.le_trans hfst.2.1 (by have:=HX.o.fine.bl;omega));clear hfr10 hfst d4 d5 d6 d6o;go_wp2_with fail;go_ret;refine⟨by rw[EJ.o];rfl,?_⟩;rw[EM.o];have HX11:=(HOPM.o.set_prog hPl).set_pos HFB.o;exact MP.then (Chg.of_below HB2.o) (MP.trans2 HMV5.o (vF HC5.o) ⟨_,HOP.o.1.of_size (bxS (B:=w5.drew.heap.size) (w:=w5.drew) _ (Le _)).size,HX11,(HCH10.o.trans (aH _ _ _ _ _ (Fp.own_mb _))).trans (aH _ _ _ _ _ (Fp.own_mb _))⟩)
theorem MX.hide{w W:World}{B:Nat}{F:Fp}{L:Lb}{sk:Bool}{m:MS}{s:Nat}(h:MX w B F L sk m)(hb:Bw w W)(hs:w.heap.size<=s)(hs2:s<W.heap.size):MX W B {F with av:=s::F.av} L sk m:=by
 have h':=h.below hb;obtain⟨A1,A2,A3,AC,c1,c2,c3,capc,xs,hbk,hL,ho,hf,ha,hc⟩:=h.ex;obtain⟨A1',A2',A3',AC',c1',c2',c3',capc',xs',hbk',hL',ho',hf',ha',hc'⟩:=h'.ex;have hmb:=h.lt;have e:=(hb.block _ hmb).trans hbk;rw[hbk']at e;simp only[Oi,Obj.cells.injEq,Array.mk.injEq,zdG,List.cons.injEq,Vs,true_and,and_true]at e;have hxs:xs'=xs:=by
  have q:=aC ho λg hg _=>hb.block g hg;obtain⟨_,_,_,⟨e1,e2⟩⟩:=e;subst e1 e2;exact jK ho' q
 refine⟨h'.mb_ge,h'.sb_ge,h'.lb_ge,h'.ne1,h'.ne2,λx hx=> ?_,h'.tab,h'.tabB,h'.tn,h'.tnB,h'.fine,h'.sto,h'.vf,h'.pos,h'.prog,h'.steps,h'.err,h'.few,h'.calls,A1',A2',A3',AC',c1',c2',c3',capc',xs',hbk',hL',ho',hf',ha',?_⟩
 ·rcases List.mem_cons.1 hx with q|q
  ·rw[q];exact hs2
  ·exact h'.av x q
 ·rw[hxs];exact hc.keep hb.size (λg hg hI=>⟨hI.1,λhk=>by
   rcases List.mem_cons.1 hk with q|q
   ·omega
   ·exact hI.2 q⟩) λg hg _=>hb.block g hg
theorem MX.keep2{w w':World}{B:Nat}{F:Fp}{L:Lb}{sk:Bool}{m:MS}{s:Nat}(h:MX w B F L sk m)(hc:Chg (λg=>g=s) w w')(hs:s∈F.av)(hB:B<=s)(hno:¬F.own s):MX w' B F L sk m:=by
 have hlt:=h.lt;have hge:=h.mb_ge;have ko:∀g,F.own g->w'.heap[g]? =w.heap[g]? :=λg hg=>hc.block g (h.own_ge g hg).2 λe=>hno (by rw[<-e];exact hg);have kl:∀g,g<B->w'.heap[g]? =w.heap[g]? :=λg hg=>hc.block g (by omega) (by omega);obtain⟨A1,A2,A3,AC,c1,c2,c3,capc,xs,hb,hL,ho,hf,ha,hr⟩:=h.ex;obtain⟨t1,t2,t3⟩:=h.tab;obtain⟨n1,n2,n3⟩:=h.tn;refine⟨h.mb_ge,h.sb_ge,h.lb_ge,h.ne1,h.ne2,λx hx=>Lt (h.av x hx) hc.size,⟨t1,t2,(kl _ h.tabB).trans t3⟩,h.tabB,⟨n1,n2,(kl _ h.tnB).trans n3⟩,h.tnB,h.fine,h.sto.keep (ko _ (.inr (.inl rfl))) (ko _ (.inr (.inr (.inl rfl)))),h.vf,h.pos,h.prog,h.steps,h.err,h.few,h.calls,A1,A2,A3,AC,c1,c2,c3,capc,xs,(ko _ (.inl rfl)).trans hb,
  hL.keep (λp hp=>Wb (kl p.block hp)) (Le _),aC ho λg hg hv=>ko g (.inr (.inr (.inr ?_))),hf,ha,hr.keep hc.size (λ_ _ h=>h) λg hg hI=>hc.block g hg λe=>hI.2 (by rw[e];exact hs)⟩
 rcases AC with _|a
 ·simp[Value.ownBlock]at hv
 ·rw[<-ha];simpa[Value.ownBlock]using hv
theorem MX.unhide{w:World}{B:Nat}{F:Fp}{L:Lb}{sk:Bool}{m:MS}{av:List Nat}(h:MX w B F L sk m)(hav:∀x∈av,x∈F.av):MX w B {F with av:=av} L sk m:=by
 obtain⟨A1,A2,A3,AC,c1,c2,c3,capc,xs,hb,hL,ho,hf,ha,hr⟩:=h.ex;exact⟨h.mb_ge,h.sb_ge,h.lb_ge,h.ne1,h.ne2,λx hx=>h.av x (hav x hx),h.tab,h.tabB,h.tn,h.tnB,h.fine,h.sto,h.vf,h.pos,h.prog,h.steps,h.err,h.few,h.calls,A1,A2,A3,AC,c1,c2,c3,capc,xs,hb,hL,ho,hf,ha,
  hr.keep (Le _) (λg hg hI=>⟨hI.1,λk=>hI.2 (hav g k)⟩) λ_ _ _=>rfl⟩
theorem MX.around{w w' w'':World}{B:Nat}{F:Fp}{L:Lb}{sk:Bool}{m m':MS}{s:Nat}(h:MX w B F L sk m)(hs:w.heap.size<=s)(k:MX w' B {F with av:=s::F.av} L sk m')(hc:Chg (λg=>g=s) w' w''):MX w'' B F L sk m':=
 (k.keep2 hc Mu (by have:=h.Ble;omega) (λho=>by have h1:F.own s:=ho;have:=(h.own_ge s h1).2;omega)).unhide (av:=F.av) λx hx=>Mm _ hx
theorem MP.around{w W w' w'':World}{B:Nat}{F:Fp}{L:Lb}{sk:Bool}{m m':MS}{s:Nat}(h:MX w B F L sk m)(hb:Bw w W)(hs:w.heap.size<=s)(hs2:s<W.heap.size)(k:MP B {F with av:=s::F.av} L sk m' W w')(hc:Chg (λg=>g=s) w' w''):MP B F L sk m' w w'':=by
 obtain⟨F',k1,k2,k3⟩:=k;have hno:¬F'.own s:=λho=>by
  have h1:F.own s:=k1.own s hs2 ho;have:=(h.own_ge s h1).2;omega
 have hav:F'.av=s::F.av:=k1.av;have q:=(k2.keep2 hc (by rw[hav];exact Mu) (by have:=h.Ble;omega) hno).unhide (av:=F.av) (λx hx=>by rw[hav];exact Mm _ hx);refine⟨{F' with av:=F.av},⟨k1.mb,k1.sb,rfl,?_,?_⟩,q,⟨(hc.os.trans k3.os).trans hb.os,(hc.tape.trans k3.tape).trans hb.tape,(hc.output.trans k3.output).trans hb.output,Ly hb.size (Ly k3.size hc.size),λg hg ho=> ?_⟩⟩
 ·rcases k1.lb with e|e
  ·exact .inl e
  ·exact .inr (Ly hb.size e)
 ·rcases k1.ac with e|⟨g,e,e2⟩
  ·exact .inl e
  ·exact .inr ⟨g,e,Ly hb.size e2⟩
 ·have h1:=Lt hg hb.size;exact((hc.block g (Lt h1 k3.size) (by omega)).trans (k3.block g h1 λhk=>ho hk)).trans (hb.block g hg)
theorem aV{w:World}{s:Nat}(a b c:Value):Chg (λg=>g=s) w (((w.setCell ⟨s,0,none⟩ a).setCell ⟨s,1,none⟩ b).setCell ⟨s,2,none⟩ c):=((aH w s 0 a (λg=>g=s) rfl).trans (aH _ s 1 b (λg=>g=s) rfl)).trans (aH _ s 2 c (λg=>g=s) rfl)
def StpV(w':World)(n0:Nat)(o:Option (Int×LI))(v:Value):Prop:=
 match o with
 |none=>v=.agg #[.int .i64 0,.int .i64 0,.slice none 0 0]
 |some (p,l)=>∃(A:OA) (c:Nat),v=.agg #[.int .i64 1,.int .i64 p,.slice A l.length c]/\RdV w' (λg=>n0<=g) A l.length l/\l.length<=1000
def zcB(B:Nat)(F:Fp)(L:Lb)(sk:Bool)(m:MS)(r:MS×Option (LI)×Int)(w:World)(e:Ending)(w':World):Prop:=
 ∃v,e=.returned (.tuple #[v,.bool r.2.1.isSome,.int .i64 r.2.2])/\StpV w' w.heap.size (r.2.1.map λl=>(m.pos,l)) v/\MP B F L sk r.1 w w'/\(r.2.1.isSome=true->MX w' B F L sk r.1)
theorem zcB.no{B:Nat}{F:Fp}{L:Lb}{sk:Bool}{m m':MS}{r:MS×Option (LI)×Int}{w w':World}{er:Int}(he:r=(m',none,er))(h:MP B F L sk m' w w'):zcB B F L sk m r w (.returned (.tuple #[.agg #[.int .i64 0,.int .i64 0,.slice none 0 0],.bool false,.int .i64 er])) w':=
 ⟨_,by rw[he];rfl,by rw[he];rfl,by rw[he];exact h,λq=>by rw[he]at q;cases q⟩
def zgF(c:Int)(p:Int×Int)(v:Int×Int):Int×Int:=if(if c=65 then isC v 71 65 else isC v 77 c)then(p.1+1,c)else p
theorem qvQ(p v:Int×Int):zfN p v=zgF 99 (zgF 98 (zgF 65 p v) v) v:=by
 unfold zfN zgF;rcases h1:isC v 71 65 with _|_
 ·rcases h2:isC v 77 98 with _|_
  ·rcases h3:isC v 77 99 with _|_<;>simp[h1,h2,h3]
  ·rcases h3:isC v 77 99 with _|_
   ·simp[h1,h2,h3]
   ·unfold isC at h2 h3;simp at h2 h3;omega
 ·have h2:isC v 77 98=false:=by unfold isC at h1⊢;simp at h1⊢;omega
  have h3:isC v 77 99=false:=by unfold isC at h1⊢;simp at h1⊢;omega
  simp[h1,h2,h3]
theorem qvR(p v:Int×Int):p.1<=(zfN p v).1/\(zfN p v).1<=p.1+1:=by
 unfold zfN;split
 ·dsimp only;omega
 split
 ·dsimp only;omega
 split
 ·dsimp only;omega
 ·omega
theorem qzY:∀(l:LI) (p:Int×Int),p.1<=(l.foldl zfN p).1/\(l.foldl zfN p).1<=p.1+l.length:=by
 intro l;induction l with
 |nil=>intro p;simp
 |cons x r ih=>
  intro p;rw[List.foldl_cons,Lc];have:=qvR p x;have:=ih (zfN p x);omega
theorem qrU(l:LI)(v:Int×Int):zeU (l++[v])=zfN (zeU l) v:=by unfold zeU;simp
theorem xZ{σ:Sto}(h:σ.vf)(x:Tr):I64 (zcH (zbG σ.f) x).1:=by
 unfold zcH;split
 ·rename_i hr;have:=jX (V:=zbG σ.f) (λn=>by
   unfold zbG
   split
   ·have:=h.f n;unfold Sml;dsimp only;omega
   ·unfold Sml;dsimp only;omega) x 16 hr
  unfold Sml at this;unfold I64;omega
 ·unfold I64;dsimp only;omega
theorem qdW:Vi []:=λx hx=>by cases hx
theorem Rd.shape{w:World}{B:Nat}{t:Tr}{x y z:Value}(h:Rd w B t (.agg #[x,y,z])):∃(o n:Int) (A:OA) (k c:Nat),x=.int .i64 o/\y=.int .i64 n/\z=.slice A k c:=by
 rcases t with _|⟨op,n,k,kid⟩
 ·exact h.elim
 obtain⟨A,c,h1,_⟩:=h;simp at h1;exact⟨_,_,_,_,_,h1.1,h1.2.1,h1.2.2⟩
theorem aM{fn:Func}{p u v:Tmp}{ty:TypeId}(h:fn.results= #[.cell p ty,.tmp u,.tmp v])(tmps:Array Value)(w:World)(g:Nat)(t:TypeId)(cs:Array Value)(fr:Nat×Nat)(fs:Array Field)
 (hp:tmps.getD p undef=.pointer (some ⟨g,0,none⟩)) (hg:w.heap[g]? =some (.cells cs t fr))
 (hu:Tryz.prog.underlying ty=some (.struct fs)) (hi:(Tryz.prog.info? ty).map (·.size)=some cs.size):
 (results fn tmps).run Tryz.prog w=.ok (.tuple #[.agg cs,tmps.getD u undef,tmps.getD v undef]) w:=by
 have hp':tmps[p]?.getD undef=.pointer (some ⟨g,0,none⟩):=by simpa using hp
 simp[results,h,hp',asAddr,run_loadVar_row w g t ty cs fr (.struct fs) hg hu rfl hi]
theorem zbL:(Tryz.prog.info? 40).map (·.size)=some 3:=by kernel_rfl
theorem aS{w:World}{g:Nat}{x y z a b c:Value}(h:w.heap[g]? =some (.cells #[x,y,z] 40 (0,0))):(((w.setCell ⟨g,0,none⟩ a).setCell ⟨g,1,none⟩ b).setCell ⟨g,2,none⟩ c).heap[g]? =some (.cells #[a,b,c] 40 (0,0)):=aD (aD (aD h))
theorem rD{B:Nat}{w w':World}{g:Nat}(a b c:Value)(h:Below B w w')(hg:B<=g):Below B w (((w'.setCell ⟨g,0,none⟩ a).setCell ⟨g,1,none⟩ b).setCell ⟨g,2,none⟩ c):=((h.setCell hg _).setCell hg _).setCell hg _
def zcT:Array Value:= #[.int .i64 0,.int .i64 0,.slice none 0 0]
def zoB(w:World)(f:Int->Int)(ws:List (Int×Tr))(vv cv kv iv:Value)(W:World):Prop:=
 ∃(k cap:Nat) (C:OA) (acc:LI),k<=ws.length/\acc.length=k/\iv=.int .i64 (k:Int)/\vv=.slice C k cap/\cv=.int .i64 (zeU acc).1/\kv=.int .i64 (zeU acc).2/\Vi acc/\
  zbX f ws=(if(zbX f (ws.drop k)).2≠0 then([],(zbX f (ws.drop k)).2)else(acc++(zbX f (ws.drop k)).1,0))/\
  W.ownsRow (w.heap.size+1) 59 2 (.slice C k cap) k (zdS acc)/\Bw w W/\W.heap[w.heap.size]? =some (.cells zcT 40 (0,0))
def pj(p v:Int×Int):Nat->Int×Int
 |0=>p
 |1=>zgF 65 p v
 |2=>zgF 98 (zgF 65 p v) v
 |_=>zgF 99 (zgF 98 (zgF 65 p v) v) v
theorem ix0(w:World):(Instr.index 145 (.agg #[.int .i64 65,.int .i64 98,.int .i64 99]) (.int .i64 0)).run Tryz.prog w=.ok (.int .i64 65) w:=by
 simp[Instr.index,run_underlying underlying145,asIntOf,part,go_sem]
theorem ix1(w:World):(Instr.index 145 (.agg #[.int .i64 65,.int .i64 98,.int .i64 99]) (.int .i64 1)).run Tryz.prog w=.ok (.int .i64 98) w:=by
 simp[Instr.index,run_underlying underlying145,asIntOf,part,go_sem]
theorem ix2(w:World):(Instr.index 145 (.agg #[.int .i64 65,.int .i64 98,.int .i64 99]) (.int .i64 2)).run Tryz.prog w=.ok (.int .i64 99) w:=by
 simp[Instr.index,run_underlying underlying145,asIntOf,part,go_sem]
def zoC(w9:World)(p v:Int×Int)(cv kv jv:Value)(W:World):Prop:=
 ∃(j:Nat) (q1 q2:Int),j<=3/\jv=.int .i64 (j:Int)/\cv=.int .i64 q1/\kv=.int .i64 q2/\pj p v j=(q1,q2)/\p.1<=q1/\q1<=p.1+j/\Bw w9 W
def zgN(v:Int×Int):Bool:=isC v 77 2||isC v 77 30
def zlW(W1:World)(B:Nat)(F F0:Fp)(L:Lb)(sk:Bool)(m:MS)(acc:LI)(n:Nat)(iv:Value)(W:World):Prop:=
 ∃j:Nat,j<=n/\iv=.int .i64 (j:Int)/\MX W B F L sk {m with pos:=m.pos+1,ended:=m.ended||(acc.take j).any zgN}/\Chg (λg=>g=F0.mb) W1 W
theorem wE{f:Int->Int}:∀{ws:List (Int×Tr)} {a:LI} {b:Int},zbX f ws=(a,b)->b≠0->a=[]:=by
 intro ws;induction ws with
 |nil=>intro a b h hb;simp[zbX]at h;omega
 |cons x r ih=>
  intro a b h hb;rw[zbX]at h;split at h
  ·exact(Prod.mk.inj h).1.symm
  split at h
  ·exact(Prod.mk.inj h).1.symm
  ·have:=(Prod.mk.inj h).2;omega
theorem qiK(w:World)(B:Nat)(F:Fp)(L:Lb)(sk:Bool)(m:MS)(A:OA)(n c:Nat)(ws:List (Int×Tr))(h:MX w B F L sk m)(hr:RdW w B A n ws)(hp:0<=m.pos/\m.pos<=1000000)(hlen:ws.length<=1000):
 Calls Tryz.prog 65 #[.pointer (some ⟨F.mb,0,none⟩),.slice A n c] w (zcB B F L sk m (zbT L m ws) w):=by
 obtain⟨i0,z0,hi,hz0,hz1,hz2,hzs⟩:=oD;have HX:=Hd h;obtain⟨hn1,hn2,hvb,hvc⟩:=hr;have HVC:=Hd hvc;have HVB:=Hd hvb;have HEV:=Hd (λx v hr W hW=>h.eval x v hr W hW);have HI64:=Hd (λx=>xZ h.vf x);obtain⟨A1,A2,A3,AC,c1,c2,c3,capc,xs,⟨-,-,-,-,-,d5,-,d7,-,d9,-⟩,-,-,-,-,hfr⟩:=h.cells;have hmb:=h.lt;have hBle:=h.Ble;have D5:=Hd d5;have D7:=Hd d7;have D9:=Hd d9;have HFR:=Hd hfr;clear h hvc hvb d5 d7 d9 hfr;subst hn1;have hmk:∀w':World,(Instr.makeSlice 38 (.int .i64 0) (.int .i64 ((ws.length:Nat):Int))).run Tryz.prog w'=.ok (.slice (some ⟨w'.heap.size,0,none⟩) 0 ws.length) (w'.alloc (.cells (madeCells z0.cells (ws.length*2)) 59)):=λw'=>by
  have q:=run_make (P:=Tryz.prog) w' 38 59 i0 z0 underlying38 hi hz0 .i64 .i64 0 ws.length (by omega) (by omega) (by rw[hz2];omega) (by omega);rw[hz1,It]at q;exact q
 have hmz:=size_madeCells z0.cells (ws.length*2);generalize madeCells z0.cells (ws.length*2)=mz at*
 have HMZ:=Hd hmz;have HI:=Hd hi;clear hmz;go_enter func65,ntmps65;go_wp2_with fail;go_loopw[7,8,9,25] (zoB w m.sto.f ws) (λ_ _ _ i _=>ws.length-(intOf i).toNat)
 case atStart=>
  refine⟨0,ws.length,some ⟨w.heap.size+1,0,none⟩,[],Lq _,rfl,rfl,rfl,rfl,rfl,qdW,?_,?_,(nB _ _).alloc (by simp) _,?_⟩
  ·rw[List.drop_zero,List.nil_append];rcases hv:zbX m.sto.f ws with⟨a,b⟩
   split
   ·rename_i hb;have:=wE hv hb;rw[this]
   ·rename_i hb;have:b=0:=by simpa using hb
    rw[this]
  ·refine⟨rfl,.inr ⟨w.heap.size+1,ws.length,mz,rfl,Le _,?_,Lq _,by unfold maxLen;omega,HMZ.o,rfl⟩⟩;have:=Hn (w.alloc (.cells zcT 40)) (.cells mz 59);simpa[zcT]using this
  ·exact(Bm _ _ _ (by simp)).trans (Hn w _)
 case round=>
  obtain⟨k,cap,C,acc,hk,hacl,rfl,rfl,rfl,rfl,hvi,hval,hown,hnx,hst⟩:=hrel;have hsize:=hnx.size;have HN:=Hd hnx;have HO:=Hd hown;have HVAL:=Hd hval;have HVI:=Hd hvi;have HACL:=Hd hacl;have HST:=Hd hst;have hstl:=hlS hst;have hmbr:F.mb<wr.heap.size:=Lt hmb hsize;have r7:=HN.o.ct hmb D7.o;have s0:wr.cell? ⟨w.heap.size,0,none⟩=some (.int .i64 0):=Ro wr _ 0 _ _ _ hst;have s1:wr.cell? ⟨w.heap.size,1,none⟩=some (.int .i64 0):=Ro wr _ 1 _ _ _ hst;have s2:wr.cell? ⟨w.heap.size,2,none⟩=some (.slice none 0 0):=Ro wr _ 2 _ _ _ hst;have sf:∀i,wr.frozen? ⟨w.heap.size,i,none⟩=false:=λi=>by simp[World.frozen?,hst]
  clear hnx hown hval hvi hst hacl;by_cases hlt:k<ws.length
  ·obtain⟨ab,off,rfl,hab,hc⟩:=HVC.o (by omega);obtain⟨⟨cc,x⟩,hx⟩:∃x,ws[k]? =some x:=⟨_,Gg hlt⟩;obtain⟨q0,x0,x1,x2,q1,q2,q3,hrd⟩:=hc k _ hx;dsimp only at q0 q1 q2 q3 hrd;obtain⟨xo,xn,xA,xk,xc,rfl,rfl,rfl⟩:=hrd.shape;have habr:ab<w.heap.size:=by omega
   have e0:=HN.o.ct habr q0;have e1:wr.cell? ⟨ab,off+k*4+1,none⟩=some (.int .i64 xo):=HN.o.ct habr q1;have e2:wr.cell? ⟨ab,off+k*4+2,none⟩=some (.int .i64 xn):=HN.o.ct habr q2;have e3:wr.cell? ⟨ab,off+k*4+3,none⟩=some (.slice xA xk xc):=HN.o.ct habr q3;have HX1:=Hd hx;have HBC:=Hd (HVB.o _ (Mg hx));have HEX:=Hd (HEV.o x _ hrd);clear hc hx q0 q1 q2 q3 hrd;obtain⟨W1,hW1,-,hbx⟩:=newW wr #[.int .i64 cc,(.int .i64 xo),(.int .i64 xn),(.slice xA xk xc)] 57;have HB1:Hid (Bw w W1):=by unfold Hid;rw[hW1];exact HN.o.alloc hsize _
   have b1:=ce1 hbx;have b2:=ce2 hbx;have b3:=ce3 hbx;have b0:=ce0 hbx;have b7:W1.cell? ⟨F.mb,7,none⟩=some (.pointer (some ⟨F.sb,0,none⟩)):=HB1.o.ct hmb D7.o;have HW1:Hid (wr.heap.size<W1.heap.size):=hlS hbx;have HMB:Hid (F.mb<W1.heap.size):=Lt hmb HB1.o.size;have HBR:Hid (Bw wr W1):=by unfold Hid;rw[hW1];exact nB _ _
   have HB0:=Hd b0;generalize hE:zcH (zbG m.sto.f) x=ev at HEX;obtain⟨nv,er⟩:=ev;have HE:=Hd hE;have HNV:Hid (I64 nv):=by have:=HI64.o x;rw[hE]at this;exact this
   clear hE b0 hbx;go_wp2_with fail;rw[<-hW1];clear hW1;go_region_held3(λW=>W.cell? ⟨wr.heap.size,1,none⟩=some (.int .i64 xo)/\W.cell? ⟨wr.heap.size,2,none⟩=some (.int .i64 xn)/\W.cell? ⟨wr.heap.size,3,none⟩=some (.slice xA xk xc)/\W.cell? ⟨F.mb,7,none⟩=some (.pointer (some ⟨F.sb,0,none⟩))) (first|exact⟨b1,b2,b3,b7⟩|exact⟨HN2.o.ct HW1.o b1,HN2.o.ct HW1.o b2,HN2.o.ct HW1.o b3,HN2.o.ct HMB.o b7⟩|fail) (first|(go_at_call 62;refine(HEX.o _ (aA HB1.o 1)).mono ?_;rintro e w2 ⟨rfl,hb2⟩;have HN2:Hid (Bw W1 w2):=(unB hb2);clear hb2));clear b1 b2 b3 b7 r7 s0 s1 s2 sf e0 e1 e2 e3;have HB2:=Hd (HB1.o.tm HN2.o);have HBR2:=Hd (HBR.o.tm HN2.o);have hst2:=(HBR2.o.block _ hstl).trans HST.o;have s0:w2.cell? ⟨w.heap.size,0,none⟩=some (.int .i64 0):=Ro w2 _ 0 _ _ _ hst2;have s1:w2.cell? ⟨w.heap.size,1,none⟩=some (.int .i64 0):=Ro w2 _ 1 _ _ _ hst2;have s2:w2.cell? ⟨w.heap.size,2,none⟩=some (.slice none 0 0):=Ro w2 _ 2 _ _ _ hst2;have sf:∀i,w2.frozen? ⟨w.heap.size,i,none⟩=false:=λi=>by simp[World.frozen?,hst2]
   have HST2:=Hd hst2;clear hst2;by_cases he:er=0
   case neg=>
    have he':(er !=0)=true:=by simpa using he
    have EJ:Hid (zbT L m ws=(m,none,er)):=by
     unfold Hid zbT;have e1:zbX m.sto.f (ws.drop k)=([],er):=by rw[cE HX1.o,zbX,HE.o];simp[he]
     have e2:=HVAL.o;rw[e1]at e2;simp[he]at e2;rw[e2];simp[he]
    clear he;go_wp2_with fail;refine bodyPost_ret (aM rfl _ _ w.heap.size _ _ _ _ rfl (aS HST2.o) underlying40 zbL) rfl ?_;exact zcB.no EJ.o (MP.below HX.o (rD _ _ _ HB2.o (Le _)))
   have he':(er !=0)=false:=by simpa using he
   subst he;have hvl:zbX m.sto.f (ws.drop k)=if(zbX m.sto.f (ws.drop (k+1))).2≠0 then([],(zbX m.sto.f (ws.drop (k+1))).2)else((cc,nv)::(zbX m.sto.f (ws.drop (k+1))).1,0):=by
    rw[cE HX1.o,zbX,HE.o];simp
   have HVL:Hid (zbX m.sto.f ws=(if(zbX m.sto.f (ws.drop (k+1))).2≠0 then([],(zbX m.sto.f (ws.drop (k+1))).2)else((acc++[(cc,nv)])++(zbX m.sto.f (ws.drop (k+1))).1,0))):=by
    unfold Hid;rw[HVAL.o,hvl];by_cases hz:(zbX m.sto.f (ws.drop (k+1))).2=0
    ·simp[hz]
    ·simp[hz]
   have HVI2:Hid (Vi (acc++[(cc,nv)])):=by
    intro y hy;rcases Ma.1 hy with q|q
    ·exact HVI.o y q
    ·rw[Mt.1 q];exact⟨HBC.o,HNV.o⟩
   clear hvl;have hB2s:=HB2.o.size;have b0:=HN2.o.ct HW1.o HB0.o;have HOW2:Hid (w2.ownsRow (w.heap.size+1) 59 2 (.slice C k cap) k (zdS acc)):=aC HO.o λg hg _=>HBR2.o.block g hg;go_wp2_with(first|(at_builtin;refine wpList_append_lies _ rfl (.tmp 47) (.tmp 49) 38 rfl (w.heap.size+1) 59 i0 z0 2 16 underlying38 HI.o hz0 hz1 hz2 hzs (by omega) (.slice C k cap) k (zdS acc) rfl ((HOW2.o.alloc _).alloc _) ⟨w2.heap.size+1,0,none⟩ 1 1 [.int .i64 cc,.int .i64 nv] rfl rfl (qbA _ _ _ _ _) (zkU _ _ _ _) (by omega) (by unfold maxLen;omega) (by omega) (by simp;omega) _ rfl ?_;intro g9 c9 w9 ho9 hg9 hl9 hlt9;have HO9:=Hd ho9;have HG9:=Hd hg9;have HLT9:=Hd hlt9;clear ho9 hg9 hl9 hlt9));have HRW:Hid (∀j,(Value.slice C k cap).ownBlock=some j->w.heap.size+1<=j/\j<w2.heap.size):=HOW2.o.lt;have HB9:Hid (Bw w w9):=((HB2.o.alloc hB2s _).alloc (by simp;omega) _).grown HG9.o (by simp;omega) (λj hj=>by have:=(HRW.o j hj).1;omega);have hv9:w9.heap[w2.heap.size]? =some (.cells #[.int .i64 cc,.int .i64 nv] 59 (0,0)):=
    (HG9.o.block w2.heap.size (by simp;omega) (λe=>by have:=(HRW.o _ e.symm).2;omega)).trans ((Bm _ _ _ (by simp)).trans (Hn w2 _))
   have hst2l:w.heap.size<w2.heap.size:=Lt hstl HBR2.o.size;have hst9:w9.heap[w.heap.size]? =some (.cells zcT 40 (0,0)):=
    (HG9.o.block w.heap.size (by simp;omega) (λe=>by have:=(HRW.o _ e.symm).1;omega)).trans ((Bm _ _ _ (by simp;omega)).trans ((Bm w2 _ _ (by omega)).trans HST2.o))
   have HV9:=Hd hv9;have HST9:=Hd hst9;have hv9l:=hlS hv9;have hst9l:=hlS hst9;have hcb:=qzY acc (0,0);have HCTL:Hid (zeU acc=acc.foldl zfN (0,0)):=rfl;have hcb1:0<=(zeU acc).1/\(zeU acc).1<=1000:=by have:=HACL.o;rw[HCTL.o];dsimp only at hcb;omega
   clear hcb s0 s1 s2 sf b0 hv9 hst9;have HC3:Hid (zeU (acc++[(cc,nv)])=pj (zeU acc) (cc,nv) 3):=by unfold Hid;rw[qrU,qvQ];rfl
   generalize zeU acc=p0 at*
   obtain⟨pa,pb⟩:=p0;dsimp only at*
   go_loopw[8,9,52] (zoC w9 (pa,pb) (cc,nv)) (λ_ _ j _=>3-(intOf j).toNat)
   case atStart=>exact⟨0,pa,pb,by omega,rfl,rfl,rfl,rfl,by simp,by simp,Bf _ _⟩
   case round=>
    obtain⟨j,qa,qb,hj,rfl,rfl,rfl,hpj,hq1,hq2,hb⟩:=hrel;have HPJ:=Hd hpj;have HBJ:=Hd hb;have v0:=(hb.cel w2.heap.size 0 hv9l).trans (Ro w9 _ 0 _ _ _ HV9.o);have v1:=(hb.cel w2.heap.size 1 hv9l).trans (Ro w9 _ 1 _ _ _ HV9.o);simp only[List.getElem?_toArray]at v0 v1;clear hpj hb;by_cases hj3:j<3
    ·have hjc:j=0\/j=1\/j=2:=by omega
     rcases hjc with rfl|rfl|rfl
     ·have E:Hid (pj (pa,pb) (cc,nv) 1=if isC (cc,nv) 71 65 then(qa+1,65)else(qa,qb)):=by
       unfold Hid;have q:=HPJ.o;show zgF 65 (pa,pb) (cc,nv)=_;cases q;unfold zgF;simp
      have HIS:=Hd (λW=>uQ cc nv 71 65 W (by omega));have hix:=λw=>ix0 w;rcases hr:isC (cc,nv) 71 65 with _|_
      all_goals
       rw[hr]at E HIS;clear hr;go_wp2_with(go_at_call 95;refine(HIS.o _).mono ?_;rintro e w' ⟨rfl,hb'⟩;have HB':=Hd hb';clear hb')
      ·exact⟨⟨1,qa,qb,by omega,by go_num,rfl,rfl,by rw[E.o];simp,by omega,by omega,HBJ.o.tm HB'.o⟩,by simp only[intOf];omega⟩
      ·exact⟨⟨1,qa+1,65,by omega,by go_num,by go_num,rfl,by rw[E.o];simp,by omega,by omega,HBJ.o.tm HB'.o⟩,by simp only[intOf];omega⟩
     ·have E:Hid (pj (pa,pb) (cc,nv) 2=if isC (cc,nv) 77 98 then(qa+1,98)else(qa,qb)):=by
       unfold Hid;have q:=HPJ.o;show zgF 98 (pj (pa,pb) (cc,nv) 1) (cc,nv)=_;rw[q];unfold zgF;simp
      have HIS:=Hd (λW=>uQ cc nv 77 98 W (by omega));have hix:=λw=>ix1 w;rcases hr:isC (cc,nv) 77 98 with _|_
      all_goals
       rw[hr]at E HIS;clear hr;go_wp2_with(go_at_call 95;refine(HIS.o _).mono ?_;rintro e w' ⟨rfl,hb'⟩;have HB':=Hd hb';clear hb')
      ·exact⟨⟨2,qa,qb,by omega,by go_num,rfl,rfl,by rw[E.o];simp,by omega,by omega,HBJ.o.tm HB'.o⟩,by simp only[intOf];omega⟩
      ·exact⟨⟨2,qa+1,98,by omega,by go_num,by go_num,rfl,by rw[E.o];simp,by omega,by omega,HBJ.o.tm HB'.o⟩,by simp only[intOf];omega⟩
     ·have E:Hid (pj (pa,pb) (cc,nv) 3=if isC (cc,nv) 77 99 then(qa+1,99)else(qa,qb)):=by
       unfold Hid;have q:=HPJ.o;show zgF 99 (pj (pa,pb) (cc,nv) 2) (cc,nv)=_;rw[q];unfold zgF;simp
      have HIS:=Hd (λW=>uQ cc nv 77 99 W (by omega));have hix:=λw=>ix2 w;rcases hr:isC (cc,nv) 77 99 with _|_
      all_goals
       rw[hr]at E HIS;clear hr;go_wp2_with(go_at_call 95;refine(HIS.o _).mono ?_;rintro e w' ⟨rfl,hb'⟩;have HB':=Hd hb';clear hb')
      ·exact⟨⟨3,qa,qb,by omega,by go_num,rfl,rfl,by rw[E.o];simp,by omega,by omega,HBJ.o.tm HB'.o⟩,by simp only[intOf];omega⟩
      ·exact⟨⟨3,qa+1,99,by omega,by go_num,by go_num,rfl,by rw[E.o];simp,by omega,by omega,HBJ.o.tm HB'.o⟩,by simp only[intOf];omega⟩
    ·obtain rfl:j=3:=by omega
     have E3:Hid (zeU (acc++[(cc,nv)])=(qa,qb)):=by unfold Hid;rw[HC3.o];exact HPJ.o
     go_wp2_with fail;exact⟨⟨k+1,c9,some ⟨g9,0,none⟩,acc++[(cc,nv)],by omega,by rw[La,HACL.o];rfl,by go_num,rfl,by rw[E3.o],by rw[E3.o],HVI2.o,HVL.o,by
      have q:=aC HO9.o λg hg _=>HBJ.o.block g hg
      rw[qK]
      exact q,HB9.o.tm HBJ.o,(HBJ.o.block _ hst9l).trans HST9.o⟩,by simp only[intOf];omega⟩
  ·have hke:k=ws.length:=by omega
   subst hke;obtain⟨wq,hwq⟩:∃wq,wq=wr:=⟨_,rfl⟩;subst hwq;have HVALS:Hid (zbX m.sto.f ws=(acc,0)):=by
    unfold Hid;rw[HVAL.o,Dl];simp[zbX]
   have HCT:=Hd (rfl:zeU acc=zeU acc);generalize hct:zeU acc=ct at*
   obtain⟨qa,qb⟩:=ct;have HCT2:=Hd hct;dsimp only at*
   have HXr:=Hd (HX.o.hide (s:=w.heap.size) HN.o (Le _) hstl);have HNO:Hid (∀F':Fp,Mv wq {F with av:=w.heap.size::F.av} F'->¬F'.own w.heap.size):=λF' hm ho=>by
    have h1:F.own w.heap.size:=hm.own _ hstl ho;have:=(HX.o.own_ge _ h1).2;omega
   clear HCT hct;by_cases c1':1<qa
   ·have g1:decide (qa>1)=true:=Dt c1';have EJ:Hid (zbT L m ws=(m,none,8)):=by unfold Hid zbT;rw[HVALS.o];simp[HCT2.o,c1']
    clear c1';go_wp2_with fail;refine bodyPost_ret (aM rfl _ _ w.heap.size _ _ _ _ rfl (aS HST.o) underlying40 zbL) rfl ?_;exact zcB.no EJ.o (MP.below HX.o (rD _ _ _ HN.o (Le _)))
   have g1:decide (qa>1)=false:=Df c1';by_cases c2':qb=99
   ·subst c2';by_cases c3':1<ws.length
    ·have g3:decide ((ws.length:Int)>1)=true:=Dt (by omega);have g3':decide (ws.length>1)=true:=Dt (by omega);have EJ:Hid (zbT L m ws=(m,none,8)):=by unfold Hid zbT;rw[HVALS.o];simp[HCT2.o,c1',HACL.o,c3']
     clear c1' c3';go_wp2_with fail;refine bodyPost_ret (aM rfl _ _ w.heap.size _ _ _ _ rfl (aS HST.o) underlying40 zbL) rfl ?_;exact zcB.no EJ.o (MP.below HX.o (rD _ _ _ HN.o (Le _)))
    ·have g3:decide ((ws.length:Int)>1)=false:=Df (by omega);have g3':decide (ws.length>1)=false:=Df (by omega);have EJ:Hid (zbT L m ws=((zbJ L m).1,none,(zbJ L m).2)):=by
      unfold Hid zbT;rw[HVALS.o];simp[HCT2.o,c1',HACL.o];intro h;exact absurd h c3'
     have HLV:Hid (Calls Tryz.prog 38 #[.pointer (some ⟨F.mb,0,none⟩)] wq (ziH B {F with av:=w.heap.size::F.av} L sk m wq)):=qP wq B {F with av:=w.heap.size::F.av} L sk m HXr.o;clear c1' c3';go_wp2_with(go_at_call 38;refine HLV.o.mono ?_;rintro e w3 ⟨rfl,hmp⟩;have HMP:=Hd hmp;have hst3:w3.heap[w.heap.size]? =some (.cells zcT 40 (0,0)):=(by obtain⟨F',k1,k2,k3⟩:=hmp;exact(k3.block _ hstl (HNO.o _ (Mv.refl _ _))).trans HST.o);have HST3:=Hd hst3;have u0:w3.cell? ⟨w.heap.size,0,none⟩=some (.int .i64 0):=Ro w3 _ 0 _ _ _ hst3;have u1:w3.cell? ⟨w.heap.size,1,none⟩=some (.int .i64 0):=Ro w3 _ 1 _ _ _ hst3;have u2:w3.cell? ⟨w.heap.size,2,none⟩=some (.slice none 0 0):=Ro w3 _ 2 _ _ _ hst3;have uf:∀i,w3.frozen? ⟨w.heap.size,i,none⟩=false:=(λi=>by simp[World.frozen?,hst3]);clear hmp hst3);refine bodyPost_ret (aM rfl _ _ w.heap.size _ _ _ _ rfl (aS HST3.o) underlying40 zbL) rfl ?_;exact zcB.no EJ.o (MP.around HX.o HN.o (Le _) hstl HMP.o (aV _ _ _))
   have g2:(qb==99)=false:=by simpa using c2'
   by_cases c4':qb=0
   case neg=>
    have g4:(qb !=0)=true:=by simpa using c4'
    have EJ:Hid (zbT L m ws=(zcV L m acc (qb==65),none,zbH L m acc (qb==65))):=by
     unfold Hid zbT;rw[HVALS.o];simp[HCT2.o,c1',c2',c4']
    have HRV:Hid (RdV wq (λg=>w.heap.size+1<=g) C ws.length acc):=oR HO.o HACL.o.symm HVI.o;have HEN:Hid (Calls Tryz.prog 96 #[.pointer (some ⟨F.mb,0,none⟩),.slice C ws.length cap,.bool (qb==65)] wq (zeI B {F with av:=w.heap.size::F.av} L sk m acc (qb==65) wq)):=(qkU wq B {F with av:=w.heap.size::F.av} L sk m _ C ws.length cap acc (qb==65) HXr.o HRV.o hp (by have:=HACL.o;omega));clear c1' c2' c4';go_wp2_with(go_at_call 96;refine HEN.o.mono ?_;rintro e w3 ⟨rfl,hmp⟩;have HMP:=Hd hmp;have hst3:w3.heap[w.heap.size]? =some (.cells zcT 40 (0,0)):=(by obtain⟨F',k1,k2,k3⟩:=hmp;exact(k3.block _ hstl (HNO.o _ (Mv.refl _ _))).trans HST.o);have HST3:=Hd hst3;have u0:w3.cell? ⟨w.heap.size,0,none⟩=some (.int .i64 0):=Ro w3 _ 0 _ _ _ hst3;have u1:w3.cell? ⟨w.heap.size,1,none⟩=some (.int .i64 0):=Ro w3 _ 1 _ _ _ hst3;have u2:w3.cell? ⟨w.heap.size,2,none⟩=some (.slice none 0 0):=Ro w3 _ 2 _ _ _ hst3;have uf:∀i,w3.frozen? ⟨w.heap.size,i,none⟩=false:=(λi=>by simp[World.frozen?,hst3]);clear hmp hst3);refine bodyPost_ret (aM rfl _ _ w.heap.size _ _ _ _ rfl (aS HST3.o) underlying40 zbL) rfl ?_;exact zcB.no EJ.o (MP.around HX.o HN.o (Le _) hstl HMP.o (aV _ _ _))
   subst c4';have EJ:Hid (zbT L m ws=({m with pos:=m.pos+1,ended:=m.ended||acc.any zgN},some acc,0)):=by
    unfold Hid zbT;rw[HVALS.o];simp[HCT2.o,c1'];rfl
   have HRV:Hid (RdV wq (λg=>w.heap.size+1<=g) C ws.length acc):=oR HO.o HACL.o.symm HVI.o;have HX0:=Hd (HXr.o.set_pos (t:=m.pos+1) (by unfold I64;omega));obtain⟨W0,hW0⟩:∃W0,W0=wq.setCell ⟨F.mb,5,none⟩ (.int .i64 (m.pos+1)):=⟨_,rfl⟩;have HW0s:Hid (W0.heap.size=wq.heap.size):=by unfold Hid;rw[hW0];simp[World.setCell]
   have HC0:Hid (Chg (λg=>g=F.mb) wq W0):=by unfold Hid;rw[hW0];exact aH _ _ _ _ (λg=>g=F.mb) rfl
   have HX0':Hid (MX W0 B {F with av:=w.heap.size::F.av} L sk {m with pos:=m.pos+1}):=by unfold Hid;rw[hW0];exact HX0.o
   obtain⟨W1,hW1,HB1,-⟩:=newW W0 #[.int .i64 1,.int .i64 m.pos,.slice C ws.length cap] 40;have hb1:W1.heap[wq.heap.size]? =some (.cells #[.int .i64 1,.int .i64 m.pos,.slice C ws.length cap] 40 (0,0)):=by rw[hW1,<-HW0s.o];exact Hn _ _
   have HB1C:=Hd hb1;have HW1l:Hid (wq.heap.size<W1.heap.size):=hlS hb1;have HX2:=Hd (HX0'.o.below HB1.o);have r5:=HN.o.ct hmb D5.o;have f5:wq.frozen? ⟨F.mb,5,none⟩=false:=(cekF F.mb 5 (HN.o.block _ hmb)).trans (HFR.o 5);have r5o:∀o:Obj,(wq.alloc o).cell? ⟨F.mb,5,none⟩=some (.int .i64 m.pos):=λo=>(Wl wq o ⟨F.mb,5,none⟩ hmbr).trans r5;have f5o:∀o:Obj,(wq.alloc o).frozen? ⟨F.mb,5,none⟩=false:=λo=>(cekF F.mb 5 ((Bm wq o F.mb hmbr).trans (HN.o.block _ hmb))).trans (HFR.o 5);have HW1:Hid (W1=(wq.setCell ⟨F.mb,5,none⟩ (.int .i64 (m.pos+1))).alloc (.cells #[.int .i64 1,.int .i64 m.pos,.slice C ws.length cap] 40)):=by unfold Hid;rw[hW1,hW0]
   have HCH1:Hid (Chg (λg=>g=F.mb) wq W1):=⟨HB1.o.os.trans HC0.o.os,HB1.o.tape.trans HC0.o.tape,HB1.o.output.trans HC0.o.output,Ly HC0.o.size HB1.o.size,λg hg ho=>(HB1.o.block g (Lt hg HC0.o.size)).trans (HC0.o.block g hg ho)⟩;clear hb1 hW1 hW0 c1' c2' HX0;go_wp2_with fail;rw[<-HW1.o];clear r5o f5o r5 f5 s0 s1 s2 sf r7;go_loopw[119] (zlW W1 B {F with av:=w.heap.size::F.av} F L sk m acc ws.length) (λi _=>ws.length-(intOf i).toNat)
   case atStart=>
    refine⟨0,Lq _,rfl,?_,Chg.refl _ _⟩;have q:=HX2.o;simpa using q
   case round=>
    obtain⟨j,hj,rfl,hxj,hch⟩:=hrel;have HXJ:=Hd hxj;have HCH:=Hd hch;have hW1s:=hch.size;have HK:Hid (∀g,g<wq.heap.size->g≠F.mb->wr.heap[g]? =wq.heap[g]?):=λg hg hne=>(hch.block g (Nat.lt_trans hg HW1l.o) hne).trans (HCH1.o.block g hg hne);have HSZ:Hid (wq.heap.size<wr.heap.size):=Lt HW1l.o hch.size;clear hxj hch;by_cases hjl:j<ws.length
    ·obtain⟨-,-,hvb,hvc⟩:=HRV.o;obtain⟨ab,off,hC,hab1,hab2,hc⟩:=hvc (by omega);subst hC;obtain⟨⟨cc,nn⟩,hx⟩:∃x,acc[j]? =some x:=⟨_,Gg (by have:=HACL.o;omega)⟩;obtain⟨x0,x1⟩:=hc j _ hx;dsimp only at x0 x1;have hne:ab≠F.mb:=by omega
     have d0:=(cekC ab (off+j*2) (HK.o ab hab2 hne)).trans x0;have d1:=(cekC ab (off+j*2+1) (HK.o ab hab2 hne)).trans x1;obtain⟨_,_,_,_,_,_,_,_,_,⟨-,-,-,-,-,-,-,-,-,y9,-⟩,-,-,-,-,hfrj⟩:=HXJ.o.cells;have hmj:=HXJ.o.lt;dsimp only at y9 hmj;have y9f:=hfrj 9;dsimp only at y9f;have HTK:Hid ((acc.take (j+1)).any zgN=((acc.take j).any zgN||zgN (cc,nn))):=by
      unfold Hid;rw[Ta,hx];simp
     have HIS:=Hd (λW=>uQ cc nn 77 2 W (by omega));have HIS2:=Hd (λW=>uQ cc nn 77 30 W (by omega));have HFIN:Hid (∀(W:World) (r:Bool),Bw wr W->r=(m.ended||(acc.take (j+1)).any zgN)->zlW W1 B {F with av:=w.heap.size::F.av} F L sk m acc ws.length (.int .i64 ((j:Int)+1)) (W.setCell ⟨F.mb,9,none⟩ (.bool r))):=by
      intro W r hb hr;refine⟨j+1,by omega,by go_num,?_,(HCH.o.trans (Chg.of_below hb)).trans (aH _ _ _ _ (λg=>g=F.mb) rfl)⟩;rw[<-hr];exact(HXJ.o.below hb).set_ended (t:=r)
     have HMJ:=Hd hmj;have HY9:=Hd y9;have HY9f:=Hd y9f;clear hx hc hvb hvc x0 x1 hfrj;have HBA:Hid (∀o:Obj,Bw wr (wr.alloc o)):=λo=>(Bf _ _).alloc (Le _) o;have HBL:Hid (∀o:Obj,wr.heap.size<(wr.alloc o).heap.size):=λo=>by unfold World.alloc;simp
     have HV0:Hid ((wr.alloc (.cells #[.int .i64 cc,.int .i64 nn] 59)).cell? ⟨wr.heap.size,0,none⟩=some (.int .i64 cc)):=Ro _ _ 0 _ _ _ (Hn wr _);have HV1:Hid ((wr.alloc (.cells #[.int .i64 cc,.int .i64 nn] 59)).cell? ⟨wr.heap.size,1,none⟩=some (.int .i64 nn)):=Ro _ _ 1 _ _ _ (Hn wr _);have y9o:∀o:Obj,(wr.alloc o).cell? ⟨F.mb,9,none⟩=some (.bool (m.ended||(acc.take j).any zgN)):=λo=>(Wl wr o ⟨F.mb,9,none⟩ hmj).trans y9;have y9fo:∀o:Obj,(wr.alloc o).frozen? ⟨F.mb,9,none⟩=false:=λo=>(cekF F.mb 9 (Bm wr o F.mb hmj)).trans y9f;have hmeas:ws.length-((j:Int)+1).toNat<ws.length-(j:Int).toNat:=by omega
     have HME:=Hd hmeas;rcases he:(m.ended||(acc.take j).any zgN)with _|_
     ·rw[he]at y9o y9 HY9;have HDN:Hid ((m.ended||(acc.take (j+1)).any zgN)=zgN (cc,nn)):=by
       unfold Hid;rw[HTK.o,<-Bool.or_assoc,he,Bool.false_or]
      rcases h1:isC (cc,nn) 77 2 with _|_
      ·rcases h2:isC (cc,nn) 77 30 with _|_
       all_goals
        have HDN2:Hid ((m.ended||(acc.take (j+1)).any zgN)=isC (cc,nn) 77 30):=by unfold Hid;rw[HDN.o];unfold zgN;rw[h1,Bool.false_or]
        rw[h1]at HIS;rw[h2]at HIS2 HDN2;clear h1 h2 he y9 y9f hmj hmeas;have tok1:=trivial;have tok2:=trivial;go_wp2_with(first|(go_at_call 95;clear tok1;refine(HIS.o _).mono ?_;rintro e wi ⟨rfl,hbi⟩;have HBI:Hid (Bw wr wi):=(HBA.o _).trans (hbi.mono (HBA.o _).size);have z9:=HBI.o.ct HMJ.o HY9.o;have z9f:=(cekF F.mb 9 (HBI.o.block _ HMJ.o)).trans HY9f.o;have zv0:=(hbi.cel wr.heap.size 0 (HBL.o _)).trans (HV0.o);have zv1:=(hbi.cel wr.heap.size 1 (HBL.o _)).trans (HV1.o);clear hbi)|(go_at_call 95;clear tok2;refine(HIS2.o _).mono ?_;rintro e wi2 ⟨rfl,hbi2⟩;have HBI2:Hid (Bw wr wi2):=HBI.o.tm hbi2;have z9b:=HBI2.o.ct HMJ.o HY9.o;have z9fb:=(cekF F.mb 9 (HBI2.o.block _ HMJ.o)).trans HY9f.o;clear hbi2));exact⟨HFIN.o _ _ HBI2.o HDN2.o.symm,HME.o⟩
      ·have HDN2:Hid ((m.ended||(acc.take (j+1)).any zgN)=true):=by unfold Hid;rw[HDN.o];unfold zgN;rw[h1,Bool.true_or]
       rw[h1]at HIS;clear h1 he y9 y9f hmj hmeas;have tok1:=trivial;go_wp2_with(first|(go_at_call 95;clear tok1;refine(HIS.o _).mono ?_;rintro e wi ⟨rfl,hbi⟩;have HBI:Hid (Bw wr wi):=(HBA.o _).trans (hbi.mono (HBA.o _).size);have z9:=HBI.o.ct HMJ.o HY9.o;have z9f:=(cekF F.mb 9 (HBI.o.block _ HMJ.o)).trans HY9f.o;have zv0:=(hbi.cel wr.heap.size 0 (HBL.o _)).trans (HV0.o);have zv1:=(hbi.cel wr.heap.size 1 (HBL.o _)).trans (HV1.o);clear hbi));exact⟨HFIN.o _ _ HBI.o HDN2.o.symm,HME.o⟩
     ·rw[he]at y9o y9 HY9;have HDN2:Hid ((m.ended||(acc.take (j+1)).any zgN)=true):=by
       unfold Hid;rw[HTK.o,<-Bool.or_assoc,he,Bool.true_or]
      clear he y9 y9f hmj hmeas;go_wp2_with fail;exact⟨HFIN.o _ _ (HBA.o _) HDN2.o.symm,HME.o⟩
    ·obtain rfl:j=ws.length:=by omega
     have HRF:Hid (RdV wr (λg=>w.heap.size+1<=g) C ws.length acc):=HRV.o.keep (Ll HSZ.o) (λ_ _ q=>q) (λg hg hI=>HK.o g hg (by omega));have hu:wr.heap[wq.heap.size]? =some (.cells #[.int .i64 1,.int .i64 m.pos,.slice C ws.length cap] 40 (0,0)):=(HCH.o.block _ HW1l.o (by omega)).trans HB1C.o;have u0:=ce0 hu;have u1:=ce1 hu;have u2:=ce2 hu;have hs:=(HK.o _ hstl (by omega)).trans HST.o;have s0:wr.cell? ⟨w.heap.size,0,none⟩=some (.int .i64 0):=Ro wr _ 0 _ _ _ hs;have s1:wr.cell? ⟨w.heap.size,1,none⟩=some (.int .i64 0):=Ro wr _ 1 _ _ _ hs;have s2:wr.cell? ⟨w.heap.size,2,none⟩=some (.slice none 0 0):=Ro wr _ 2 _ _ _ hs;have sf:∀i,wr.frozen? ⟨w.heap.size,i,none⟩=false:=λi=>by simp[World.frozen?,hs]
     have HSS:=Hd hs;clear hu hs;go_wp2_with fail;refine bodyPost_ret (aM rfl _ _ w.heap.size _ _ _ _ rfl (aS HSS.o) underlying40 zbL) rfl ?_;refine⟨_,by rw[EJ.o];rfl,?_,?_,λ_=> ?_⟩
     ·rw[EJ.o];have hal:=HACL.o;refine⟨C,cap,by rw[hal],?_,by omega⟩;rw[hal];exact HRF.o.keep (by simp[World.setCell]) (λg _ q=>by omega) (λg hg hI=>(aV _ _ _).block g hg (by omega))
     ·rw[EJ.o];have hx:=HXJ.o;rw[show acc.take ws.length=acc by rw[<-HACL.o,Tm]]at hx;exact MP.around HX.o HN.o (Le _) hstl (MP.of hx ((HCH1.o.mono λg _ hg=>.inl hg).trans (HCH.o.mono λg _ hg=>.inl hg))) (aV _ _ _)
     ·rw[EJ.o];have hx:=HXJ.o;rw[show acc.take ws.length=acc by rw[<-HACL.o,Tm]]at hx;exact MX.around HX.o (Le _) hx (aV _ _ _)
