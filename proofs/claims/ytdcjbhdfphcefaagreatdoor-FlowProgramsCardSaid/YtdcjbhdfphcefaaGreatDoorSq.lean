/- The store of. -/
import Derived.Test.YtdcjbhdfphcefaaGreatDoorSvr
import Derived.Test.YtdcjbhdfphcefaaGreatDoorCq
import Derived.Deep.RegionHeldLaw
namespace Go.Proofs.YtdcjbhdfphcefaaGreatDoor
set_option linter.all false
set_option maxRecDepth 100000
set_option maxHeartbeats 16000000
open Go.Proofs.Tryz
open Go.RowKit
theorem zmI:(prog.info? 169).bind (λi=>i.zero.map λz=>(i.size,i.bytes,z.cells.size))=some (33,264,33):=by kernel_rfl
theorem pF:∃(i:TypeInfo) (z:Value),prog.info? 169=some i/\i.zero=some z/\i.size=33/\i.bytes=264/\z.cells.size=33:=by
 have h:=zmI;rcases hi:prog.info? 169 with _|i
 ·rw[hi]at h;cases h
 rw[hi]at h;rcases hz:i.zero with _|z
 ·simp only[Ob,hz,On]at h;cases h
 simp only[Ob,hz,Om,Oi,Pj]at h;exact⟨i,z,rfl,hz,h.1,h.2.1,h.2.2⟩
theorem dW(W:World)(e:TypeId)(sz:Nat):(W.alloc (.cells #[] e)).ownsRow W.heap.size e sz (.slice (some ⟨W.heap.size,0,none⟩) 0 0) 0 []:=
 ⟨by simp,.inr ⟨W.heap.size,0,#[],rfl,Le _,Hn W _,Le _,Lq _,by simp,by simp⟩⟩
theorem SxR.over{w9:World}{B b g len c9:Nat}{cs:Array Value}{xs:LV}{σ:Sto}(hb:w9.heap[b]? =some (.cells cs 161 (0,0)))(hcs:cs.size=1101)(ho:w9.ownsRow B 169 33 (.slice (some ⟨g,0,none⟩) len c9) len xs)(hlen:len=σ.lv.length)(h0:0<len)(h9:len<=9)
 (hx:∀j i:Nat,j<len->i<33->xs[j*33+i]? =some (.int .i64 (σ.lv.getD j (λ_=>0) (1+i)))) (e2:∀i:Nat,i<100->cs[1+i]? =some (.int .i64 (σ.gl (100+i)))) (e3:∀i:Nat,i<1000->cs[101+i]? =some (.int .i64 (σ.gl (5000+i)))) (hne:g≠b):
 SxR (w9.setCell ⟨b,0,none⟩ (.slice (some ⟨g,0,none⟩) len c9)) b g σ:=by
 subst hlen;rcases ho.2 with⟨q,_⟩|⟨g',cap,cur,p1,p2,p3,p4,p5,p6,p7⟩
 ·cases q
 simp only[Vs,Oi,Addr.mk.injEq,true_and,and_true]at p1;obtain⟨rfl,rfl⟩:=p1;refine⟨hne,h0,h9,c9,cs.setIfInBounds 0 (.slice (some ⟨g,0,none⟩) σ.lv.length c9),cur,aD hb,(Bj _ _ _ _ hne).trans p3,?_,p4,p5,p6,?_,?_,?_,?_⟩
 ·rw[Ah,Ip rfl,Ip (by omega)]
 ·rw[Array.size_setIfInBounds,hcs]
 ·intro j i hj hi;have q:=hx j i hj hi;rw[<-p7,Gt]at q;split at q
  ·rw[<-q,At]
  ·cases q
 ·intro i hi;rw[Ah,Iq (by omega)];exact e2 i hi
 ·intro i hi;rw[Ah,Iq (by omega)];exact e3 i hi
def zmU(b lb:Nat)(σ':Sto)(er:Int)(w:World)(e:Ending)(w':World):Prop:=
 e=.returned (.int .i64 er)/\∃lb',(lb'=lb\/w.heap.size<=lb')/\SxR w' b lb' σ'/\Chg (λg=>g=b) w w'
theorem qnY(w:World)(b lb:Nat)(σ:Sto)(h:SxR w b lb σ):
 Calls prog 103 #[.pointer (some ⟨b,0,none⟩)] w (zmU b lb (zdN σ) (zfJ σ) w):=by
 have HS:=Hd h;have HL:=Hd (nM w b lb σ h);have hlt:=h.lt;obtain⟨hne,hp,hq,cap,cs,ls,h1,h2,h0,hcap,hm,hls,hcs,k1,k2,k3⟩:=h;have c0:w.cell? ⟨b,0,none⟩=some (.slice (some ⟨lb,0,none⟩) σ.lv.length cap):=(Ro w b 0 _ _ _ h1).trans h0;have f0:w.frozen? ⟨b,0,none⟩=false:=by simp[World.frozen?,h1]
 have HE:Hid (∀j i:Nat,j<σ.lv.length->i<33->ls[j*33+i]? =some (.int .i64 (σ.lv.getD j (λ_=>0) (1+i)))):=k1;have HK2:=Hd k2;have HK3:=Hd k3;have H1:=Hd h1;have H0:=Hd h0;have H2:=Hd h2;have HLS:=Hd hls;have HCS:=Hd hcs;obtain⟨iL,zL,hiL,hL0,hL1,hL2,hL3⟩:=pF;have HIL:=Hd hiL;have HZL:=Hd hL0;clear k1 k2 k3 h1 h2 h0 hls hcs hiL hL0;obtain⟨N,hN⟩:∃N,N=σ.lv.length:=⟨_,rfl⟩;rw[<-hN]at hp hq hcap c0 HL H0;have HNN:=Hd hN;clear hN;by_cases h1:N=1
 ·have e1:Hid (zfJ σ=13):=by unfold Hid zfJ;rw[Ip (by rw[<-HNN.o];exact h1)]
  have e2:Hid (zdN σ=σ):=by unfold Hid zdN;rw[Ip (by rw[<-HNN.o];exact h1)]
  have hz:((N:Int)-1==0)=true:=by rw[h1];rfl
  clear h1;go_enter func103,ntmps103;go_wp2_with(go_at_call 76;refine mo0 HL.o ?_);go_ret;exact⟨aO e1.o.symm,lb,.inl rfl,by rw[e2.o];exact HS.o,Chg.refl _ _⟩
 ·have e1:Hid (zfJ σ=0):=by unfold Hid zfJ;rw[Iq (by rw[<-HNN.o];exact h1)]
  have e2:Hid (zdN σ=⟨σ.lv.dropLast,σ.gl⟩):=by unfold Hid zdN;rw[Iq (by rw[<-HNN.o];exact h1)]
  have hz:((N:Int)-1==0)=false:=by simp;omega
  have hN2:2<=N:=by omega
  obtain⟨M,rfl⟩:∃M,N=M+1:=⟨N-1,by omega⟩;have wM:IntKind.i64.wrap ((M:Int)+1-1)=(M:Int):=by rw[IntWalk.i64_in _ (by omega)];omega
  have i0:(0:Int)<=(M:Int):=by omega
  have i1:(M:Int)<=(cap:Int):=by omega
  have wM2:IntKind.i64.wrap (M:Int)=(M:Int):=IntWalk.i64_in _ (by omega);have j0:(0:Int)<=IntKind.i64.wrap (M:Int):=by rw[wM2];omega
  have j1:IntKind.i64.wrap (M:Int)<=(cap:Int):=by rw[wM2];omega
  have j2:(IntKind.i64.wrap (M:Int)).toNat=M:=by rw[wM2];omega
  have hM9:M<=8:=by omega
  have hM1:1<=M:=by omega
  have HNEWS:Hid (∀o:Obj,∀j u,(ls.toList.take (M*33))[j]? =some u->(w.alloc o).cell? ((⟨lb,0,none⟩:Addr).add j)=some u):=λo j u hu=>by
   have hadd:(⟨lb,0,none⟩:Addr).add j=⟨lb,j,none⟩:=by unfold Addr.add;split<;>simp_all
   rw[hadd];rw[Gt]at hu;split at hu
   ·refine(((Bf w.heap.size w).alloc (Le _) o).cel lb j hlt.2).trans ((Ro w lb j _ _ _ H2.o).trans ?_);rw[<-hu,At]
   ·cases hu
  have HONE:Hid (∀u∈ls.toList.take (M*33),u.oneCell'=true):=λu hu=>by
   obtain⟨j,hj⟩:=List.getElem?_of_mem hu;rw[Gt]at hj;split at hj
   case isFalse=>cases hj
   rename_i hlt2;have hNN:=HNN.o;have q:=HE.o (j/33) (j%33) (by omega) (Nat.mod_lt _ (by omega));rw[show j/33*33+j%33=j by omega]at q;rw[At,q]at hj;rw[<-Oj hj];rfl
  have HLEN:Hid ((ls.toList.take (M*33)).length=M*33):=by
   unfold Hid;rw[Lr,Array.length_toList,HLS.o];have:=Nat.mul_le_mul_right 33 hcap;omega
  clear h1;go_enter func103,ntmps103;go_upto_region 3 with(go_at_call 76;refine mo0 HL.o ?_)
  go_region_law(first|(refine step_append_lies _ rfl (.tmp 7) (.tmp 18) 159 rfl w.heap.size 169 iL zL 33 264 underlying159 HIL.o HZL.o hL1 hL2 hL3 (by omega) (.slice (some ⟨w.heap.size,0,none⟩) 0 0) 0 [] (by simp[Act.eval,Act.put]) (dW w _ _) ⟨lb,0,none⟩ M cap (ls.toList.take (M*33)) (by simp[Act.eval,Act.put]) HLEN.o (HNEWS.o _) HONE.o (by omega) (by unfold maxLen;omega) (by omega) (by simp) _ rfl ?_;intro g9 c9 w9 ho9 hg9 hl9 hlt9;have HO9:=Hd ho9;have HG9:=Hd hg9;have HL9:=Hd hl9;have hbk9:=(hg9.block b (by simp;omega) (λe=>by simp[Value.ownBlock]at e;omega)).trans ((Bm _ _ _ hlt.1).trans H1.o);have HBK9:=Hd hbk9;have z39:=(Ro w9 _ 0 _ _ _ hbk9).trans H0.o;have zf9:w9.frozen? ⟨b,0,none⟩=false:=(by simp[World.frozen?,hbk9]);clear ho9 hg9 hl9 hbk9));all_goals
   go_wp2_with fail;go_ret;have ho9:w9.ownsRow w.heap.size 169 33 (.slice (some ⟨g9,0,none⟩) M c9) M (ls.toList.take (M*33)):=by simpa using HO9.o
   have hg9:w.heap.size<=g9/\g9<w9.heap.size:=aI ho9 rfl;refine⟨aO e1.o.symm,g9,.inr hg9.1,?_,?_⟩
   ·rw[e2.o];have hx:=SxR.over (σ:=⟨σ.lv.dropLast,σ.gl⟩) HBK9.o HCS.o ho9 (by have:=HNN.o;simp;omega) (by omega) (by omega) (λj i hj hi=> ?_) HK2.o HK3.o (by omega)
    ·first|exact hx|simpa using hx
    ·rw[Gt,Ip (by omega),At,HE.o j i (by have:=HNN.o;omega) hi];have e:(σ.lv.dropLast).getD j (λ_=>0)=σ.lv.getD j (λ_=>0):=by
      rw[Gd,Gd,List.getElem?_dropLast,Ip (by have:=HNN.o;omega)]
     rw[e]
   ·exact⟨HG9.o.os,HG9.o.tape,HG9.o.output,by have:=HG9.o.size;simp[World.setCell]at this⊢;omega,λq hq hz=>(Bj _ _ _ q hz).trans ((HG9.o.block q (by simp;omega) (λe=>by simp[Value.ownBlock]at e;omega)).trans (Bm _ _ _ hq))⟩
theorem qiJ{P:Program}{o:Oper}{a:Act}{w:World}{K K':Act->World->Prop}{Q Q1:Exit->Act->World->Prop}(hQ:∀e a w,Q1 e a w->e=.normal)(hK:∀a w,K a w->K' a w)(h:o.wp P a w K Q1):o.wp P a w K' Q:=by
 unfold Oper.wp at*
 generalize(execOp a.eval o).run P w=r at*
 cases r with
 |ok n w'=>
  cases n<;>simp only[Oper.upon]at h⊢
  case value u=>exact hK _ _ h
  case skip=>exact hK _ _ h
  case defer d=>exact hK _ _ h
  case enter f args=>
   refine Calls.mono h λe w'' he=> ?_;cases e with
   |returned u=>exact hK _ _ he
   |panicked c=>exact nomatch hQ _ _ _ he
   |outgrown=>obtain⟨a,w,he⟩:=he;exact nomatch hQ _ _ _ he
  case row row args=>exact Rows.mono h λu w'' he=>hK _ _ he
 |halt x w'=>
  cases x<;>simp only[Oper.upon]at h⊢
  case panic u=>exact nomatch hQ _ _ _ h
theorem qaX{P:Program}{ops ops1:Array Oper}{i:Nat}{o:Oper}{a:Act}{w:World}{K K':Act->World->Prop}{Q Q1:Exit->Act->World->Prop}(h0:ops[i]? =some o)(h1:ops1[i]? =some o)(hg:o.guard=none)(hQ:∀e a w,Q1 e a w->e=.normal)(hK:∀a w,K a w->K' a w)(h:wpOp P ops1 Q1 i K a w):wpOp P ops Q i K' a w:=by
 unfold wpOp at*
 have hw:∀y,Region.wanted o y=true:=λy=>by simp[Region.wanted,hg]
 simp only[h0,h1,hw,if_true]at*
 rcases h with h|⟨_,a,w,h⟩
 ·exact .inl (qiJ hQ hK h)
 ·exact nomatch hQ _ _ _ h
def ziY(ops:Array Oper)(k:Nat):Bool:=(List.range ops.size).all λi=>match ops[i]? with
 |none=>false
 |some o=>if i<k then o.guard.isNone&&o.after.all (λe=>decide (e.on<i))else(List.range k).all λj=>o.after.any λe=>Region.binds .any e&&e.on==j
theorem uS{l r:Array Bool}{j:Nat}{d:Bool}:(l++r).getD j d=if j<l.size then l.getD j d else r.getD (j-l.size) d:=by
 simp only[Array.getD_eq_getD_getElem?];split
 ·rw[Array.getElem?_append_left (by assumption)]
 ·rw[Array.getElem?_append_right (by omega)]
theorem fS{md:Region.Mode}{ops:Array Oper}{j:Nat}{listed:Array Bool}:j∈Region.ready md ops listed↔listed.getD j true=false/\∃o,ops[j]? =some o/\∀e∈o.after,Region.binds md e=true->listed.getD e.on false=true:=mem_ready
theorem qoT{l:Array Bool}{i:Nat}(h:l.getD i true=false):(l.setIfInBounds i true).toList.countP (! ·)+1=l.toList.countP (! ·):=by
 have hi:i<l.size:=by
  rcases Nat.lt_or_ge i l.size with q|q
  ·exact q
  ·simp[Array.getD_eq_getD_getElem?,Array.getElem?_eq_none q]at h
 have hv:l.toList[i]'(by simpa using hi)=false:=by simpa[Array.getD_eq_getD_getElem?,hi]using h
 rw[Array.toList_setIfInBounds,List.countP_set (by simpa using hi),hv];have:0<l.toList.countP (! ·):=List.countP_pos_iff.2 ⟨false,by rw[<-hv];exact List.getElem_mem _,rfl⟩;simp only[Bool.not_false,Bool.not_true,if_true,Bool.false_eq_true,if_false];omega
theorem qsK{l:Array Bool}(h:l.toList.countP (! ·)=0):l=Array.replicate l.size true:=by
 apply Array.ext
 ·simp
 ·intro i h1 h2;rw[List.countP_eq_zero]at h;have:=h l[i] (by simp);simpa using this
theorem qB{P:Program}{ops:Array Oper}{Q:Exit->Act->World->Prop}{S:World->Prop}{n k:Nat}(hn:ops.size=n)(hkn:k<=n)(hb:ziY ops k=true):
 ∀(f:Nat) (l:Array Bool) (a:Act) (w:World),l.size=k->l.toList.countP (! ·)=f->wpAnyH P .any (ops.extract 0 k) (λe a w=>e=.normal/\wpAny P .any ops Q (n-k) (Array.replicate k true++Array.replicate (n-k) false) a w) S f l a w->
  wpAny P .any ops Q (f+(n-k)) (l++Array.replicate (n-k) false) a w:=by
 have hp:∀i o,ops[i]? =some o->if i<k then o.guard=none/\(∀e∈o.after,e.on<i)else∀j,j<k->∃e∈o.after,Region.binds .any e=true/\e.on=j:=by
  intro i o ho;have hi:i<ops.size:=(Ag.1 ho).1;unfold ziY at hb;rw[List.all_eq_true]at hb;have q:=hb i (List.mem_range.2 hi);rw[ho]at q;dsimp only at q;split
  ·rename_i h1;rw[Ip h1,Ba1,Array.all_eq_true_iff_forall_mem]at q;exact⟨by simpa using q.1,λe he=>by simpa using q.2 e he⟩
  ·rename_i h1;rw[Iq h1,List.all_eq_true]at q;intro j hj;have q2:=q j (List.mem_range.2 hj);rw[Array.any_eq_true']at q2;obtain⟨e,he,h2⟩:=q2;rw[Ba1,beq_iff_eq]at h2;exact⟨e,he,h2.1,h2.2⟩
 have hex:∀i,i<k->(ops.extract 0 k)[i]? =ops[i]? :=λi hi=>by simp[Array.getElem?_extract,hi];omega
 have hex2:∀i,k<=i->(ops.extract 0 k)[i]? =none:=λi hi=>Array.getElem?_eq_none (by simp;omega);have hrep:∀{j d},(Array.replicate (n-k) false).getD j d=if j<n-k then false else d:=λ{j d}=>by
  simp only[Array.getD_eq_getD_getElem?,Array.getElem?_replicate];split<;>rfl
 have hlow:∀(l:Array Bool),l.size=k->∀i,i<k->(i∈Region.ready .any ops (l++Array.replicate (n-k) false)↔i∈Region.ready .any (ops.extract 0 k) l):=by
  intro l hl i hi;rw[fS,fS,hex i hi,uS,Ip (by omega)];refine and_congr_right λ_=>exists_congr λo=>and_congr_right λho=> ?_;have h1:=hp i o ho;rw[Ip hi]at h1;refine forall_congr' λe=>forall_congr' λhe=> ?_;rw[uS,Ip (by have:=h1.2 e he;omega)]
 have hhigh:∀(l:Array Bool),l.size=k->∀i,k<=i->i∈Region.ready .any ops (l++Array.replicate (n-k) false)->∀j,j<k->l.getD j false=true:=by
  intro l hl i hi hr j hj;obtain⟨_,o,ho,h2⟩:=fS.1 hr;have h1:=hp i o ho;rw[Iq (by omega)]at h1;obtain⟨e,he,hbe,hj2⟩:=h1 j hj;have h3:=h2 e he hbe;rw[hj2,uS,Ip (by omega)]at h3;exact h3
 have hset:∀(l:Array Bool) (i:Nat),l.size=k->i<k->(l++Array.replicate (n-k) false).setIfInBounds i true=l.setIfInBounds i true++Array.replicate (n-k) false:=λl i hl hi=>by
  apply Array.ext';simp only[Array.toList_setIfInBounds,Array.toList_append,List.set_append,Array.length_toList];rw[Ip (by omega)]
 intro f;induction f with
 |zero=>
  intro l a w hl hc h;rw[Nat.zero_add];have e:=qsK hc;rw[hl]at e;rw[e];exact h.2.2
 |succ f ih=>
  intro l a w hl hc h;rw[Nat.succ_add];have hun:∃i,i<k/\i∈Region.ready .any (ops.extract 0 k) l:=by
   have hex3:∃i,i<k/\l.getD i true=false:=by
    have:0<l.toList.countP (! ·):=by omega
    obtain⟨b,hb1,hb2⟩:=List.countP_pos_iff.1 this;obtain⟨i,hi,e⟩:=List.getElem_of_mem hb1;refine⟨i,by simpa[hl]using hi,?_⟩;have hi2:i<l.size:=by simpa using hi
    simp only[Array.getD_eq_getD_getElem?,Array.getElem?_eq_getElem hi2,Option.getD_some];rw[Array.getElem_toList]at e;rw[e];simpa using hb2
   have hmin:∀m,(∃i,i<m/\i<k/\l.getD i true=false)->∃i,i<k/\l.getD i true=false/\∀j,j<i->l.getD j true=true:=by
    intro m;induction m with
    |zero=>rintro⟨i,h,_⟩;omega
    |succ m ihm=>
     rintro⟨i,h1,h2,h3⟩;by_cases hq:∃i,i<m/\i<k/\l.getD i true=false
     ·exact ihm hq
     ·refine⟨i,h2,h3,λj hj=> ?_⟩;rcases hv:l.getD j true with _|_
      ·exact absurd ⟨j,by omega,by omega,hv⟩ hq
      ·rfl
   obtain⟨i0,h1,h2⟩:=hex3;obtain⟨i,hi,hu,hbel⟩:=hmin (i0+1) ⟨i0,by omega,h1,h2⟩;refine⟨i,hi,fS.2 ⟨hu,?_⟩⟩;rw[hex i hi];obtain⟨o,ho⟩:∃o,ops[i]? =some o:=⟨_,Array.getElem?_eq_getElem (by omega)⟩;have h1:=hp i o ho;rw[Ip hi]at h1;refine⟨o,ho,λe he _=> ?_⟩;have h3:=h1.2 e he;have h4:=hbel e.on h3;simp only[Array.getD_eq_getD_getElem?]at h4⊢
   rw[Array.getElem?_eq_getElem (by omega)]at h4⊢
   exact h4
  obtain⟨i0,hi0,hr0⟩:=hun;refine⟨λhnil=> ?_,λi hi=> ?_⟩
  ·have:=(hlow l hl i0 hi0).2 hr0;rw[hnil]at this;cases this
  ·rcases Nat.lt_or_ge i k with hik|hik
   ·have hi2:=(hlow l hl i hik).1 hi;obtain⟨hu,o,ho,_⟩:=fS.1 hi2;rw[hex i hik]at ho;have hg:=hp i o ho;rw[Ip hik]at hg;refine qaX ho (by rw[hex i hik];exact ho) hg.1 (λe a w q=>q.1) (λa' w' q=> ?_) (h.2 i hi2);rw[hset l i hl hik];refine ih _ _ _ (by simpa using hl) ?_ q.2;have:=qoT hu;omega
   ·have h2:=hhigh l hl i hik hi i0 hi0;have h3:=(fS.1 hr0).1;simp only[Array.getD_eq_getD_getElem?,Array.getElem?_eq_getElem (show i0<l.size by omega),Option.getD_some]at h2 h3;rw[h2]at h3;cases h3
theorem eQ{P:Program}{id:Nat}{ops:Array Oper}{Q:Exit->Act->World->Prop}{a:Act}{w:World}{S:World->Prop}(k n:Nat)(hn:ops.size=n)(hkn:k<=n)(hb:ziY ops k=true)(hm:P.follows .mixedOrders=true)
 (h:wpAnyH P .any (ops.extract 0 k) (λe a w=>e=.normal/\wpAny P .any ops Q (n-k) (Array.replicate k true++Array.replicate (n-k) false) a w) S k (Array.replicate k false) a w.drew):(Code.region id ops true).wp P Q a w:=by
 refine wp_region_any hm ?_;have q:=qB hn hkn hb k (Array.replicate k false) a w.drew (by simp) (by rw[Array.toList_replicate,List.countP_replicate];simp) h;have e1:k+(n-k)=n:=by omega
 have e2:Array.replicate k false++Array.replicate (n-k) false=Array.replicate n false:=by simp[Array.replicate_append_replicate,e1]
 rw[e1,e2]at q;rw[hn];exact q
theorem cG{P:Program}{ops:Array Oper}{o:Oper}{a:Act}{w:World}{K:Act->World->Prop}{Q:Exit->Act->World->Prop}{E:Prop}(hgd:o.guard=none)(s x:Operand)(t:TypeId)
 (ho:o.op=.call {callee:=.builtin .append,args:= #[s,x],argTypes:= #[t,t]}) (base:Nat) (e:TypeId) (i:TypeInfo) (z:Value) (size bytes:Nat) (ht:P.underlying t=some (.slice e)) (hi:P.info? e=some i) (hz:i.zero=some z)
 (hsize:i.size=size) (hby:i.bytes=bytes) (hzs:z.cells.size=size) (hsz:0<size) (g n c0:Nat) (xs:LV) (hs:a.eval s=.slice (some ⟨g,0,none⟩) n c0) (hown:w.ownsRow base e size (.slice (some ⟨g,0,none⟩) n c0) n xs)
 (A:OA) (m c:Nat) (news:LV) (hx:a.eval x=.slice A m c) (hl:news.length=m*size) (hA:0<m->∃ad,A=some ad/\∀j u,news[j]? =some u->w.cell? (ad.add j)=some u) (h1:∀u∈news,u.oneCell'=true)
 (h63:n+m<=maxLen) (hbytes:(n+m)*bytes<=140737488355328) (hbase:base<=w.heap.size)
 (h:∀g' cap w',w'.ownsRow base e size (.slice (some ⟨g',0,none⟩) (n+m) cap) (n+m) (xs++news)->w.grownBy w' (some g)->(g'=g\/g'=w.heap.size)->g'<w'.heap.size->K (a.put o.dst (.slice (some ⟨g',0,none⟩) (n+m) cap)) w'):
 if Region.wanted o (yielded ops a.tmps)=true then Oper.wp P o a w K Q else E:=by
 have hw:Region.wanted o (yielded ops a.tmps)=true:=by simp[Region.wanted,hgd]
 rw[Ip hw];rcases Nz m with hm|hm
 ·subst hm;have hn:news=[]:=Ez (by simpa using hl);subst hn;rcases hown.2 with⟨q,_⟩|⟨g0,cap,cur,e1,e2,e3,e4,e5,e6,e7⟩
  ·cases q
  simp only[Vs,Oi,Addr.mk.injEq,true_and,and_true]at e1;obtain⟨rfl,rfl⟩:=e1;have hr:(Builtin.append_ #[t,t] o.type #[.slice (some ⟨g,0,none⟩) n c0,.slice A 0 c]).run P w=.ok (.slice (some ⟨g,0,none⟩) n c0) w:=by
   rcases A with _|ad<;>simp[Builtin.append_,run_underlying ht,sizeOf,typeInfo,hi,Builtin.lenOf,Builtin.firstCells,loadCells,loadCellsFrom,e4,storeCells]
  unfold Oper.wp execOp;simp only[ho,resolve,invoke,builtin,Sem.run_bind,Sem.run_pure,Result.andThen_ok,List.map_toArray,List.map_cons,List.map_nil,hs,hx,hr];exact h g c0 w (by rw[List.append_nil];exact hown) ⟨rfl,rfl,rfl,Le _,λ_ _ _=>rfl⟩ (.inl rfl) (hlS e3)
 ·obtain⟨ad,rfl,hnews⟩:=hA hm;exact wp_append_lies w s x t ho base e i z size bytes ht hi hz hsize hby hzs hsz _ n xs hs hown ad m c news hx hl hnews h1 hm h63 hbytes hbase _ rfl λg' cap w' a1 a2 a3 a4=>h g' cap w' a1 a2 (by rcases a3 with q|q;(simp[Value.ownBlock]at q;exact .inl q.symm);exact .inr q) a4
theorem zmQ(g j:Nat):(⟨g,0,none⟩:Addr).add j=⟨g,j,none⟩:=by unfold Addr.add;split<;>simp_all
theorem yT{w:World}{b b':Nat}{e:TypeId}{s n:Nat}{v:Value}{xs:LV}(h:w.ownsRow b e s v n xs)(hb:b'<=b):w.ownsRow b' e s v n xs:=by
 refine⟨h.1,?_⟩;rcases h.2 with h|⟨g,cap,cur,e1,e2,e3⟩
 ·exact .inl h
 ·exact .inr ⟨g,cap,cur,e1,Ly hb e2,e3⟩
theorem eH{n:Nat}{wr W w9:World}{v:Option Nat}(hn:n<=wr.heap.size)(hb:Below n wr W)(hg:W.grownBy w9 v)(hv:∀g,v=some g->n<=g):Below n wr w9:=
 ⟨hg.os.trans hb.os,hg.tape.trans hb.tape,hg.output.trans hb.output,Ly hb.size hg.size,λg h1=>(hg.block g (Lt h1 (Ly hn hb.size)) (λe=>by have:=hv g e.symm;omega)).trans (hb.block g h1)⟩
theorem qlK:∀(l:LI) (s:List Int),zcN s l=0->∀x∈l,zbW x.1≠0:=by
 intro l;induction l with
 |nil=>intro s _ x hx;cases hx
 |cons y r ih=>
  intro s h x hx;obtain⟨c,n⟩:=y;rw[zcN]at h;split at h
  ·omega
  rename_i h0;split at h
  ·omega
  split at h
  ·rcases List.mem_cons.1 hx with rfl|hx
   ·exact h0
   ·exact ih _ h x hx
  ·omega
structure PvR(w0:World)(l:LI)(k:Nat)(W:World):Prop where
 below:Bw w0 W
 lv:∃lc:Array Value,W.heap[w0.heap.size]? =some (.cells lc 169 (0,0))/\lc.size=33/\∀i:Nat,i<33->lc[i]? =some (.int .i64 (zgW (l.take k) (1+i)))
theorem PvR.start{w0:World}{l:LI}:PvR w0 l 0 (w0.alloc (.cells lvC 169)):=
 ⟨nB _ _,lvC,Hn w0 _,fK 33,λi hi=>nJ i hi⟩
theorem PvR.next{w wr w2:World}{l:LI}{k:Nat}{cc nn:Int}(hr:PvR w l k wr)(hb:Bw wr w2)(hx:l[k]? =some (cc,nn))(hl1:1<=zbW cc)(hl2:zbW cc<=33):
 PvR w l (k+1) (w2.setCell ⟨w.heap.size,(zbW cc).toNat-1,none⟩ (.int .i64 nn)):=by
 obtain⟨hb0,lc,q1,q2,q3⟩:=hr;refine⟨(hb0.tm hb).setCell (p:=⟨w.heap.size,(zbW cc).toNat-1,none⟩) (Le _) _,lc.setIfInBounds ((zbW cc).toNat-1) (.int .i64 nn),aD ((hb.block _ (hlS q1)).trans q1),by simpa using q2,λi hi=> ?_⟩;rw[cB (q3 i hi)];have e:zgW (l.take (k+1))=upd (zgW (l.take k)) (zbW cc) nn:=by
  unfold zgW;rw[Ta,hx,Option.toList_some,List.foldl_append];rfl
 rw[e];exact congrArg some (gS (by omega))
def PvL(w0:World)(l:LI)(i:Value)(W:World):Prop:=∃k:Nat,k<=l.length/\i=.int .i64 (k:Int)/\PvR w0 l k W
theorem yV{n:Nat}{wr W:World}{lb:Nat}{ls:Array Value}{t:TypeId}{m:Nat}(hb:Below n wr W)(hn:lb<n)(h:wr.heap[lb]? =some (.cells ls t (0,0))):∀j u,(ls.toList.take m)[j]? =some u->W.cell? ((⟨lb,0,none⟩:Addr).add j)=some u:=λj u hu=>by
 refine Nk ((hb.block lb hn).trans h) j u ?_;rw[Gt]at hu;split at hu
 ·exact hu
 ·cases hu
theorem SxR.more{w5:World}{n b g N c5:Nat}{cs ls lc:Array Value}{σ:Sto}{f:Int->Int}(hb:w5.heap[b]? =some (.cells cs 161 (0,0)))(hcs:cs.size=1101)(ho:w5.ownsRow n 169 33 (.slice (some ⟨g,0,none⟩) (N+1) c5) (N+1) (ls.toList.take (N*33)++lc.toList))(hN:N=σ.lv.length)(h9:N<=8)(hls:N*33<=ls.size)
 (k1:∀j i:Nat,j<N->i<33->ls[j*33+i]? =some (.int .i64 (σ.lv.getD j (λ_=>0) (1+i)))) (hl:∀i:Nat,i<33->lc[i]? =some (.int .i64 (f (1+i)))) (k2:∀i:Nat,i<100->cs[1+i]? =some (.int .i64 (σ.gl (100+i)))) (k3:∀i:Nat,i<1000->cs[101+i]? =some (.int .i64 (σ.gl (5000+i)))) (hne:g≠b):
 SxR (w5.setCell ⟨b,0,none⟩ (.slice (some ⟨g,0,none⟩) (N+1) c5)) b g ⟨σ.lv++[f],σ.gl⟩:=by
 refine SxR.over hb hcs ho (by simp[hN]) (by omega) (by omega) (λj i hj hi=> ?_) k2 k3 hne;have hlen:(ls.toList.take (N*33)).length=N*33:=by rw[Lr,Array.length_toList];omega
 rcases Nat.lt_or_ge j N with h|h
 ·have hm:j*33+i<N*33:=by omega
  rw[Gc (by omega),Gt,Ip hm,At,k1 j i h hi];dsimp only;rw[Gd,Gd,Gc (by omega)]
 ·obtain rfl:j=N:=by omega
  rw[Ga (by omega),hlen,Nc,At,hl i hi];dsimp only;rw[Gd,Ga (by omega),hN,Nat.sub_self];rfl
theorem qI(w:World)(b lb:Nat)(σ:Sto)(I:Nat->Prop)(A:OA)(n c:Nat)(l:LI)(h:SxR w b lb σ)(hv:RdV w I A n l):
 Calls prog 104 #[.pointer (some ⟨b,0,none⟩),.slice A n c] w (zmU b lb (zbU σ l) (zcG σ l) w):=by
 have HS:=Hd h;have HL:=Hd (nM w b lb σ h);have HAR:=Hd (qlJ w I A n c l hv);have hlt:=h.lt;have hpos:=h.pos;have hfew:=h.few;obtain⟨hn1,hn2,hvb,hvc⟩:=hv;have HVB:=Hd hvb;have HVC:=Hd hvc;have HN1:=Hd hn1;obtain⟨N,hN⟩:∃N,N=σ.lv.length:=⟨_,rfl⟩;rw[<-hN]at hpos hfew HL;have HNN:=Hd hN;have hnl:l.length<=9223372036854775807:=by rw[<-hn1];unfold maxLen at hn2;omega
 subst hn1;clear hvb hvc hN h;by_cases h9:N=9
 ·have e1:Hid (zcG σ l=10):=by unfold Hid zcG;rw[Ip (by rw[<-HNN.o];exact h9)]
  have e2:Hid (zbU σ l=σ):=by unfold Hid zbU;rw[Iq (by rw[e1.o];omega)]
  have hz:decide (((N:Int)-1)≥8)=true:=Dt (by omega);have hz2:decide ((8:Int)<=(N:Int)-1)=true:=Dt (by omega);subst h9;go_enter func104,ntmps104;go_wp2_with(go_at_call 76;refine mo0 HL.o ?_);go_ret;exact⟨aO e1.o.symm,lb,.inl rfl,by rw[e2.o];exact HS.o,Chg.refl _ _⟩
 have E0:Hid (zcG σ l=zcN [] l):=by unfold Hid zcG;rw[Iq (by rw[<-HNN.o];exact h9)]
 have hz:decide (((N:Int)-1)≥8)=false:=Df (by omega);have hz2:decide ((8:Int)<=(N:Int)-1)=false:=Df (by omega);by_cases ha:zcN [] l=0
 case neg=>
  have e2:Hid (zbU σ l=σ):=by unfold Hid zbU;rw[Iq (by rw[E0.o];exact ha)]
  have ga:(zcN [] l !=0)=true:=by simpa using ha
  clear ha;go_enter func104,ntmps104;go_wp2_with(first|(go_at_call 76;refine mo0 HL.o ?_)|(go_at_call 142;refine HAR.o.mono ?_;rintro e w2 ⟨rfl,hb⟩;have HB:=Hd hb;clear hb));go_ret;exact⟨aO E0.o.symm,lb,.inl rfl,by rw[e2.o];exact HS.o.below HB.o,Chg.of_below HB.o⟩
 have HLOC:=Hd (qlK l [] ha);rw[ha]at HAR E0;have e2:Hid (zbU σ l=⟨σ.lv++[zgW l],σ.gl⟩):=by unfold Hid zbU;rw[Ip E0.o]
 clear ha;go_enter func104,ntmps104;go_wp2_with(first|(go_at_call 76;refine mo0 HL.o ?_)|(go_at_call 142;refine HAR.o.mono ?_;rintro e w2 ⟨rfl,hb⟩;have HB:=Hd hb;clear hb));obtain⟨W3,hW3⟩:∃W3,W3=w2.alloc (.cells lvC 169):=⟨_,rfl⟩;have HR0:Hid (PvL w2 l (.int .i64 0) W3):=by unfold Hid;rw[hW3];exact⟨0,Lq _,rfl,PvR.start⟩
 have e0:w2.alloc (.cells #[.int .i64 0,.int .i64 0,.int .i64 0,.int .i64 0,.int .i64 0,.int .i64 0,.int .i64 0,.int .i64 0,.int .i64 0,.int .i64 0,.int .i64 0,.int .i64 0,.int .i64 0,.int .i64 0,.int .i64 0,.int .i64 0,.int .i64 0,.int .i64 0,.int .i64 0,.int .i64 0,.int .i64 0,.int .i64 0,.int .i64 0,.int .i64 0,.int .i64 0,.int .i64 0,.int .i64 0,.int .i64 0,.int .i64 0,.int .i64 0,.int .i64 0,.int .i64 0,.int .i64 0] 169)=W3:=hW3.symm;rw[e0];clear e0 hW3;go_loopw[7] (PvL w2 l) (λi _=>l.length-(intOf i).toNat)
 case atStart=>exact HR0.o
 case round=>
  obtain⟨k,hk,rfl,hr⟩:=hrel;have HR:=Hd hr;obtain⟨hb,lc,q1,q2,q3⟩:=hr;have HBW:=Hd (HB.o.tm hb);have HL1:=Hd q1;have HL3:=Hd q3;have HL2:=Hd q2;have hsz:=hlS q1;clear hb q1 q2 q3 HR0;by_cases hlt2:k<l.length
  ·obtain⟨ab,off,rfl,_,hab,hc⟩:=HVC.o (by omega);obtain⟨⟨cc,nn⟩,hx⟩:∃x,l[k]? =some x:=⟨_,Gg hlt2⟩;obtain⟨x0,x1⟩:=hc k _ hx;have hbx:=HVB.o _ (Mg hx);dsimp only at x0 x1 hbx;obtain⟨⟨bc1,bc2⟩,bn1,bn2⟩:=hbx;have hab2:=Lt hab HBW.o.size;have d0:=HBW.o.ct hab x0;have d1:=HBW.o.ct hab x1;have HD1:=Hd d1;have hl0:=HLOC.o _ (Mg hx);have hlb:=qhK cc;dsimp only at hl0;have HX:=Hd hx;have HLO:=Hd (λW=>uI cc W bc1 bc2);have hlc:=HL3.o ((zbW cc).toNat-1) (by omega);have HLC:Hid (wr.cell? ⟨w2.heap.size,(zbW cc).toNat-1,none⟩=some (.int .i64 (zgW (l.take k) (1+(((zbW cc).toNat-1:Nat):Int))))):=(Ro wr _ _ _ _ _ HL1.o).trans hlc;have w1:IntKind.i64.wrap (zbW cc-1)=zbW cc-1:=IntWalk.i64_in _ (by omega);have t1:(IntKind.i64.wrap (zbW cc-1)).toNat=(zbW cc).toNat-1:=by rw[w1];omega
   have t2:(0:Int)<=IntKind.i64.wrap (zbW cc-1):=by rw[w1];omega
   have t3:IntKind.i64.wrap (zbW cc-1)<33:=by rw[w1];omega
   have i0:(0:Int)<=(k:Int):=by omega
   have i1:(k:Int)<(l.length:Int):=by omega
   have HLL:Hid (1<=zbW cc/\zbW cc<=33):=by unfold Hid;omega
   clear hc x0 x1 hx hl0 hlb hlc;go_upto_region 10 with(fail)
   go_region_with(go_at_call 143;refine(HLO.o _).mono ?_;rintro e w4 ⟨rfl,hb4⟩;have HB4:Hid (Bw wr w4):=(aA (Bf wr.heap.size wr) 1).trans (hb4.mono (Le _));have d1:=HB4.o.ct hab2 HD1.o;have l0:=HB4.o.ct hsz HLC.o;have lf:w4.frozen? ⟨w2.heap.size,(zbW cc).toNat-1,none⟩=false:=(by have q:=(HB4.o.block _ hsz).trans HL1.o;simp[World.frozen?,q]);clear hb4);all_goals
    go_wp2_with fail;exact⟨⟨k+1,by omega,by go_num,HR.o.next HB4.o HX.o HLL.o.1 HLL.o.2⟩,by simp only[intOf];omega⟩
  ·have hke:k=l.length:=by omega
   obtain⟨hne,hp,hq,cap,cs,ls,h1,h2,h0,hcap,hm,hls,hcs,k1,k2,k3⟩:=HS.o;have hNN:=HNN.o;rw[<-hNN]at h0 hcap k1;have G1:=Hd ((HBW.o.block b hlt.1).trans h1);have G2:=Hd ((HBW.o.block lb hlt.2).trans h2);have hbr:=hlS G1.o;have hlr:=hlS G2.o;have H0:=Hd h0;have c0:wr.cell? ⟨b,0,none⟩=some (.slice (some ⟨lb,0,none⟩) N cap):=(Ro wr b 0 _ _ _ G1.o).trans h0;have c1:∀o:Obj,(wr.alloc o).cell? ⟨b,0,none⟩=some (.slice (some ⟨lb,0,none⟩) N cap):=λo=>(Wl wr o ⟨b,0,none⟩ hbr).trans c0;have c2:∀o o':Obj,((wr.alloc o).alloc o').cell? ⟨b,0,none⟩=some (.slice (some ⟨lb,0,none⟩) N cap):=λo o'=>(Wl _ o' ⟨b,0,none⟩ (by simp;omega)).trans (c1 o);have HA:Hid ((∀o:Obj,(wr.alloc o).heap[wr.heap.size]? =some o)/\(∀o o':Obj,((wr.alloc o).alloc o').heap[wr.heap.size]? =some o)/\∀o o':Obj,((wr.alloc o).alloc o').heap[wr.heap.size+1]? =some o'):=
    ⟨λo=>Hn wr o,λo o'=>(Bm _ _ _ (by simp)).trans (Hn wr o),λo o'=>by simpa using Hn (wr.alloc o) o'⟩
   have BL:Hid (Bw wr wr.drew/\(∀o:Obj,Bw wr (wr.drew.alloc o))/\∀o o':Obj,Bw wr ((wr.drew.alloc o).alloc o')):=
    have q0:Bw wr wr.drew:=aA (Bf wr.heap.size wr) 1
    ⟨q0,λo=>q0.alloc (Le _) o,λo o'=>(q0.alloc (Le _) o).alloc (by simp) o'⟩
   have HLEN:Hid ((ls.toList.take (N*33)).length=N*33):=by
    unfold Hid;rw[Lr,Array.length_toList,hls];have:=Nat.mul_le_mul_right 33 hcap;omega
   have hls2:N*33<=ls.size:=by rw[hls];exact Nat.mul_le_mul_right 33 hcap
   have HONE:Hid (∀u∈ls.toList.take (N*33),u.oneCell'=true):=λu hu=>by
    obtain⟨j,hj⟩:=List.getElem?_of_mem hu;rw[Gt]at hj;split at hj
    case isFalse=>cases hj
    rename_i hlt2;have q:=k1 (j/33) (j%33) (by omega) (Nat.mod_lt _ (by omega));rw[show j/33*33+j%33=j by omega]at q;rw[At,q]at hj;rw[<-Oj hj];rfl
   have HONE2:Hid (∀u∈lc.toList,u.oneCell'=true):=λu hu=>by
    obtain⟨i,hi⟩:=List.getElem?_of_mem hu;have hi33:i<33:=by have:=(Gu.1 hi).1;simp[HL2.o]at this;exact this
    rw[At,HL3.o i hi33]at hi;rw[<-Oj hi];rfl
   have hbl:b≠w2.heap.size:=by have:=HB.o.size;omega
   have HRG:Hid (∀W,Bw wr W->W.rangeAt w2.heap.size 0 lc.toList):=λW hW j v hv=>by
    rw[Nat.zero_add,Ro W _ _ _ _ _ ((hW.block _ hsz).trans HL1.o)];simpa using hv
   have HRS:Hid (∀W v,Bw wr W->(W.setCell ⟨b,0,none⟩ v).rangeAt w2.heap.size 0 lc.toList):=λW v hW j x hx=>by
    rw[Nat.zero_add,Ro _ _ _ _ _ _ ((Bj _ _ _ _ (Ne.symm hbl)).trans ((hW.block _ hsz).trans HL1.o))];simpa using hx
   have HCS:=Hd hcs;have HK:=Hd (And.intro k1 (And.intro k2 k3));obtain⟨iL,zL,hiL,hL0,hL1,hL2,hL3⟩:=pF;have HIL:=Hd hiL;have HZL:=Hd hL0;have hu:=underlying169;have hi:(prog.info? 169).map (·.size)=some lc.toList.length:=by rw[HIL.o];simp[hL1,HL2.o]
   have hct:lc.toList.toArray=lc:=by simp
   have HN:=Hd hNN;have hN8:N<=8:=by omega
   have hl2:=HL2.o;clear h1 h2 h0 hls hcs k1 k2 k3 hiL hL0 hNN;have hz3:decide ((k:Int)<(l.length:Int))=false:=Df (by omega);have HBA:Hid (∀o:Obj,Bw wr (wr.alloc o).drew):=λo=>aA ((Bf _ _).alloc (Le _) o) 1;have HOW:Hid ((∀o,((wr.alloc (.cells #[] 169)).alloc o).ownsRow wr.heap.size 169 33 (.slice (some ⟨wr.heap.size,0,none⟩) 0 0) 0 [])/\∀o,((wr.alloc o).alloc (.cells #[] 169)).ownsRow wr.heap.size 169 33 (.slice (some ⟨wr.heap.size+1,0,none⟩) 0 0) 0 []):=
    ⟨λo=>(dW wr _ _).alloc o,λo=>by
     have q:=yT (dW (wr.alloc o) 169 33) (b':=wr.heap.size) (by simp)
     simpa using q⟩
   have HBA2:Hid (∀o o':Obj,Bw wr ((wr.alloc o).alloc o').drew):=λo o'=>aA (((Bf _ _).alloc (Le _) o).alloc (by simp) o') 1;have HA2:Hid ((∀o o':Obj,((wr.alloc o).alloc o').heap[wr.heap.size+1]? =some o')/\∀o o':Obj,((wr.alloc o).alloc o').heap[wr.heap.size]? =some o):=
    ⟨λo o'=>by simpa using Hn (wr.alloc o) o',λo o'=>(Bm _ _ _ (by simp)).trans (Hn wr o)⟩
   go_upto_region 11 with(fail)
   have HS0:Hid (Bw wr wr.drew):=aA (Bf wr.heap.size wr) 1;refine eQ (S:=λW=>Bw wr W) 10 13 rfl (by decide) (by decide+kernel) rfl ?_;simp only[List.extract_toArray,List.extract_eq_take_drop,Nat.sub_zero,List.drop_zero,List.take_succ_cons,List.take_zero];refine tkA 0 ?_ (hS:=HS0.o);refine tkA 2 ?_ (hS:=HS0.o);refine tkA 3 ?_ (hS:=HS0.o);refine tkA 4 ?_ (hS:=HS0.o);try simp only[Act.put,L0,L4,L5]
   refine tkL 5 (v:= ?_) rfl ?_ HS0.o ?_;rotate_left
   ·intro w1 hSw;have hSw:Bw wr w1:=hSw;have u0:=hSw.ct hbr c0;clear hSw;go_simp<;>with_reducible rfl
   try simp only[Act.put,L0,L4,L5]
   refine' tkH 7 (v:=_) rfl (yieldsIf_load_mid (by rfl) _ _ rfl _ _ rfl _ _ (λw1 h1=>HRG.o w1 h1) hu (by rfl) hi) HS0.o ?_;try simp only[Act.put,L0,L4,L5]
   refine rd2 1 8 rfl rfl (λK hK=> ?_) λK hK=> ?_
   focus
    go_simp;refine hK.o _ _ (HBA.o _) (λhH=> ?_);clear hK K hH;try simp only[Act.put,L0,L4,L5]
    refine rd2 6 8 rfl rfl (λK hK=> ?_) λK hK=> ?_
    focus
     refine cG rfl (.tmp 37) (.tmp 41) 159 rfl wr.heap.size 169 iL zL 33 264 underlying159 HIL.o HZL.o hL1 hL2 hL3 (by omega) (wr.heap.size) 0 0 [] (by simp[Act.eval,Act.put]) (dW wr _ _) (some ⟨lb,0,none⟩) N cap (ls.toList.take (N*33)) (by simp[Act.eval,Act.put]) HLEN.o (λ_=>⟨_,rfl,yV (HBA.o _) hlr G2.o⟩) HONE.o (by unfold maxLen;omega) (by omega) (by simp<;>omega) ?_;intro g9 c9 w9 ho9 hg9 hl9 hlt9;have HO9:Hid (w9.ownsRow wr.heap.size 169 33 (.slice (some ⟨g9,0,none⟩) N c9) N (ls.toList.take (N*33))):=by unfold Hid;simpa using ho9
     have HB9:Hid (Bw wr w9):=eH (Le _) (HBA.o _) hg9 (λg e=>by have:=Oj e;omega);have HG9:Hid (wr.heap.size<=g9):=(aI HO9.o rfl).1;clear ho9 hl9;refine hK.o _ _ HB9.o (λhH=> ?_);clear hK K hH;try simp only[Act.put,L0,L4,L5]
     refine rd1 8 rfl λK hK=> ?_;go_simp;rw[lT (n:=33) (by rfl) hl2];refine hK.o _ _ (HB9.o.alloc HB9.o.size _) (λhH=> ?_);clear hK K hH;try simp only[Act.put,L0,L4,L5]
     obtain⟨wX,hwX⟩:∃wX,wX=w9.alloc (.cells lc 169):=⟨_,rfl⟩;have HBX:Hid (Bw wr wX):=by unfold Hid;rw[hwX];exact HB9.o.alloc HB9.o.size _
     have HOX:Hid (wX.ownsRow wr.heap.size 169 33 (.slice (some ⟨g9,0,none⟩) N c9) N (ls.toList.take (N*33))):=by unfold Hid;rw[hwX];exact bW (λg x hx=>(Bm w9 _ g (hlS hx)).trans hx) HO9.o
     have HONX:Hid (wX.heap[w9.heap.size]? =some (.cells lc 169 (0,0))):=by unfold Hid;rw[hwX];exact Hn w9 _
     rw[<-hwX];generalize w9.heap.size=gb at HONX⊢
     clear hwX HO9 HB9
    rotate_left
    focus
     go_simp;rw[lT (n:=33) (by rfl) hl2];refine hK.o _ _ (HBA2.o _ _) (λhH=> ?_);clear hK K hH;try simp only[Act.put,L0,L4,L5]
     refine rd1 6 rfl λK hK=> ?_;refine cG rfl (.tmp 37) (.tmp 41) 159 rfl wr.heap.size 169 iL zL 33 264 underlying159 HIL.o HZL.o hL1 hL2 hL3 (by omega) (wr.heap.size) 0 0 [] (by simp[Act.eval,Act.put]) (HOW.o.1 _) (some ⟨lb,0,none⟩) N cap (ls.toList.take (N*33)) (by simp[Act.eval,Act.put]) HLEN.o (λ_=>⟨_,rfl,yV (HBA2.o _ _) hlr G2.o⟩) HONE.o (by unfold maxLen;omega) (by omega) (by simp<;>omega) ?_;intro g9 c9 w9 ho9 hg9 hl9 hlt9;have HO9:Hid (w9.ownsRow wr.heap.size 169 33 (.slice (some ⟨g9,0,none⟩) N c9) N (ls.toList.take (N*33))):=by unfold Hid;simpa using ho9
     have HB9:Hid (Bw wr w9):=eH (Le _) (HBA2.o _ _) hg9 (λg e=>by have:=Oj e;omega);have HG9:Hid (wr.heap.size<=g9):=(aI HO9.o rfl).1;clear ho9 hl9;refine hK.o _ _ HB9.o (λhH=> ?_);clear hK K hH;try simp only[Act.put,L0,L4,L5]
     have HONX:Hid (w9.heap[wr.heap.size+1]? =some (.cells lc 169 (0,0))):=(hg9.block _ (by simp<;>omega) (λe=>by have:=Oj e;omega)).trans (HA2.o.1 _ _);have HBX:=Hd HB9.o;have HOX:=Hd HO9.o;clear HO9 HB9;obtain⟨wX,hwX⟩:∃wX,wX=w9:=⟨_,rfl⟩;subst hwX;generalize wr.heap.size+1=gb at HONX⊢
   rotate_left 2
   focus
    go_simp;rw[lT (n:=33) (by rfl) hl2];refine hK.o _ _ (HBA.o _) (λhH=> ?_);clear hK K hH;try simp only[Act.put,L0,L4,L5]
    refine rd1 1 rfl λK hK=> ?_;go_simp;refine hK.o _ _ (HBA2.o _ _) (λhH=> ?_);clear hK K hH;try simp only[Act.put,L0,L4,L5]
    refine rd1 6 rfl λK hK=> ?_;refine cG rfl (.tmp 37) (.tmp 41) 159 rfl wr.heap.size 169 iL zL 33 264 underlying159 HIL.o HZL.o hL1 hL2 hL3 (by omega) (wr.heap.size+1) 0 0 [] (by simp[Act.eval,Act.put]) (HOW.o.2 _) (some ⟨lb,0,none⟩) N cap (ls.toList.take (N*33)) (by simp[Act.eval,Act.put]) HLEN.o (λ_=>⟨_,rfl,yV (HBA2.o _ _) hlr G2.o⟩) HONE.o (by unfold maxLen;omega) (by omega) (by simp<;>omega) ?_;intro g9 c9 w9 ho9 hg9 hl9 hlt9;have HO9:Hid (w9.ownsRow wr.heap.size 169 33 (.slice (some ⟨g9,0,none⟩) N c9) N (ls.toList.take (N*33))):=by unfold Hid;simpa using ho9
    have HB9:Hid (Bw wr w9):=eH (Le _) (HBA2.o _ _) hg9 (λg e=>by have:=Oj e;omega);have HG9:Hid (wr.heap.size<=g9):=(aI HO9.o rfl).1;clear ho9 hl9;refine hK.o _ _ HB9.o (λhH=> ?_);clear hK K hH;try simp only[Act.put,L0,L4,L5]
    have HONX:Hid (w9.heap[wr.heap.size]? =some (.cells lc 169 (0,0))):=(hg9.block _ (by simp<;>omega) (λe=>by have:=Oj e;omega)).trans (HA2.o.2 _ _);have HBX:=Hd HB9.o;have HOX:=Hd HO9.o;clear HO9 HB9;obtain⟨wX,hwX⟩:∃wX,wX=w9:=⟨_,rfl⟩;subst hwX
   all_goals
    refine rd1 9 rfl λK hK=> ?_;first|refine cG rfl (.tmp 42) (.tmp 44) 159 rfl wr.heap.size 169 iL zL 33 264 underlying159 HIL.o HZL.o hL1 hL2 hL3 (by omega) g9 N c9 (ls.toList.take (N*33)) (by simp[Act.eval,Act.put]) HOX.o (some ⟨gb,0,none⟩) 1 1 lc.toList (by simp[Act.eval,Act.put]) (by simp[HL2.o]) (λ_=>⟨_,rfl,Nk HONX.o⟩) HONE2.o (by unfold maxLen;omega) (by omega) HBX.o.size ?_|refine cG rfl (.tmp 42) (.tmp 44) 159 rfl wr.heap.size 169 iL zL 33 264 underlying159 HIL.o HZL.o hL1 hL2 hL3 (by omega) g9 N c9 (ls.toList.take (N*33)) (by simp[Act.eval,Act.put]) HOX.o (some ⟨wr.heap.size,0,none⟩) 1 1 lc.toList (by simp[Act.eval,Act.put]) (by simp[HL2.o]) (λ_=>⟨_,rfl,Nk HONX.o⟩) HONE2.o (by unfold maxLen;omega) (by omega) HBX.o.size ?_
    intro g5 c5 w5 ho5 hg5 hl5 hlt5;have HO5:=Hd ho5;have HB5:Hid (Bw wr w5):=eH (Le _) HBX.o hg5 (λg e=>by have:=Oj e;have:=HG9.o;omega);have HK5:=Hd ((HB5.o.block b hbr).trans G1.o);have z5:=(Ro w5 _ 0 _ _ _ HK5.o).trans H0.o;have zf5:w5.frozen? ⟨b,0,none⟩=false:=by simp[World.frozen?,HK5.o]
    clear ho5 hg5 hl5;refine hK.o _ _ HB5.o (λhH=> ?_);clear hK K hH;try simp only[Act.put,L0,L4,L5]
    refine wpAnyH_done (by decide+kernel) ⟨rfl,?_⟩ _;refine wpAny_ready (rs:=[10]) (by decide+kernel) (by simp) ?_;refine AllReady.cons rfl (λK hK=> ?_) AllReady.nil;go_simp;refine hK _ _ ?_;clear hK K;try simp only[Act.put,L0,L4,L5]
    refine wpAny_ready (rs:=[11]) (by decide+kernel) (by simp) ?_;refine AllReady.cons rfl (λK hK=> ?_) AllReady.nil;go_simp;refine hK _ _ ?_;clear hK K;try simp only[Act.put,L0,L4,L5]
    refine wpAny_ready (rs:=[12]) (by decide+kernel) (by simp) ?_;refine AllReady.cons rfl (λK hK=> ?_) AllReady.nil;go_simp;refine hK _ _ ?_;clear hK K;try simp only[Act.put,L0,L4,L5]
    refine wpAny_done (by decide+kernel) ?_ _;go_wp2_with fail;go_ret;have hg5:wr.heap.size<=g5/\g5<w5.heap.size:=aI HO5.o rfl;refine⟨aO E0.o.symm,g5,.inr (Ly HBW.o.size hg5.1),?_,?_⟩
    ·rw[e2.o];refine SxR.more HK5.o HCS.o HO5.o HN.o hN8 hls2 HK.o.1 (λi hi=> ?_) HK.o.2.1 HK.o.2.2 (by omega);rw[HL3.o i hi,hke,Tm]
    ·have hB:=HBW.o.tm HB5.o;exact⟨hB.os,hB.tape,hB.output,by have:=hB.size;simp[World.setCell]at this⊢;omega,λq hq hz=>(Bj _ _ _ q hz).trans (hB.block q hq)⟩
