/- Plain laws f. -/
import Derived.Test.YtdcjbhdfphcefaaGreatDoorPm
namespace Go.Proofs.YtdcjbhdfphcefaaGreatDoor
set_option linter.all false
structure Lb.mated(L:Lb):Prop where
 len:L.mt.length=L.bl.length
 kind:∀b∈L.bl,0<=b.kind/\b.kind<=6
 lab:∀b∈L.bl,0<=b.label
 up:∀(i:Nat) (b:Bk),L.bl[i]? =some b->(b.kind=4\/b.kind=5->0<=L.mt.getD i 0)/\(b.kind≠4->L.mt.getD i 0<i)
structure MtOk(bs:List Bk)(i:Nat)(s:Bu):Prop where
 len:s.mt.length=bs.length
 op:∀x∈s.op,x<i/\(bs.getD x zdY).kind=4
 up:∀j,j<i->((bs.getD j zdY).kind=4->j∈s.op\/0<=s.mt.getD j 0)/\((bs.getD j zdY).kind=5->0<=s.mt.getD j 0)
 dn:∀j,(bs.getD j zdY).kind≠4->s.mt.getD j 0<j\/bs.length<=j
theorem qcU(l:List Int)(i j:Nat)(v:Int):(l.set i v).getD j 0=if i=j/\i<l.length then v else l.getD j 0:=by
 rw[Gd,List.getElem?_set,Gd];by_cases h:i=j
 ·subst h;by_cases h2:i<l.length
  ·simp[h2]
  ·simp[h2]
 ·simp[h]
theorem qoE(i:Nat)(b:Bk)(s:Bu):(zdD i b s).1.mt=s.mt/\(zdD i b s).1.op=s.op:=by
 unfold zdD;split
 ·split
  ·exact⟨rfl,rfl⟩
  ·split<;>exact⟨rfl,rfl⟩
 ·exact⟨rfl,rfl⟩
theorem qcZ{l:List Nat}{x:Nat}(h:x∈l):x∈l.dropLast\/x=l.getD (l.length-1) 0:=by
 have hne:l≠[]:=List.ne_nil_of_mem h;have e:=List.dropLast_concat_getLast hne;rw[<-e]at h;rcases Ma.1 h with q|q
 ·exact .inl q
 ·right;rw[Mt.1 q,List.getLast_eq_getElem,Gd,Gg];rfl
theorem qlF{bs:List Bk}{i:Nat}{b:Bk}{s:Bu}(h:MtOk bs i s)(hb:bs[i]? =some b)(he:(zeF bs i b s).2.2=0):MtOk bs (i+1) (zeF bs i b s).1:=by
 have hi:i<bs.length:=(Gu.1 hb).1;have hg:bs.getD i zdY=b:=by rw[Gd,hb];rfl
 unfold zeF at he⊢
 by_cases k4:b.kind=4
 ·rw[Ip k4]at he⊢
  split at he
  ·simp at he
  rename_i h1;rw[Iq h1];refine⟨h.len,λx hx=> ?_,λj hj=> ?_,h.dn⟩
  ·rcases Ma.1 hx with q|q
   ·have:=h.op x q;exact⟨by omega,this.2⟩
   ·rw[Mt.1 q];exact⟨by omega,by rw[hg];exact k4⟩
  ·by_cases e:j=i
   ·subst e;exact⟨λ_=>.inl (by simp),λq=>by rw[hg]at q;omega⟩
   ·have:=h.up j (by omega);exact⟨λq=>(this.1 q).imp (λz=>List.mem_append_left _ z) id,this.2⟩
 ·rw[Iq k4]at he⊢
  by_cases k5:b.kind=5
  ·rw[Ip k5]at he⊢
   split at he
   ·simp at he
   rename_i h1;rw[Iq h1];have hne:s.op≠[]:=λe=>h1 (.inl e);have hl:0<s.op.length:=List.length_pos_iff.2 hne;have htm:zdE s∈s.op:=by
    unfold zdE;rw[Gd,Gg (by omega)];exact List.getElem_mem _
   obtain⟨t1,t2⟩:=h.op _ htm;have hgd:∀j,((s.mt.set (zdE s) i).set i (zdE s:Int)).getD j 0=if i=j then(zdE s:Int)else if zdE s=j then(i:Int)else s.mt.getD j 0:=λj=>by
    have hlen:=h.len;rw[qcU,qcU];simp only[List.length_set];by_cases q1:i=j
    ·rw[Ip ⟨q1,by omega⟩,Ip q1]
    ·rw[Iq (λz=>q1 z.1),Iq q1];by_cases q2:zdE s=j
     ·rw[Ip ⟨q2,by omega⟩,Ip q2]
     ·rw[Iq (λz=>q2 z.1),Iq q2]
   refine⟨by simp[h.len],λx hx=> ?_,λj hj=> ?_,λj hj=> ?_⟩
   ·have:=h.op x ((List.dropLast_sublist _).subset hx);exact⟨by omega,this.2⟩
   ·dsimp only;rw[hgd];by_cases e:i=j
    ·rw[Ip e];exact⟨λ_=>.inr (by omega),λ_=>by omega⟩
    ·rw[Iq e];have:=h.up j (by omega);by_cases e2:zdE s=j
     ·rw[Ip e2];exact⟨λ_=>.inr (by omega),λ_=>by omega⟩
     ·rw[Iq e2];refine⟨λq=> ?_,this.2⟩;rcases this.1 q with z|z
      ·rcases qcZ z with y|y
       ·exact .inl y
       ·exact absurd y.symm e2
      ·exact .inr z
   ·dsimp only;rw[hgd];by_cases e:i=j
    ·rw[Ip e];omega
    ·rw[Iq e];by_cases e2:zdE s=j
     ·rw[<-e2]at hj;exact absurd t2 hj
     ·rw[Iq e2];exact h.dn j hj
  ·rw[Iq k5];refine⟨h.len,λx hx=>⟨by have:=(h.op x hx).1;omega,(h.op x hx).2⟩,λj hj=> ?_,h.dn⟩;by_cases e:j=i
   ·subst e;exact⟨λq=>by rw[hg]at q;exact absurd q k4,λq=>by rw[hg]at q;exact absurd q k5⟩
   ·exact h.up j (by omega)
theorem qmL{bs:List Bk}{i:Nat}{b:Bk}{s:Bu}(h:MtOk bs i s)(hb:bs[i]? =some b)(he:(zdH bs i b s).2.2=0):MtOk bs (i+1) (zdH bs i b s).1:=by
 unfold zdH at he⊢
 split at he
 ·rename_i h1;exact absurd he h1
 split at he
 ·simp at he
 rename_i h1 h2;rw[Iq h1,Iq h2];obtain⟨e1,e2⟩:=qoE i b s;exact qlF ⟨by dsimp only;rw[e1];exact h.len,by dsimp only;rw[e2];exact h.op,by dsimp only;rw[e1,e2];exact h.up,by dsimp only;rw[e1];exact h.dn⟩ hb he
theorem qaS{bs:List Bk}:∀(r:List Bk) (i:Nat) (s:Bu),MtOk bs i s->bs.drop i=r->i<=bs.length->(zcC bs r i s).2.2=0->MtOk bs bs.length (zcC bs r i s).1:=by
 intro r;induction r with
 |nil=>
  intro i s h hr hi _;have:i=bs.length:=by
   have:=congrArg List.length hr;rw[List.length_drop]at this;simp at this;omega
  subst this;exact h
 |cons b r ih=>
  intro i s h hr hi he;have hb:bs[i]? =some b:=by
   have:=congrArg (λq:List Bk=>q[0]?) hr;simpa[List.getElem?_drop]using this
  have hlt:i<bs.length:=(Gu.1 hb).1;rw[zcC]at he⊢
  split at he
  ·rename_i h1;exact absurd he h1
  rename_i h1;rw[Iq h1];refine ih _ _ (qmL h hb (by omega)) ?_ (by omega) he;have:=congrArg List.tail hr;rw[List.tail_drop]at this;exact this
theorem sW{b:Bk}(h:zbA b=true):(0<=b.kind/\b.kind<=6)/\0<=b.label:=by
 unfold zbA zgJ at h;simp only[Ba1,Du]at h;exact⟨⟨h.1.1.1.1.1,h.1.1.1.1.2.1⟩,h.1.1.1.1.2.2.1⟩
theorem mO:noL.mated:=⟨rfl,λb hb=>(by cases hb),λb hb=>(by cases hb),λi b h=>(by simp[noL]at h)⟩
theorem rR(bs:List Bk):(zbN bs).1.mated:=by
 unfold zbN;split
 ·exact mO
 split
 ·exact mO
 rename_i hbad;unfold ziF;split
 ·exact mO
 rename_i he;split
 ·exact mO
 rename_i hop;have hv:=pW bs 0 hbad;have h0:MtOk bs 0 (zcP bs):=by
  refine⟨by simp[zcP],λx hx=>by simp[zcP]at hx,λj hj=>by omega,λj _=> ?_⟩;by_cases hj:j<bs.length
  ·left;simp only[zcP,Gd,List.getElem?_replicate,Ip hj,Option.getD_some];omega
  ·right;omega
 have h:=qaS bs 0 (zcP bs) h0 rfl (Lq _) (by omega);refine⟨h.len,λb hb=>(sW (hv b hb)).1,λb hb=>(sW (hv b hb)).2,λi b hb=> ?_⟩;have hi:i<bs.length:=(Gu.1 hb).1;have hg:bs.getD i zdY=b:=by rw[Gd,hb];rfl
 have hu:=h.up i hi;have hd:=h.dn i;rw[hg]at hu hd;have hnil:(zcC bs bs 0 (zcP bs)).1.op=[]:=by
  rcases q:(zcC bs bs 0 (zcP bs)).1.op with _|_
  ·rfl
  ·rw[q]at hop;simp at hop
 refine⟨λq=> ?_,λq=> ?_⟩
 ·rcases q with q|q
  ·rcases hu.1 q with z|z
   ·rw[hnil]at z;cases z
   ·exact z
  ·exact hu.2 q
 ·rcases hd q with z|z
  ·exact z
  ·omega
structure RJ(m:MS):Prop where
 lev:m.sto.lv.length=1+m.calls.countP (·.lev)
 args:∀c∈m.calls,c.lev=true->zcN [] c.args=0
 pos:0<=m.pos/\m.pos<=200000
 back:∀c∈m.calls,0<=c.back/\c.back<=200000
 few:m.calls.length<=8
theorem RJ.at{m:MS}(h:RJ m){p:Int}(hp:0<=p/\p<=200000):RJ {m with pos:=p}:=⟨h.lev,h.args,hp,h.back,h.few⟩
theorem nH{L:Lb}(hf:L.fine)(p:Nat):0<=(L.prg p).first/\(L.prg p).first<=L.bl.length/\(L.prg p).stop<=L.bl.length:=by
 unfold Lb.prg;rw[Gd];rcases e:L.pr[p]? with _|q
 ·simp
 ·exact hf.ok p q e
theorem jU{L:Lb}(hf:L.fine){m:MS}(h:RJ m):RJ (zbJ L m).1/\(zbJ L m).2=0:=by
 unfold zbJ;rcases hl:m.calls.getLast? with _|c
 ·exact⟨⟨h.lev,h.args,h.pos,h.back,h.few⟩,rfl⟩
 have hm:c∈m.calls:=List.mem_of_getLast? hl;have hd:m.calls=m.calls.dropLast++[c]:=by
  obtain⟨ys,e⟩:=List.getLast?_eq_some_iff.1 hl;rw[e];simp
 have hlev:=h.lev;have hb:=h.back c hm;have ha:=h.args c hm;have hfew:=h.few;have hlen:m.calls.length=m.calls.dropLast.length+1:=by
  have:=congrArg List.length hd;simpa using this
 have hcp:m.calls.dropLast.countP (·.lev)<=m.calls.dropLast.length:=List.countP_le_length;have hsub:∀d,d∈m.calls.dropLast->d∈m.calls:=λd q=>(List.dropLast_sublist _).subset q;have hp:=nH hf c.prog;have hfb:=hf.bl;rw[hd,List.countP_append]at hlev;dsimp only;rcases hc:c.lev with _|_
 ·simp only[hc,List.countP_singleton,Bool.false_eq_true,false_and,if_false]at hlev⊢
  split
  ·refine⟨⟨by simp[List.countP_append,hc];omega,λd hdm=> ?_,by dsimp only;omega,λd hdm=> ?_,by simp;omega⟩,rfl⟩
   ·rcases Ma.1 hdm with q|q
    ·exact h.args d (hsub d q)
    ·rw[Mt.1 q];exact λe=>by simp[hc]at e
   ·rcases Ma.1 hdm with q|q
    ·exact h.back d (hsub d q)
    ·rw[Mt.1 q];exact hb
  ·exact⟨⟨by dsimp only;omega,λd hdm=>h.args d (hsub d hdm),hb,λd hdm=>h.back d (hsub d hdm),by dsimp only;omega⟩,rfl⟩
 ·have ha:=ha hc;simp only[hc,List.countP_singleton,if_true]at hlev⊢
  have hpe:zfJ m.sto=0:=by unfold zfJ;rw[Iq (by omega)]
  have hpx:(zdN m.sto).lv.length=m.sto.lv.length-1:=by unfold zdN;rw[Iq (by omega)];simp
  rw[Iq (by simp[hpe])];have hpu:zcG (zdN m.sto) c.args=0:=by unfold zcG;rw[Iq (by omega)];exact ha
  have hpl:(zbU (zdN m.sto) c.args).lv.length=m.sto.lv.length:=by unfold zbU;rw[Ip hpu];simp;omega
  split
  ·refine⟨⟨by simp[List.countP_append,hc,hpl];omega,λd hdm=> ?_,by dsimp only;omega,λd hdm=> ?_,by simp;omega⟩,hpu⟩
   ·rcases Ma.1 hdm with q|q
    ·exact h.args d (hsub d q)
    ·rw[Mt.1 q];exact λ_=>ha
   ·rcases Ma.1 hdm with q|q
    ·exact h.back d (hsub d q)
    ·rw[Mt.1 q];exact hb
  ·exact⟨⟨by dsimp only;omega,λd hdm=>h.args d (hsub d hdm),hb,λd hdm=>h.back d (hsub d hdm),by dsimp only;omega⟩,rfl⟩
theorem qoV{L:Lb}(hf:L.fine){m:MS}(h:RJ m){c:Cl}(hl:m.calls.getLast? =some c):(zbJ L m).1=
 if 0<c.left then{m with sto:=if c.lev then zbU (if c.lev then zdN m.sto else m.sto) c.args else(if c.lev then zdN m.sto else m.sto),calls:=m.calls.dropLast++[{c with left:=c.left-1}],pos:=(L.prg c.prog).first}
 else{m with sto:=if c.lev then zdN m.sto else m.sto,prog:=c.caller,pos:=c.back,calls:=m.calls.dropLast}:=by
 have h2:=(jU hf h).2;unfold zbJ at h2⊢
 rw[hl]at h2⊢
 dsimp only at h2⊢
 by_cases q:c.lev=true/\zfJ m.sto≠0
 ·rw[Ip q]at h2;exact absurd h2 q.2
 ·rw[Iq q];split<;>rfl
theorem qoW(L:Lb)(n:Int):∀(k i:Nat),(zbB L n k i).2=true->(i:Int)<=(zbB L n k i).1/\(zbB L n k i).1<i+k:=by
 intro k;induction k with
 |zero=>intro i h;simp[zbB]at h
 |succ k ih=>
  intro i h;rw[zbB]at h⊢
  split
  ·dsimp only;omega
  ·rename_i q;rw[Iq q]at h;have:=ih _ h;omega
theorem xN{L:Lb}(hf:L.fine){p:Nat}{n:Int}(h:(zcD L p n).2=true):0<=(zcD L p n).1/\(zcD L p n).1<L.bl.length:=by
 unfold zcD at h⊢
 split
 ·rename_i q;rw[Ip q]at h;cases h
 ·rename_i q;rw[Iq q]at h;have:=qoW L n _ _ h;have:=nH hf p;omega
theorem qhQ{L:Lb}(hf:L.fine){m:MS}(h:RJ m)(x:Tr):RJ (zbQ L m x).1:=by
 unfold zbQ;dsimp only;split
 ·exact h
 split
 ·exact h
 rename_i q;split
 ·exact h
 have ht:(zcD L m.prog (zaY (zcH (zbG m.sto.f) x).1).1).2=true:=by
  rcases e:(zcD L m.prog (zaY (zcH (zbG m.sto.f) x).1).1).2 with _|_
  ·exact absurd (.inr e) q
  ·rfl
 have:=xN hf ht;have:=hf.bl;exact h.at (by omega)
theorem qtO(σ:Sto)(n v:Int):(zeY σ n v).lv.length=σ.lv.length:=by
 unfold zeY;split
 ·split
  ·simp
  ·rfl
 ·rfl
theorem qwW{m:MS}(h:RJ m)(hp:m.pos<=100000)(b:Bk):RJ (zdM m b).1:=by
 have:=h.pos;unfold zdM;dsimp only;split
 ·exact h
 split
 ·exact h
 split
 ·exact h
 ·exact⟨by dsimp only;rw[qtO];exact h.lev,h.args,by dsimp only;omega,h.back,h.few⟩
theorem qrI{L:Lb}(hf:L.fine){m:MS}(h:RJ m)(hp:m.pos<=100000)(l:LI)(mc:Bool):RJ (zcV L m l mc):=by
 have hpos:=h.pos;have hfew:=h.few;have hlev:=h.lev;unfold zcV;split
 ·exact h
 rename_i he;have he:zbH L m l mc=0:=by omega
 have hp:=nH hf (zdO L (zaY (enS l).number).1).1.toNat;have hfb:=hf.bl;unfold zbH at he
 repeat' split at he
 all_goals try omega
 all_goals rename_i h8 hm
 all_goals
  refine⟨?_,λd hdm=> ?_,by dsimp only;omega,λd hdm=> ?_,by simp;omega⟩
 ·have hpl:(zbU m.sto (enS l).args).lv.length=m.sto.lv.length+1:=by unfold zbU;rw[Ip he];simp
  simp[List.countP_append,hm,hpl];omega
 ·rcases Ma.1 hdm with q|q
  ·exact h.args d q
  ·rw[Mt.1 q];intro _;unfold zcG at he;split at he
   ·omega
   ·exact he
 ·rcases Ma.1 hdm with q|q
  ·exact h.back d q
  ·rw[Mt.1 q];dsimp only;omega
 ·have:mc=false:=by simpa using hm
  subst this;simp[List.countP_append];exact hlev
 ·rcases Ma.1 hdm with q|q
  ·exact h.args d q
  ·rw[Mt.1 q];intro z;exact absurd z hm
 ·rcases Ma.1 hdm with q|q
  ·exact h.back d q
  ·rw[Mt.1 q];dsimp only;omega
theorem qlQ{L:Lb}(hf:L.fine){m:MS}(h:RJ m)(hp:m.pos<=100000)(ws:List (Int×Tr)):RJ (zbT L m ws).1:=by
 have:=h.pos;unfold zbT;dsimp only;split
 ·exact h
 split
 ·exact h
 split
 ·exact h
 split
 ·exact(jU hf h).1
 split
 ·exact qrI hf h hp _ _
 ·exact⟨h.lev,h.args,by dsimp only;omega,h.back,h.few⟩
theorem qcK{L:Lb}(hf:L.fine)(p:Int): -1<=zcM L p/\zcM L p<=100000:=by
 unfold zcM;split
 ·rw[Gd];rcases e:L.mt[p.toNat]? with _|x
  ·simp
  ·exact hf.mt x (Mg e)
 ·omega
theorem qrD{L:Lb}(hf:L.fine)(hm:L.mated){m:MS}(h:RJ m)(sk:Bool){b:Bk}(hb:L.bl[m.pos.toNat]? =some b):RJ (zbK L sk m b).1:=by
 have hpos:=h.pos;have hi:m.pos.toNat<L.bl.length:=(Gu.1 hb).1;have hfb:=hf.bl;have hp:m.pos<=100000:=by omega
 have hmb:=qcK hf m.pos;unfold zbK;dsimp only;split
 ·exact h.at (by omega)
 split
 ·exact qwW h hp b
 split
 ·exact qhQ hf h _
 split
 ·split
  ·exact h
  split
  ·exact qhQ hf h _
  split
  ·exact h.at (by omega)
  ·exact h.at (by omega)
 split
 ·rename_i k5;refine h.at ⟨?_,by omega⟩;have q:=(hm.up _ b hb).1 (.inr k5);have hl:=hm.len;unfold zcM;rw[Ip (by omega)];exact q
 split
 ·exact qlQ hf h hp _
 ·exact h.at (by omega)
theorem qnF{L:Lb}(hf:L.fine)(hm:L.mated){m:MS}(h:m.err=0->RJ m)(sk:Bool):(zbZ L sk m).1.err=0->RJ (zbZ L sk m).1:=by
 rw[bM];split
 ·exact h
 rename_i he;have h:=h (by omega);split
 ·exact λ_=>h
 split
 ·intro q;simp at q
 unfold zeL;have h1:RJ {m with steps:=m.steps+1}:=⟨h.lev,h.args,h.pos,h.back,h.few⟩;generalize{m with steps:=m.steps+1}=m1 at h1;split
 ·intro _;have q:=(jU hf h1).1;exact⟨q.lev,q.args,q.pos,q.back,q.few⟩
 rename_i hst;have hp:=nH hf m1.prog;obtain⟨b,hb⟩:∃b,L.bl[m1.pos.toNat]? =some b:=⟨_,Gg (by omega)⟩;have hbk:L.blk m1.pos.toNat=b:=by unfold Lb.blk;rw[Gd,hb];rfl
 rw[hbk];have q:=qrD hf hm h1 sk hb;generalize zbK L sk m1 b=r at q;intro _;split
 ·split<;>exact⟨q.lev,q.args,q.pos,q.back,q.few⟩
 ·exact⟨q.lev,q.args,q.pos,q.back,q.few⟩
def isK(v:Int×Int):Bool:=isC v 77 98||isC v 77 99||isC v 71 65
def zdI(mac:Bool)(v:Int×Int):Bool:= !(v.1==80||v.1==76)&&((mac&&v.1==71&& !isC v 71 65)||(!mac&& !isC v 77 98))
def zeQ(mac:Bool)(v:Int×Int):Bool:= !(v.1==80||v.1==76)&&(mac&& !(v.1==71))
def zbR(c:Int):LI->Int×Int
 |[]=>(0,0)
 |x::r=>if x.1=c then(x.2,(zbR c r).2+1)else zbR c r
theorem mN(c:Int):∀l:LI,0<=(zbR c l).2/\(zbR c l).2<=l.length:=by
 intro l;induction l with
 |nil=>simp[zbR]
 |cons x r ih=>
  rw[zbR,Lc];split
  ·dsimp only;omega
  ·omega
theorem quV{v:Int×Int}{a n:Int}:isC v a n=true↔v.1=a/\v.2=n*1000000:=by unfold isC;simp
theorem qrV(p v:Int×Int):(isK v=false->zfN p v=p)/\(isK v=true->(zfN p v).1=p.1+1/\(zfN p v).2=(if isC v 77 98 then 98 else if isC v 71 65 then 65 else 99)):=by
 unfold zfN isK;rcases h1:isC v 71 65 with _|_
 ·rcases h2:isC v 77 98 with _|_<;>rcases h3:isC v 77 99 with _|_<;>simp
 ·have h2:isC v 77 98=false:=by rw[quV]at h1;unfold isC;simp;omega
  simp[h2]
theorem xY:∀(l:LI) (p:Int×Int),(l.foldl zfN p).1=p.1+l.countP isK/\(l.countP isK=0->l.foldl zfN p=p):=by
 intro l;induction l with
 |nil=>intro p;simp
 |cons x r ih=>
  intro p;obtain⟨h1,h2⟩:=qrV p x;obtain⟨g1,g2⟩:=ih (zfN p x);rw[List.foldl_cons,List.countP_cons];rcases hk:isK x with _|_
  ·rw[h1 hk]at g1 g2⊢
   exact⟨by simpa using g1,λq=>g2 (by simpa using q)⟩
  ·obtain⟨e1,e2⟩:=h2 hk;refine⟨by rw[g1,e1];simp;omega,λq=> ?_⟩;simp at q
theorem qsJ{l:LI}{f:Int×Int->Bool}(hf:∀v,f v=true->isK v=true)(h:l.countP isK=0):l.any f=false:=by
 rw[List.any_eq_false];intro v hv q;rw[List.countP_eq_zero]at h;exact h v hv (hf v q)
theorem k98(v:Int×Int)(h:isC v 77 98=true):isK v=true:=by unfold isK;rw[h];rfl
theorem k99(v:Int×Int)(h:isC v 77 99=true):isK v=true:=by unfold isK;rw[h];simp
theorem k65(v:Int×Int)(h:isC v 71 65=true):isK v=true:=by unfold isK;rw[h];simp
theorem qrT:∀(l:LI) (p:Int×Int),l.countP isK<=1->(l.foldl zfN p).2=if l.any (isC · 77 98)then 98 else if l.any (isC · 71 65)then 65 else if l.any (isC · 77 99)then 99 else p.2:=by
 intro l;induction l with
 |nil=>intro p _;simp
 |cons x r ih=>
  intro p hc;obtain⟨h1,h2⟩:=qrV p x;rw[List.countP_cons]at hc;rw[List.foldl_cons,List.any_cons,List.any_cons,List.any_cons];rcases hk:isK x with _|_
  ·rw[h1 hk,ih p (by omega)];have e1:isC x 77 98=false:=by rcases q:isC x 77 98 with _|_;rfl;rw[k98 x q]at hk;cases hk
   have e2:isC x 77 99=false:=by rcases q:isC x 77 99 with _|_;rfl;rw[k99 x q]at hk;cases hk
   have e3:isC x 71 65=false:=by rcases q:isC x 71 65 with _|_;rfl;rw[k65 x q]at hk;cases hk
   rw[e1,e2,e3];rfl
  ·rw[hk]at hc;have h0:r.countP isK=0:=by
    rw[Ip rfl]at hc;omega
   rw[(xY r _).2 h0,qsJ k98 h0,qsJ k99 h0,qsJ k65 h0,(h2 hk).2];unfold isK at hk;rcases q1:isC x 77 98 with _|_
   ·rcases q2:isC x 71 65 with _|_
    ·rw[q1,q2]at hk;have q3:isC x 77 99=true:=by simpa using hk
     rw[q3];rfl
    ·rfl
   ·rfl
theorem rQ{l:LI}{p q r:Int×Int->Bool}(h:∀v,(p v).toNat=(q v).toNat+(r v).toNat):l.countP p=l.countP q+l.countP r:=by
 induction l with
 |nil=>rfl
 |cons x t ih=>
  rw[List.countP_cons,List.countP_cons,List.countP_cons,ih];have:=h x;rcases hp:p x with _|_<;>rcases hq:q x with _|_<;>rcases hr:r x with _|_<;>rw[hp,hq,hr]at this<;>simp at this⊢<;>omega
theorem rF{l:LI}{p:Int×Int->Bool}:(l.countP p=0)↔l.any p=false:=by
 rw[List.countP_eq_zero,List.any_eq_false]
theorem qkN{l:LI}{mac:Bool}(h1:l.countP isK<=1)(h2:(if mac then l.any (isC · 71 65)else l.any (isC · 77 98))=true):zhS l mac= !l.any (zdI mac):=by
 have hle:∀f:Int×Int->Bool,(∀v,f v=true->isK v=true)->l.any f=true->l.countP f=1:=λf hf ha=>by
  have a1:l.countP f<=l.countP isK:=List.countP_mono_left λv _ q=>hf v q;have a2:l.countP f≠0:=λq=>by rw[rF.1 q]at ha;cases ha
  omega
 unfold zhS;have key:l.countP (λv=> !(v.1==80||v.1==76)&& !(mac&&v.1 !=71))=1+l.countP (zdI mac):=by
  rcases mac with _|_
  ·simp only[Bool.false_eq_true,if_false]at h2;rw[<-hle _ k98 h2];refine rQ λv=> ?_;unfold zdI isC;by_cases q1:v.1=80
   ·simp[q1]
   by_cases q2:v.1=76
   ·simp[q2]
   have f1:(v.1==80)=false:=beq_eq_false_iff_ne.2 q1;have f2:(v.1==76)=false:=beq_eq_false_iff_ne.2 q2;rw[f1,f2];simp only[bne];generalize(v.1==77)=x;generalize(v.2==98*1000000)=y;cases x<;>cases y<;>rfl
  ·simp only[if_true]at h2;rw[<-hle _ k65 h2];refine rQ λv=> ?_;unfold zdI isC;by_cases q1:v.1=80
   ·simp[q1]
   by_cases q2:v.1=76
   ·simp[q2]
   have f1:(v.1==80)=false:=beq_eq_false_iff_ne.2 q1;have f2:(v.1==76)=false:=beq_eq_false_iff_ne.2 q2;rw[f1,f2];simp only[bne];generalize(v.1==71)=x;generalize(v.2==65*1000000)=y;cases x<;>cases y<;>rfl
 rw[key];rcases ha:l.any (zdI mac)with _|_
 ·rw[rF.2 ha];rfl
 ·have:l.countP (zdI mac)≠0:=λq=>by rw[rF.1 q]at ha;cases ha
  simp[this]
theorem qrK:∀(l:LI) (s:En),(l.foldl en1 s).numbers=s.numbers+(zbR 80 l).2/\(l.foldl en1 s).repeats=s.repeats+(zbR 76 l).2/\(l.foldl en1 s).args=s.args++l.filter (zeQ true)/\
 ((zbR 80 l).2=0->(l.foldl en1 s).number=s.number)/\((zbR 80 l).2=1->(l.foldl en1 s).number=(zbR 80 l).1)/\((zbR 76 l).2=0->(l.foldl en1 s).times=s.times)/\((zbR 76 l).2=1->(l.foldl en1 s).times=(zbR 76 l).1):=by
 intro l;induction l with
 |nil=>intro s;simp[zbR]
 |cons x r ih=>
  intro s;obtain⟨a1,a2,a3,a4,a5,a6,a7⟩:=ih (en1 s x);rw[List.foldl_cons,List.filter_cons];have b1:=mN 80 r;have b2:=mN 76 r;unfold en1 at*
  by_cases h1:x.1=80
  ·have ha:zeQ true x=false:=by unfold zeQ;simp[h1]
   rw[ha,zbR,zbR,Ip h1,Iq (show¬x.1=76 by omega)];rw[Ip h1]at a1 a2 a3 a4 a5 a6 a7⊢
   dsimp only at*
   exact⟨by omega,a2,a3,λq=>by omega,λq=>a4 (by omega),a6,a7⟩
  rw[Iq h1]at a1 a2 a3 a4 a5 a6 a7⊢
  by_cases h2:x.1=76
  ·have ha:zeQ true x=false:=by unfold zeQ;simp[h2]
   rw[ha,zbR,zbR,Iq h1,Ip h2];rw[Ip h2]at a1 a2 a3 a4 a5 a6 a7⊢
   dsimp only at*
   exact⟨a1,by omega,a3,a4,a5,λq=>by omega,λq=>a6 (by omega)⟩
  rw[Iq h2]at a1 a2 a3 a4 a5 a6 a7⊢
  by_cases h3:x.1=71
  ·have ha:zeQ true x=false:=by unfold zeQ;simp[h3]
   rw[ha,zbR,zbR,Iq h1,Iq h2];rw[Ip h3]at a1 a2 a3 a4 a5 a6 a7⊢
   exact⟨a1,a2,a3,a4,a5,a6,a7⟩
  ·have ha:zeQ true x=true:=by unfold zeQ;simp[h1,h2,h3]
   rw[ha,zbR,zbR,Iq h1,Iq h2];rw[Iq h3]at a1 a2 a3 a4 a5 a6 a7⊢
   dsimp only at*
   exact⟨a1,a2,by rw[a3];simp,a4,a5,a6,a7⟩
theorem qfS(L:Lb)(m:MS){l:LI}{mac:Bool}(h1:l.countP isK<=1)(h2:(if mac then l.any (isC · 71 65)else l.any (isC · 77 98))=true):
 (enS l).args=l.filter (zeQ true)/\((zbR 80 l).2=1->(enS l).number=(zbR 80 l).1)/\(enS l).times=(if(zbR 76 l).2=0 then 1000000 else(enS l).times)/\((zbR 76 l).2=1->(enS l).times=(zbR 76 l).1)/\
 zbH L m l mac=(if l.any (zdI mac)=true then 8 else if 1<(zbR 80 l).2\/1<(zbR 76 l).2 then 7 else if(zbR 80 l).2=0 then 9
  else if(zaY (zbR 80 l).1).2=false\/(zdO L (zaY (zbR 80 l).1).1).2=false then 6
  else if(zaY (enS l).times).2=false\/(zaY (enS l).times).1<1\/999<(zaY (enS l).times).1 then 1 else if m.calls.length=8 then 10 else if mac then zcG m.sto (l.filter (zeQ true))else 0):=by
 obtain⟨a1,a2,a3,a4,a5,a6,a7⟩:=qrK l ⟨0,1000000,0,0,[]⟩;change(enS l).numbers=_ at a1;change(enS l).repeats=_ at a2;change(enS l).args=_ at a3;change _->(enS l).number=_ at a5;change _->(enS l).times=_ at a6;change _->(enS l).times=_ at a7;dsimp only at a1 a2 a3 a6;rw[Int.zero_add]at a1 a2;rw[List.nil_append]at a3;have b1:=mN 80 l;refine⟨a3,a5,?_,a7,?_⟩
 ·split
  ·rename_i q;exact a6 q
  ·rfl
 ·unfold zbH;rw[qkN h1 h2,a1,a2,a3];rcases hc:l.any (zdI mac)with _|_
  ·simp only[Bool.not_false,Bool.true_eq_false,if_false,Bool.false_eq_true];split
   ·rfl
   rename_i q1;split
   ·rfl
   rename_i q2;rw[a5 (by omega)]
  ·rfl
