/- The contract. -/
import Derived.Test.YtdcjbhdfphcefaaGreatDoorCn
namespace Go.Proofs.YtdcjbhdfphcefaaGreatDoor
set_option linter.all false
set_option maxRecDepth 100000
set_option maxHeartbeats 8000000
open Go.Proofs.Tryz
open Go.RowKit
theorem sC(w:World)(g:Nat):∀(m o:Nat),(∀j,j<m->∃u,w.cell? ⟨g,o+j,none⟩=some u/\u.oneCell'=true)->∃news:LV,news.length=m/\(∀j u,news[j]? =some u->w.cell? ⟨g,o+j,none⟩=some u)/\∀u∈news,u.oneCell'=true:=by
 intro m;induction m with
 |zero=>intro o h;exact⟨[],rfl,λj u h=>by simp at h,λu h=>by simp at h⟩
 |succ m ih=>
  intro o h;obtain⟨news,h1,h2,h3⟩:=ih o λj hj=>h j (by omega);obtain⟨u,hu,hu1⟩:=h m (by omega);refine⟨news++[u],by simp[h1],λj v hj=> ?_,λv hv=> ?_⟩
  ·rw[List.getElem?_append]at hj;split at hj
   ·exact h2 j v hj
   ·rename_i hlt;have e:j=m:=by
     have:=(Gu.1 hj).1;simp at this;omega
    subst e;rw[show j-news.length=0 by omega]at hj;simp at hj;rw[<-hj];exact hu
  ·rcases Ma.1 hv with q|q
   ·exact h3 v q
   ·rw[Mt.1 q];exact hu1
theorem Rz.news{w:World}{I:Nat->Prop}{kid:Nat->Tr}{k g:Nat}(h:∀i,i<k->∃x y z:Value,w.cell? ⟨g,i*3,none⟩=some x/\w.cell? ⟨g,i*3+1,none⟩=some y/\w.cell? ⟨g,i*3+2,none⟩=some z/\Rz w I (kid i) (.agg #[x,y,z])):
 ∃news:LV,news.length=k*3/\(∀j u,news[j]? =some u->w.cell? ⟨g,0+j,none⟩=some u)/\∀u∈news,u.oneCell'=true:=by
 refine sC w g (k*3) 0 λj hj=> ?_;obtain⟨x,y,z,c0,c1,c2,hr⟩:=h (j/3) (by omega);obtain⟨x',y',z',e,o0,o1,o2⟩:=hr.agg3;simp only[Value.agg.injEq,Array.mk.injEq,List.cons.injEq,and_true]at e;obtain⟨rfl,rfl,rfl⟩:=e;have:j=j/3*3\/j=j/3*3+1\/j=j/3*3+2:=by omega
 rw[Nat.zero_add];rcases this with q|q|q
 ·exact⟨x,by rw[q];exact c0,o0⟩
 ·exact⟨y,by rw[q];exact c1,o1⟩
 ·exact⟨z,by rw[q];exact c2,o2⟩
structure CpR(w:World)(I:Nat->Prop)(op n:Int)(kid:Nat->Tr)(m:Nat)(C:OA)(cp:Nat)(k:Nat)(W:World):Prop where
 bel:Bw w W
 x0:W.heap[w.heap.size]? =some (.cells #[.int .i64 op,.int .i64 n,.slice C m cp] 52 (0,0))
 r0:∃cs:Array Value,cs.size=3/\W.heap[w.heap.size+1]? =some (.cells cs 52 (0,0))
 ex:(C=none/\m=0)\/∃g:Nat,C=some ⟨g,0,none⟩/\w.heap.size+2<=g/\(∃cs:Array Value,cs.size=cp*3/\W.heap[g]? =some (.cells cs 52 (0,0)))/\
  (∀i,i<k->∃x y z:Value,W.cell? ⟨g,i*3,none⟩=some x/\W.cell? ⟨g,i*3+1,none⟩=some y/\W.cell? ⟨g,i*3+2,none⟩=some z/\Rz W (λj=>g<j) (kid i) (.agg #[x,y,z]))/\
  (∀i,k<=i->i<m->∃x y z:Value,W.cell? ⟨g,i*3,none⟩=some x/\W.cell? ⟨g,i*3+1,none⟩=some y/\W.cell? ⟨g,i*3+2,none⟩=some z/\Rz w I (kid i) (.agg #[x,y,z]))
theorem CpR.next{w:World}{I:Nat->Prop}{op n:Int}{kid:Nat->Tr}{m:Nat}{g cp k:Nat}{W W2:World}{x y z:Value}(h:CpR w I op n kid m (some ⟨g,0,none⟩) cp k W)(hk:k<m)(hb:Bw W W2)(hr:Rz W2 (λj=>W.heap.size<=j) (kid k) (.agg #[x,y,z])):
 CpR w I op n kid m (some ⟨g,0,none⟩) cp (k+1) (set3 W2 g (k*3) x y z):=by
 have h0:=hlS h.x0;obtain⟨cr,hcr,hr0⟩:=h.r0;have h1:=hlS hr0;rcases h.ex with⟨e,_⟩|⟨g',e,hge,⟨cs,hcs,hg⟩,hn,ho⟩
 ·cases e
 cases e;have h2:=hlS hg;have hss:W.heap.size<=(set3 W2 g (k*3) x y z).heap.size:=by rw[bJ];exact hb.size
 have kp:∀j,j<W.heap.size->j≠g->(set3 W2 g (k*3) x y z).heap[j]? =W.heap[j]? :=λj hj hne=>(aL _ _ _ _ _ _ _ hne).trans (hb.block j hj);have kc:∀i j,i≠k->j<3->(set3 W2 g (k*3) x y z).cell? ⟨g,i*3+j,none⟩=W.cell? ⟨g,i*3+j,none⟩:=λi j hi hj=>(cS _ _ _ _ _ _ _ (by omega)).trans (hb.cel g (i*3+j) h2);obtain⟨a,b,c,d0,d1,d2,_⟩:=ho k (Le _) hk;have e3:=rU (x:=x) (y:=y) (z:=z) (hb.ct h2 d0) (hb.ct h2 d1) (hb.ct h2 d2);refine⟨aQ (h.bel.trans (hb.mono (by omega))) (by omega) _ _ _ _,(kp _ h0 (by omega)).trans h.x0,⟨cr,hcr,(kp _ h1 (by omega)).trans hr0⟩,.inr ⟨g,rfl,hge,?_,λi hi=> ?_,λi hi hi2=> ?_⟩⟩
 ·obtain⟨cs',q1,q2⟩:=oP (o:=k*3) (x:=x) (y:=y) (z:=z) ((hb.block g h2).trans hg);exact⟨cs',by omega,q1⟩
 ·by_cases e:i=k
  ·subst e;exact⟨x,y,z,e3.1,e3.2.1,e3.2.2,hr.keep (by rw[bJ];exact Le _) (λj _ (hj:W.heap.size<=j)=>(by omega:g<j)) λj _ (hj:W.heap.size<=j)=>aL _ _ _ _ _ _ _ (by omega)⟩
  ·obtain⟨x',y',z',c0,c1,c2,hr'⟩:=hn i (by omega);exact⟨x',y',z',(kc i 0 e (by omega)).trans c0,(kc i 1 e (by omega)).trans c1,(kc i 2 e (by omega)).trans c2,hr'.keep hss (λ_ _ h=>h) λj hj (hj2:g<j)=>kp j hj (by omega)⟩
 ·obtain⟨x',y',z',c0,c1,c2,hr'⟩:=ho i (by omega) hi2;have e:i≠k:=by omega
  exact⟨x',y',z',(kc i 0 e (by omega)).trans c0,(kc i 1 e (by omega)).trans c1,(kc i 2 e (by omega)).trans c2,hr'⟩
theorem CpR.rz{w:World}{I:Nat->Prop}{op n:Int}{kid:Nat->Tr}{m:Nat}{C:OA}{cp:Nat}{W:World}{x y z:Value}(h:CpR w I op n kid m C cp m W)(h1:I64 op)(h2:I64 n)(h3:m<=maxLen):
 Rz (set3 W (w.heap.size+1) 0 x y z) (λg=>w.heap.size<=g) (.mk op n m kid) (.agg #[.int .i64 op,.int .i64 n,.slice C m cp]):=by
 refine⟨C,cp,rfl,h1,h2,h3,?_⟩;rcases h.ex with h|⟨g,e,hge,⟨cs,_,hgb⟩,hnw,_⟩
 ·exact .inl h
 refine .inr ⟨g,e,by omega,by rw[bJ];exact hlS hgb,λi hi=> ?_⟩;obtain⟨x,y,z,c0,c1,c2,hr⟩:=hnw i hi;have e:=aL W (w.heap.size+1) 0 g;exact⟨x,y,z,(aB (e _ _ _ (by omega))).trans c0,(aB (e _ _ _ (by omega))).trans c1,(aB (e _ _ _ (by omega))).trans c2,hr.keep (by rw[bJ];exact Le _) (λj _ (hj:g<j)=>(by omega:w.heap.size<=j)) λj _ (hj:g<j)=>aL _ _ _ _ _ _ _ (by omega)⟩
def zjI(w:World)(t:Tr)(e:Ending)(w':World):Prop:=∃x y z:Value,e=.returned (.agg #[x,y,z])/\Rz w' (λg=>w.heap.size<=g) t (.agg #[x,y,z])/\Bw w w'
theorem lQ(I:Nat->Prop):∀(t:Tr) (w:World) (v:Value),zfW t->Rz w I t v->Calls prog 52 #[v] w (zjI w t):=by
 intro t;induction t with
 |none_=>intro w v _ h;exact h.elim
 |mk op n m kid ih=>
  intro w v hsl h;obtain⟨A,c,rfl,hop,hn,hm,hex⟩:=h;have HM:Hid (m<=1000):=hsl.1;have hm1:m<=1000:=hsl.1;have HSL:=Hd hsl.2;have HEX:=Hd hex;have hA:A=none\/∃b off:Nat,A=some ⟨b,off,none⟩:=by
   rcases hex with⟨e,_⟩|⟨g,e,_⟩
   ·exact .inl e
   ·exact .inr ⟨g,0,e⟩
  obtain⟨news,hnl,hnc,hn1⟩:∃news:LV,news.length=m*3/\(∀W,Bw w W->0<m->∃b off:Nat,A=some ⟨b,off,none⟩/\∀j u,news[j]? =some u->W.cell? ⟨b,off+j,none⟩=some u)/\∀u∈news,u.oneCell'=true:=by
   rcases hex with⟨e,e2⟩|⟨g,e,_,hl,hr⟩
   ·exact⟨[],by simp[e2],λ_ _ h=>by omega,λu h=>by simp at h⟩
   ·obtain⟨news,q1,q2,q3⟩:=Rz.news hr;exact⟨news,q1,λW hW _=>⟨g,0,e,λj u hj=>(hW.cel g (0+j) hl).trans (q2 j u hj)⟩,q3⟩
  obtain⟨W0,hW0⟩:∃W0,W0=(w.alloc (.cells #[.int .i64 op,.int .i64 n,.slice A m c] 52)).alloc (.cells #[.int .i64 0,.int .i64 0,.slice none 0 0] 52):=⟨_,rfl⟩;have HB0:Hid (Bw w W0):=by unfold Hid;rw[hW0];exact(nB _ _).alloc (by simp) _
  have h0:W0.heap[w.heap.size]? =some (.cells #[.int .i64 op,.int .i64 n,.slice A m c] 52 (0,0)):=by rw[hW0];exact(Bm _ _ _ (by simp)).trans (Hn w _)
  have h1:W0.heap[w.heap.size+1]? =some (.cells #[.int .i64 0,.int .i64 0,.slice none 0 0] 52 (0,0)):=by
   rw[hW0];have:=Hn (w.alloc (.cells #[.int .i64 op,.int .i64 n,.slice A m c] 52)) (.cells #[.int .i64 0,.int .i64 0,.slice none 0 0] 52);simpa using this
  have HC:=Hd (zkX W0 A m c news hnl (by omega) (hnc W0 HB0.o) hn1 hA);have H0:=Hd h0;have H1:=Hd h1;have c2:=ce2 h0;have HNC:=Hd hnc;clear hsl hex hnc h0 h1 hA;go_enter func52,ntmps52;go_wp2_with fail;rw[<-hW0];clear hW0;have f2:W0.frozen? ⟨w.heap.size,2,none⟩=false:=by simp[World.frozen?,H0.o]
  go_wp2_with(go_at_call 82;refine HC.o.mono ?_;rintro e w1 ⟨C,cp,rfl,ho,hb⟩;have HO:=Hd ho;have HB1:=Hd hb;have X1:=Hd ((hb.block _ (hlS H0.o)).trans H0.o);have x1:=Ro w1 w.heap.size 2 _ _ _ X1.o;have x1f:w1.frozen? ⟨w.heap.size,2,none⟩=false:=by{simp[World.frozen?,X1.o]};clear ho hb);obtain⟨W1,hW1⟩:∃W1,W1=w1.setCell ⟨w.heap.size,2,none⟩ (.slice C m cp):=⟨_,rfl⟩;rw[<-hW1];have HR0:Hid (CpR w I op n kid m C cp 0 W1):=by
   have hs0:=hlS H0.o;have hs1:=hlS H1.o;have hbs:=HB1.o.size;have k1:∀j,j≠w.heap.size->W1.heap[j]? =w1.heap[j]? :=λj hj=>by rw[hW1];exact Bj _ _ _ j hj
   refine⟨by rw[hW1];exact(HB0.o.tm HB1.o).setCell (p:=⟨w.heap.size,2,none⟩) (Le _) _,by rw[hW1];exact aD X1.o,⟨_,rfl,(k1 _ (by omega)).trans ((HB1.o.block _ hs1).trans H1.o)⟩,?_⟩;rcases HO.o.2 with⟨e1,e2⟩|⟨g,cap,cur,e1,h1,h2,h3,h4,h5,h6⟩
   ·simp only[Vs]at e1;exact .inl ⟨e1.1,e2⟩
   ·simp only[Vs,true_and]at e1;obtain⟨rfl,rfl⟩:=e1;refine .inr ⟨g,rfl,by omega,⟨cur,h5,(k1 g (by omega)).trans h2⟩,λi hi=>absurd hi (by omega),λi _ hi=> ?_⟩;have hca:∀j,j<m*3->W1.cell? ⟨g,j,none⟩=news[j]? :=λj hj=>(aB (k1 g (by omega))).trans (HO.o.cellAt j hj);rcases HEX.o with⟨_,e⟩|⟨g0,e,_,hl0,hr0⟩
    ·omega
    obtain⟨x,y,z,c0,c1,c2,hr⟩:=hr0 i hi;obtain⟨b,off,e',hq⟩:=HNC.o w (Bf _ _) (by omega);rw[e]at e';cases e';have hn':∀j u,j<m*3->w.cell? ⟨g0,j,none⟩=some u->news[j]? =some u:=λj u hj hu=>by
     obtain⟨v,hv⟩:∃v,news[j]? =some v:=⟨_,Gg (by omega)⟩;have:=hq j v hv;rw[Nat.zero_add,hu]at this;rw[hv,this]
    exact⟨x,y,z,(hca _ (by omega)).trans (hn' _ _ (by omega) c0),(hca _ (by omega)).trans (hn' _ _ (by omega) c1),(hca _ (by omega)).trans (hn' _ _ (by omega) c2),hr⟩
  clear hW1 x1 x1f f2 c2 hnl hn1 H0 H1 HC HO HB1 X1 HNC HEX HB0;go_loopw[12] (λi W=>∃k:Nat,k<=m/\i=.int .i64 (k:Int)/\CpR w I op n kid m C cp k W) (λi _=>m-(intOf i).toNat)
  case atStart=>exact⟨0,by omega,rfl,HR0.o⟩
  case round=>
   obtain⟨k,hk,rfl,hR⟩:=hrel;have HR:=Hd hR;clear hR;by_cases hlt:k<m
   ·obtain⟨g,rfl,hge,⟨cs,hcs,hgb⟩,hnw,hod⟩:∃g:Nat,C=some ⟨g,0,none⟩/\w.heap.size+2<=g/\(∃cs:Array Value,cs.size=cp*3/\wr.heap[g]? =some (.cells cs 52 (0,0)))/\_/\_:=by
     rcases HR.o.ex with⟨_,e⟩|h
     ·omega
     ·exact h
    obtain⟨x,y,z,c0,c1,c2,hr⟩:=hod k (Le _) hlt;obtain⟨o1,n1,A1,k1,d1,rfl,rfl,rfl⟩:=hr.form;have HC0:=Hd hr;have x2:wr.cell? ⟨w.heap.size,2,none⟩=some (.slice (some ⟨g,0,none⟩) m cp):=Ro wr _ 2 _ _ _ HR.o.x0;have hx0:=hlS HR.o.x0;have hgl:=hlS hgb;clear hnw hod hr;have i1:(0:Int)<=(k:Int):=by omega
    have i2:(k:Int)<(m:Int):=by omega
    go_upto_region 5 with(fail)
    obtain⟨W2,hW2⟩:∃W2,W2=wr.alloc (.cells #[.int .i64 o1,.int .i64 n1,.slice A1 k1 d1] 52):=⟨_,rfl⟩;rw[<-hW2];have X2:Hid (W2.heap[wr.heap.size]? =some (.cells #[.int .i64 o1,.int .i64 n1,.slice A1 k1 d1] 52 (0,0))):=by unfold Hid;rw[hW2];exact Hn _ _
    have HB2:Hid (Bw wr W2):=by unfold Hid;rw[hW2];exact nB _ _
    have s0:W2.drew.cell? ⟨w.heap.size,2,none⟩=some (.slice (some ⟨g,0,none⟩) m cp)/\W2.drew.cell? ⟨wr.heap.size,0,none⟩=some (.int .i64 o1)/\W2.drew.cell? ⟨wr.heap.size,1,none⟩=some (.int .i64 n1)/\W2.drew.cell? ⟨wr.heap.size,2,none⟩=some (.slice A1 k1 d1):=
     ⟨HB2.o.ct hx0 x2,Ro W2 _ 0 _ _ _ X2.o,Ro W2 _ 1 _ _ _ X2.o,Ro W2 _ 2 _ _ _ X2.o⟩
    have S0:=Hd s0;have s2:=hlS X2.o;have HIH:=Hd (ih k W2.drew (.agg #[.int .i64 o1,.int .i64 n1,.slice A1 k1 d1]) (HSL.o k hlt) (HC0.o.below (aA (HR.o.bel.tm HB2.o) 1)));have C0:=Hd (HB2.o.ct hgl c0);have C1:=Hd (HB2.o.ct hgl c1);have C2:=Hd (HB2.o.ct hgl c2);have HG2:=Hd ((HB2.o.block g hgl).trans hgb);have hg2:=hlS HG2.o;have hx2:w.heap.size<W2.heap.size:=Nat.lt_trans hx0 s2;have hne1:w.heap.size≠g:=by omega
    have hne2:wr.heap.size≠g:=by omega
    clear s0 c0 c1 c2 hgb hW2;go_region_held3(λw'=>w'.cell? ⟨w.heap.size,2,none⟩=some (.slice (some ⟨g,0,none⟩) m cp)/\w'.cell? ⟨wr.heap.size,0,none⟩=some (.int .i64 o1)/\w'.cell? ⟨wr.heap.size,1,none⟩=some (.int .i64 n1)/\w'.cell? ⟨wr.heap.size,2,none⟩=some (.slice A1 k1 d1)) (first|with_reducible exact S2.o|with_reducible exact S0.o|exact S3.o) (first|(go_at_call 52;refine HIH.o.mono ?_;rintro e w3 ⟨x',y',z',rfl,hr3,hb3⟩;obtain⟨o2,n2,A2,k2,d2,rfl,rfl,rfl⟩:=hr3.form;have HB3:Hid (Bw W2 w3):=(unB hb3);have HRZ:Hid (Rz w3 (λj=>W2.heap.size<=j) (kid k) (.agg #[.int .i64 o2,.int .i64 n2,.slice A2 k2 d2])):=hr3;have S2:Hid (w3.cell? ⟨w.heap.size,2,none⟩=some (.slice (some ⟨g,0,none⟩) m cp)/\w3.cell? ⟨wr.heap.size,0,none⟩=some (.int .i64 o1)/\w3.cell? ⟨wr.heap.size,1,none⟩=some (.int .i64 n1)/\w3.cell? ⟨wr.heap.size,2,none⟩=some (.slice A1 k1 d1)):=⟨HB3.o.ct hx2 S0.o.1,HB3.o.ct s2 S0.o.2.1,HB3.o.ct s2 S0.o.2.2.1,HB3.o.ct s2 S0.o.2.2.2⟩;have S3:Hid ((set3 w3 g (k*3) (.int .i64 o2) (.int .i64 n2) (.slice A2 k2 d2)).cell? ⟨w.heap.size,2,none⟩=some (.slice (some ⟨g,0,none⟩) m cp)/\(set3 w3 g (k*3) (.int .i64 o2) (.int .i64 n2) (.slice A2 k2 d2)).cell? ⟨wr.heap.size,0,none⟩=some (.int .i64 o1)/\(set3 w3 g (k*3) (.int .i64 o2) (.int .i64 n2) (.slice A2 k2 d2)).cell? ⟨wr.heap.size,1,none⟩=some (.int .i64 n1)/\(set3 w3 g (k*3) (.int .i64 o2) (.int .i64 n2) (.slice A2 k2 d2)).cell? ⟨wr.heap.size,2,none⟩=some (.slice A1 k1 d1)):=⟨(aB (aL _ _ _ _ _ _ _ hne1)).trans S2.o.1,(aB (aL _ _ _ _ _ _ _ hne2)).trans S2.o.2.1,(aB (aL _ _ _ _ _ _ _ hne2)).trans S2.o.2.2.1,(aB (aL _ _ _ _ _ _ _ hne2)).trans S2.o.2.2.2⟩;have e0:=HB3.o.ct hg2 C0.o;have e1:=HB3.o.ct hg2 C1.o;have e2:=HB3.o.ct hg2 C2.o;have ef:∀i,w3.frozen? ⟨g,i,none⟩=false:=(λi=>by{simp[World.frozen?,(HB3.o.block g hg2).trans HG2.o]});clear hb3 hr3));have HN:=Hd (HR.o.next hlt (HB2.o.tm HB3.o) (HRZ.o.keep (Le _) (λj _ (hj:W2.heap.size<=j)=>(Ly HB2.o.size hj:wr.heap.size<=j)) λ_ _ _=>rfl));go_wp2_with fail;exact⟨⟨k+1,by omega,by go_num,HN.o⟩,by simp only[intOf];omega⟩
   ·have hke:k=m:=by omega
    subst hke;obtain⟨cr,hcr,hr0⟩:=HR.o.r0;have x0:=Ro wr _ 0 _ _ _ HR.o.x0;have x1:=Ro wr _ 1 _ _ _ HR.o.x0;have x2:=Ro wr _ 2 _ _ _ HR.o.x0;have rf:∀i,wr.frozen? ⟨w.heap.size+1,i,none⟩=false:=λi=>by simp[World.frozen?,hr0]
    obtain⟨r0,r1,r2,rfl⟩:∃r0 r1 r2:Value,cr= #[r0,r1,r2]:=by
     obtain⟨l⟩:=cr;rcases l with _|⟨a,_|⟨b,_|⟨c,_|⟨d,l⟩⟩⟩⟩
     all_goals simp at hcr
     exact⟨_,_,_,rfl⟩
    have y0:=Ro wr _ 0 _ _ _ hr0;have y1:=Ro wr _ 1 _ _ _ hr0;have y2:=Ro wr _ 2 _ _ _ hr0;have HR2:=Hd hr0;clear hr0 hcr;go_wp2_with fail;have HEXX:=Hd HR.o.ex;exact bodyPost_ret (results_cell_row results52 _ _ (w.heap.size+1) _ _ _ _ rfl (cL HR2.o) underlying52 rfl (by kernel_rfl)) rfl
     ⟨_,_,_,rfl,CpR.rz HR.o hop hn hm,aQ HR.o.bel (by omega) 0 _ _ _⟩
