/- The store wi. -/
import Derived.Test.YtdcjbhdfphcefaaGreatDoorSv
namespace Go.Proofs.YtdcjbhdfphcefaaGreatDoor
set_option linter.all false
set_option maxRecDepth 100000
set_option maxHeartbeats 4000000
open Go.Proofs.Tryz
open Go.RowKit
theorem qbO{w:World}{b o:Nat}{cs:LV}(h:w.rangeAt b o cs):w.drew.rangeAt b o cs:=h
theorem gY{w:World}{b o:Nat}{cs:LV}(x:Obj)(h:w.rangeAt b o cs):((w.drew).alloc x).rangeAt b o cs:=World.rangeAt_alloc (w:=w.drew) h x
def PuK(σ:Sto)(lb L cap:Nat)(cs ls:Array Value):Prop:=
 cs.size=1101/\cs[0]? =some (.slice (some ⟨lb,0,none⟩) L cap)/\ls.size=cap*33/\
 (∀j i:Nat,j<σ.lv.length->i<33->ls[j*33+i]? =some (.int .i64 (σ.lv.getD j (λ_=>0) (1+i))))/\(∀i:Nat,i<100->cs[1+i]? =some (.int .i64 (σ.gl (100+i))))/\(∀i:Nat,i<1000->cs[101+i]? =some (.int .i64 (σ.gl (5000+i))))
theorem qbX{b lb g cap cap' L:Nat}{σ:Sto}{l:LI}{w wr wa w1:World}{cs ls lc:Array Value}{ty:TypeId}{fr:Nat×Nat}
 (hB:Bw w wr) (hlt:b<w.heap.size/\lb<w.heap.size) (hk:PuK σ lb L cap cs ls) (gb:w.heap[b]? =some (.cells cs 110 (0,0))) (hne:lb≠b) (few:σ.lv.length<9) (hL:L=σ.lv.length) (hE:zcG σ l=0) (hcap:L<=cap)
 (hl2:lc.size=33) (hl3:∀i:Nat,i<33->lc[i]? =some (.int .i64 (zgW l (1+i)))) (hl1:wr.heap[w.heap.size]? =some (.cells lc ty fr))
 (q1:w1.ownsRow 0 137 33 (.slice (some ⟨g,0,none⟩) (L+1) cap') (L+1) (ls.toList.take (L*33)++lc.toList)) (q2:wa.grownBy w1 (some lb)) (q3:some lb=some g\/g=wa.heap.size) (ha:Bw wr wa):
 w1.cell? ⟨b,0,none⟩=some (.slice (some ⟨lb,0,none⟩) L cap)/\w1.frozen? ⟨b,0,none⟩=false/\w1.rangeAt w.heap.size 0 lc.toList/\(w1.setCell ⟨b,0,none⟩ (.slice (some ⟨g,0,none⟩) (L+1) cap')).rangeAt w.heap.size 0 lc.toList/\
 zeH b lb σ l w (.returned (.int .i64 0)) (w1.setCell ⟨b,0,none⟩ (.slice (some ⟨g,0,none⟩) (L+1) cap')):=by
 obtain⟨hcs,h0,hls,k1,k2,k3⟩:=hk;have s1:=hB.size;have s2:=ha.size;have s3:=q2.size;have hsz:w.heap.size<wr.heap.size:=hlS hl1;have eb:w1.heap[b]? =some (.cells cs 110 (0,0)):=(q2.block b (by omega) (by simp;omega)).trans ((ha.block b (by omega)).trans ((hB.block b hlt.1).trans gb));have el:w1.heap[w.heap.size]? =some (.cells lc ty fr):=(q2.block _ (by omega) (by simp;omega)).trans ((ha.block _ (by omega)).trans hl1);have el2:(w1.setCell ⟨b,0,none⟩ (.slice (some ⟨g,0,none⟩) (L+1) cap')).heap[w.heap.size]? =some (.cells lc ty fr):=(Bj _ _ _ w.heap.size (by show w.heap.size≠b;omega)).trans el;have hgb:g≠b:=by
  rcases q3 with h|h
  ·have:=Oj h;omega
  ·omega
 have rg:∀W:World,W.heap[w.heap.size]? =some (.cells lc ty fr)->W.rangeAt w.heap.size 0 lc.toList:=λW h j v hv=>by
  rw[Nat.zero_add,Ro W _ _ _ _ _ h];simpa using hv
 refine⟨(Ro w1 b 0 _ _ _ eb).trans h0,by simp[World.frozen?,eb],rg _ el,rg _ el2,by rw[hE],g,?_,?_,?_⟩
 ·rcases q3 with h|h
  ·exact .inl (Oj h).symm
  ·exact .inr (by omega)
 ·unfold zbU;rw[Ip hE];subst hL;exact Sx.grow hgb few eb hcs h0 k1 k2 k3 hls hcap hl2 hl3 q1
 ·refine Chg.trans ?_ (aH w1 b 0 _ _ (.inl rfl));have c1:Chg (λg=>g=b\/g=lb) w wr:=Chg.of_below hB;have c2:Chg (λg=>g=b\/g=lb) wr wa:=Chg.of_below ha;have c3:Chg (λg=>g=b\/g=lb) wa w1:=⟨q2.os,q2.tape,q2.output,q2.size,λk hk ho=>q2.block k hk (by simp;intro e;exact ho (.inr e))⟩;exact(c1.trans c2).trans c3
theorem qbY(w:World)(b lb:Nat)(σ:Sto)(I:Nat->Prop)(A:OA)(n c:Nat)(l:LI)(h:Sx w b lb σ)(hv:RdV w I A n l)(ht:Tn w):
 Calls prog 59 #[.pointer (some ⟨b,0,none⟩),.slice A n c] w (zeH b lb σ l w):=by
 have HS:=Hd h;have HL:=Hd (jQ w b lb σ h);have HT:=Hd ht;have hts:=ht.lt;have hltS:=Hd h.lt;have hlt:=h.lt;obtain⟨hn1,hn2,hvb,hvc⟩:=hv;have HVB:=Hd hvb;have HVC:=Hd hvc;have hq:=h.few;have hp:=h.pos;have hnl:=hn2;unfold maxLen at hnl;clear h ht hvb hvc;obtain⟨L,hL⟩:∃L,L=σ.lv.length:=⟨_,rfl⟩;rw[<-hL]at hq hp HL;have HLL:=Hd hL;clear hL;by_cases h9:L=9
 ·have e1:Hid (zcG σ l=10):=by unfold Hid zcG;rw[Ip (by rw[<-HLL.o];exact h9)]
  have hz:((L:Int)-1==8)=true:=by rw[h9];rfl
  go_enter func59,ntmps59;go_wp2_with(go_at_call 75;refine mo0 HL.o ?_);go_ret;rw[<-e1.o];exact zeH.no HS.o (Bf _ _) (by rw[e1.o];omega)
 have hz:((L:Int)-1==8)=false:=by simp;omega
 have hz':((L:Int)-1 !=8)=true:=by simp;omega
 have E0:Hid (zcG σ l=zcN [] l):=by unfold Hid zcG;rw[Iq (by rw[<-HLL.o];exact h9)]
 have HP0:=Hd (PuR.start (w0:=w) (l:=l));have H9:=Hd h9;clear h9;subst hn1;go_enter func59,ntmps59;go_wp2_with(go_at_call 75;refine mo0 HL.o ?_);go_loopw[8,9,15] (λ_ _ i W=>PRel w l i W) (λ_ _ i _=>l.length-(intOf i).toNat)
 case atStart=>exact⟨0,by omega,rfl,HP0.o⟩
 case round=>
  obtain⟨k,hk,rfl,hr⟩:=hrel;have HR:=Hd hr;obtain⟨hb,⟨lc,hl1,hl2,hl3⟩,⟨sc,hs1,hs2⟩,her⟩:=hr;have HB:=Hd hb;have HL1:=Hd hl1;have HL3:=Hd hl3;have HS1:=Hd hs1;have HS2:=Hd hs2;have HER:=Hd her;have hsz:=hlS hs1;clear hb hl1 hl3 hs1 hs2 her;by_cases hlt:k<l.length
  ·obtain⟨ab,off,rfl,_,hab,hc⟩:=HVC.o (by omega);obtain⟨⟨cc,nn⟩,hx⟩:∃x,l[k]? =some x:=⟨_,Gg hlt⟩;obtain⟨x0,x1⟩:=hc k _ hx;have hbx:=HVB.o _ (Mg hx);dsimp only at x0 x1 hbx;obtain⟨⟨bc1,bc2⟩,bn1,bn2⟩:=hbx;have d0:=HB.o.ct hab x0;have d1:=HB.o.ct hab x1;have HX:=Hd hx;have HLO:=Hd (λW (hb:Bw w W)=>qkA cc W (HT.o.below hb hts) bc1 bc2);clear hc x0 x1 hx;have hdrop:l.drop k=(cc,nn)::l.drop (k+1):=by
    rw[List.drop_eq_getElem_cons hlt];rw[Gg hlt]at HX;rw[Oj HX.o]
   have htake:(l.take (k+1)).map (·.1)=(l.take k).map (·.1)++[cc]:=by
    rw[Ta,HX.o];simp
   have hcase:zcN [] l=if zbW cc=0 then 1 else if cc∈(l.take k).map (·.1)then 7 else if vld nn then zcN ((l.take (k+1)).map (·.1)).reverse (l.drop (k+1))else 3:=by
    rw[HER.o,hdrop,htake];simp only[zcN,List.mem_reverse,List.reverse_append,List.reverse_cons,List.reverse_nil,List.nil_append,List.cons_append]
   have HCS:=Hd hcase;have HTK:=Hd htake;clear hcase hdrop htake;have hlb:=qhK cc;by_cases h0:zbW cc=0
   ·have h0':(zbW cc==0)=true:=by simpa using h0
    have E1:Hid (zcG σ l=1):=by unfold Hid;rw[E0.o,HCS.o,Ip h0]
    clear h0;go_wp2_with(go_at_call 86;refine(HLO.o _ (HB.o.trans (bxS _ (by omega)))).mono ?_;rintro e w' ⟨rfl,rfl⟩);go_ret;rw[<-E1.o];exact zeH.no HS.o (HB.o.trans (bxS _ (by omega))) (by rw[E1.o];omega)
   have h0':(zbW cc==0)=false:=by simpa using h0
   have hin:=quP h0;obtain⟨in1,in2⟩:=hin;have hsc:=HS2.o (cc-65).toNat (by omega);rw[show(65:Int)+((cc-65).toNat:Int)=cc by omega]at hsc;have s0:wr.cell? ⟨w.heap.size+1,(cc-65).toNat,none⟩=some (.bool (decide (cc∈(l.take k).map (·.1)))):=(Ro wr _ _ _ _ _ HS1.o).trans hsc;have sf:wr.frozen? ⟨w.heap.size+1,(cc-65).toNat,none⟩=false:=by have:=HS1.o;simp[World.frozen?,this]
   have hlc:=HL3.o ((zbW cc).toNat-1) (by omega);have l0:wr.cell? ⟨w.heap.size,(zbW cc).toNat-1,none⟩=some (.int .i64 (zgW (l.take k) (1+(((zbW cc).toNat-1:Nat):Int)))):=(Ro wr _ _ _ _ _ HL1.o).trans hlc;have lf:wr.frozen? ⟨w.heap.size,(zbW cc).toNat-1,none⟩=false:=by have:=HL1.o;simp[World.frozen?,this]
   clear hsc hlc;by_cases h7:cc∈(l.take k).map (·.1)
   ·have E1:Hid (zcG σ l=7):=by unfold Hid;rw[E0.o,HCS.o,Iq h0,Ip h7]
    rw[Dt h7]at s0;have hl1:1<=zbW cc:=by omega
    clear h0 h7;go_wp2_with(go_at_call 86;refine(HLO.o _ (HB.o.trans (bxS _ (by omega)))).mono ?_;rintro e w' ⟨rfl,rfl⟩);go_ret;rw[<-E1.o];exact zeH.no HS.o (HB.o.trans (bxS _ (by omega))) (by rw[E1.o];omega)
   rw[Df h7]at s0;rcases hv:vld nn with _|_
   ·have E1:Hid (zcG σ l=3):=by unfold Hid;rw[E0.o,HCS.o,Iq h0,Iq h7,hv];rfl
    have hl1:1<=zbW cc:=by omega
    clear h0 h7;go_wp2_with(first|(go_at_call 86;refine(HLO.o _ (HB.o.trans (bxS _ (by omega)))).mono ?_;rintro e w' ⟨rfl,rfl⟩)|(go_at_call 87;refine mo0 (aK _ _) ?_));go_ret;rw[<-E1.o];exact zeH.no HS.o (HB.o.trans (bxS _ (by omega))) (by rw[E1.o];omega)
   ·have E1:Hid (zcN [] l=zcN ((l.take (k+1)).map (·.1)).reverse (l.drop (k+1))):=by unfold Hid;rw[HCS.o,Iq h0,Iq h7,hv];rfl
    have hl1:1<=zbW cc:=by omega
    have hl2:zbW cc<=33:=by omega
    have l1:(wr.setCell ⟨w.heap.size+1,(cc-65).toNat,none⟩ (.bool true)).cell? ⟨w.heap.size,(zbW cc).toNat-1,none⟩=some (.int .i64 (zgW (l.take k) (1+(((zbW cc).toNat-1:Nat):Int)))):=
     (cekC w.heap.size ((zbW cc).toNat-1) (Bj _ _ _ _ (by show w.heap.size≠w.heap.size+1;omega))).trans l0
    have lf1:(wr.setCell ⟨w.heap.size+1,(cc-65).toNat,none⟩ (.bool true)).frozen? ⟨w.heap.size,(zbW cc).toNat-1,none⟩=false:=
     (cekF w.heap.size ((zbW cc).toNat-1) (Bj _ _ _ _ (by show w.heap.size≠w.heap.size+1;omega))).trans lf
    have hszs:w.heap.size<(wr.setCell ⟨w.heap.size+1,(cc-65).toNat,none⟩ (.bool true)).heap.size:=by simp[World.setCell];omega
    have l2:=λo:Obj=>(Wl (wr.setCell ⟨w.heap.size+1,(cc-65).toNat,none⟩ (.bool true)) o ⟨w.heap.size,(zbW cc).toNat-1,none⟩ hszs).trans l1;have lf2:∀o:Obj,((wr.setCell ⟨w.heap.size+1,(cc-65).toNat,none⟩ (.bool true)).alloc o).frozen? ⟨w.heap.size,(zbW cc).toNat-1,none⟩=false:=λo=>
     (cekF w.heap.size ((zbW cc).toNat-1) (Bm _ o _ hszs)).trans lf1
    clear hszs l1 lf1 l0 lf;have HP1:=Hd (λo:Obj=>PuR.next HR.o HX.o HTK.o in1 in2 hl1 hl2 E1.o o);have HK1:Hid (k+1<=l.length/\l.length-(k+1)<l.length-k):=⟨by omega,by omega⟩;clear h0 h7;go_wp2_with(first|(go_at_call 86;refine(HLO.o _ (HB.o.trans (bxS _ (by omega)))).mono ?_;rintro e w' ⟨rfl,rfl⟩)|(go_at_call 87;refine mo0 (aK _ _) ?_));exact⟨⟨k+1,HK1.o.1,by go_num,HP1.o _⟩,by simp only[intOf];have:=HK1.o.2;omega⟩
  ·have hke:k=l.length:=by omega
   subst hke;have E1:Hid (zcG σ l=0):=by
    unfold Hid;rw[E0.o,HER.o,Dl];simp[zcN]
   rw[Tm]at HL3;obtain⟨hne,hp',hq',cap,cs,ls,g1,g2,h0,hcap,hm,hls,hcs,k1,k2,k3⟩:=HS.o;have hblt:=hltS.o;have gb:=(HB.o.block b hblt.1).trans g1;have gl:=(HB.o.block lb hblt.2).trans g2;rw[<-HLL.o]at h0 hcap;have HA:Hid (PuK σ lb L cap cs ls):=⟨hcs,h0,hls,k1,k2,k3⟩;have HG1:=Hd g1;have few':Hid (σ.lv.length<9):=by have e1:=HLL.o;have e2:=H9.o;unfold Hid;omega
   have c0:wr.cell? ⟨b,0,none⟩=some (.slice (some ⟨lb,0,none⟩) L cap):=(Ro wr b 0 _ _ _ gb).trans h0;have f0:wr.frozen? ⟨b,0,none⟩=false:=by simp[World.frozen?,gb]
   have hown:wr.ownsRow 0 137 33 (.slice (some ⟨lb,0,none⟩) L cap) L (ls.toList.take (L*33)):=
    ⟨by rw[Lr,Array.length_toList,hls];have:=Nat.mul_le_mul_right 33 hcap;omega,.inr ⟨lb,cap,ls,rfl,Lq _,gl,hcap,hm,hls,rfl⟩⟩
   have HOWN:=Hd hown;have GB:=Hd gb;have GL:=Hd gl;have hltS':Hid (b<wr.heap.size):=by have:=HB.o.size;unfold Hid;omega
   obtain⟨i0,z0,hi0,hz0,hz1,hz2,hz3⟩:=quN;have HI0:=Hd hi0;have HZ0:=Hd hz0;have HZ1:=Hd hz1;have HZ2:=Hd hz2;have HZ3:=Hd hz3;have hlr:=HL1.o;have hrng:wr.rangeAt w.heap.size 0 lc.toList:=λj v hv=>by
    rw[Nat.zero_add,Ro wr _ _ _ _ _ hlr];simpa using hv
   have HRNG:=Hd hrng;have hu:=underlying137;have hi:(prog.info? 137).map (·.size)=some lc.toList.length:=by rw[HI0.o];simp[HZ1.o,hl2]
   have hct:lc.toList.toArray=lc:=by simp
   clear g1 g2 h0 hls hcs k1 k2 k3 gb gl hown hi0 hz0 hz1 hz2 hz3 hlr hrng;have hw0:Hid (w.heap.size<wr.heap.size):=by unfold Hid;omega
   go_wp2_with fail;have hone:∀u∈lc.toList,u.oneCell'=true:=by
    intro u hu;obtain⟨i,hi⟩:=List.getElem?_of_mem hu;have hi33:i<33:=by have:=(Gu.1 hi).1;simp[hl2]at this;exact this
    have:=HL3.o i hi33;rw[show lc.toList[i]? =lc[i]? by simp,this]at hi;rw[<-Oj hi];rfl
   have HONE:=Hd hone;clear hone;have HNEW:Hid (∀(o:Obj),(wr.alloc o).heap[wr.heap.size]? =some o):=λo=>Hn wr o;have HOLD:Hid (∀(o:Obj) (g:Nat) (x:Obj),wr.heap[g]? =some x->(wr.alloc o).drew.heap[g]? =some x):=λo g x hx=>(Bm wr o g (hlS hx)).trans hx;have HBL:Hid (∀o:Obj,Bw wr ((wr.drew).alloc o)):=λo=>(Bf wr.heap.size wr.drew).alloc (Le _) o|>λh=>⟨h.os,h.tape,h.output,h.size,h.block⟩
   have c1:∀o:Obj,(wr.alloc o).cell? ⟨b,0,none⟩=some (.slice (some ⟨lb,0,none⟩) L cap):=λo=>(Wl wr o ⟨b,0,none⟩ hltS'.o).trans c0;have f1:∀o:Obj,(wr.alloc o).frozen? ⟨b,0,none⟩=false:=λo=>(cekF b 0 (Bm _ o _ hltS'.o)).trans f0;refine wp_region_noPanic ?_;refine wp_region_held_drew (S:=λw'=>w'.rangeAt w.heap.size 0 lc.toList) (by kernel_rfl) (qbO HRNG.o) (λhH=> ?_);refine tkL 0 (v:= ?_) rfl ?_ (by assumption) ?_;rotate_left
   ·rintro w1-
    go_simp<;>with_reducible rfl
   try simp only[Act.put,L0,L4,L5]
   refine tkL 1 (v:= ?_) rfl ?_ (by assumption) ?_;rotate_left
   ·rintro w1-
    go_simp<;>with_reducible rfl
   try simp only[Act.put,L0,L4,L5]
   refine tkL 2 (v:= ?_) rfl ?_ (by assumption) ?_;rotate_left
   ·rintro w1-
    go_simp<;>with_reducible rfl
   try simp only[Act.put,L0,L4,L5]
   refine tkL 3 (v:= ?_) rfl ?_ (by assumption) ?_;rotate_left
   ·rintro w1-
    go_simp<;>with_reducible rfl
   try simp only[Act.put,L0,L4,L5]
   refine' tkH 5 (v:=_) rfl (yieldsIf_load_mid (by rfl) _ _ rfl _ _ rfl _ _ (λw1 h1=>h1) hu (by rfl) hi) (by assumption) ?_;try simp only[Act.put,L0,L4,L5]
   refine rd2 4 6 rfl rfl (λK hK=> ?_) λK hK=> ?_
   ·go_simp;refine hK.o _ _ ?_ (λhH=> ?_)
    ·exact qbO HRNG.o
    clear hK K;try simp only[Act.put,L0,L4,L5]
    refine rd1 6 rfl λK hK=> ?_;go_simp;refine hK.o _ _ ?_ (λhH=> ?_)
    ·exact gY _ HRNG.o
    clear hK K;try simp only[Act.put,L0,L4,L5]
    refine rd1 7 rfl λK hK=> ?_;refine step_append_lies _ rfl (.tmp 50) (.tmp 52) 106 rfl 0 137 i0 z0 33 264 underlying106 HI0.o HZ0.o HZ1.o HZ2.o HZ3.o (by omega) (.slice (some ⟨lb,0,none⟩) L cap) L (ls.toList.take (L*33)) (by simp[Act.eval,Act.put]) ?_ ⟨wr.heap.size,0,none⟩ 1 1 lc.toList (by simp[Act.eval,Act.put]) ?_ ?_ ?_ (by omega) ?_ ?_ (Lq _) _ rfl ?_
    ·exact bW (HOLD.o _) HOWN.o
    ·simp[hl2]
    ·exact Nk ((HNEW.o _).trans (by rw[lT (n:=33) (by rfl) hl2]))
    ·exact HONE.o
    ·unfold maxLen;omega
    ·omega
    intro g cap' w1 q1 q2 q3 q4;have HE:=Hd (qbX HB.o hltS.o HA.o HG1.o hne few'.o HLL.o E1.o hcap hl2 HL3.o HL1.o q1 q2 q3 (HBL.o _));clear q1 q2 q3 q4;obtain⟨c0',f0',hr1,hr2,hend⟩:=HE.o;refine hK.o _ _ ?_ (λhH=> ?_)
    ·exact hr1
    clear hK K;try simp only[Act.put,L0,L4,L5]
    refine tkL 8 (v:= ?_) rfl ?_ (by assumption) ?_;rotate_left
    ·rintro w1-
     go_simp<;>with_reducible rfl
    try simp only[Act.put,L0,L4,L5]
    refine tkL 9 (v:= ?_) rfl ?_ (by assumption) ?_;rotate_left
    ·rintro w1-
     go_simp<;>with_reducible rfl
    try simp only[Act.put,L0,L4,L5]
    refine rd1 10 rfl λK hK=> ?_;go_simp;refine hK.o _ _ ?_ (λhH=> ?_)
    ·exact hr2
    clear hK K;try simp only[Act.put,L0,L4,L5]
    refine wpAnyH_done (by kernel_rfl) ?_ _;refine NoPanic.normal ?_;clear hr1 hr2 c0' f0';go_wp2;go_ret;exact hend
   ·go_simp;refine hK.o _ _ ?_ (λhH=> ?_)
    ·exact gY _ HRNG.o
    clear hK K;try simp only[Act.put,L0,L4,L5]
    refine rd1 4 rfl λK hK=> ?_;go_simp;refine hK.o _ _ ?_ (λhH=> ?_)
    ·exact gY _ HRNG.o
    clear hK K;try simp only[Act.put,L0,L4,L5]
    refine rd1 7 rfl λK hK=> ?_;refine step_append_lies _ rfl (.tmp 50) (.tmp 52) 106 rfl 0 137 i0 z0 33 264 underlying106 HI0.o HZ0.o HZ1.o HZ2.o HZ3.o (by omega) (.slice (some ⟨lb,0,none⟩) L cap) L (ls.toList.take (L*33)) (by simp[Act.eval,Act.put]) ?_ ⟨wr.heap.size,0,none⟩ 1 1 lc.toList (by simp[Act.eval,Act.put]) ?_ ?_ ?_ (by omega) ?_ ?_ (Lq _) _ rfl ?_
    ·exact bW (HOLD.o _) HOWN.o
    ·simp[hl2]
    ·exact Nk ((HNEW.o _).trans (by rw[lT (n:=33) (by rfl) hl2]))
    ·exact HONE.o
    ·unfold maxLen;omega
    ·omega
    intro g cap' w1 q1 q2 q3 q4;have HE:=Hd (qbX HB.o hltS.o HA.o HG1.o hne few'.o HLL.o E1.o hcap hl2 HL3.o HL1.o q1 q2 q3 (HBL.o _));clear q1 q2 q3 q4;obtain⟨c0',f0',hr1,hr2,hend⟩:=HE.o;refine hK.o _ _ ?_ (λhH=> ?_)
    ·exact hr1
    clear hK K;try simp only[Act.put,L0,L4,L5]
    refine tkL 8 (v:= ?_) rfl ?_ (by assumption) ?_;rotate_left
    ·rintro w1-
     go_simp<;>with_reducible rfl
    try simp only[Act.put,L0,L4,L5]
    refine tkL 9 (v:= ?_) rfl ?_ (by assumption) ?_;rotate_left
    ·rintro w1-
     go_simp<;>with_reducible rfl
    try simp only[Act.put,L0,L4,L5]
    refine rd1 10 rfl λK hK=> ?_;go_simp;refine hK.o _ _ ?_ (λhH=> ?_)
    ·exact hr2
    clear hK K;try simp only[Act.put,L0,L4,L5]
    refine wpAnyH_done (by kernel_rfl) ?_ _;refine NoPanic.normal ?_;clear hr1 hr2 c0' f0';go_wp2;go_ret;exact hend
