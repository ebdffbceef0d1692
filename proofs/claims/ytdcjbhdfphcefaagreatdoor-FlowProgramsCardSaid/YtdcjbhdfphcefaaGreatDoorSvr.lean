/- The store of. -/
import Derived.Test.YtdcjbhdfphcefaaGreatDoorSv
import Derived.StillTailTactics
import Derived.Test.YtdcjbhdfphcefaaGreatDoorSvq
import Derived.Test.YtdcjbhdfphcefaaGreatDoorBb
namespace Go.Proofs.YtdcjbhdfphcefaaGreatDoor
set_option linter.all false
set_option maxRecDepth 100000
set_option maxHeartbeats 4000000
open Go.Proofs.Tryz
open Go.RowKit
theorem pZ:Tryz.zeroCells161=⟨.slice none 0 0::ziJ 1100⟩:=by kernel_rfl
theorem qeH(v:Value):(Tryz.zeroCells161.setIfInBounds 0 v)[0]? =some v:=by
 rw[pZ,Ah,Ip rfl,Ip (mD _ _)]
theorem iZ(v:Value)(i:Nat)(h:i<1100):(Tryz.zeroCells161.setIfInBounds 0 v)[i+1]? =some (.int .i64 0):=by
 rw[pZ,Ah,Iq (by omega)];exact mB _ _ _ _ (gQ h)
theorem uH:((prog.info? 169).bind λi=>i.zero.map λz=>(madeCells z.cells (1*i.size),decide (i.bytes<=1000)))=some (lvC,true):=by kernel_rfl
theorem yJ(w:World):(Instr.makeSlice 159 (.int .i64 1) (.int .i64 1)).run prog w=.ok (.slice (some ⟨w.heap.size,0,none⟩) 1 1) (w.alloc (.cells lvC 169)):=by
 have h:=uH;rcases hi:prog.info? 169 with _|i
 ·rw[hi]at h;cases h
 rw[hi]at h;rcases hz:i.zero with _|z
 ·simp only[Ob,hz,On]at h;cases h
 simp only[Ob,hz,Om,Oi,Pj,Du]at h;have hr:=run_make (P:=prog) w 159 169 i z underlying159 hi hz .i64 .i64 1 1 (by omega) (by omega) (by omega) (by omega);rw[<-h.1];exact hr
structure SxR(w:World)(b lb:Nat)(σ:Sto):Prop where
 ne:lb≠b
 pos:0<σ.lv.length
 few:σ.lv.length<=9
 ex:∃(cap:Nat) (cs ls:Array Value),w.heap[b]? =some (.cells cs 161 (0,0))/\w.heap[lb]? =some (.cells ls 169 (0,0))/\cs[0]? =some (.slice (some ⟨lb,0,none⟩) σ.lv.length cap)/\σ.lv.length<=cap/\cap<=maxLen/\ls.size=cap*33/\cs.size=1101/\
  (∀j i:Nat,j<σ.lv.length->i<33->ls[j*33+i]? =some (.int .i64 (σ.lv.getD j (λ_=>0) (1+i))))/\(∀i:Nat,i<100->cs[1+i]? =some (.int .i64 (σ.gl (100+i))))/\(∀i:Nat,i<1000->cs[101+i]? =some (.int .i64 (σ.gl (5000+i))))
theorem SxR.lt{w:World}{b lb:Nat}{σ:Sto}(h:SxR w b lb σ):b<w.heap.size/\lb<w.heap.size:=by
 obtain⟨_,_,_,cap,cs,ls,h1,h2,_⟩:=h;exact⟨(Ag.1 h1).1,(Ag.1 h2).1⟩
theorem SxR.keep{w w':World}{b lb:Nat}{σ:Sto}(h:SxR w b lb σ)(k1:w'.heap[b]? =w.heap[b]?)(k2:w'.heap[lb]? =w.heap[lb]?):SxR w' b lb σ:=by
 obtain⟨n,p,q,cap,cs,ls,h1,h2,h3⟩:=h;exact⟨n,p,q,cap,cs,ls,k1.trans h1,k2.trans h2,h3⟩
theorem SxR.below{w w':World}{b lb:Nat}{σ:Sto}(h:SxR w b lb σ)(hb:Bw w w'):SxR w' b lb σ:=h.keep (hb.block _ h.lt.1) (hb.block _ h.lt.2)
def Sr(w:World)(B b:Nat)(f:Int->Int):Prop:=∃(lb:Nat) (σ:Sto),SxR w b lb σ/\f=σ.f
theorem Sr.below{w w':World}{B b C:Nat}{f:Int->Int}(h:Sr w B b f)(hb:Below C w w')(hC:w.heap.size<=C):Sr w' B b f:=by
 obtain⟨lb,σ,hs,rfl⟩:=h;exact⟨lb,σ,hs.below (hb.mono hC),rfl⟩
theorem Sr.keep{w w':World}{B b:Nat}{f:Int->Int}(h:Sr w B b f)(hk:∀g:Nat,w'.heap[g]? =w.heap[g]?):Sr w' B b f:=by
 obtain⟨lb,σ,hs,rfl⟩:=h;exact⟨lb,σ,hs.keep (hk _) (hk _),rfl⟩
theorem eM(w:World):
 Calls prog 68 #[] w λe w'=>e=.returned (.pointer (some ⟨w.heap.size+1,0,none⟩))/\SxR w' (w.heap.size+1) w.heap.size ⟨[λ_=>0],λ_=>0⟩/\Bw w w':=by
 have r1:=yJ;go_enter func68,ntmps68;go_wp2;go_ret;refine⟨rfl,⟨by omega,by simp,by simp,1,_,lvC,?_,?_,qeH _,by simp,by unfold maxLen;omega,?_,?_,?_,?_,?_⟩,(nB _ _).alloc (by simp) _⟩
 ·have:=Hn (w.alloc (.cells lvC 169)) (.cells (Tryz.zeroCells161.setIfInBounds 0 (.slice (some ⟨w.heap.size,0,none⟩) 1 1)) 161);simpa using this
 ·exact(Bm _ _ _ (by simp)).trans (Hn w _)
 ·exact fK 33
 ·rw[Array.size_setIfInBounds,pZ,qaU,Lc,fK]
 ·intro j i hj hi;have:j=0:=by simpa using hj
  subst this;rw[show 0*33+i=i by omega];exact nJ i hi
 ·intro i hi;rw[Nat.add_comm];exact iZ _ i (by omega)
 ·intro i hi;rw[show 101+i=(i+100)+1 by omega];exact iZ _ (i+100) (by omega)
theorem jP(n:Int)(w:World):Calls prog 112 #[.int .i64 n] w λe w'=>e=.returned (.bool (decide (1<=n/\n<=33)))/\w=w':=by
 by_cases h1:1<=n<;>by_cases h2:n<=33;all_goals
  go_enter func112,ntmps112;go_wp2;go_ret;exact⟨congrArg (λq=>Ending.returned (.bool q)) (by simp;omega),rfl⟩
theorem iA(n:Int)(w:World):Calls prog 113 #[.int .i64 n] w λe w'=>e=.returned (.bool (decide (100<=n/\n<=199)))/\w=w':=by
 by_cases h1:100<=n<;>by_cases h2:n<=199;all_goals
  go_enter func113,ntmps113;go_wp2;go_ret;exact⟨congrArg (λq=>Ending.returned (.bool q)) (by simp;omega),rfl⟩
theorem gU(n:Int)(w:World):Calls prog 114 #[.int .i64 n] w λe w'=>e=.returned (.bool (decide (5000<=n/\n<=5999)))/\w=w':=by
 by_cases h1:5000<=n<;>by_cases h2:n<=5999;all_goals
  go_enter func114,ntmps114;go_wp2;go_ret;exact⟨congrArg (λq=>Ending.returned (.bool q)) (by simp;omega),rfl⟩
theorem dF{n lo hi:Int}(h:¬(lo<=n/\n<=hi)):decide (lo<=n/\n<=hi)=false:=Df h
theorem qfL(w:World)(b lb:Nat)(σ:Sto)(n:Int)(h:SxR w b lb σ):
 Calls prog 78 #[.pointer (some ⟨b,0,none⟩),.int .i64 n] w λe w'=>e=.returned (.tuple #[.int .i64 (zbG σ.f n).1,.int .i64 (zbG σ.f n).2])/\∃k,w'=w.drewN k:=by
 obtain⟨hne,hp,hq,cap,cs,ls,h1,h2,h0,hcap,hm,hls,hcs,k1,k2,k3⟩:=h;have e:zbG σ.f n=if isV n then(σ.f n,0)else(0,6):=rfl
 have HL:=Hd (λW=>jP n W);have HC:=Hd (λW=>iA n W);have HS:=Hd (λW=>gU n W);by_cases c1:1<=n/\n<=33
 ·rw[e,Ip (by simp[isV];omega)];rw[Dt c1]at HL;obtain⟨c1,c2⟩:=c1;have c0:w.cell? ⟨b,0,none⟩=some (.slice (some ⟨lb,0,none⟩) σ.lv.length cap):=(Ro w b 0 _ _ _ h1).trans h0;have hc:w.cell? ⟨lb,(σ.lv.length-1)*33+(n.toNat-1),none⟩=some (.int .i64 (σ.f n)):=(Ro w lb _ _ _ _ h2).trans (oG hp k1 c1 c2);generalize σ.f n=v at*
  generalize σ.lv.length=L at*
  clear k1 k2 k3 h1 h2 h0 e hls hcs;go_enter func78,ntmps78;go_wp2_with(go_at_call 112;refine(HL.o _).mono ?_;rintro e w' ⟨rfl,rfl⟩);go_quiet(fail);go_wp2;go_ret2;exact⟨rfl,_,rfl⟩
 by_cases c2:100<=n/\n<=199
 ·rw[e,Ip (by simp[isV];omega)];rw[dF c1]at HL;rw[Dt c2]at HC;obtain⟨c2,c3⟩:=c2;have hc:w.cell? ⟨b,1+(n-100).toNat,none⟩=some (.int .i64 (σ.f n)):=by
   have:=k2 (n-100).toNat (by omega);rw[show(100:Int)+((n-100).toNat:Int)=n by omega]at this;rw[Ro w b _ _ _ _ h1,this];unfold Sto.f;rw[Iq (by omega)]
  generalize σ.f n=v at*
  clear k1 k2 k3 h1 h2 h0 e c1;go_enter func78,ntmps78;go_wp2_with(first|(go_at_call 112;refine(HL.o _).mono ?_;rintro e w' ⟨rfl,rfl⟩)|(go_at_call 113;refine(HC.o _).mono ?_;rintro e w' ⟨rfl,rfl⟩));go_ret2;exact⟨rfl,0,rfl⟩
 by_cases c3:5000<=n/\n<=5999
 ·rw[e,Ip (by simp[isV];omega)];rw[dF c1]at HL;rw[dF c2]at HC;rw[Dt c3]at HS;obtain⟨c3,c4⟩:=c3;have hc:w.cell? ⟨b,101+(n-5000).toNat,none⟩=some (.int .i64 (σ.f n)):=by
   have:=k3 (n-5000).toNat (by omega);rw[show(5000:Int)+((n-5000).toNat:Int)=n by omega]at this;rw[Ro w b _ _ _ _ h1,this];unfold Sto.f;rw[Iq (by omega)]
  generalize σ.f n=v at*
  clear k1 k2 k3 h1 h2 h0 e c1 c2;go_enter func78,ntmps78;go_wp2_with(first|(go_at_call 112;refine(HL.o _).mono ?_;rintro e w' ⟨rfl,rfl⟩)|(go_at_call 113;refine(HC.o _).mono ?_;rintro e w' ⟨rfl,rfl⟩)|(go_at_call 114;refine(HS.o _).mono ?_;rintro e w' ⟨rfl,rfl⟩));go_ret2;exact⟨rfl,0,rfl⟩
 ·rw[e,Iq (by simp[isV];omega)];rw[dF c1]at HL;rw[dF c2]at HC;rw[dF c3]at HS;clear k1 k2 k3 h1 h2 h0 e c1 c2 c3;go_enter func78,ntmps78;go_wp2_with(first|(go_at_call 112;refine(HL.o _).mono ?_;rintro e w' ⟨rfl,rfl⟩)|(go_at_call 113;refine(HC.o _).mono ?_;rintro e w' ⟨rfl,rfl⟩)|(go_at_call 114;refine(HS.o _).mono ?_;rintro e w' ⟨rfl,rfl⟩));go_ret2;exact⟨rfl,0,rfl⟩
theorem pJ(w:World)(B b:Nat)(f:Int->Int)(n:Int)(h:Sr w B b f):
 Calls prog 78 #[.pointer (some ⟨b,0,none⟩),.int .i64 n] w λe w'=>e=.returned (.tuple #[.int .i64 (zbG f n).1,.int .i64 (zbG f n).2])/\∃k,w'=w.drewN k:=by
 obtain⟨lb,σ,hs,rfl⟩:=h;exact qfL w b lb σ n hs
theorem nM(w:World)(b lb:Nat)(σ:Sto)(h:SxR w b lb σ):
 Calls prog 76 #[.pointer (some ⟨b,0,none⟩)] w λe w'=>e=.returned (.int .i64 ((σ.lv.length:Int)-1))/\w=w':=by
 obtain⟨hne,hp,hq,cap,cs,ls,h1,h2,h0,hcap,hm,hls,hcs,k1,k2,k3⟩:=h;have c0:w.cell? ⟨b,0,none⟩=some (.slice (some ⟨lb,0,none⟩) σ.lv.length cap):=(Ro w b 0 _ _ _ h1).trans h0;generalize σ.lv.length=L at*
 clear h1 h2 h0 k1 k2 k3;go_enter func76,ntmps76;go_wp2;go_ret;exact⟨rfl,rfl⟩
theorem SxR.set_loc{w:World}{b lb:Nat}{σ:Sto}{n v:Int}(h:SxR w b lb σ)(h1:1<=n)(h2:n<=33):SxR (w.setCell ⟨lb,(σ.lv.length-1)*33+(n.toNat-1),none⟩ (.int .i64 v)) b lb ⟨σ.lv.set (σ.lv.length-1) (upd σ.top n v),σ.gl⟩:=by
 obtain⟨hne,hp,hq,cap,cs,ls,g1,g2,h0,hcap,hm,hls,hcs,k1,k2,k3⟩:=h;refine⟨hne,by simpa using hp,by simpa using hq,cap,cs,ls.setIfInBounds ((σ.lv.length-1)*33+(n.toNat-1)) (.int .i64 v),(Bj _ _ _ b (by show b≠lb;omega)).trans g1,aD g2,by simpa using h0,by simpa using hcap,hm,by simpa using hls,hcs,?_,k2,k3⟩;intro j i hj hi;have hj':j<σ.lv.length:=by simpa using hj
 rw[cB (k1 j i hj' hi)];have e:(σ.lv.set (σ.lv.length-1) (upd σ.top n v)).getD j (λ_=>0)=if σ.lv.length-1=j then upd σ.top n v else σ.lv.getD j (λ_=>0):=by
  rw[Gd,List.getElem?_set];by_cases c:σ.lv.length-1=j
  ·rw[Ip c,Ip c,Ip (by omega)];rfl
  ·rw[Iq c,Iq c,Gd]
 rw[e];by_cases c:σ.lv.length-1=j
 ·rw[Ip c];subst c;have:σ.lv.getD (σ.lv.length-1) (λ_=>0)=σ.top:=rfl;rw[this];exact congrArg some (gS (by omega))
 ·rw[Iq c,Iq (by omega)]
theorem SxR.set_com{w:World}{b lb:Nat}{σ:Sto}{n v:Int}(h:SxR w b lb σ)(h1:100<=n)(h2:n<=199):SxR (w.setCell ⟨b,1+(n-100).toNat,none⟩ (.int .i64 v)) b lb ⟨σ.lv,upd σ.gl n v⟩:=by
 obtain⟨hne,hp,hq,cap,cs,ls,g1,g2,h0,hcap,hm,hls,hcs,k1,k2,k3⟩:=h;refine⟨hne,hp,hq,cap,cs.setIfInBounds (1+(n-100).toNat) (.int .i64 v),ls,aD g1,(Bj _ _ _ lb (by show lb≠b;omega)).trans g2,by rw[cB h0,Iq (by omega)],hcap,hm,hls,by simpa using hcs,k1,?_,?_⟩
 ·intro i hi;exact(cB (k2 i hi)).trans (congrArg some (gS (by omega)))
 ·intro i hi;rw[cB (k3 i hi),Iq (by omega)];show _=some (Value.int .i64 (upd σ.gl n v _));unfold upd;rw[Iq (by omega)]
def zfI(b lb:Nat)(σ:Sto)(n v:Int)(w:World)(e:Ending)(w':World):Prop:=
 e=.returned (.int .i64 (zdL n v))/\SxR w' b lb (zeY σ n v)/\Chg (λg=>g=b\/g=lb) w w'/\w'.heap.size=w.heap.size
theorem zfI.no{b lb:Nat}{σ:Sto}{n v:Int}{w:World}{k:Nat}(h:SxR w b lb σ)(hs:zdL n v≠0):SxR (w.drewN k) b lb (zeY σ n v)/\Chg (λg=>g=b\/g=lb) w (w.drewN k)/\(w.drewN k).heap.size=w.heap.size:=by
 unfold zeY;rw[Iq hs];exact⟨h.keep rfl rfl,(Chg.refl _ _).drewN _,rfl⟩
theorem tM(w:World)(b lb:Nat)(σ:Sto)(n v:Int)(h:SxR w b lb σ):
 Calls prog 144 #[.pointer (some ⟨b,0,none⟩),.int .i64 n,.int .i64 v] w (zfI b lb σ n v w):=by
 have HSR:=Hd h;obtain⟨hne,hp,hq,cap,cs,ls,h1,h2,h0,hcap,hm,hls,hcs,k1,k2,k3⟩:=h;clear hls hcs;have HL:=Hd (λW=>jP n W);have HC:=Hd (λW=>iA n W);have HS:=Hd (λW=>gU n W);by_cases c3:5000<=n/\n<=5999
 ·have E:Hid (zdL n v=13):=by unfold Hid zdL;rw[Ip (by simp[isV];omega),Ip (by omega)]
  rw[Dt c3]at HS;clear k1 k2 k3 h1 h2 h0 c3;go_enter func144,ntmps144;go_wp2_with(first|(go_at_call 114;refine(HS.o _).mono ?_;rintro e w' ⟨rfl,rfl⟩)|(go_at_call 112;refine(HL.o _).mono ?_;rintro e w' ⟨rfl,rfl⟩)|(go_at_call 113;refine(HC.o _).mono ?_;rintro e w' ⟨rfl,rfl⟩)|(go_at_call 168;refine mo0 (aF _ _) ?_));go_ret;exact⟨aO E.o.symm,zfI.no (k:=0) HSR.o (by rw[E.o];omega)⟩
 rw[dF c3]at HS;by_cases hv:(1<=n/\n<=33)\/(100<=n/\n<=199)
 case neg=>
  have E:Hid (zdL n v=6):=by unfold Hid zdL;rw[Iq (by simp[isV];omega)]
  rw[dF (λk=>hv (.inl k))]at HL;rw[dF (λk=>hv (.inr k))]at HC;clear k1 k2 k3 h1 h2 h0 c3 hv;go_enter func144,ntmps144;go_wp2_with(first|(go_at_call 114;refine(HS.o _).mono ?_;rintro e w' ⟨rfl,rfl⟩)|(go_at_call 112;refine(HL.o _).mono ?_;rintro e w' ⟨rfl,rfl⟩)|(go_at_call 113;refine(HC.o _).mono ?_;rintro e w' ⟨rfl,rfl⟩)|(go_at_call 168;refine mo0 (aF _ _) ?_));go_ret;exact⟨aO E.o.symm,zfI.no (k:=0) HSR.o (by rw[E.o];omega)⟩
 have hi:isV n=true:=by simp[isV];omega
 by_cases hl:1<=n/\n<=33
 ·rw[Dt hl]at HL;obtain⟨c1,c2⟩:=hl;rcases hvl:vld v with _|_
  ·have E:Hid (zdL n v=3):=by unfold Hid zdL;rw[hi,Ip rfl,Iq (by omega),hvl];rfl
   clear k1 k2 k3 h1 h2 h0 c3 hv hi;go_enter func144,ntmps144;go_wp2_with(first|(go_at_call 114;refine(HS.o _).mono ?_;rintro e w' ⟨rfl,rfl⟩)|(go_at_call 112;refine(HL.o _).mono ?_;rintro e w' ⟨rfl,rfl⟩)|(go_at_call 113;refine(HC.o _).mono ?_;rintro e w' ⟨rfl,rfl⟩)|(go_at_call 168;refine mo0 (aF _ _) ?_));go_ret;exact⟨aO E.o.symm,zfI.no (k:=0) HSR.o (by rw[E.o];omega)⟩
  ·have E:Hid (zdL n v=0):=by unfold Hid zdL;rw[hi,Ip rfl,Iq (by omega),hvl];rfl
   have EX:Hid (zeY σ n v=⟨σ.lv.set (σ.lv.length-1) (upd σ.top n v),σ.gl⟩):=by unfold Hid zeY;rw[Ip E.o,Ip c2]
   have HST:Hid (∀W:World,W.heap=w.heap->SxR (W.setCell ⟨lb,(σ.lv.length-1)*33+(n.toNat-1),none⟩ (.int .i64 v)) b lb ⟨σ.lv.set (σ.lv.length-1) (upd σ.top n v),σ.gl⟩):=λW hW=>(HSR.o.keep (by rw[hW]) (by rw[hW])).set_loc c1 c2;have c0:w.cell? ⟨b,0,none⟩=some (.slice (some ⟨lb,0,none⟩) σ.lv.length cap):=(Ro w b 0 _ _ _ h1).trans h0;have hc:w.cell? ⟨lb,(σ.lv.length-1)*33+(n.toNat-1),none⟩=some (.int .i64 (σ.f n)):=(Ro w lb _ _ _ _ h2).trans (oG hp k1 c1 c2);have fr:w.frozen? ⟨lb,(σ.lv.length-1)*33+(n.toNat-1),none⟩=false:=by simp[World.frozen?,h2]
   generalize σ.f n=oldv at*
   obtain⟨L,hL⟩:∃L,L=σ.lv.length:=⟨_,rfl⟩;rw[<-hL]at c0 hc fr hp hq hcap HST EX;have HLL:=Hd hL;clear k1 k2 k3 h1 h2 h0 c3 hv hi hL;go_enter func144,ntmps144;go_wp2_with(first|(go_at_call 114;refine(HS.o _).mono ?_;rintro e w' ⟨rfl,rfl⟩)|(go_at_call 112;refine(HL.o _).mono ?_;rintro e w' ⟨rfl,rfl⟩)|(go_at_call 113;refine(HC.o _).mono ?_;rintro e w' ⟨rfl,rfl⟩)|(go_at_call 168;refine mo0 (aF _ _) ?_));go_region;go_wp2_with fail;go_ret;refine⟨aO E.o.symm,?_,(aH _ _ _ _ _ (.inr rfl)).drewN 1,by simp[World.setCell]⟩;rw[EX.o];exact(HST.o _ rfl).keep rfl rfl
 ·have hcm:100<=n/\n<=199:=by omega
  rw[dF hl]at HL;rw[Dt hcm]at HC;obtain⟨c1,c2⟩:=hcm;rcases hvl:vld v with _|_
  ·have E:Hid (zdL n v=3):=by unfold Hid zdL;rw[hi,Ip rfl,Iq (by omega),hvl];rfl
   clear k1 k2 k3 h1 h2 h0 c3 hv hi hl;go_enter func144,ntmps144;go_wp2_with(first|(go_at_call 114;refine(HS.o _).mono ?_;rintro e w' ⟨rfl,rfl⟩)|(go_at_call 112;refine(HL.o _).mono ?_;rintro e w' ⟨rfl,rfl⟩)|(go_at_call 113;refine(HC.o _).mono ?_;rintro e w' ⟨rfl,rfl⟩)|(go_at_call 168;refine mo0 (aF _ _) ?_));go_ret;exact⟨aO E.o.symm,zfI.no (k:=0) HSR.o (by rw[E.o];omega)⟩
  ·have E:Hid (zdL n v=0):=by unfold Hid zdL;rw[hi,Ip rfl,Iq (by omega),hvl];rfl
   have EX:Hid (zeY σ n v=⟨σ.lv,upd σ.gl n v⟩):=by unfold Hid zeY;rw[Ip E.o,Iq (by omega)]
   have hc:w.cell? ⟨b,1+(n-100).toNat,none⟩=some (.int .i64 (σ.gl n)):=by
    have:=k2 (n-100).toNat (by omega);rw[show(100:Int)+((n-100).toNat:Int)=n by omega]at this;exact(Ro w b _ _ _ _ h1).trans this
   have fr:w.frozen? ⟨b,1+(n-100).toNat,none⟩=false:=by simp[World.frozen?,h1]
   clear k1 k2 k3 h1 h2 h0 c3 hv hi hl;go_enter func144,ntmps144;go_wp2_with(first|(go_at_call 114;refine(HS.o _).mono ?_;rintro e w' ⟨rfl,rfl⟩)|(go_at_call 112;refine(HL.o _).mono ?_;rintro e w' ⟨rfl,rfl⟩)|(go_at_call 113;refine(HC.o _).mono ?_;rintro e w' ⟨rfl,rfl⟩)|(go_at_call 168;refine mo0 (aF _ _) ?_));go_ret;refine⟨aO E.o.symm,?_,aH _ _ _ _ _ (.inl rfl),by simp[World.setCell]⟩;rw[EX.o];exact HSR.o.set_com c1 c2
theorem zM{c:Int}(h1:65<=c)(h2:c<=90):c=65\/c=66\/c=67\/c=68\/c=69\/c=70\/c=71\/c=72\/c=73\/c=74\/c=75\/c=76\/c=77\/c=78\/c=79\/c=80\/c=81\/c=82\/c=83\/c=84\/c=85\/c=86\/c=87\/c=88\/c=89\/c=90:=by omega
theorem uI(c:Int)(w:World)(h1: -9223372036854775808<=c)(h2:c<=9223372036854775807):
 Calls prog 143 #[.int .i64 c] w λe w'=>e=.returned (.int .i64 (zbW c))/\Bw w w':=by
 by_cases hlo:c<65
 ·have e:zbW c=0:=by unfold zbW;rw[Iq (by omega)]
  rw[e];have ht:decide (c<65)=true:=Dt hlo;clear e;go_enter func143,ntmps143;go_wp2;go_ret;exact⟨rfl,Bf _ _⟩
 by_cases hhi:90<c
 ·have e:zbW c=0:=by unfold zbW;rw[Iq (by omega)]
  rw[e];have ht:decide (c<65)=false:=Df hlo;have ht2:decide (90<c)=true:=Dt hhi;clear e;go_enter func143,ntmps143;go_wp2;go_ret;exact⟨rfl,Bf _ _⟩
 rcases zM (c:=c) (by omega) (by omega)with rfl|rfl|rfl|rfl|rfl|rfl|rfl|rfl|rfl|rfl|rfl|rfl|rfl|rfl|rfl|rfl|rfl|rfl|rfl|rfl|rfl|rfl|rfl|rfl|rfl|rfl
 all_goals
  go_enter func143,ntmps143;go_wp2;go_ret;exact⟨rfl,(nB _ _)⟩
def ARel(w:World)(l:LI)(i:Value)(W:World):Prop:=∃k:Nat,k<=l.length/\i=.int .i64 (k:Int)/\Bw w W/\zcN [] l=zcN ((l.take k).map (·.1)).reverse (l.drop k)
def zoR(w:World)(l:LI)(k:Nat)(cc:Int)(j:Value)(W:World):Prop:=∃m:Nat,m<=k/\j=.int .i64 (m:Int)/\Bw w W/\cc∉(l.take m).map (·.1)
theorem qlJ(w:World)(I:Nat->Prop)(A:OA)(n c:Nat)(l:LI)(hv:RdV w I A n l):
 Calls prog 142 #[.slice A n c] w λe w'=>e=.returned (.int .i64 (zcN [] l))/\Bw w w':=by
 obtain⟨hn1,hn2,hvb,hvc⟩:=hv;have HVB:=Hd hvb;have HVC:=Hd hvc;have hnl:=hn2;unfold maxLen at hnl;clear hvb hvc;subst hn1;go_enter func142,ntmps142;go_wp2;go_loopw[3] (ARel w l) (λi _=>l.length-(intOf i).toNat)
 case atStart=>exact⟨0,by omega,rfl,Bf _ _,by simp⟩
 case round=>
  obtain⟨k,hk,rfl,hb,her⟩:=hrel;have HB:=Hd hb;have HER:=Hd her;clear hb her;by_cases hlt:k<l.length
  ·obtain⟨ab,off,rfl,_,hab,hc⟩:=HVC.o (by omega);obtain⟨⟨cc,nn⟩,hx⟩:∃x,l[k]? =some x:=⟨_,Gg hlt⟩;have HCE:Hid (∀W:World,Bw w W->∀(i:Nat) (x:Int×Int),l[i]? =some x->W.cell? ⟨ab,off+i*2,none⟩=some (.int .i64 x.1)/\W.cell? ⟨ab,off+i*2+1,none⟩=some (.int .i64 x.2)):=
    λW hW i x hx=>⟨(hW.cel ab (off+i*2) hab).trans (hc i x hx).1,(hW.cel ab (off+i*2+1) hab).trans (hc i x hx).2⟩
   obtain⟨d0,d1⟩:=HCE.o _ HB.o k _ hx;have hbx:=HVB.o _ (Mg hx);dsimp only at d0 d1 hbx;obtain⟨⟨bc1,bc2⟩,bn1,bn2⟩:=hbx;have HX:=Hd hx;have HLO:=Hd (λW=>uI cc W bc1 bc2);clear hc hx;have hdrop:l.drop k=(cc,nn)::l.drop (k+1):=by
    rw[List.drop_eq_getElem_cons hlt];have:=HX.o;rw[Gg hlt]at this;rw[Oj this]
   have htake:(l.take (k+1)).map (·.1)=(l.take k).map (·.1)++[cc]:=by
    rw[Ta,HX.o];simp
   have hcase:zcN [] l=if zbW cc=0 then 1 else if cc∈(l.take k).map (·.1)then 7 else if vld nn then zcN ((l.take (k+1)).map (·.1)).reverse (l.drop (k+1))else 3:=by
    rw[HER.o,hdrop,htake];simp only[zcN,List.mem_reverse,List.reverse_append,List.reverse_cons,List.reverse_nil,List.nil_append,List.cons_append]
   have HCS:=Hd hcase;clear hcase hdrop htake;by_cases h0:zbW cc=0
   ·have h0':(zbW cc==0)=true:=by simpa using h0
    have E1:Hid (zcN [] l=1):=by unfold Hid;rw[HCS.o,Ip h0]
    clear h0;go_wp2_with(go_at_call 143;refine(HLO.o _).mono ?_;rintro e w1 ⟨rfl,hb1⟩;have HB1:=Hd (HB.o.tm hb1);clear hb1);go_ret;rw[E1.o];exact⟨rfl,HB1.o⟩
   have h0':(zbW cc==0)=false:=by simpa using h0
   go_wp2_with(go_at_call 143;refine(HLO.o _).mono ?_;rintro e w1 ⟨rfl,hb1⟩;have HB1:=Hd (HB.o.tm hb1);clear hb1);clear d0 d1;go_loopw[4] (zoR w l k cc) (λj _=>k-(intOf j).toNat)
   case atStart=>exact⟨0,by omega,rfl,HB1.o,by simp⟩
   case round=>
    obtain⟨m,hm,rfl,hb2,hno⟩:=hrel;have HB2:=Hd hb2;clear hb2;obtain⟨d0,d1⟩:=HCE.o _ HB2.o k _ HX.o;dsimp only at d0 d1;by_cases hmk:m<k
    ·have hml:m<l.length:=by omega
     obtain⟨⟨c2,n2⟩,hx2⟩:∃x,l[m]? =some x:=⟨_,Gg hml⟩;obtain⟨e0,e1⟩:=HCE.o _ HB2.o m _ hx2;dsimp only at e0 e1;have HX2:=Hd hx2;have HNO:=Hd hno;clear hx2 hno e1;have hbx2:=HVB.o _ (Mg HX2.o);dsimp only at hbx2;by_cases heq:c2=cc
     ·have heq':(c2==cc)=true:=by simpa using heq
      have E1:Hid (zcN [] l=7):=by
       unfold Hid;rw[HCS.o,Iq h0,Ip];rw[<-heq];refine List.mem_map.2 ⟨(c2,n2),Mg (i:=m) ?_,rfl⟩;rw[Gt,Ip hmk,HX2.o]
      clear heq h0;go_wp2_with fail;go_quiet(fail);go_wp2;go_ret;rw[E1.o];exact⟨rfl,aA HB2.o _⟩
     ·have heq':(c2==cc)=false:=by simpa using heq
      have hno2:cc∉(l.take (m+1)).map (·.1):=by
       rw[Ta,HX2.o];simp only[Option.toList_some,List.map_append,List.map_cons,List.map_nil,Ma,Mt];rintro(h|h)
       ·exact HNO.o h
       ·exact heq h.symm
      have HNO2:=Hd hno2;clear heq hno2;go_wp2_with fail;go_quiet(fail);go_wp2;exact⟨⟨m+1,by omega,by go_num,aA HB2.o _,HNO2.o⟩,by simp only[intOf];omega⟩
    ·have hmk':m=k:=by omega
     subst hmk';rcases hv:vld nn with _|_
     ·have E1:Hid (zcN [] l=3):=by unfold Hid;rw[HCS.o,Iq h0,Iq hno,hv];rfl
      clear h0 hno;go_wp2_with(go_at_call 168;refine mo0 (aF _ _) ?_);go_ret;rw[E1.o];exact⟨rfl,HB2.o⟩
     ·have E1:Hid (zcN [] l=zcN ((l.take (m+1)).map (·.1)).reverse (l.drop (m+1))):=by unfold Hid;rw[HCS.o,Iq h0,Iq hno,hv];rfl
      clear h0 hno;go_wp2_with(go_at_call 168;refine mo0 (aF _ _) ?_);exact⟨⟨m+1,by omega,by go_num,HB2.o,E1.o⟩,by simp only[intOf];omega⟩
  ·have hke:k=l.length:=by omega
   subst hke;have E1:Hid (zcN [] l=0):=by
    unfold Hid;rw[HER.o,Dl];simp[zcN]
   go_wp2_with fail;go_ret;rw[E1.o];exact⟨rfl,HB.o⟩
