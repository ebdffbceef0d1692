/- Short forms. -/
import Derived.Test.YtdcjbhdfphcefaaGreatDoorSh
import Derived.Deep.RegionHeld3
import Derived.Deep.AppendLies
import Derived.Deep.LoopGhost
import Derived.Test.YtdcjbhdfphcefaaGreatDoorBa
import Derived.Deep.RegionLaw
import Derived.Deep.Light
namespace Go.Proofs.YtdcjbhdfphcefaaGreatDoor
set_option linter.all false
set_option maxHeartbeats 1000000
open Go.Proofs.Tryz
open Go.RowKit
abbrev Nk:= @World.news_of_block
abbrev Wr:= @wpAnyH_ready
abbrev Rc1:= @AllReadyH.cons
abbrev Rn1:= @AllReadyH.nil
theorem _root_.Go.Shut.o{p:Prop}(h:Shut p):p:=h
theorem _root_.Go.Aside.o{p:Prop}(h:Aside p):p:=h
section
variable {P:Program} {ops:Array Oper} {md:Region.Mode} {Q:Exit->Act->World->Prop} {S:World->Prop} {oi:Oper} {v:Value} {fuel:Nat} {listed:Array Bool} {a:Act} {w:World}
theorem tkH(i:Nat)(hi:ops[i]? =some oi)(hy:YieldsIf P ops S oi v a)(hS:S w)(h:wpAnyH P md ops Q S fuel (listed.setIfInBounds i true) (a.put oi.dst v) w)
 (hs:Region.noSelect ops=true:=by kernel_rfl) (hf:Region.free md ops listed i=true:=by kernel_rfl) (hr:(Region.ready md ops listed).contains i=true:=by kernel_rfl) (hQ:∀c a w,Q (.panic c) (a.put oi.dst v) w->Q (.panic c) a w:=by first|exact λ_ _ _ h=>nomatch h.1|exact λ_ _ _ h=>h):wpAnyH P md ops Q S (fuel+1) listed a w:=
 wpAnyH_take hi hs hf hr hQ hy hS h
theorem tkL(i:Nat)(hi:ops[i]? =some oi)(hy:∀w,S w->(execOp a.eval oi).run P w=.ok (.value v) w)(hS:S w)(h:wpAnyH P md ops Q S fuel (listed.setIfInBounds i true) (a.put oi.dst v) w)
 (hw:Region.wanted oi (yielded ops a.tmps)=true:=by rfl) (hs:Region.noSelect ops=true:=by kernel_rfl) (hf:Region.free md ops listed i=true:=by kernel_rfl) (hr:(Region.ready md ops listed).contains i=true:=by kernel_rfl) (hQ:∀c a w,Q (.panic c) (a.put oi.dst v) w->Q (.panic c) a w:=by first|exact λ_ _ _ h=>nomatch h.1|exact λ_ _ _ h=>h):wpAnyH P md ops Q S (fuel+1) listed a w:=
 wpAnyH_take hi hs hf hr hQ (Or.inl ⟨hw,hy⟩) hS h
theorem tkA(i:Nat)(h:wpAnyH P md ops Q S fuel (listed.setIfInBounds i true) (a.put oi.dst v) w)(hi:ops[i]? =some oi:=by rfl)(hy:∀w,S w->(execOp a.eval oi).run P w=.ok (.value v) w:=by intro w1 hS;repeat (rcases hS with⟨_,hS⟩);go_simp<;>with_reducible rfl)(hS:S w:=by assumption)
 (hw:Region.wanted oi (yielded ops a.tmps)=true:=by rfl) (hs:Region.noSelect ops=true:=by kernel_rfl) (hf:Region.free md ops listed i=true:=by kernel_rfl) (hr:(Region.ready md ops listed).contains i=true:=by kernel_rfl) (hQ:∀c a w,Q (.panic c) (a.put oi.dst v) w->Q (.panic c) a w:=by first|exact λ_ _ _ h=>nomatch h.1|exact λ_ _ _ h=>h):wpAnyH P md ops Q S (fuel+1) listed a w:=
 wpAnyH_take hi hs hf hr hQ (Or.inl ⟨hw,hy⟩) hS h
theorem rd1(i:Nat){o:Oper}(ho:ops[i]? =some o)(h:∀K':Act->World->Prop,Shut (∀a w,S w->(S w->wpAnyH P md ops Q S fuel (listed.setIfInBounds i true) a w)->K' a w)->if Region.wanted o (yielded ops a.tmps)=true then Oper.wp P o a w K' Q else K' (a.put o.dst undef) w)
 (hr:Region.ready md ops listed=[i]:=by kernel_rfl):wpAnyH P md ops Q S (fuel+1) listed a w:=Wr hr (by simp) (Rc1 ho h Rn1)
theorem rd2(i j:Nat){o o2:Oper}(ho:ops[i]? =some o)(ho2:ops[j]? =some o2)(h:∀K':Act->World->Prop,Shut (∀a w,S w->(S w->wpAnyH P md ops Q S fuel (listed.setIfInBounds i true) a w)->K' a w)->if Region.wanted o (yielded ops a.tmps)=true then Oper.wp P o a w K' Q else K' (a.put o.dst undef) w)
 (h2:∀K':Act->World->Prop,Shut (∀a w,S w->(S w->wpAnyH P md ops Q S fuel (listed.setIfInBounds j true) a w)->K' a w)->if Region.wanted o2 (yielded ops a.tmps)=true then Oper.wp P o2 a w K' Q else K' (a.put o2.dst undef) w)
 (hr:Region.ready md ops listed=[i,j]:=by kernel_rfl):wpAnyH P md ops Q S (fuel+1) listed a w:=Wr hr (by simp) (Rc1 ho h (Rc1 ho2 h2 Rn1))
end
def ziJ(n:Nat):LV:=List.replicate n (.int .i64 0)
theorem fK(n:Nat):(ziJ n).length=n:=List.length_replicate
theorem qaU(l:LV):(⟨l⟩:Array Value).size=l.length:=rfl
theorem gQ{n i:Nat}(h:i<n):(ziJ n)[i]? =some (.int .i64 0):=List.getElem?_replicate_of_lt h
theorem sR:Tryz.zeroCells110=⟨.slice none 0 0::ziJ 1100⟩:=by kernel_rfl
def lvC:Array Value:=⟨ziJ 33⟩
theorem mD(v:Value)(l:LV):0<(⟨v::l⟩:Array Value).size:=Nat.succ_pos _
theorem rE(l:LV)(i:Nat)(x:Value)(h:l[i]? =some x):(⟨l⟩:Array Value)[i]? =some x:=by rw[<-h];exact List.getElem?_toArray
theorem mB(v:Value)(l:LV)(i:Nat)(x:Value)(h:l[i]? =some x):(⟨v::l⟩:Array Value)[i+1]? =some x:=rE _ _ _ h
theorem qmM(v:Value):(Tryz.zeroCells110.setIfInBounds 0 v)[0]? =some v:=by
 rw[sR,Ah,Ip rfl,Ip (mD _ _)]
theorem lF(v:Value)(i:Nat)(h:i<1100):(Tryz.zeroCells110.setIfInBounds 0 v)[i+1]? =some (.int .i64 0):=by
 rw[sR,Ah,Iq (by omega)];exact mB _ _ _ _ (gQ h)
theorem nJ(i:Nat)(h:i<33):lvC[i]? =some (.int .i64 0):=rE _ _ _ (gQ h)
theorem zJ:((prog.info? 137).bind λi=>i.zero.map λz=>(madeCells z.cells (1*i.size),decide (i.bytes<=1000)))=some (lvC,true):=by kernel_rfl
theorem qeP(w:World):(Instr.makeSlice 106 (.int .i64 1) (.int .i64 1)).run prog w=.ok (.slice (some ⟨w.heap.size,0,none⟩) 1 1) (w.alloc (.cells lvC 137)):=by
 have h:=zJ;rcases hi:prog.info? 137 with _|i
 ·rw[hi]at h;cases h
 rw[hi]at h;rcases hz:i.zero with _|z
 ·simp only[Ob,hz,On]at h;cases h
 simp only[Ob,hz,Om,Oi,Pj,Du]at h;have hr:=run_make (P:=prog) w 106 137 i z underlying106 hi hz .i64 .i64 1 1 (by omega) (by omega) (by omega) (by omega);rw[<-h.1];exact hr
structure Sto where
 lv:List (Int->Int)
 gl:Int->Int
def Sto.top(σ:Sto):Int->Int:=σ.lv.getD (σ.lv.length-1) (λ_=>0)
def Sto.f(σ:Sto)(n:Int):Int:=if n<=33 then σ.top n else σ.gl n
structure Sx(w:World)(b lb:Nat)(σ:Sto):Prop where
 ne:lb≠b
 pos:0<σ.lv.length
 few:σ.lv.length<=9
 ex:∃(cap:Nat) (cs ls:Array Value),w.heap[b]? =some (.cells cs 110 (0,0))/\w.heap[lb]? =some (.cells ls 137 (0,0))/\cs[0]? =some (.slice (some ⟨lb,0,none⟩) σ.lv.length cap)/\σ.lv.length<=cap/\cap<=maxLen/\ls.size=cap*33/\cs.size=1101/\
  (∀j i:Nat,j<σ.lv.length->i<33->ls[j*33+i]? =some (.int .i64 (σ.lv.getD j (λ_=>0) (1+i))))/\(∀i:Nat,i<100->cs[1+i]? =some (.int .i64 (σ.gl (100+i))))/\(∀i:Nat,i<1000->cs[101+i]? =some (.int .i64 (σ.gl (5000+i))))
theorem Sx.lt{w:World}{b lb:Nat}{σ:Sto}(h:Sx w b lb σ):b<w.heap.size/\lb<w.heap.size:=by
 obtain⟨_,_,_,cap,cs,ls,h1,h2,_⟩:=h;exact⟨(Ag.1 h1).1,(Ag.1 h2).1⟩
theorem Sx.keep{w w':World}{b lb:Nat}{σ:Sto}(h:Sx w b lb σ)(k1:w'.heap[b]? =w.heap[b]?)(k2:w'.heap[lb]? =w.heap[lb]?):Sx w' b lb σ:=by
 obtain⟨n,p,q,cap,cs,ls,h1,h2,h3⟩:=h;exact⟨n,p,q,cap,cs,ls,k1.trans h1,k2.trans h2,h3⟩
theorem Sx.below{w w':World}{b lb:Nat}{σ:Sto}(h:Sx w b lb σ)(hb:Bw w w'):Sx w' b lb σ:=h.keep (hb.block _ h.lt.1) (hb.block _ h.lt.2)
def St(w:World)(B b:Nat)(f:Int->Int):Prop:=∃(lb:Nat) (σ:Sto),Sx w b lb σ/\f=σ.f
def Vf(f:Int->Int):Prop:=∀n,-1000000000000000<=f n/\f n<=1000000000000000
theorem St.below{w w':World}{B b C:Nat}{f:Int->Int}(h:St w B b f)(hb:Below C w w')(hC:w.heap.size<=C):St w' B b f:=by
 obtain⟨lb,σ,hs,rfl⟩:=h;exact⟨lb,σ,hs.below (hb.mono hC),rfl⟩
theorem St.keep{w w':World}{B b:Nat}{f:Int->Int}(h:St w B b f)(hk:∀g:Nat,w'.heap[g]? =w.heap[g]?):St w' B b f:=by
 obtain⟨lb,σ,hs,rfl⟩:=h;exact⟨lb,σ,hs.keep (hk _) (hk _),rfl⟩
theorem eD(w:World):
 Calls prog 34 #[] w λe w'=>e=.returned (.pointer (some ⟨w.heap.size+1,0,none⟩))/\Sx w' (w.heap.size+1) w.heap.size ⟨[λ_=>0],λ_=>0⟩/\Bw w w':=by
 have r1:=qeP;go_enter func34,ntmps34;go_wp2;go_ret;refine⟨rfl,⟨by omega,by simp,by simp,1,_,lvC,?_,?_,qmM _,by simp,by unfold maxLen;omega,?_,?_,?_,?_,?_⟩,(nB _ _).alloc (by simp) _⟩
 ·have:=Hn (w.alloc (.cells lvC 137)) (.cells (Tryz.zeroCells110.setIfInBounds 0 (.slice (some ⟨w.heap.size,0,none⟩) 1 1)) 110);simpa using this
 ·exact(Bm _ _ _ (by simp)).trans (Hn w _)
 ·exact fK 33
 ·rw[Array.size_setIfInBounds,sR,qaU,Lc,fK]
 ·intro j i hj hi;have:j=0:=by simpa using hj
  subst this;rw[show 0*33+i=i by omega];exact nJ i hi
 ·intro i hi;rw[Nat.add_comm];exact lF _ i (by omega)
 ·intro i hi;rw[show 101+i=(i+100)+1 by omega];exact lF _ (i+100) (by omega)
def isV(n:Int):Bool:=decide (1<=n/\n<=33)||decide (100<=n/\n<=199)||decide (5000<=n/\n<=5999)
theorem jY(w:World)(b lb L cap:Nat)(cs:Array Value)(n:Int)(h1:w.heap[b]? =some (.cells cs 110 (0,0)))(h0:cs[0]? =some (.slice (some ⟨lb,0,none⟩) L cap))(hL:0<L)(hL9:L<=9)(hn1:1<=n)(hn2:n<=33):
 Calls prog 111 #[.pointer (some ⟨b,0,none⟩),.int .i64 n] w λe w'=>e=.returned (.tuple #[.pointer (some ⟨lb,(L-1)*33+(n.toNat-1),none⟩),.bool false])/\∃k,w'=w.drewN k:=by
 have c0:w.cell? ⟨b,0,none⟩=some (.slice (some ⟨lb,0,none⟩) L cap):=(Ro w b 0 _ _ _ h1).trans h0;have H1:=Hd h1;clear h1;have H0:=Hd h0;clear h0;go_enter func111,ntmps111;go_wp2;go_quiet(fail);go_wp2;go_ret2;exact⟨rfl,_,rfl⟩
theorem iD(w:World)(b:Nat)(cs:Array Value)(n:Int)(hn1:100<=n)(hn2:n<=199):
 Calls prog 111 #[.pointer (some ⟨b,0,none⟩),.int .i64 n] w λe w'=>e=.returned (.tuple #[.pointer (some ⟨b,1+(n-100).toNat,none⟩),.bool false])/\∃k,w'=w.drewN k:=by
 go_enter func111,ntmps111;go_wp2;go_ret2;exact⟨rfl,0,rfl⟩
theorem lY(w:World)(b:Nat)(cs:Array Value)(n:Int)(hn1:5000<=n)(hn2:n<=5999):
 Calls prog 111 #[.pointer (some ⟨b,0,none⟩),.int .i64 n] w λe w'=>e=.returned (.tuple #[.pointer (some ⟨b,101+(n-5000).toNat,none⟩),.bool true])/\∃k,w'=w.drewN k:=by
 go_enter func111,ntmps111;go_wp2;go_ret2;exact⟨rfl,0,rfl⟩
theorem qfG{n:Int}(h:isV n=false):n<1\/(33<n/\n<100)\/(199<n/\n<5000)\/5999<n:=by
 simp only[isV,Bool.or_eq_false_iff,decide_eq_false_iff_not]at h;omega
theorem pU(w:World)(b:Nat)(n:Int)(h:isV n=false):
 Calls prog 111 #[.pointer (some ⟨b,0,none⟩),.int .i64 n] w λe w'=>e=.returned (.tuple #[.pointer none,.bool false])/\w=w':=by
 have k:=qfG h;clear h;rcases k with k|⟨k,k'⟩|⟨k,k'⟩|k
 all_goals
  go_enter func111,ntmps111;go_wp2;go_ret2;exact⟨rfl,rfl⟩
theorem qqH{n:Int}(h:isV n=true):(1<=n/\n<=33)\/(100<=n/\n<=199)\/(5000<=n/\n<=5999):=by
 simp only[isV,Bool.or_eq_true,Du]at h;omega
def zbG(f:Int->Int)(n:Int):Int×Int:=if isV n then(f n,0)else(0,6)
theorem oG{σ:Sto}{ls:Array Value}{n:Int}(hp:0<σ.lv.length)(k1:∀j i:Nat,j<σ.lv.length->i<33->ls[j*33+i]? =some (.int .i64 (σ.lv.getD j (λ_=>0) (1+i))))(h1:1<=n)(h2:n<=33):ls[(σ.lv.length-1)*33+(n.toNat-1)]? =some (.int .i64 (σ.f n)):=by
 rw[k1 (σ.lv.length-1) (n.toNat-1) (by omega) (by omega)];unfold Sto.f Sto.top;rw[Ip h2,show(1:Int)+((n.toNat-1:Nat):Int)=n by omega]
theorem qqW(w:World)(b lb:Nat)(σ:Sto)(n:Int)(h:Sx w b lb σ):
 Calls prog 77 #[.pointer (some ⟨b,0,none⟩),.int .i64 n] w λe w'=>e=.returned (.tuple #[.int .i64 (zbG σ.f n).1,.int .i64 (zbG σ.f n).2])/\∃k,w'=w.drewN k:=by
 obtain⟨hne,hp,hq,cap,cs,ls,h1,h2,h0,hcap,hm,hls,hcs,k1,k2,k3⟩:=h;rcases hv:isV n with _|_
 ·have e:zbG σ.f n=(0,6):=by unfold zbG;rw[hv];rfl
  rw[e];have HV:=Hd hv;clear hv;clear e k1 k2 k3;go_enter func77,ntmps77;go_wp2_with(go_at_call 111;refine mo0 (pU _ _ _ HV.o) ?_);go_ret2;exact⟨rfl,0,rfl⟩
 ·have e:zbG σ.f n=(σ.f n,0):=by unfold zbG;rw[hv];rfl
  rw[e];clear e;rcases qqH hv with⟨c1,c2⟩|⟨c1,c2⟩|⟨c1,c2⟩
  ·have hc:w.cell? ⟨lb,(σ.lv.length-1)*33+(n.toNat-1),none⟩=some (.int .i64 (σ.f n)):=(Ro w lb _ _ _ _ h2).trans (oG hp k1 c1 c2);have HC:=Hd (jY w b lb _ cap cs n h1 h0 hp hq c1 c2);generalize σ.f n=v at*
   clear hv k1 k2 k3 h1 h2 h0 hls hcs;go_enter func77,ntmps77;go_wp2_with(go_at_call 111;refine HC.o.mono ?_;rintro e w' ⟨rfl,k,rfl⟩);go_ret2;exact⟨rfl,_,rfl⟩
  ·have hc:w.cell? ⟨b,1+(n-100).toNat,none⟩=some (.int .i64 (σ.f n)):=by
    have:=k2 (n-100).toNat (by omega);rw[show(100:Int)+((n-100).toNat:Int)=n by omega]at this;rw[Ro w b _ _ _ _ h1,this];unfold Sto.f;rw[Iq (by omega)]
   generalize σ.f n=v at*
   clear hv k1 k2 k3 h1 h2 h0 hls hcs;go_enter func77,ntmps77;go_wp2_with(go_at_call 111;refine(iD _ b cs n (by omega) (by omega)).mono ?_;rintro e w' ⟨rfl,k,rfl⟩);go_ret2;exact⟨rfl,_,rfl⟩
  ·have hc:w.cell? ⟨b,101+(n-5000).toNat,none⟩=some (.int .i64 (σ.f n)):=by
    have:=k3 (n-5000).toNat (by omega);rw[show(5000:Int)+((n-5000).toNat:Int)=n by omega]at this;rw[Ro w b _ _ _ _ h1,this];unfold Sto.f;rw[Iq (by omega)]
   generalize σ.f n=v at*
   clear hv k1 k2 k3 h1 h2 h0 hls hcs;go_enter func77,ntmps77;go_wp2_with(go_at_call 111;refine(lY _ b cs n (by omega) (by omega)).mono ?_;rintro e w' ⟨rfl,k,rfl⟩);go_ret2;exact⟨rfl,_,rfl⟩
theorem sK(w:World)(B b:Nat)(f:Int->Int)(n:Int)(h:St w B b f):
 Calls prog 77 #[.pointer (some ⟨b,0,none⟩),.int .i64 n] w λe w'=>e=.returned (.tuple #[.int .i64 (zbG f n).1,.int .i64 (zbG f n).2])/\∃k,w'=w.drewN k:=by
 obtain⟨lb,σ,hs,rfl⟩:=h;exact qqW w b lb σ n hs
theorem jQ(w:World)(b lb:Nat)(σ:Sto)(h:Sx w b lb σ):
 Calls prog 75 #[.pointer (some ⟨b,0,none⟩)] w λe w'=>e=.returned (.int .i64 ((σ.lv.length:Int)-1))/\w=w':=by
 obtain⟨hne,hp,hq,cap,cs,ls,h1,h2,h0,hcap,hm,hls,hcs,k1,k2,k3⟩:=h;have c0:w.cell? ⟨b,0,none⟩=some (.slice (some ⟨lb,0,none⟩) σ.lv.length cap):=(Ro w b 0 _ _ _ h1).trans h0;generalize σ.lv.length=L at*
 clear h1 h2 h0 k1 k2 k3;go_enter func75,ntmps75;go_wp2;go_ret;exact⟨rfl,rfl⟩
structure Chg(O:Nat->Prop)(w w':World):Prop where
 os:w'.os=w.os
 tape:w'.tape=w.tape
 output:w'.output=w.output
 size:w.heap.size<=w'.heap.size
 block:∀g,g<w.heap.size->¬O g->w'.heap[g]? =w.heap[g]?
theorem Chg.refl(O:Nat->Prop)(w:World):Chg O w w:=⟨rfl,rfl,rfl,Le _,λ_ _ _=>rfl⟩
theorem Chg.trans{O:Nat->Prop}{w w1 w2:World}(h:Chg O w w1)(k:Chg O w1 w2):Chg O w w2:=⟨k.os.trans h.os,k.tape.trans h.tape,k.output.trans h.output,Ly h.size k.size,λg hg ho=>(k.block g (Lt hg h.size) ho).trans (h.block g hg ho)⟩
theorem Chg.mono{O O':Nat->Prop}{w w':World}(h:Chg O w w')(hO:∀g,g<w.heap.size->O g->O' g):Chg O' w w':=⟨h.os,h.tape,h.output,h.size,λg hg ho=>h.block g hg λk=>ho (hO g hg k)⟩
theorem Chg.of_below{O:Nat->Prop}{w w':World}(h:Bw w w'):Chg O w w':=⟨h.os,h.tape,h.output,h.size,λg hg _=>h.block g hg⟩
theorem Chg.drewN{O:Nat->Prop}{w w':World}(h:Chg O w w')(n:Nat):Chg O w (w'.drewN n):=⟨h.os,h.tape,h.output,h.size,h.block⟩
def upd(f:Int->Int)(n v:Int):Int->Int:=λm=>if m=n then v else f m
def zdL(n v:Int):Int:=if isV n then(if 5000<=n then 13 else if vld v then 0 else 3)else 6
def zeY(σ:Sto)(n v:Int):Sto:=if zdL n v=0 then(if n<=33 then⟨σ.lv.set (σ.lv.length-1) (upd σ.top n v),σ.gl⟩else⟨σ.lv,upd σ.gl n v⟩)else σ
theorem aD{w:World}{g i:Nat}{t:TypeId}{cs:Array Value}{u:Value}(h:w.heap[g]? =some (.cells cs t (0,0))):(w.setCell ⟨g,i,none⟩ u).heap[g]? =some (.cells (cs.setIfInBounds i u) t (0,0)):=by
 simp[World.setCell,Array.getElem?_modify,h]
theorem cB{cs:Array Value}{i j:Nat}{u x:Value}(h:cs[j]? =some x):(cs.setIfInBounds i u)[j]? =some (if i=j then u else x):=by
 have hj:j<cs.size:=(Ag.1 h).1;rw[Ah];by_cases e:i=j
 ·rw[Ip e,Ip (by omega),Ip e]
 ·rw[Iq e,h,Iq e]
theorem gS{f:Int->Int}{n v m:Int}{i j:Nat}(h:i=j↔m=n):(if i=j then Value.int .i64 v else Value.int .i64 (f m))=Value.int .i64 (upd f n v m):=by
 unfold upd;by_cases e:m=n
 ·rw[Ip e,Ip (h.2 e)]
 ·rw[Iq e,Iq (λk=>e (h.1 k))]
theorem Sx.set_loc{w:World}{b lb:Nat}{σ:Sto}{n v:Int}(h:Sx w b lb σ)(h1:1<=n)(h2:n<=33):Sx (w.setCell ⟨lb,(σ.lv.length-1)*33+(n.toNat-1),none⟩ (.int .i64 v)) b lb ⟨σ.lv.set (σ.lv.length-1) (upd σ.top n v),σ.gl⟩:=by
 obtain⟨hne,hp,hq,cap,cs,ls,g1,g2,h0,hcap,hm,hls,hcs,k1,k2,k3⟩:=h;refine⟨hne,by simpa using hp,by simpa using hq,cap,cs,ls.setIfInBounds ((σ.lv.length-1)*33+(n.toNat-1)) (.int .i64 v),(Bj _ _ _ b (by show b≠lb;omega)).trans g1,aD g2,by simpa using h0,by simpa using hcap,hm,by simpa using hls,hcs,?_,k2,k3⟩;intro j i hj hi;have hj':j<σ.lv.length:=by simpa using hj
 rw[cB (k1 j i hj' hi)];have e:(σ.lv.set (σ.lv.length-1) (upd σ.top n v)).getD j (λ_=>0)=if σ.lv.length-1=j then upd σ.top n v else σ.lv.getD j (λ_=>0):=by
  rw[Gd,List.getElem?_set];by_cases c:σ.lv.length-1=j
  ·rw[Ip c,Ip c,Ip (by omega)];rfl
  ·rw[Iq c,Iq c,Gd]
 rw[e];by_cases c:σ.lv.length-1=j
 ·rw[Ip c];subst c;have:σ.lv.getD (σ.lv.length-1) (λ_=>0)=σ.top:=rfl;rw[this];exact congrArg some (gS (by omega))
 ·rw[Iq c,Iq (by omega)]
theorem Sx.set_com{w:World}{b lb:Nat}{σ:Sto}{n v:Int}(h:Sx w b lb σ)(h1:100<=n)(h2:n<=199):Sx (w.setCell ⟨b,1+(n-100).toNat,none⟩ (.int .i64 v)) b lb ⟨σ.lv,upd σ.gl n v⟩:=by
 obtain⟨hne,hp,hq,cap,cs,ls,g1,g2,h0,hcap,hm,hls,hcs,k1,k2,k3⟩:=h;refine⟨hne,hp,hq,cap,cs.setIfInBounds (1+(n-100).toNat) (.int .i64 v),ls,aD g1,(Bj _ _ _ lb (by show lb≠b;omega)).trans g2,by rw[cB h0,Iq (by omega)],hcap,hm,hls,by simpa using hcs,k1,?_,?_⟩
 ·intro i hi;exact(cB (k2 i hi)).trans (congrArg some (gS (by omega)))
 ·intro i hi;rw[cB (k3 i hi),Iq (by omega)];show _=some (Value.int .i64 (upd σ.gl n v _));unfold upd;rw[Iq (by omega)]
def zgE(b lb:Nat)(σ:Sto)(n v:Int)(w:World)(e:Ending)(w':World):Prop:=
 e=.returned (.int .i64 (zdL n v))/\Sx w' b lb (zeY σ n v)/\Chg (λg=>g=b\/g=lb) w w'/\w'.heap.size=w.heap.size
theorem zgE.no{b lb:Nat}{σ:Sto}{n v:Int}{w:World}{k:Nat}(h:Sx w b lb σ)(hs:zdL n v≠0):Sx (w.drewN k) b lb (zeY σ n v)/\Chg (λg=>g=b\/g=lb) w (w.drewN k)/\(w.drewN k).heap.size=w.heap.size:=by
 unfold zeY;rw[Iq hs];exact⟨h.keep rfl rfl,(Chg.refl _ _).drewN _,rfl⟩
theorem aH(w:World)(g i:Nat)(v:Value)(O:Nat->Prop)(h:O g):Chg O w (w.setCell ⟨g,i,none⟩ v):=⟨rfl,rfl,rfl,by simp[World.setCell],λj _ hj=>Bj _ _ _ j (by rintro rfl;exact hj h)⟩
theorem oO(w:World)(b lb:Nat)(σ:Sto)(n v:Int)(h:Sx w b lb σ):
 Calls prog 89 #[.pointer (some ⟨b,0,none⟩),.int .i64 n,.int .i64 v] w (zgE b lb σ n v w):=by
 have HS:=Hd h;obtain⟨hne,hp,hq,cap,cs,ls,h1,h2,h0,hcap,hm,hls,hcs,k1,k2,k3⟩:=h;have f1:∀i,w.frozen? ⟨lb,i,none⟩=false:=λi=>by simp[World.frozen?,h2]
 have f2:∀i,w.frozen? ⟨b,i,none⟩=false:=λi=>by simp[World.frozen?,h1]
 rcases hv:isV n with _|_
 ·have e:zdL n v=6:=by unfold zdL;rw[hv];rfl
  have E:=Hd e;have HV:=Hd hv;clear hv e k1 k2 k3 f1 f2 h1 h2 h0;go_enter func89,ntmps89;go_wp2_with(go_at_call 111;refine mo0 (pU _ _ _ HV.o) ?_);go_ret;exact⟨aO E.o.symm,zgE.no (k:=0) HS.o (by rw[E.o];omega)⟩
 rcases qqH hv with⟨c1,c2⟩|⟨c1,c2⟩|⟨c1,c2⟩
 ·have HC:=Hd (jY w b lb _ cap cs n h1 h0 hp hq c1 c2);have hc:w.cell? ⟨lb,(σ.lv.length-1)*33+(n.toNat-1),none⟩=some (.int .i64 (σ.f n)):=(Ro w lb _ _ _ _ h2).trans (oG hp k1 c1 c2);have fr:=f1 ((σ.lv.length-1)*33+(n.toNat-1));rcases hvl:vld v with _|_
  ·have e:zdL n v=3:=by unfold zdL;rw[hv,Ip rfl,Iq (by omega),hvl];rfl
   have E:=Hd e;clear hv e k1 k2 k3 f1 f2 h1 h2 h0 hc fr;go_enter func89,ntmps89;go_wp2_with(first|(go_at_call 111;refine HC.o.mono ?_;rintro e w' ⟨rfl,k,rfl⟩)|(go_at_call 87;refine mo0 (aK _ _) ?_));go_ret;exact⟨aO E.o.symm,zgE.no HS.o (by rw[E.o];omega)⟩
  ·have e:zdL n v=0:=by unfold zdL;rw[hv,Ip rfl,Iq (by omega),hvl];rfl
   have E:=Hd e;have EX:Hid (zeY σ n v=⟨σ.lv.set (σ.lv.length-1) (upd σ.top n v),σ.gl⟩):=by unfold Hid zeY;rw[Ip e,Ip c2]
   clear hv e k1 k2 k3 f1 f2 h1 h2 h0;go_enter func89,ntmps89;go_wp2_with(first|(go_at_call 111;refine HC.o.mono ?_;rintro e w' ⟨rfl,k,rfl⟩)|(go_at_call 87;refine mo0 (aK _ _) ?_));go_ret;refine⟨aO E.o.symm,?_,((Chg.refl _ _).drewN _).trans (aH _ _ _ _ _ (.inr rfl)),by simp[World.setCell]⟩;rw[EX.o];exact(HS.o.keep (w':=w.drewN _) rfl rfl).set_loc c1 c2
 ·have hc:w.cell? ⟨b,1+(n-100).toNat,none⟩=some (.int .i64 (σ.gl n)):=by
   have:=k2 (n-100).toNat (by omega);rw[show(100:Int)+((n-100).toNat:Int)=n by omega]at this;rw[Ro w b _ _ _ _ h1,this]
  have fr:=f2 (1+(n-100).toNat);rcases hvl:vld v with _|_
  ·have e:zdL n v=3:=by unfold zdL;rw[hv,Ip rfl,Iq (by omega),hvl];rfl
   have E:=Hd e;clear hv e k1 k2 k3 f1 f2 h1 h2 h0 hc fr;go_enter func89,ntmps89;go_wp2_with(first|(go_at_call 111;refine(iD _ b cs n (by omega) (by omega)).mono ?_;rintro e w' ⟨rfl,k,rfl⟩)|(go_at_call 87;refine mo0 (aK _ _) ?_));go_ret;exact⟨aO E.o.symm,zgE.no HS.o (by rw[E.o];omega)⟩
  ·have e:zdL n v=0:=by unfold zdL;rw[hv,Ip rfl,Iq (by omega),hvl];rfl
   have E:=Hd e;have EX:Hid (zeY σ n v=⟨σ.lv,upd σ.gl n v⟩):=by unfold Hid zeY;rw[Ip e,Iq (by omega)]
   clear hv e k1 k2 k3 f1 f2 h1 h2 h0;go_enter func89,ntmps89;go_wp2_with(first|(go_at_call 111;refine(iD _ b cs n (by omega) (by omega)).mono ?_;rintro e w' ⟨rfl,k,rfl⟩)|(go_at_call 87;refine mo0 (aK _ _) ?_));go_ret;refine⟨aO E.o.symm,?_,((Chg.refl _ _).drewN _).trans (aH _ _ _ _ _ (.inl rfl)),by simp[World.setCell]⟩;rw[EX.o];exact(HS.o.keep (w':=w.drewN _) rfl rfl).set_com c1 c2
 ·have e:zdL n v=13:=by unfold zdL;rw[hv,Ip rfl,Ip (by omega)]
  have E:=Hd e;clear hv e k1 k2 k3 f1 f2 h1 h2 h0;go_enter func89,ntmps89;go_wp2_with(go_at_call 111;refine(lY _ b cs n (by omega) (by omega)).mono ?_;rintro e w' ⟨rfl,k,rfl⟩);go_ret;exact⟨aO E.o.symm,zgE.no HS.o (by rw[E.o];omega)⟩
def locT:List Int:=[1,2,3,7,8,9,0,11,4,5,6,0,13,0,0,0,17,18,19,20,21,22,23,24,25,26]
def zbW(c:Int):Int:=if 65<=c/\c<=90 then locT.getD (c-65).toNat 0 else 0
theorem qhK(c:Int):0<=zbW c/\zbW c<=33:=by
 have h:∀x∈locT,(0:Int)<=x/\x<=33:=by decide
 unfold zbW;split
 ·rw[Gd];rcases hx:locT[(c-65).toNat]? with _|x
  ·simp
  ·exact h x (Mg hx)
 ·omega
theorem quP{c:Int}(h:zbW c≠0):65<=c/\c<=90:=by
 unfold zbW at h;split at h
 ·assumption
 ·exact absurd rfl h
def ltC:Array Value:=⟨locT.map λz=>.int .i64 z⟩
theorem qyE{j:Nat}(h:j<26):ltC[j]? =some (.int .i64 (locT.getD j 0)):=by
 have e:(List.range 26).map (λj=>ltC[j]?)=(List.range 26).map (λj=>some (.int .i64 (locT.getD j 0))):=by kernel_rfl
 have e:=congrArg (λl=>l[j]?) e;simpa[h]using e
def Tn(w:World):Prop:=∃(t:TypeId) (fr:Nat×Nat),w.heap[(0:Nat)]? =some (.cells ltC t fr)
theorem Tn.below{w w':World}{B:Nat}(h:Tn w)(hb:Below B w w')(hB:0<B):Tn w':=by
 obtain⟨t,fr,h⟩:=h;exact⟨t,fr,(hb.block _ hB).trans h⟩
theorem Tn.lt{w:World}(h:Tn w):0<w.heap.size:=by
 obtain⟨t,fr,h⟩:=h;exact(Ag.1 h).1
theorem qkA(c:Int)(w:World)(ht:Tn w)(h1: -9223372036854775808<=c)(h2:c<=9223372036854775807):
 Calls prog 86 #[.int .i64 c] w λe w'=>e=.returned (.int .i64 (zbW c))/\w=w':=by
 obtain⟨tt,fr,hg⟩:=ht;rcases Il c 65 with h3|h3
 ·have e:zbW c=0:=by unfold zbW;rw[Iq (by omega)]
  rw[e];go_enter func86,ntmps86;go_wp2;go_ret;exact⟨rfl,rfl⟩
 rcases Il 90 c with h4|h4
 ·have e:zbW c=0:=by unfold zbW;rw[Iq (by omega)]
  rw[e];go_enter func86,ntmps86;go_wp2;go_ret;exact⟨rfl,rfl⟩
 ·have e:zbW c=locT.getD (c-65).toNat 0:=by unfold zbW;rw[Ip ⟨h3,h4⟩]
  have hc:w.cell? ⟨0,(c-65).toNat,none⟩=some (.int .i64 (zbW c)):=by
   rw[Ro w _ _ _ _ _ hg,e];exact qyE (by omega)
  generalize zbW c=v at*
  clear e hg;go_enter func86,ntmps86;go_wp2;go_ret;exact⟨rfl,rfl⟩
def RdV(w:World)(I:Nat->Prop)(A:OA)(k:Nat)(l:LI):Prop:=
 k=l.length/\k<=maxLen/\(∀x∈l,(-9223372036854775808<=x.1/\x.1<=9223372036854775807)/\(-9223372036854775808<=x.2/\x.2<=9223372036854775807))/\
  (0<k->∃ab off:Nat,A=some ⟨ab,off,none⟩/\I ab/\ab<w.heap.size/\∀(i:Nat) (x:Int×Int),l[i]? =some x->w.cell? ⟨ab,off+i*2,none⟩=some (.int .i64 x.1)/\w.cell? ⟨ab,off+i*2+1,none⟩=some (.int .i64 x.2))
theorem RdV.keep{w w':World}{I I':Nat->Prop}{A:OA}{k:Nat}{l:LI}(h:RdV w I A k l)(hs:w.heap.size<=w'.heap.size)(hI:∀g,g<w.heap.size->I g->I' g)(hk:∀g,g<w.heap.size->I g->w'.heap[g]? =w.heap[g]?):RdV w' I' A k l:=by
 obtain⟨h1,h2,h3,h4⟩:=h;refine⟨h1,h2,h3,λhp=> ?_⟩;obtain⟨ab,off,e,hi,hl,hc⟩:=h4 hp;refine⟨ab,off,e,hI _ hl hi,by omega,λi x hx=> ?_⟩;have hq:=hk ab hl hi;obtain⟨c1,c2⟩:=hc i x hx;exact⟨(cekC ab (off+i*2) hq).trans c1,(cekC ab (off+i*2+1) hq).trans c2⟩
def zcN(seen:List Int):LI->Int
 |[]=>0
 |(c,n)::r=>if zbW c=0 then 1 else if c∈seen then 7 else if vld n then zcN (c::seen) r else 3
def zgW(l:LI):Int->Int:=l.foldl (λf x=>upd f (zbW x.1) x.2) (λ_=>0)
def zcG(σ:Sto)(l:LI):Int:=if σ.lv.length=9 then 10 else zcN [] l
def zbU(σ:Sto)(l:LI):Sto:=if zcG σ l=0 then⟨σ.lv++[zgW l],σ.gl⟩else σ
def zfJ(σ:Sto):Int:=if σ.lv.length=1 then 13 else 0
def zdN(σ:Sto):Sto:=if σ.lv.length=1 then σ else⟨σ.lv.dropLast,σ.gl⟩
theorem Sx.pop{w:World}{b lb:Nat}{σ:Sto}{cap:Nat}{cs:Array Value}(h:Sx w b lb σ)(hb:w.heap[b]? =some (.cells cs 110 (0,0)))(h0:cs[0]? =some (.slice (some ⟨lb,0,none⟩) σ.lv.length cap))(h1:σ.lv.length≠1):
 Sx (w.setCell ⟨b,0,none⟩ (.slice (some ⟨lb,0,none⟩) (σ.lv.length-1) cap)) b lb ⟨σ.lv.dropLast,σ.gl⟩:=by
 obtain⟨hne,hp,hq,cap',cs',ls,g1,g2,h0',hcap,hm,hls,hcs,k1,k2,k3⟩:=h;rw[hb]at g1;obtain rfl:cs=cs':=by simpa using g1
 rw[h0]at h0';obtain rfl:cap=cap':=by simpa using h0'
 refine⟨hne,by simp;omega,by simp;omega,cap,cs.setIfInBounds 0 (.slice (some ⟨lb,0,none⟩) (σ.lv.length-1) cap),ls,aD hb,(Bj _ _ _ lb (by show lb≠b;omega)).trans g2,?_,by simp;omega,hm,hls,by simpa using hcs,?_,?_,?_⟩
 ·rw[cB h0,Ip rfl];simp
 ·intro j i hj hi;have hj':j<σ.lv.length-1:=by simpa using hj
  rw[k1 j i (by omega) hi];congr 2;show σ.lv.getD j _ _=(σ.lv.dropLast).getD j _ _;rw[Gd,Gd,List.getElem?_dropLast,Ip hj']
 ·intro i hi;rw[cB (k2 i hi),Iq (by omega)]
 ·intro i hi;rw[cB (k3 i hi),Iq (by omega)]
def zlD(b lb:Nat)(σ:Sto)(w:World)(e:Ending)(w':World):Prop:=
 e=.returned (.int .i64 (zfJ σ))/\Sx w' b lb (zdN σ)/\Chg (λg=>g=b\/g=lb) w w'/\w'.heap.size=w.heap.size
theorem quC(w:World)(b lb:Nat)(σ:Sto)(h:Sx w b lb σ):
 Calls prog 58 #[.pointer (some ⟨b,0,none⟩)] w (zlD b lb σ w):=by
 have HS:=Hd h;have HL:=Hd (λW (hk:W.heap=w.heap)=>jQ W b lb σ (h.keep (by rw[hk]) (by rw[hk])));obtain⟨hne,hp,hq,cap,cs,ls,h1,h2,h0,hcap,hm,hls,hcs,k1,k2,k3⟩:=h;have H1:=Hd h1;have H0:=Hd h0;have c0:w.cell? ⟨b,0,none⟩=some (.slice (some ⟨lb,0,none⟩) σ.lv.length cap):=(Ro w b 0 _ _ _ h1).trans h0;have f0:w.frozen? ⟨b,0,none⟩=false:=by simp[World.frozen?,h1]
 clear k1 k2 k3 h1 h2 h0 hls hcs;obtain⟨L,hL⟩:∃L,L=σ.lv.length:=⟨_,rfl⟩;rw[<-hL]at hp hq hcap c0 H0 HL;have HLL:=Hd hL;clear hL;by_cases h1:L=1
 ·have e1:Hid (zfJ σ=13):=by unfold Hid zfJ;rw[Ip (by rw[<-HLL.o];exact h1)]
  have e2:Hid (zdN σ=σ):=by unfold Hid zdN;rw[Ip (by rw[<-HLL.o];exact h1)]
  have hz:((L:Int)-1==0)=true:=by rw[h1];rfl
  go_enter func58,ntmps58;go_wp2_with(go_at_call 75;refine(HL.o _ (by rfl)).mono ?_;rintro e w' ⟨rfl,rfl⟩);go_ret;exact⟨aO e1.o.symm,by rw[e2.o];exact HS.o,Chg.refl _ _,rfl⟩
 ·have e1:Hid (zfJ σ=0):=by unfold Hid zfJ;rw[Iq (by rw[<-HLL.o];exact h1)]
  have e2:Hid (zdN σ=⟨σ.lv.dropLast,σ.gl⟩):=by unfold Hid zdN;rw[Iq (by rw[<-HLL.o];exact h1)]
  have hz:((L:Int)-1==0)=false:=by simp;omega
  have HN1:=Hd h1;clear h1;go_enter func58,ntmps58;go_wp2_with(go_at_call 75;refine(HL.o _ (by rfl)).mono ?_;rintro e w' ⟨rfl,rfl⟩);go_region_with(go_at_call 75;refine(HL.o _ (by rfl)).mono ?_;rintro e w' ⟨rfl,rfl⟩);all_goals
   go_wp2;go_ret;refine⟨aO e1.o.symm,?_,((aH _ _ _ _ _ (.inl rfl))).drewN 1,by simp[World.setCell]⟩;have hpop:=HS.o.pop (cs:=cs) H1.o (by rw[<-HLL.o];exact H0.o) (by rw[<-HLL.o];exact HN1.o);rw[<-HLL.o]at hpop;rw[e2.o];exact hpop.keep rfl rfl
theorem quX:(prog.info? 137).bind (λi=>i.zero.map λz=>(i.size,i.bytes,z.cells.size))=some (33,264,33):=by kernel_rfl
theorem quN:∃(i:TypeInfo) (z:Value),prog.info? 137=some i/\i.zero=some z/\i.size=33/\i.bytes=264/\z.cells.size=33:=by
 have h:=quX;rcases hi:prog.info? 137 with _|i
 ·rw[hi]at h;cases h
 rw[hi]at h;rcases hz:i.zero with _|z
 ·simp only[Ob,hz,On]at h;cases h
 simp only[Ob,hz,Om,Oi,Pj]at h;exact⟨i,z,rfl,hz,h.1,h.2.1,h.2.2⟩
def zjT:Array Value:=⟨List.replicate 26 (.bool false)⟩
theorem hlS{w:World}{g:Nat}{x:Obj}(h:w.heap[g]? =some x):g<w.heap.size:=(Ag.1 h).1
theorem bxS{B:Nat}{w:World}(o:Obj)(hB:B<=w.heap.size):Below B w (w.alloc o):=(Bf _ _).alloc hB _
structure PuR(w0:World)(l:LI)(k:Nat)(W:World):Prop where
 below:Bw w0 W
 lv:∃lc:Array Value,W.heap[w0.heap.size]? =some (.cells lc 137 (0,0))/\lc.size=33/\∀i:Nat,i<33->lc[i]? =some (.int .i64 (zgW (l.take k) (1+i)))
 sn:∃sc:Array Value,W.heap[w0.heap.size+1]? =some (.cells sc 140 (0,0))/\∀i:Nat,i<26->sc[i]? =some (.bool (decide ((65+(i:Int))∈(l.take k).map (·.1))))
 er:zcN [] l=zcN ((l.take k).map (·.1)).reverse (l.drop k)
theorem PuR.start{w0:World}{l:LI}:PuR w0 l 0 ((w0.alloc (.cells lvC 137)).alloc (.cells zjT 140)):=
 ⟨(nB _ _).alloc (by simp) _,⟨lvC,(Bm _ _ _ (by simp)).trans (Hn w0 _),fK 33,λi hi=>nJ i hi⟩,
  ⟨zjT,by have:=Hn (w0.alloc (.cells lvC 137)) (.cells zjT 140);simpa using this,λi hi=>by
   simp only[List.take_zero,List.map_nil,List.not_mem_nil,decide_false]
   exact rE _ _ _ (List.getElem?_replicate_of_lt hi)⟩,rfl⟩
theorem PuR.next{w wr:World}{l:LI}{k:Nat}{cc nn:Int}(hr:PuR w l k wr)(hx:l[k]? =some (cc,nn))(htk:(l.take (k+1)).map (·.1)=(l.take k).map (·.1)++[cc])(in1:65<=cc)(in2:cc<=90)(hl1:1<=zbW cc)(hl2:zbW cc<=33)
 (he:zcN [] l=zcN ((l.take (k+1)).map (·.1)).reverse (l.drop (k+1))) (o:Obj):
 PuR w l (k+1) (((wr.setCell ⟨w.heap.size+1,(cc-65).toNat,none⟩ (.bool true)).alloc o).setCell ⟨w.heap.size,(zbW cc).toNat-1,none⟩ (.int .i64 nn)):=by
 obtain⟨hb,⟨lc,q1,q2,q3⟩,⟨sc,r1,r2⟩,her⟩:=hr;have hb1:=hb.setCell (p:=⟨w.heap.size+1,(cc-65).toNat,none⟩) (by show w.heap.size<=w.heap.size+1;omega) (.bool true);refine⟨(hb1.trans (bxS o hb1.size)).setCell (p:=⟨w.heap.size,(zbW cc).toNat-1,none⟩) (by show w.heap.size<=w.heap.size;omega) (.int .i64 nn),⟨lc.setIfInBounds ((zbW cc).toNat-1) (.int .i64 nn),?_,by simpa using q2,?_⟩,⟨sc.setIfInBounds (cc-65).toNat (.bool true),?_,?_⟩,he⟩
 ·have a1:=(Bj wr ⟨w.heap.size+1,(cc-65).toNat,none⟩ (.bool true) w.heap.size (by show w.heap.size≠w.heap.size+1;omega)).trans q1;exact aD ((Bm _ o _ (hlS a1)).trans a1)
 ·intro i hi;rw[cB (q3 i hi)];have e:zgW (l.take (k+1))=upd (zgW (l.take k)) (zbW cc) nn:=by
   unfold zgW;rw[Ta,hx,Option.toList_some,List.foldl_append];rfl
  rw[e];exact congrArg some (gS (by omega))
 ·have a1:=aD (i:=(cc-65).toNat) (u:=.bool true) r1;exact(Bj _ ⟨w.heap.size,(zbW cc).toNat-1,none⟩ (.int .i64 nn) (w.heap.size+1) (by show w.heap.size+1≠w.heap.size;omega)).trans ((Bm _ o _ (hlS a1)).trans a1)
 ·intro i hi;rw[cB (r2 i hi),htk];by_cases c:(cc-65).toNat=i
  ·rw[Ip c];have:(65:Int)+(i:Int)=cc:=by omega
   rw[this];simp
  ·rw[Iq c];have:(65:Int)+(i:Int)≠cc:=by omega
   congr 2;simp[this]
def PRel(w0:World)(l:LI)(i:Value)(W:World):Prop:=∃k:Nat,k<=l.length/\i=.int .i64 (k:Int)/\PuR w0 l k W
theorem qkK(acc:Array Value):∀(xs:LV) (s:Nat),s+xs.length<=acc.size->∀j,((xs.zipIdx s).foldl (λ(cs:Array Value) x=>cs.setIfInBounds x.snd x.fst) acc)[j]? =if s<=j/\j<s+xs.length then xs[j-s]? else acc[j]? :=by
 intro xs;induction xs generalizing acc with
 |nil=>intro s h j;rw[Iq (by simp only[List.length_nil];omega)];rfl
 |cons x xs ih=>
  intro s h j;simp only[Lc]at h;rw[List.zipIdx_cons,List.foldl_cons,ih _ (s+1) (by simp;omega),Lc];by_cases c:s+1<=j/\j<s+1+xs.length
  ·rw[Ip c,Ip (by omega),show j-s=(j-(s+1))+1 by omega,List.getElem?_cons_succ]
  ·rw[Iq c,Ah];by_cases e:s=j
   ·rw[Ip e,Ip (by omega),Ip (by omega)];subst e;simp
   ·rw[Iq e,Iq (by omega)]
theorem lT{zs lc:Array Value}{n:Nat}(h1:zs.size=n)(h2:lc.size=n):Array.foldl (λ(cs:Array Value) x=>cs.setIfInBounds x.snd x.fst) zs lc.zipIdx 0 n=lc:=by
 have hz:lc.zipIdx.size=n:=by simpa using h2
 rw[<-hz,<-Array.foldl_toList,Array.toList_zipIdx];apply Array.ext_getElem?;intro j;rw[qkK zs lc.toList 0 (by simp only[Array.length_toList];omega)];by_cases c:j<n
 ·rw[Ip (by simp;omega)];(try simp)
 ·rw[Iq (by simp;omega),Array.getElem?_eq_none (by omega),Array.getElem?_eq_none (by omega)]
theorem bW{w w':World}{base:Nat}{e:TypeId}{size:Nat}{v:Value}{n:Nat}{xs:LV}(hk:∀(g:Nat) x,w.heap[g]? =some x->w'.heap[g]? =some x)(h:w.ownsRow base e size v n xs):w'.ownsRow base e size v n xs:=by
 refine⟨h.1,?_⟩;rcases h.2 with hn|⟨g,cap,cur,a1,a2,a3,a4⟩
 ·exact .inl hn
 ·exact .inr ⟨g,cap,cur,a1,a2,hk _ _ a3,a4⟩
theorem Sx.grow{w1:World}{b g cap cap':Nat}{σ:Sto}{f:Int->Int}{cs ls lc:Array Value}{u:Value}(hne:g≠b)(few:σ.lv.length<9)(gb:w1.heap[b]? =some (.cells cs 110 (0,0)))(hcs:cs.size=1101)(h0:cs[0]? =some u)
 (k1:∀j i:Nat,j<σ.lv.length->i<33->ls[j*33+i]? =some (.int .i64 (σ.lv.getD j (λ_=>0) (1+i)))) (k2:∀i:Nat,i<100->cs[1+i]? =some (.int .i64 (σ.gl (100+i)))) (k3:∀i:Nat,i<1000->cs[101+i]? =some (.int .i64 (σ.gl (5000+i))))
 (hls:ls.size=cap*33) (hcap:σ.lv.length<=cap) (hl2:lc.size=33) (hl3:∀i:Nat,i<33->lc[i]? =some (.int .i64 (f (1+i))))
 (q:w1.ownsRow 0 137 33 (.slice (some ⟨g,0,none⟩) (σ.lv.length+1) cap') (σ.lv.length+1) (ls.toList.take (σ.lv.length*33)++lc.toList)):
 Sx (w1.setCell ⟨b,0,none⟩ (.slice (some ⟨g,0,none⟩) (σ.lv.length+1) cap')) b g ⟨σ.lv++[f],σ.gl⟩:=by
 rcases q.2 with⟨hn,_⟩|⟨g',cp,cur,e1,_,e3,e4,e5,e6,e7⟩
 ·cases hn
 ·simp only[Vs,Oi,Addr.mk.injEq,and_true,true_and]at e1;obtain⟨rfl,rfl⟩:=e1;have hmul:=Nat.mul_le_mul_right 33 hcap;refine⟨hne,by simp,by simp;omega,cap',cs.setIfInBounds 0 (.slice (some ⟨g,0,none⟩) (σ.lv.length+1) cap'),cur,aD gb,(Bj _ _ _ g (by show g≠b;omega)).trans e3,by rw[cB h0,Ip rfl];simp,by simpa using e4,e5,e6,by simpa using hcs,?_,?_,?_⟩
  ·intro j i hj hi;have hj':j<σ.lv.length+1:=by simpa using hj
   have hjj:j*33+i<(σ.lv.length+1)*33:=by omega
   have ec:cur[j*33+i]? =(cur.toList.take ((σ.lv.length+1)*33))[j*33+i]? :=by rw[Gt,Ip hjj];simp
   rw[ec,e7];have hlt:(ls.toList.take (σ.lv.length*33)).length=σ.lv.length*33:=by rw[Lr,Array.length_toList];omega
   by_cases c:j<σ.lv.length
   ·rw[Gc (by omega),Gt,Ip (by omega)];have:=k1 j i c hi;rw[show ls.toList[j*33+i]? =ls[j*33+i]? by simp,this];congr 2;show _=(σ.lv++[f]).getD j _ _;rw[Gd,Gd,Gc c]
   ·have hje:j=σ.lv.length:=by omega
    subst hje;rw[Ga (by omega),hlt,show σ.lv.length*33+i-σ.lv.length*33=i by omega,show lc.toList[i]? =lc[i]? by simp,hl3 i hi];congr 2;show _=(σ.lv++[f]).getD σ.lv.length _ _;rw[Gd,Ga (Le _)];simp
  ·intro i hi;rw[cB (k2 i hi),Iq (by omega)]
  ·intro i hi;rw[cB (k3 i hi),Iq (by omega)]
def zeH(b lb:Nat)(σ:Sto)(l:LI)(w:World)(e:Ending)(w':World):Prop:=
 e=.returned (.int .i64 (zcG σ l))/\∃lb',(lb'=lb\/w.heap.size<=lb')/\Sx w' b lb' (zbU σ l)/\Chg (λg=>g=b\/g=lb) w w'
theorem zeH.no{b lb:Nat}{σ:Sto}{l:LI}{w w':World}(h:Sx w b lb σ)(hb:Bw w w')(he:zcG σ l≠0):zeH b lb σ l w (.returned (.int .i64 (zcG σ l))) w':=by
 refine⟨rfl,lb,.inl rfl,?_,Chg.of_below hb⟩;unfold zbU;rw[Iq he];exact h.below hb
