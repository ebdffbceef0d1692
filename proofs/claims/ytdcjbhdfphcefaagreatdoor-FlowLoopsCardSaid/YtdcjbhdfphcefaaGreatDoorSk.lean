/- The library that blocks make depends on their kinds, labels and numbers alone; the machine of blocks with one constant word. The law of blocks with a slash on the plain machine: what Next gives of twelve blocks of one word. Conditions: those that each lemma names. -/
import Derived.Test.YtdcjbhdfphcefaaGreatDoorNv
import Derived.Test.YtdcjbhdfphcefaaGreatDoorPm
set_option linter.unusedVariables false
set_option linter.unusedSimpArgs false
namespace Go.Proofs.YtdcjbhdfphcefaaGreatDoor
def skel(b:Bk):Bk:=⟨b.kind,b.label,false,[],.none_,.none_,b.n⟩
theorem skel_getD(bs:List Bk)(i:Nat):(bs.map skel).getD i noneB=skel (bs.getD i noneB):=by
 rw[List.getD_eq_getElem?_getD,List.getD_eq_getElem?_getD,List.getElem?_map];rcases bs[i]? with _|b<;>rfl
theorem labelFrom_skel(bs:List Bk)(n:Int):∀k i,labelFrom ⟨bs.map skel,[],[]⟩ n k i=labelFrom ⟨bs,[],[]⟩ n k i:=by
 intro k;induction k with
 |zero=>intro i;rfl
 |succ k ih=>
  intro i;rw[labelFrom,labelFrom,ih];have:(Lb.blk ⟨bs.map skel,[],[]⟩ i).label=(Lb.blk ⟨bs,[],[]⟩ i).label:=by
   unfold Lb.blk;dsimp only;rw[skel_getD];rfl
  rw[this]
theorem stepB_skel(bs:List Bk)(i:Nat)(b:Bk)(s:Bu):stepB (bs.map skel) i (skel b) s=stepB bs i b s:=by
 have h1:openB i (skel b) s=openB i b s:=rfl;have h2:∀s,dupL (bs.map skel) i (skel b) s=dupL bs i b s:=fun s=>by
  unfold dupL;rw[labelFrom_skel];rfl
 have h3:∀s,closeB (bs.map skel) i (skel b) s=closeB bs i b s:=fun s=>by
  unfold closeB;have e:∀w,((bs.map skel).getD w noneB).n=(bs.getD w noneB).n:=fun w=>by rw[skel_getD];rfl
  simp only[e];rfl
 unfold stepB;rw[h1,h2,h3]
theorem buildFrom_skel(bs:List Bk):∀(l:List Bk) (i:Nat) (s:Bu),buildFrom (bs.map skel) (l.map skel) i s=buildFrom bs l i s:=by
 intro l;induction l with
 |nil=>intro i s;rfl
 |cons b r ih=>
  intro i s;rw[List.map_cons,buildFrom,buildFrom,stepB_skel,ih]
theorem bad_no:∀(bs:List Bk) (i:Nat),(∀b∈bs,validS b=true)→badFrom bs i=none:=by
 intro bs;induction bs with
 |nil=>intro i _;rfl
 |cons x r ih=>
  intro i h;rw[badFrom,if_pos (h x (List.mem_cons_self ..))];exact ih _ fun b hb=>h b (List.mem_cons_of_mem _ hb)
theorem build_skel{bs sk:List Bk}{pr:List Pg}{mt:List Int}{x:Int}(hs:bs.map skel=sk)(hl:bs.length≤2000)(hv:∀b∈bs,validS b=true)(h:buildFrom sk sk 0 (startB sk)=(⟨pr,mt,[]⟩,x,0)):buildS bs=(⟨bs,pr,mt⟩,(bs.length:Int),0):=by
 subst hs;have e:startB (bs.map skel)=startB bs:=by unfold startB;rw[List.length_map]
 rw[e,buildFrom_skel]at h;unfold buildS;rw[if_neg (by omega),bad_no bs 0 hv];dsimp only;rw[h];unfold finB;rw[if_neg (by simp),if_neg (by simp)]
def numT(n:Int):Tr:=.mk 0 n 0 fun _=>.none_
def wordB(sk:Bool)(label c n:Int):Bk:=⟨0,label,sk,[(c,numT n)],numT 0,numT 0,0⟩
section
variable {L:Lb} {sk:Bool} {m m':MS}
theorem round_thru(h1:m.err=0)(h2:m.ended=false)(h3:m.steps<20000)(h4:0≤m.pos∧m.pos<(L.prg m.prog).stop)(hx:exeM L sk {m with steps:=m.steps+1} (L.blk m.pos.toNat)=(m',none,0))(he:m'.err=0):roundM L sk m=(m',none):=by
 rw[round_eq,if_neg (by omega),if_neg (by rw[h2];simp),if_neg (by omega)];unfold afterM;rw[if_neg (by dsimp only;omega),hx];cases m';simp at he⊢
 exact he.symm
theorem round_tell{l:List (Int×Int)}(h1:m.err=0)(h2:m.ended=false)(h3:m.steps<20000)(h4:0≤m.pos∧m.pos<(L.prg m.prog).stop)(hx:exeM L sk {m with steps:=m.steps+1} (L.blk m.pos.toNat)=(m',some l,0))(he:m'.err=0):roundM L sk m=(m',some ((1,m.pos,l),0)):=by
 rw[round_eq,if_neg (by omega),if_neg (by rw[h2];simp),if_neg (by omega)];unfold afterM;rw[if_neg (by dsimp only;omega),hx];cases m';simp at he⊢
 exact he.symm
theorem round_back(h1:m.err=0)(h2:m.ended=false)(h3:m.steps<20000)(h4:(L.prg m.prog).stop≤m.pos)(hx:leaveM L {m with steps:=m.steps+1}=(m',0))(he:m'.err=0):roundM L sk m=(m',none):=by
 rw[round_eq,if_neg (by omega),if_neg (by rw[h2];simp),if_neg (by omega)];unfold afterM;rw[if_pos (.inr (by dsimp only;omega)),hx];cases m';simp at he⊢
 exact he.symm
end
theorem exM_skip(L:Lb)(sk:Bool)(m:MS)(b:Bk)(h:(b.skip&&sk)=true):exeM L sk m b=({m with pos:=m.pos+1},none,0):=by
 unfold exeM;dsimp only;rw[if_pos h]
theorem exM_words(L:Lb)(sk:Bool)(m:MS)(b:Bk)(h:(b.skip&&sk)=false)(hk:b.kind=0)(hw:b.words≠[]):exeM L sk m b=wordsM L m b.words:=by
 unfold exeM;dsimp only;rw[if_neg (by rw[h];simp),if_neg (by omega),if_neg (by omega),if_neg (by omega),if_neg (by omega),if_pos ⟨hk,hw⟩]
theorem words_call(L:Lb)(m:MS)(ws:List (Int×Tr))(l:List (Int×Int))(k:Int)(hv:valsS m.sto.f ws=(l,0))(hc:ctlS l=(1,k))(hk:k=98∨k=65):wordsM L m ws=(enterM L m l (k==65),none,enterE L m l (k==65)):=by
 unfold wordsM;simp only[hv,hc];rw[if_neg (by omega),if_neg (by omega),if_neg (by omega),if_neg (by omega),if_pos (by omega)]
theorem words_tell(L:Lb)(m:MS)(ws:List (Int×Tr))(l:List (Int×Int))(hv:valsS m.sto.f ws=(l,0))(hc:ctlS l=(0,0)):wordsM L m ws=({m with pos:=m.pos+1,ended:=m.ended||l.any fun v=>isC v 77 2||isC v 77 30},some l,0):=by
 unfold wordsM;simp only[hv,hc];rw[if_neg (by omega),if_neg (by omega),if_neg (by omega),if_neg (by omega),if_neg (by omega)]
theorem enter_ok(L:Lb)(m:MS)(l:List (Int×Int))(mc:Bool)(h:enterE L m l mc=0):enterM L m l mc={m with sto:=if mc then pushX m.sto (enS l).args else m.sto,calls:=m.calls++[⟨(findS L (wholeS (enS l).number).1).1.toNat,m.prog,m.pos+1,(wholeS (enS l).times).1-1,(enS l).args,mc⟩],prog:=(findS L (wholeS (enS l).number).1).1.toNat,pos:=(L.prg (findS L (wholeS (enS l).number).1).1.toNat).first}:=by
 unfold enterM;rw[if_neg (by omega)]
end Go.Proofs.YtdcjbhdfphcefaaGreatDoor
namespace Go.Proofs.YtdcjbhdfphcefaaGreatDoor
theorem eval_num(V:Int→Int×Int)(n:Int)(h0:0≤n)(h1:n<1000000000000000):EvalS V (numT n)=(n,0):=by
 have h:rightS 16 (numT n)=true:=rightS_mk (by simp[kidsS]) (by simp[numS,h0,h1]) fun i hi=>by omega
 unfold EvalS;rw[if_pos h];rfl
theorem vals_num(f:Int→Int)(c n:Int)(h0:0≤n)(h1:n<1000000000000000):valsS f [(c,numT n)]=([(c,n)],0):=by
 simp[valsS,eval_num _ n h0 h1]
def sto0:Sto:=⟨[fun _=>0],fun _=>0⟩
def atM(i:Nat):MS:=⟨0,i,[],sto0,i,false,0⟩
def endM:MS:=⟨0,12,[],sto0,13,true,0⟩
def skB(fl:Nat→Bool)(i:Nat):Bk:=wordB (fl i) 0 88 i
def skBs(fl:Nat→Bool)(n:Nat):List Bk:=(List.range n).map (skB fl)
def skL(fl:Nat→Bool):Lb:=⟨skBs fl 12,[⟨0,0,12⟩],List.replicate 12 (-1)⟩
theorem num_right(n:Int)(h0:0≤n)(h1:n<1000000000000000):rightS 16 (numT n)=true:=rightS_mk (by simp[kidsS]) (by simp[numS,h0,h1]) fun i hi=>by omega
theorem word_valid(sk:Bool)(label n:Int)(hl:0≤label∧label≤99999)(h0:0≤n)(h1:n<1000000000000000):validS (wordB sk label 88 n)=true:=by
 have h:=num_right n h0 h1;simp[validS,wordB,headS,wordS,partS,leftK,xK,tailS,noneS,numT,hl.1,hl.2];exact h
theorem skBs_len(fl:Nat→Bool)(n:Nat):(skBs fl n).length=n:=by simp[skBs]
theorem skBs_at(fl:Nat→Bool){n i:Nat}(h:i<n):(skBs fl n)[i]? =some (skB fl i):=by simp[skBs,h]
theorem skBs_valid(fl:Nat→Bool):∀b∈skBs fl 12,validS b=true:=by
 intro b hb;obtain⟨i,hi,rfl⟩:=List.mem_map.1 hb;have:=List.mem_range.1 hi;exact word_valid _ _ _ (by omega) (by omega) (by omega)
theorem sk_build(fl:Nat→Bool):buildS (skBs fl 12)=(skL fl,12,0):=by
 have h:=build_skel (bs:=skBs fl 12) (sk:=List.replicate 12 ⟨0,0,false,[],.none_,.none_,0⟩) (pr:=[⟨0,0,12⟩]) (mt:=List.replicate 12 (-1)) (x:=12) rfl (by rw[skBs_len];omega) (skBs_valid fl) rfl;rw[skBs_len]at h;exact h
theorem sk_new(fl:Nat→Bool):newS (skL fl)=some (atM 0):=by
 unfold newS;have e:(skL fl).bl.length=12:=skBs_len fl 12;rw[e];rfl
theorem sk_blk(fl:Nat→Bool){i:Nat}(h:i<12):(skL fl).blk i=skB fl i:=by
 unfold Lb.blk;rw[List.getD_eq_getElem?_getD];show((skBs fl 12)[i]?).getD noneB=_;rw[skBs_at fl h];rfl
theorem sk_prg(fl:Nat→Bool):(skL fl).prg 0=⟨0,0,12⟩:=rfl
theorem sk_words(fl:Nat→Bool)(i:Nat)(h:i<12)(m:MS)(hs:m.ended=false):wordsM (skL fl) m [(88,numT i)]=({m with pos:=m.pos+1},some [(88,(i:Int))],0):=by
 unfold wordsM;rw[vals_num _ _ _ (by omega) (by omega)];have e:ctlS [(88,(i:Int))]=(0,0):=by simp[ctlS,ctl1,isC]
 dsimp only;rw[e];simp[isC,hs]
theorem sk_round(fl:Nat→Bool)(sk:Bool)(i:Nat)(h:i<12):roundM (skL fl) sk (atM i)=(atM (i+1),if(fl i&&sk)=true then none else some ((1,(i:Int),[(88,(i:Int))]),0)):=by
 have e1:((i:Int)+1)=((i+1:Nat):Int):=by omega
 have eb:(skL fl).blk ((atM i).pos.toNat)=skB fl i:=by
  show(skL fl).blk ((i:Int).toNat)=_;rw[Int.toNat_natCast];exact sk_blk fl h
 have hst:0≤(atM i).pos∧(atM i).pos<((skL fl).prg (atM i).prog).stop:=by
  show(0:Int)≤(i:Int)∧(i:Int)<12;omega
 have hs:(atM i).steps<20000:=by show(i:Int)<20000;omega
 by_cases c:(fl i&&sk)=true
 ·rw[if_pos c];refine round_thru rfl rfl hs hst ?_ rfl;rw[eb,exM_skip _ _ _ _ (by exact c)];simp only[atM,e1]
 ·rw[if_neg c];have q:=round_tell (L:=skL fl) (sk:=sk) (m:=atM i) (m':=atM (i+1)) (l:=[(88,(i:Int))]) rfl rfl hs hst ?_ rfl
  ·exact q
  have hw:(skB fl i).words=[(88,numT i)]:=rfl;have hc:((skB fl i).skip&&sk)=false:=Bool.eq_false_iff.2 c;rw[eb,exM_words _ _ _ _ hc rfl (by rw[hw];simp),hw,sk_words fl i h _ rfl];simp only[atM,e1]
theorem sk_round12(fl:Nat→Bool)(sk:Bool):roundM (skL fl) sk (atM 12)=(endM,none):=by
 rw[round_eq,if_neg (by simp[atM]),if_neg (by simp[atM]),if_neg (by simp[atM])];unfold afterM;rw[if_pos (by
  right
  have:(skL fl).prg (atM 12).prog=⟨0,0,12⟩:=rfl
  simp only[atM]at this⊢
  rw[this]
  simp)]
 rfl
theorem sk_roundE(fl:Nat→Bool)(sk:Bool):roundM (skL fl) sk endM=(endM,some ((2,0,[]),0)):=by
 rw[round_eq,if_neg (by simp[endM]),if_pos (by simp[endM])]
def wantF(fl:Nat→Bool)(sk:Bool):Nat→Nat→List Int
 |0,_=>[]
 |k+1,i=>if(fl i&&sk)=true then wantF fl sk k (i+1)else(i:Int)::wantF fl sk k (i+1)
theorem sk_next(fl:Nat→Bool)(sk:Bool):∀k i,i+k=12→∀f,k+3≤f→
 (wantF fl sk k i=[]∧nextM (skL fl) sk f (atM i)=(endM,(2,0,[]),0))∨
 (∃j:Nat,i≤j∧j<12∧wantF fl sk k i=(j:Int)::wantF fl sk (12-(j+1)) (j+1)∧nextM (skL fl) sk f (atM i)=(atM (j+1),(1,(j:Int),[(88,(j:Int))]),0)):=by
 intro k;induction k with
 |zero=>
  intro i hi f hf;obtain rfl:i=12:=by omega
  obtain⟨f,rfl⟩:∃g,f=g+2:=⟨f-2,by omega⟩;left;refine⟨rfl,?_⟩;rw[nextM_succ,sk_round12];dsimp only;rw[nextM_succ,sk_roundE]
 |succ k ih=>
  intro i hi f hf;obtain⟨f,rfl⟩:∃g,f=g+1:=⟨f-1,by omega⟩;rw[nextM_succ,sk_round fl sk i (by omega),wantF];by_cases c:(fl i&&sk)=true
  ·rw[if_pos c,if_pos c];rcases ih (i+1) (by omega) f (by omega)with h|⟨j,h1,h2,h3,h4⟩
   ·exact .inl h
   ·exact .inr ⟨j,by omega,h2,h3,h4⟩
  ·rw[if_neg c,if_neg c];exact .inr ⟨i,by omega,by omega,by rw[show k=12-(i+1)by omega],rfl⟩
theorem sk_nextS(fl:Nat→Bool)(sk:Bool)(i:Nat)(hi:i≤12):
 (wantF fl sk (12-i) i=[]∧nextS (skL fl) sk (atM i)=(endM,(2,0,[]),0))∨
 (∃j:Nat,i≤j∧j<12∧wantF fl sk (12-i) i=(j:Int)::wantF fl sk (12-(j+1)) (j+1)∧nextS (skL fl) sk (atM i)=(atM (j+1),(1,(j:Int),[(88,(j:Int))]),0)):=by
 refine sk_next fl sk (12-i) i (by omega) _ ?_;unfold restM;simp[atM];omega
def wantL(fl:Nat→Bool)(sk:Bool)(n:Nat):List Int:=(List.range n).filterMap fun i=>if(fl i&&sk)=true then none else some (i:Int)
theorem wantF_eq(fl:Nat→Bool)(sk:Bool):∀k i,wantF fl sk k i=(List.range' i k).filterMap fun i=>if(fl i&&sk)=true then none else some (i:Int):=by
 intro k;induction k with
 |zero=>intro i;rfl
 |succ k ih=>
  intro i;rw[wantF,List.range'_succ,List.filterMap_cons,ih];by_cases c:(fl i&&sk)=true
  ·simp[c]
  ·simp[c]
theorem wantL_all(fl:Nat→Bool)(sk:Bool):wantL fl sk 12=wantF fl sk 12 0:=by rw[wantF_eq];unfold wantL;rw[List.range_eq_range']
theorem wantL_succ(fl:Nat→Bool)(sk:Bool)(n:Nat):wantL fl sk (n+1)=wantL fl sk n++(if(fl n&&sk)=true then[]else[(n:Int)]):=by
 unfold wantL;rw[List.range_succ,List.filterMap_append];congr 1;by_cases c:(fl n&&sk)=true
 ·rw[if_pos c,List.filterMap_cons,if_pos c];rfl
 ·rw[if_neg c,List.filterMap_cons,if_neg c];rfl
theorem wantL_len(fl:Nat→Bool)(sk:Bool)(n:Nat):(wantL fl sk n).length≤n:=by
 unfold wantL;exact Nat.le_trans (List.length_filterMap_le ..) (by simp)
theorem skBs_succ(fl:Nat→Bool)(n:Nat):skBs fl (n+1)=skBs fl n++[skB fl n]:=by simp[skBs,List.range_succ]
def updF(fl:Nat→Bool)(n:Nat)(b:Bool):Nat→Bool:=fun i=>if i=n then b else fl i
theorem skBs_upd(fl:Nat→Bool)(n:Nat)(b:Bool):skBs (updF fl n b) n=skBs fl n:=by
 refine List.map_congr_left fun i hi=> ?_;have:=List.mem_range.1 hi;unfold skB updF;rw[if_neg (by omega)]
theorem wantL_upd(fl:Nat→Bool)(sk:Bool)(n:Nat)(b:Bool):wantL (updF fl n b) sk n=wantL fl sk n:=by
 unfold wantL;have h:∀l:List Nat,(∀i∈l,i<n)→(l.filterMap fun i=>if(updF fl n b i&&sk)=true then none else some (i:Int))=l.filterMap fun i=>if(fl i&&sk)=true then none else some (i:Int):=by
  intro l;induction l with
  |nil=>intro _;rfl
  |cons a r ih=>
   intro h;have ha:updF fl n b a=fl a:=by unfold updF;rw[if_neg (by have:=h a (List.mem_cons_self ..);omega)]
   rw[List.filterMap_cons,List.filterMap_cons,ha,ih fun i hi=>h i (List.mem_cons_of_mem _ hi)]
 exact h _ fun i hi=>List.mem_range.1 hi
end Go.Proofs.YtdcjbhdfphcefaaGreatDoor
