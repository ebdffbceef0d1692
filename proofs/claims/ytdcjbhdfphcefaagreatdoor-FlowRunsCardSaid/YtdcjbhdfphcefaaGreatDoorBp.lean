/- Plain words. -/
import Derived.PlainAid
import Derived.Test.YtdcjbhdfphcefaaGreatDoorBa
namespace Go.Proofs.YtdcjbhdfphcefaaGreatDoor
set_option linter.all false
set_option maxHeartbeats 400000
open Go.Proofs.Tryz
open Go.PlainAid
def dgt(c:Int):Bool:=decide (48≤c∧c≤57)
theorem iO{c:Int}(h:dgt c=true):48≤c∧c≤57:=of_decide_eq_true h
theorem rB{c:Int}(h:48≤c)(h':c≤57):dgt c=true:=Dt ⟨h,h'⟩
theorem pP{c:Int}(h:c<48∨57<c):dgt c=false:=Df (by omega)
def strI(s:ByteArray):List Int:=s.data.toList.map fun c=>(c.toNat:Int)
theorem rI(s:ByteArray):(strI s).length=s.size:=by unfold strI;rw[List.length_map,Array.length_toList];rfl
theorem mI(s:ByteArray)(k:Nat)(h:k<s.size):(strI s).drop k=bt s k::(strI s).drop (k+1):=by
 have hl:k<(strI s).length:=by rw[rI];exact h
 rw[List.drop_eq_getElem_cons hl];congr 1;unfold bt;rw[dif_pos h];simp[strI];rfl
theorem oJ(s:ByteArray)(k:Nat)(h:s.size≤k):(strI s).drop k=[]:=List.drop_eq_nil_of_le (by rw[rI];exact h)
def prs:List Int→Nat→Nat→Bool→Int→Option (Nat×Nat×Int)
 |[],w,p,_,n=>some (w,p,n)
 |c::cs,w,p,pt,n=>
  if c==46&& !pt then prs cs w p true n
  else if !dgt c then none
  else if pt then(if p+1>6 then none else prs cs w (p+1) true (10*n+(c-48)))
  else(if w+1>9 then none else prs cs (w+1) p false (10*n+(c-48)))
def fin(r:Option (Nat×Nat×Int)):Int×Int:=
 match r with
 |none=>(0,2)
 |some (w,p,n)=>if w+p=0 then(0,2)else(n*10^(6-p),0)
def parseS(l:List Int):Int×Int:=fin (prs l 0 0 false 0)
theorem jH{c:Int}{cs:List Int}{w p:Nat}{n:Int}(h:c=46):prs (c::cs) w p false n=prs cs w p true n:=by
 rw[prs];simp[h]
theorem mM{c:Int}{cs:List Int}{w p:Nat}{pt:Bool}{n:Int}(h:dgt c=false)(h':c≠46∨pt=true):prs (c::cs) w p pt n=none:=by
 rw[prs];have:(c==46&& !pt)=false:=by rcases h' with h'|h'<;>simp[h']
 simp[this,h]
theorem fR{c:Int}{cs:List Int}{w p:Nat}{n:Int}(h:dgt c=true)(hw:w<9):prs (c::cs) w p false n=prs cs (w+1) p false (10*n+(c-48)):=by
 have:=iO h;rw[prs];have e:(c==46&& !false)=false:=by simp;omega
 rw[e,h];simp;omega
theorem kP{c:Int}{cs:List Int}{w p:Nat}{n:Int}(h:dgt c=true)(hw:9≤w):prs (c::cs) w p false n=none:=by
 have:=iO h;rw[prs];have e:(c==46&& !false)=false:=by simp;omega
 rw[e,h];simp;omega
theorem lL{c:Int}{cs:List Int}{w p:Nat}{n:Int}(h:dgt c=true)(hw:p<6):prs (c::cs) w p true n=prs cs w (p+1) true (10*n+(c-48)):=by
 rw[prs];simp[h];omega
theorem lK{c:Int}{cs:List Int}{w p:Nat}{n:Int}(h:dgt c=true)(hw:6≤p):prs (c::cs) w p true n=none:=by
 rw[prs];simp[h];omega
theorem qL{k:Nat}(h:k≤17):(10:Int)^k≤100000000000000000:=by
 have:=Nat.pow_le_pow_right (n:=10) (by decide) h;have h2:(((10:Nat)^k:Nat):Int)=(10:Int)^k:=by push_cast;rfl
 omega
theorem jJ{k:Nat}{m c:Int}(h:m<10^k)(h1:48≤c)(h2:c≤57):10*m+(c-48)<10^(k+1):=by
 have:(10:Int)^(k+1)=10^k*10:=Int.pow_succ 10 k;omega
open Go.RowKit Go.PlainAid
theorem eJ(c:Int)(w:World):
 Calls prog 166 #[.int .u8 c] w fun e w'=>e=.returned (.bool (dgt c))∧w=w':=by
 by_cases h1:48≤c
 ·by_cases h2:c≤57
  ·rw[rB h1 h2];go_enter func166,ntmps166;go_wp2;go_ret;exact⟨rfl,rfl⟩
  ·rw[pP (by omega)];go_enter func166,ntmps166;go_wp2;go_ret;exact⟨rfl,rfl⟩
 ·rw[pP (by omega)];go_enter func166,ntmps166;go_wp2;go_ret;exact⟨rfl,rfl⟩
def RefRel(s:ByteArray)(R:Option (Nat×Nat×Int))(wh pa po n i:Value):Prop:=
 ∃(w p:Nat) (pt:Bool) (m:Int) (k:Nat),wh=.int .i64 w∧pa=.int .i64 p∧po=.bool pt∧n=.int .i64 m∧i=.int .i64 k∧k≤s.size∧w≤9∧p≤6∧0≤m∧m<10^(w+p)∧prs ((strI s).drop k) w p pt m=R
theorem qJ(s:ByteArray)(hs:s.size≤maxLen)(w:World):
 Calls prog 129 #[.string s] w fun e w'=>e=.returned (.tuple #[.int .i64 (parseS (strI s)).1,.int .i64 (parseS (strI s)).2])∧w=w':=by
 unfold maxLen at hs;have hbt:=get_bt s;go_enter func129,ntmps129;go_wp2;go_loop[4,5,6,7,8] (RefRel s (prs (strI s) 0 0 false 0)) (fun _ _ _ _ i=>s.size-(intOf i).toNat)
 case atStart=>exact⟨0,0,false,0,0,rfl,rfl,rfl,rfl,rfl,by omega,by omega,by omega,by omega,by decide,rfl⟩
 case round=>
  obtain⟨wh,pa,pt,m,k,rfl,rfl,rfl,rfl,rfl,hk,hw,hp,hm0,hm1,hR⟩:=hrel;have hm2:m<100000000000000000:=by have:=qL (k:=wh+pa) (by omega);omega
  have HR:=Hd hR;clear hR;have HM:=Hd hm1;clear hm1;by_cases hlt:k<s.size
  ·have hdr:=Hd (mI s k hlt);have b0:=bt_nonneg s k;have b1:=bt_le s k;rcases hd:dgt (bt s k)with _|_
   ·by_cases h46:bt s k=46
    ·have h46':(bt s k==46)=true:=by simpa using h46
     have H46:=Hd h46;clear h46;cases pt
     ·go_wp2_with(go_at_call 166;refine mo0 (eJ _ _) ?_);go_round
      case rel=>exact⟨wh,pa,true,m,k+1,rfl,rfl,rfl,rfl,by go_num,by omega,hw,hp,hm0,HM.o,by rw[←HR.o,hdr.o,jH H46.o]⟩
      case measure=>simp[intOf];omega
     ·have hR:Hid (prs (strI s) 0 0 false 0=none):=by have h:=HR.o;rw[hdr.o,mM hd (Or.inr rfl)]at h;exact h.symm
      go_wp2_with(go_at_call 166;refine mo0 (eJ _ _) ?_);go_ret2;exact⟨by unfold parseS;rw[hR.o];rfl,rfl⟩
    ·have h46':(bt s k==46)=false:=by simpa using h46
     have hR:Hid (prs (strI s) 0 0 false 0=none):=by have h:=HR.o;rw[hdr.o,mM hd (Or.inl h46)]at h;exact h.symm
     clear h46;go_wp2_with(go_at_call 166;refine mo0 (eJ _ _) ?_);go_ret2;exact⟨by unfold parseS;rw[hR.o];rfl,rfl⟩
   ·have c0:=iO hd;have h46':(bt s k==46)=false:=by simp;omega
    cases pt
    ·by_cases h9:wh<9
     ·go_wp2_with(go_at_call 166;refine mo0 (eJ _ _) ?_);go_round
      case rel=>exact⟨wh+1,pa,false,10*m+(bt s k-48),k+1,by go_num,rfl,rfl,rfl,by go_num,by omega,by omega,hp,by omega,by rw[show wh+1+pa=wh+pa+1 from by omega];exact jJ HM.o c0.1 c0.2,by rw[←HR.o,hdr.o,fR hd h9]⟩
      case measure=>simp[intOf];omega
     ·have hR:Hid (prs (strI s) 0 0 false 0=none):=by have h:=HR.o;rw[hdr.o,kP hd (by omega)]at h;exact h.symm
      obtain rfl:wh=9:=by omega
      go_wp2_with(go_at_call 166;refine mo0 (eJ _ _) ?_);go_ret2;exact⟨by unfold parseS;rw[hR.o];rfl,rfl⟩
    ·by_cases h9:pa<6
     ·go_wp2_with(go_at_call 166;refine mo0 (eJ _ _) ?_);go_round
      case rel=>exact⟨wh,pa+1,true,10*m+(bt s k-48),k+1,rfl,by go_num,rfl,rfl,by go_num,by omega,hw,by omega,by omega,by rw[show wh+(pa+1)=wh+pa+1 from by omega];exact jJ HM.o c0.1 c0.2,by rw[←HR.o,hdr.o,lL hd h9]⟩
      case measure=>simp[intOf];omega
     ·have hR:Hid (prs (strI s) 0 0 false 0=none):=by have h:=HR.o;rw[hdr.o,lK hd (by omega)]at h;exact h.symm
      obtain rfl:pa=6:=by omega
      go_wp2_with(go_at_call 166;refine mo0 (eJ _ _) ?_);go_ret2;exact⟨by unfold parseS;rw[hR.o];rfl,rfl⟩
  ·have hR:Hid (prs (strI s) 0 0 false 0=some (wh,pa,m)):=by have h:=HR.o;rw[oJ s k (by omega)]at h;exact h.symm
   clear HR;by_cases h0:wh+pa=0
   ·obtain rfl:wh=0:=by omega
    obtain rfl:pa=0:=by omega
    go_wp2_with(go_at_call 166;refine mo0 (eJ _ _) ?_);go_ret2;exact⟨by unfold parseS;rw[hR.o];rfl,rfl⟩
   ·have hF:Hid (parseS (strI s)=(m*10^(6-pa),0)):=by unfold Hid parseS;rw[hR.o];unfold fin;simp only[h0,if_false]
    clear hR;have h0':((wh:Int)+pa==0)=false:=by simp;omega
    go_wp2_with(go_at_call 166;refine mo0 (eJ _ _) ?_);go_loop[5,7] (fun pa' n=>∃(q:Nat) (m':Int),pa'=.int .i64 q∧n=.int .i64 m'∧q≤6∧0≤m'∧m'<10^(wh+q)∧m'*10^(6-q)=m*10^(6-pa)) (fun pa' _=>6-(intOf pa').toNat)
    case atStart=>exact⟨pa,m,rfl,rfl,hp,hm0,HM.o,rfl⟩
    case round=>
     obtain⟨q,m',rfl,rfl,hq,hm0',hm1',hE⟩:=hrel;have hm2':m'<100000000000000000:=by have:=qL (k:=wh+q) (by omega);omega
     have HE:=Hd hE;clear hE;have HM':=Hd hm1';clear hm1';by_cases hq6:q<6
     ·go_wp2;go_round
      case rel=>exact⟨q+1,10*m',by go_num,rfl,by omega,by omega,by have:=Int.pow_succ 10 (wh+q);have:=HM'.o;rw[show wh+(q+1)=wh+q+1 from by omega];omega,by rw[←HE.o,show 6-q=6-(q+1)+1 from by omega,Int.pow_succ,Int.mul_comm 10 m',Int.mul_assoc,Int.mul_comm 10]⟩
      case measure=>simp[intOf];omega
     ·obtain rfl:q=6:=by omega
      go_wp2;go_ret2;exact⟨by rw[hF.o];exact dG (by have:=HE.o;simpa using this) rfl,rfl⟩
