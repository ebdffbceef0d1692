/- slices. -/
import Derived.Test.YtdcjbhdfphcefaaGreatDoorShelf
import Derived.Test.YtdcjbhdfphcefaaGreatDoorFa
namespace Go.Proofs.YtdcjbhdfphcefaaGreatDoor
set_option linter.all false
open Go.Proofs.Tryz
open Go.RowKit
def znJ:Go.Shelf.Ren:=⟨fun|41=>32|n=>n,fun|22=>30|23=>73|4=>4|n=>n,fun|n=>n⟩
theorem zkA:Go.Proofs.SlLaysE0.n41 prog znJ:={mixed:=by kernel_rfl,f41:=⟨Tryz.f32.name,by decide,func32.trans (congrArg some (by kernel_rfl))⟩,t4:=underlying4,a4:=isAgg4,z4:=sizeOf4,v4:=zeroValue4,t22:=underlying30,a22:=isAgg30,z22:=sizeOf30,v22:=zeroValue30}
theorem zmH:(prog.info? 73).bind (λi=>i.zero.map λz=>(i.size,i.bytes,z.cells.size))=some (3,24,3):=by kernel_rfl
theorem pE:∃(i:TypeInfo) (z:Value),prog.info? 73=some i/\i.zero=some z/\i.size=3/\i.bytes=24/\z.cells.size=3:=by
 have h:=zmH;rcases hi:prog.info? 73 with _|i
 ·rw[hi]at h;cases h
 rw[hi]at h;rcases hz:i.zero with _|z
 ·simp only[Ob,hz,On]at h;cases h
 simp only[Ob,hz,Om,Oi,Pj]at h;exact⟨i,z,rfl,hz,h.1,h.2.1,h.2.2⟩
theorem zkZ(w:World)(A:OA)(n c:Nat)(news:LV)(hl:news.length=n*3)(hn:n<=1000000)(hc:0<n->∃b off:Nat,A=some ⟨b,off,none⟩/\∀j u,news[j]? =some u->w.cell? ⟨b,off+j,none⟩=some u)(h1:∀u∈news,u.oneCell'=true)(hA:A=none\/∃b off:Nat,A=some ⟨b,off,none⟩):
 Calls prog 32 #[.slice A n c] w λe w'=>∃(C:OA) (cp:Nat),e=.returned (.slice C n cp)/\w'.ownsRow w.heap.size 73 3 (.slice C n cp) n news/\Bw w w':=by
 obtain⟨i0,z0,hi,hz0,hz1,hz2,hzs⟩:=pE;rcases hA with rfl|⟨b,off,rfl⟩
 ·have h0:n=0:=Nat.eq_zero_of_not_pos λh=>by obtain⟨b,off,e,_⟩:=hc h;cases e
  subst h0;refine(AnyE.slices_Clone_nil zkA 0 c w).mono λe w' h=> ?_;obtain⟨rfl,rfl⟩:=h;have:news=[]:=Ez (by simpa using hl);subst this;exact⟨none,0,rfl,World.ownsRow_nil _ _ _ _,Bf _ _⟩
 ·refine(AnyE.slices_Clone zkA i0 z0 3 24 hi hz0 hz1 hz2 hzs (by omega) sizeOf73 b off n c news w hl (by unfold maxLen;omega) (by omega) (λj u hu=> ?_) h1).mono λe w' h=> ?_
  ·rcases Nz n with h0|h0
   ·rw[h0,Nat.zero_mul]at hl;rw[Ez hl]at hu;cases hu
   ·obtain⟨b',off',e,hx⟩:=hc h0;cases e;exact hx j u hu
  ·obtain⟨v',rfl,ho,_,hb⟩:=h;rcases ho.2 with⟨rfl,h0⟩|⟨g,cap,cur,rfl,_⟩
   ·subst h0;exact⟨none,0,rfl,ho,hb⟩
   ·exact⟨_,_,rfl,ho,hb⟩
theorem zmK:(prog.info? 102).bind (λi=>i.zero.map λz=>(i.size,i.bytes,z.cells.size))=some (6,64,6):=by kernel_rfl
theorem pG:∃(i:TypeInfo) (z:Value),prog.info? 102=some i/\i.zero=some z/\i.size=6/\i.bytes=64/\z.cells.size=6:=by
 have h:=zmK;rcases hi:prog.info? 102 with _|i
 ·rw[hi]at h;cases h
 rw[hi]at h;rcases hz:i.zero with _|z
 ·simp only[Ob,hz,On]at h;cases h
 simp only[Ob,hz,Om,Oi,Pj]at h;exact⟨i,z,rfl,hz,h.1,h.2.1,h.2.2⟩
def znL:Go.Shelf.Ren:=⟨fun|41=>51|n=>n,fun|22=>29|23=>54|4=>4|n=>n,fun|n=>n⟩
theorem zkC:Go.Proofs.SlLaysE0.n41 prog znL:={mixed:=by kernel_rfl,f41:=⟨Tryz.f51.name,by decide,func51.trans (congrArg some (by kernel_rfl))⟩,t4:=underlying4,a4:=isAgg4,z4:=sizeOf4,v4:=zeroValue4,t22:=underlying29,a22:=isAgg29,z22:=sizeOf29,v22:=zeroValue29}
theorem zmL:(prog.info? 54).bind (λi=>i.zero.map λz=>(i.size,i.bytes,z.cells.size))=some (11,136,11):=by kernel_rfl
theorem eG:∃(i:TypeInfo) (z:Value),prog.info? 54=some i/\i.zero=some z/\i.size=11/\i.bytes=136/\z.cells.size=11:=by
 have h:=zmL;rcases hi:prog.info? 54 with _|i
 ·rw[hi]at h;cases h
 rw[hi]at h;rcases hz:i.zero with _|z
 ·simp only[Ob,hz,On]at h;cases h
 simp only[Ob,hz,Om,Oi,Pj]at h;exact⟨i,z,rfl,hz,h.1,h.2.1,h.2.2⟩
theorem zlB(w:World)(A:OA)(n c:Nat)(news:LV)(hl:news.length=n*11)(hn:n<=1000000)(hc:0<n->∃b off:Nat,A=some ⟨b,off,none⟩/\∀j u,news[j]? =some u->w.cell? ⟨b,off+j,none⟩=some u)(h1:∀u∈news,u.oneCell'=true)(hA:A=none\/∃b off:Nat,A=some ⟨b,off,none⟩):
 Calls prog 51 #[.slice A n c] w λe w'=>∃(C:OA) (cp:Nat),e=.returned (.slice C n cp)/\w'.ownsRow w.heap.size 54 11 (.slice C n cp) n news/\Bw w w':=by
 obtain⟨i0,z0,hi,hz0,hz1,hz2,hzs⟩:=eG;rcases hA with rfl|⟨b,off,rfl⟩
 ·have h0:n=0:=Nat.eq_zero_of_not_pos λh=>by obtain⟨b,off,e,_⟩:=hc h;cases e
  subst h0;refine(AnyE.slices_Clone_nil zkC 0 c w).mono λe w' h=> ?_;obtain⟨rfl,rfl⟩:=h;have:news=[]:=Ez (by simpa using hl);subst this;exact⟨none,0,rfl,World.ownsRow_nil _ _ _ _,Bf _ _⟩
 ·refine(AnyE.slices_Clone zkC i0 z0 11 136 hi hz0 hz1 hz2 hzs (by omega) sizeOf54 b off n c news w hl (by unfold maxLen;omega) (by omega) (λj u hu=> ?_) h1).mono λe w' h=> ?_
  ·rcases Nz n with h0|h0
   ·rw[h0,Nat.zero_mul]at hl;rw[Ez hl]at hu;cases hu
   ·obtain⟨b',off',e,hx⟩:=hc h0;cases e;exact hx j u hu
  ·obtain⟨v',rfl,ho,_,hb⟩:=h;rcases ho.2 with⟨rfl,h0⟩|⟨g,cap,cur,rfl,_⟩
   ·subst h0;exact⟨none,0,rfl,ho,hb⟩
   ·exact⟨_,_,rfl,ho,hb⟩
def znI:Go.Shelf.Ren:=⟨fun|41=>53|n=>n,fun|22=>49|23=>57|4=>4|n=>n,fun|n=>n⟩
theorem zjZ:Go.Proofs.SlLaysE0.n41 prog znI:={mixed:=by kernel_rfl,f41:=⟨Tryz.f53.name,by decide,func53.trans (congrArg some (by kernel_rfl))⟩,t4:=underlying4,a4:=isAgg4,z4:=sizeOf4,v4:=zeroValue4,t22:=underlying49,a22:=isAgg49,z22:=sizeOf49,v22:=zeroValue49}
theorem zmD:(prog.info? 57).bind (λi=>i.zero.map λz=>(i.size,i.bytes,z.cells.size))=some (4,48,4):=by kernel_rfl
theorem cY:∃(i:TypeInfo) (z:Value),prog.info? 57=some i/\i.zero=some z/\i.size=4/\i.bytes=48/\z.cells.size=4:=by
 have h:=zmD;rcases hi:prog.info? 57 with _|i
 ·rw[hi]at h;cases h
 rw[hi]at h;rcases hz:i.zero with _|z
 ·simp only[Ob,hz,On]at h;cases h
 simp only[Ob,hz,Om,Oi,Pj]at h;exact⟨i,z,rfl,hz,h.1,h.2.1,h.2.2⟩
theorem zkY(w:World)(A:OA)(n c:Nat)(news:LV)(hl:news.length=n*4)(hn:n<=1000000)(hc:0<n->∃b off:Nat,A=some ⟨b,off,none⟩/\∀j u,news[j]? =some u->w.cell? ⟨b,off+j,none⟩=some u)(h1:∀u∈news,u.oneCell'=true)(hA:A=none\/∃b off:Nat,A=some ⟨b,off,none⟩):
 Calls prog 53 #[.slice A n c] w λe w'=>∃(C:OA) (cp:Nat),e=.returned (.slice C n cp)/\w'.ownsRow w.heap.size 57 4 (.slice C n cp) n news/\Bw w w':=by
 obtain⟨i0,z0,hi,hz0,hz1,hz2,hzs⟩:=cY;rcases hA with rfl|⟨b,off,rfl⟩
 ·have h0:n=0:=Nat.eq_zero_of_not_pos λh=>by obtain⟨b,off,e,_⟩:=hc h;cases e
  subst h0;refine(AnyE.slices_Clone_nil zjZ 0 c w).mono λe w' h=> ?_;obtain⟨rfl,rfl⟩:=h;have:news=[]:=Ez (by simpa using hl);subst this;exact⟨none,0,rfl,World.ownsRow_nil _ _ _ _,Bf _ _⟩
 ·refine(AnyE.slices_Clone zjZ i0 z0 4 48 hi hz0 hz1 hz2 hzs (by omega) sizeOf57 b off n c news w hl (by unfold maxLen;omega) (by omega) (λj u hu=> ?_) h1).mono λe w' h=> ?_
  ·rcases Nz n with h0|h0
   ·rw[h0,Nat.zero_mul]at hl;rw[Ez hl]at hu;cases hu
   ·obtain⟨b',off',e,hx⟩:=hc h0;cases e;exact hx j u hu
  ·obtain⟨v',rfl,ho,_,hb⟩:=h;rcases ho.2 with⟨rfl,h0⟩|⟨g,cap,cur,rfl,_⟩
   ·subst h0;exact⟨none,0,rfl,ho,hb⟩
   ·exact⟨_,_,rfl,ho,hb⟩
def znH:Go.Shelf.Ren:=⟨fun|41=>82|n=>n,fun|22=>50|23=>52|4=>4|n=>n,fun|n=>n⟩
theorem zjY:Go.Proofs.SlLaysE0.n41 prog znH:={mixed:=by kernel_rfl,f41:=⟨Tryz.f82.name,by decide,func82.trans (congrArg some (by kernel_rfl))⟩,t4:=underlying4,a4:=isAgg4,z4:=sizeOf4,v4:=zeroValue4,t22:=underlying50,a22:=isAgg50,z22:=sizeOf50,v22:=zeroValue50}
theorem zmC:(prog.info? 52).bind (λi=>i.zero.map λz=>(i.size,i.bytes,z.cells.size))=some (3,40,3):=by kernel_rfl
theorem pC:∃(i:TypeInfo) (z:Value),prog.info? 52=some i/\i.zero=some z/\i.size=3/\i.bytes=40/\z.cells.size=3:=by
 have h:=zmC;rcases hi:prog.info? 52 with _|i
 ·rw[hi]at h;cases h
 rw[hi]at h;rcases hz:i.zero with _|z
 ·simp only[Ob,hz,On]at h;cases h
 simp only[Ob,hz,Om,Oi,Pj]at h;exact⟨i,z,rfl,hz,h.1,h.2.1,h.2.2⟩
theorem zkX(w:World)(A:OA)(n c:Nat)(news:LV)(hl:news.length=n*3)(hn:n<=1000000)(hc:0<n->∃b off:Nat,A=some ⟨b,off,none⟩/\∀j u,news[j]? =some u->w.cell? ⟨b,off+j,none⟩=some u)(h1:∀u∈news,u.oneCell'=true)(hA:A=none\/∃b off:Nat,A=some ⟨b,off,none⟩):
 Calls prog 82 #[.slice A n c] w λe w'=>∃(C:OA) (cp:Nat),e=.returned (.slice C n cp)/\w'.ownsRow w.heap.size 52 3 (.slice C n cp) n news/\Bw w w':=by
 obtain⟨i0,z0,hi,hz0,hz1,hz2,hzs⟩:=pC;rcases hA with rfl|⟨b,off,rfl⟩
 ·have h0:n=0:=Nat.eq_zero_of_not_pos λh=>by obtain⟨b,off,e,_⟩:=hc h;cases e
  subst h0;refine(AnyE.slices_Clone_nil zjY 0 c w).mono λe w' h=> ?_;obtain⟨rfl,rfl⟩:=h;have:news=[]:=Ez (by simpa using hl);subst this;exact⟨none,0,rfl,World.ownsRow_nil _ _ _ _,Bf _ _⟩
 ·refine(AnyE.slices_Clone zjY i0 z0 3 40 hi hz0 hz1 hz2 hzs (by omega) sizeOf52 b off n c news w hl (by unfold maxLen;omega) (by omega) (λj u hu=> ?_) h1).mono λe w' h=> ?_
  ·rcases Nz n with h0|h0
   ·rw[h0,Nat.zero_mul]at hl;rw[Ez hl]at hu;cases hu
   ·obtain⟨b',off',e,hx⟩:=hc h0;cases e;exact hx j u hu
  ·obtain⟨v',rfl,ho,_,hb⟩:=h;rcases ho.2 with⟨rfl,h0⟩|⟨g,cap,cur,rfl,_⟩
   ·subst h0;exact⟨none,0,rfl,ho,hb⟩
   ·exact⟨_,_,rfl,ho,hb⟩
def znK:Go.Shelf.Ren:=⟨fun|41=>33|n=>n,fun|22=>22|23=>3|4=>4|n=>n,fun|n=>n⟩
theorem zkB:Go.Proofs.SlLaysE0.n41 prog znK:={mixed:=by kernel_rfl,f41:=⟨Tryz.f33.name,by decide,func33.trans (congrArg some (by kernel_rfl))⟩,t4:=underlying4,a4:=isAgg4,z4:=sizeOf4,v4:=zeroValue4,t22:=underlying22,a22:=isAgg22,z22:=sizeOf22,v22:=zeroValue22}
theorem zmJ:(prog.info? 3).bind (λi=>i.zero.map λz=>(i.size,i.bytes,z.cells.size))=some (1,8,1):=by kernel_rfl
theorem gK:∃(i:TypeInfo) (z:Value),prog.info? 3=some i/\i.zero=some z/\i.size=1/\i.bytes=8/\z.cells.size=1:=by
 have h:=zmJ;rcases hi:prog.info? 3 with _|i
 ·rw[hi]at h;cases h
 rw[hi]at h;rcases hz:i.zero with _|z
 ·simp only[Ob,hz,On]at h;cases h
 simp only[Ob,hz,Om,Oi,Pj]at h;exact⟨i,z,rfl,hz,h.1,h.2.1,h.2.2⟩
theorem zlA(w:World)(A:OA)(n c:Nat)(news:LV)(hl:news.length=n*1)(hn:n<=1000000)(hc:0<n->∃b off:Nat,A=some ⟨b,off,none⟩/\∀j u,news[j]? =some u->w.cell? ⟨b,off+j,none⟩=some u)(h1:∀u∈news,u.oneCell'=true)(hA:A=none\/∃b off:Nat,A=some ⟨b,off,none⟩):
 Calls prog 33 #[.slice A n c] w λe w'=>∃(C:OA) (cp:Nat),e=.returned (.slice C n cp)/\w'.ownsRow w.heap.size 3 1 (.slice C n cp) n news/\Bw w w':=by
 obtain⟨i0,z0,hi,hz0,hz1,hz2,hzs⟩:=gK;rcases hA with rfl|⟨b,off,rfl⟩
 ·have h0:n=0:=Nat.eq_zero_of_not_pos λh=>by obtain⟨b,off,e,_⟩:=hc h;cases e
  subst h0;refine(AnyE.slices_Clone_nil zkB 0 c w).mono λe w' h=> ?_;obtain⟨rfl,rfl⟩:=h;have:news=[]:=Ez (by simpa using hl);subst this;exact⟨none,0,rfl,World.ownsRow_nil _ _ _ _,Bf _ _⟩
 ·refine(AnyE.slices_Clone zkB i0 z0 1 8 hi hz0 hz1 hz2 hzs (by omega) sizeOf3 b off n c news w hl (by unfold maxLen;omega) (by omega) (λj u hu=> ?_) h1).mono λe w' h=> ?_
  ·rcases Nz n with h0|h0
   ·rw[h0,Nat.zero_mul]at hl;rw[Ez hl]at hu;cases hu
   ·obtain⟨b',off',e,hx⟩:=hc h0;cases e;exact hx j u hu
  ·obtain⟨v',rfl,ho,_,hb⟩:=h;rcases ho.2 with⟨rfl,h0⟩|⟨g,cap,cur,rfl,_⟩
   ·subst h0;exact⟨none,0,rfl,ho,hb⟩
   ·exact⟨_,_,rfl,ho,hb⟩
