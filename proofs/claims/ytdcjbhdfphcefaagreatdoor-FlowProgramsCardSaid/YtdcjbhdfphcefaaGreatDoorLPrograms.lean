/- The walk of. -/
import Derived.Test.YtdcjbhdfphcefaaGreatDoorRlk
import Derived.Test.YtdcjbhdfphcefaaGreatDoorPg
namespace Go.Proofs.YtdcjbhdfphcefaaGreatDoor
set_option linter.all false
set_option maxRecDepth 100000
set_option maxHeartbeats 16000000
open Go.Proofs.Tryz
open Go.RowKit
theorem zjU:zgA (zbN []).1=none:=by decide
theorem programsLaw_any(A:OA)(n c:Nat)(sk:Bool)(w:World)(hl:LOK w w.heap.size A n)(ht:Tab w)(htn:Tn w):
 Calls prog 9 #[.slice A n c,.bool sk] w λe w'=>e=.returned (.bool true)/\Bw w w':=by
 have HL:=Hd hl;have HT:=Hd ht;have HTN:=Hd htn;have hts:=ht.lt;have htns:=htn.lt;clear hl ht htn;by_cases h1:n<=120
 case neg=>
  go_enter func9,ntmps9;go_wp2_with(first|(go_at_call 12;refine mo0 (cA _ _ _ h1 _) ?_)|(go_at_call 13;refine(bG _ HT.o HTN.o).mono ?_;rintro e w2 ⟨rfl,hb⟩;have HB:=Hd hb;clear hb));go_ret;exact⟨rfl,HB.o⟩
 have hlb:=iJ w w.heap.size none 0 [] ⟨rfl,Lq _,λh=>absurd h (by simp)⟩ (Le _);have hnw:=zjU;generalize(zbN []).1=L0 at hlb hnw;have HLB0:=Hd hlb;have HNW:=Hd hnw;clear hlb hnw;go_enter func9,ntmps9;go_wp2_with(go_at_call 12;refine mo0 (aZ _ _ _ h1 _) ?_);refine HLB0.o.mono ?_;rintro e w1 ⟨A1,A2,A3,c1,c2,c3,rfl,hz,hb⟩;have HB1:=Hd hb;have hnw:=lU w1 _ L0 sk A1 A2 A3 c1 c2 c3 hz (HT.o.below hb hts) (HTN.o.below hb htns);unfold ziG at hnw;rw[HNW.o]at hnw;have HN:=Hd hnw;clear hz hb hnw HLB0;go_wp2_with fail;refine HN.o.mono ?_;rintro e w2 ⟨hb,rfl⟩;have HB2:=Hd (HB1.o.tm hb);have HAW:=Hd (bG w2 (HT.o.below HB2.o hts) (HTN.o.below HB2.o htns));clear hb HN HB1;go_wp2_with fail;refine HAW.o.mono ?_;rintro e w3 ⟨rfl,hb⟩;have HB3:=Hd (HB2.o.tm hb);clear hb HAW HB2;go_wp2_with fail;refine(cX w3 w.heap.size HB3.o.size A n c).mono ?_;rintro e w4 ⟨rfl,hw4⟩;have HTP:Hid (zbO w4 w.heap.size w3.heap.size A n c):=by unfold Hid;rw[hw4];exact zbO.new w3 _ HB3.o.size A n c
 have hb4:Bw w3 w4:=by rw[hw4];exact nB _ _
 have HB4:=Hd (HB3.o.tm hb4);have hs3:=HB3.o.size;clear hw4 hb4 HB3;go_wp2_with fail;refine(ziO w.heap.size w3.heap.size A n c w4 (HL.o.below HB4.o) HTP.o HB4.o.size).mono ?_;rintro e w5 ⟨s,rfl,ho⟩;have HB5:Hid (Bw w w5):=HB4.o.trans (ho.below hs3 HB4.o.size);clear ho HTP HB4;go_wp2_with fail;refine(ziK s w5).mono ?_;rintro e w6 ⟨bl,er,_,A1,A2,A3,c1,c2,c3,rfl,hz,hb⟩;have hm:=rR bl;have HB6:=Hd (HB5.o.tm hb);generalize(zbN bl).1=L at hz hm;have HRU:=Hd (qbN w6 _ L sk A1 A2 A3 c1 c2 c3 hz hm (HT.o.below HB6.o hts) (HTN.o.below HB6.o htns));clear hz hm hb HB5;go_wp2_with fail;refine HRU.o.mono ?_;rintro e w7 ⟨rfl,hb⟩;have HB7:=Hd (HB6.o.tm hb);clear hb;go_wp2_with fail;go_ret;exact⟨rfl,HB7.o⟩
