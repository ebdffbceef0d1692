/- The walk of. -/
import Derived.Test.YtdcjbhdfphcefaaGreatDoorRlk
import Derived.Test.YtdcjbhdfphcefaaGreatDoorFl
namespace Go.Proofs.YtdcjbhdfphcefaaGreatDoor
set_option linter.all false
set_option maxRecDepth 100000
set_option maxHeartbeats 16000000
open Go.Proofs.Tryz
open Go.RowKit
theorem runsLaw_any(A:OA)(n c:Nat)(sk:Bool)(w:World)(hl:LOK w w.heap.size A n)(ht:Tab w)(htn:Tn w):
 Calls prog 8 #[.slice A n c,.bool sk] w fun e w'=>e=.returned (.bool true)∧Bw w w':=by
 have HL:=Hd hl;have HT:=Hd ht;have HTN:=Hd htn;have hts:=ht.lt;have htns:=htn.lt;clear hl ht htn;by_cases h1:n≤120
 case neg=>
  go_enter func8,ntmps8;go_wp2_with(first|(go_at_call 12;refine mo0 (cA _ _ _ h1 _) ?_)|(go_at_call 13;refine(bG _ HT.o HTN.o).mono ?_;rintro e w2 ⟨rfl,hb⟩;have HB:=Hd hb;clear hb));go_ret;exact⟨rfl,HB.o⟩
 go_enter func8,ntmps8;go_wp2_with(first|(go_at_call 12;refine mo0 (aZ _ _ _ h1 _) ?_)|(go_at_call 13;refine(bG _ HT.o HTN.o).mono ?_;rintro e w1 ⟨rfl,hb⟩;have HB1:=Hd hb;clear hb));refine(cX w1 w.heap.size HB1.o.size A n c).mono ?_;rintro e w2 ⟨rfl,hw2⟩;have HTP:Hid (TapeOK w2 w.heap.size w1.heap.size A n c):=by unfold Hid;rw[hw2];exact TapeOK.new w1 _ HB1.o.size A n c
 have hb2:Bw w1 w2:=by rw[hw2];exact nB _ _
 have HB2:=Hd (HB1.o.tm hb2);clear hw2 hb2;go_wp2_with fail;refine(lV w.heap.size w1.heap.size A n c w2 (HL.o.below HB2.o) HTP.o HB2.o.size).mono ?_;rintro e w3 ⟨bl,C,cp,xs,rfl,hbl,hbk,htp,hon⟩;have HB3:Hid (Bw w w3):=HB2.o.trans (hon.below HB1.o.size HB2.o.size);have hm:=rR bl;have hlb:=iJ w3 w3.heap.size C cp bl (hbk.rd (by unfold maxLen;omega)) (Le _);generalize(buildS bl).1=L at hlb hm;have HLB:=Hd hlb;have HM:=Hd hm;clear hlb hm hbk htp hon HTP HB2;go_wp2_with fail;refine HLB.o.mono ?_;rintro e w4 ⟨A1,A2,A3,c1,c2,c3,rfl,hz,hb⟩;have HB4:=Hd (HB3.o.tm hb);have HRU:=Hd (qbN w4 _ L sk A1 A2 A3 c1 c2 c3 hz HM.o (HT.o.below HB4.o hts) (HTN.o.below HB4.o htns));clear hz hb HLB;go_wp2_with fail;refine HRU.o.mono ?_;rintro e w5 ⟨rfl,hb⟩;have HB5:=Hd (HB4.o.tm hb);clear hb;go_wp2_with fail;go_ret;exact⟨rfl,HB5.o⟩
