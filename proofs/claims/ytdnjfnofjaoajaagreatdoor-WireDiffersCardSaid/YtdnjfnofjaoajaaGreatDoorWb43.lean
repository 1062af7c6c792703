/- Walks and laws, joined: Wb43. -/
import Derived.Test.YtdnjfnofjaoajaaGreatDoorWb34
import Derived.Test.YtdnjfnofjaoajaaGreatDoorWb42
import Derived.Test.YtdnjfnofjaoajaaGreatDoorWb36
import Derived.Test.YtdnjfnofjaoajaaGreatDoorWb35
set_option linter.unusedVariables false
set_option maxHeartbeats 16000000
namespace Go.Proofs.YtdnjfnofjaoajaaGreatDoor
open Lib (hid)
section
open Go.RowKit
attribute [local go_sem] vq
theorem z9x (x a r:Int) (w:World):Calls Tryz.prog 30 #[.pointer none,.int .u64 x,.int .i64 a,.int .i64 r] w fun e w'=>e=.returned (.tuple #[.bool true,.iface 34 (.int .i64 1)])∧w=w':=by
 go_enter Tryz.func30,Tryz.ntmps30;go_wp2_with fail;go_ret2;exact⟨rfl,rfl⟩
set_option maxRecDepth 20000 in
theorem z9y (w:World):Calls Tryz.prog 31 #[.pointer none] w fun e w'=>e=.returned (.slice none 0 0)∧w=w':=by
 go_enter Tryz.func31,Tryz.ntmps31;go_wp2_with fail;go_ret;exact⟨rfl,rfl⟩
end
section
open Go.RowKit
theorem z9z (w:World) (hD:Door w):Calls Tryz.prog 16 #[.iface 34 (.int .i64 1)] w fun e w'=>e=.returned (.int .i64 1)∧Below w.heap.size w w':=zci (some (1,none)) w hD
set_option maxRecDepth 100000 in
theorem z90 (a:Option Addr) (n cap:Nat) (k:Kno) (a':Option Addr) (n' cap':Nat) (k':Kno) (w:World) (hE:Frags w a n cap k) (hE':Frags w a' n' cap' k') (hD:Door w):
 Calls Tryz.prog 7 #[.slice a n cap,.slice a' n' cap'] w fun e w'=>e=.returned (.bool true)∧Below w.heap.size w w':=by
 have HD:=hid (fun W (h:Below w.heap.size w W)=>hD.below (Nat.le_refl _) h);have HA:=hid (fun W (h:Below w.heap.size w W)=>zl2 W (HD.out W h));have hF:=fun W (h:Below w.heap.size w W)=>zhe a n cap k W (hE.below h)
 have hF':=fun W (h:Below w.heap.size w W)=>zhe a' n' cap' k' W (hE'.below h)
 have hR:=fun W (h:Below w.heap.size w W)=>zl3 a n cap k W (hE.below h)
 have hR':=fun W (h:Below w.heap.size w W)=>zl3 a' n' cap' k' W (hE'.below h)
 have HE:=hid (fun W (h:Below w.heap.size w W)=>hE.below h);have HE':=hid (fun W (h:Below w.heap.size w W)=>hE'.below h);have hall:=hE.all;have hall':=hE'.all;clear hE hE' hD
 cases hf:zcy k with
 | false=>
  rw[hf] at hF;have HF:=hid hF;clear hF hF' hR hR' hf hall hall';go_enter Tryz.func7,Tryz.ntmps7;go_wp2_with fail;refine(HF.out _ (Below.refl _ _)).mono ?_;rintro e w1 ⟨rfl,hb1⟩;have Hb1:=hid hb1;clear hb1;go_wp2_with fail;refine(HA.out _ Hb1.out).mono ?_;rintro e w2 ⟨rfl,hb2⟩;have Hb2:=hid (Hb1.out.trans (hb2.mono Hb1.out.size));clear hb2;go_wp2_with fail;go_ret
  exact⟨rfl,Hb2.out⟩
 | true=>
 rw[hf] at hF;have HF:=hid hF;clear hF
 cases hf':zcy k' with
 | false=>
  rw[hf'] at hF';have HF':=hid hF';clear hF' hR hR' hf hf' hall hall';go_enter Tryz.func7,Tryz.ntmps7;go_wp2_with fail;refine(HF.out _ (Below.refl _ _)).mono ?_;rintro e w1 ⟨rfl,hb1⟩;have Hb1:=hid hb1;clear hb1;go_wp2_with fail;refine(HF'.out _ Hb1.out).mono ?_;rintro e w2 ⟨rfl,hb2⟩;have Hb2:=hid (Hb1.out.trans (hb2.mono Hb1.out.size));clear hb2;go_wp2_with fail;refine(HA.out _ Hb2.out).mono ?_;rintro e w3 ⟨rfl,hb3⟩;have Hb3:=hid (Hb2.out.trans (hb3.mono Hb2.out.size));clear hb3;go_wp2_with fail;go_ret
  exact⟨rfl,Hb3.out⟩
 | true=>
 rw[hf'] at hF';have HF':=hid hF';clear hF'
 cases hr:decide (ckF k=none) with
 | false=>
  rw[hr] at hR;have HR:=hid hR;clear hR hR' hf hf' hall hall' hr;go_enter Tryz.func7,Tryz.ntmps7;go_wp2_with fail;refine(HF.out _ (Below.refl _ _)).mono ?_;rintro e w1 ⟨rfl,hb1⟩;have Hb1:=hid hb1;clear hb1;go_wp2_with fail;refine(HF'.out _ Hb1.out).mono ?_;rintro e w2 ⟨rfl,hb2⟩;have Hb2:=hid (Hb1.out.trans (hb2.mono Hb1.out.size));clear hb2;go_wp2_with fail;refine(HR.out _ Hb2.out).mono ?_;rintro e w3 ⟨rfl,hb3⟩;have Hb3:=hid (Hb2.out.trans (hb3.mono Hb2.out.size));clear hb3;go_wp2_with fail;refine(HA.out _ Hb3.out).mono ?_;rintro e w4 ⟨rfl,hb4⟩;have Hb4:=hid (Hb3.out.trans (hb4.mono Hb3.out.size));clear hb4;go_wp2_with fail;go_ret
  exact⟨rfl,Hb4.out⟩
 | true=>
 rw[hr] at hR;have HR:=hid hR;clear hR;rw[decide_eq_true_eq] at hr
 cases hr':decide (ckF k'=none) with
 | false=>
  rw[hr'] at hR';have HR':=hid hR';clear hR' hf hf' hall hall' hr hr';go_enter Tryz.func7,Tryz.ntmps7;go_wp2_with fail;refine(HF.out _ (Below.refl _ _)).mono ?_;rintro e w1 ⟨rfl,hb1⟩;have Hb1:=hid hb1;clear hb1;go_wp2_with fail;refine(HF'.out _ Hb1.out).mono ?_;rintro e w2 ⟨rfl,hb2⟩;have Hb2:=hid (Hb1.out.trans (hb2.mono Hb1.out.size));clear hb2;go_wp2_with fail;refine(HR.out _ Hb2.out).mono ?_;rintro e w3 ⟨rfl,hb3⟩;have Hb3:=hid (Hb2.out.trans (hb3.mono Hb2.out.size));clear hb3;go_wp2_with fail;refine(HR'.out _ Hb3.out).mono ?_;rintro e w3 ⟨rfl,hb4⟩;have Hb4:=hid (Hb3.out.trans (hb4.mono Hb3.out.size));clear hb4;go_wp2_with fail;refine(HA.out _ Hb4.out).mono ?_;rintro e w5 ⟨rfl,hb5⟩;have Hb5:=hid (Hb4.out.trans (hb5.mono Hb4.out.size));clear hb5;go_wp2_with fail;go_ret
  exact⟨rfl,Hb5.out⟩
 | true=>
 rw[hr'] at hR';have HR':=hid hR';clear hR';rw[decide_eq_true_eq] at hr';obtain⟨k1,k2,k3,k4,k5,k6⟩:=zi9 hall hf hr;obtain⟨q1,q2,q3,q4,q5,q6⟩:=zi9 hall' hf' hr';have hEn:=fun W (h:Below w.heap.size w W)=>zf4 a n cap k W (HE.out W h) (HD.out W h) hr k2 k3
 have hEn':=fun W (h:Below w.heap.size w W)=>zf4 a' n' cap' k' W (HE'.out W h) (HD.out W h) hr' q2 q3
 have hCa:=fun W (h:Below w.heap.size w W)=>zpi a n cap k W (HE.out W h) k1 k4 k5
 have hCa':=fun W (h:Below w.heap.size w W)=>zpi a' n' cap' k' W (HE'.out W h) q1 q4 q5
 have hiff:decide (zh k=zh k')=decide (zo (zk (zh k))=zo (zk (zh k'))):=by
  by_cases h:zh k=zh k'
  · rw[decide_eq_true h,decide_eq_true (by rw[h])]
  · rw[decide_eq_false h,decide_eq_false (fun e=>h (z7o k6 q6 e))]
 have hEq:=fun W b c b' c' (h:Byts W b (zo (zk (zh k))).length c (zo (zk (zh k)))) (h':Byts W b' (zo (zk (zh k'))).length c' (zo (zk (zh k'))))=>zi7 b b' _ c _ c' _ _ W h h' _ hiff
 have hSm:=fun W b c b' c' (h:Frags W b (zh k).length c (zh k)) (h':Frags W b' (zh k').length c' (zh k'))=>zl0 b b' _ c _ c' _ _ W h h'
 unfold zph at hCa hCa';generalize decide (zh k=zh k')=B at*;generalize zo (zk (zh k))=L at*;generalize zo (zk (zh k'))=L' at*;generalize zh k=C at*;generalize zh k'=C' at*;have HEn:=hid hEn;have HEn':=hid hEn';have HCa:=hid hCa;have HCa':=hid hCa';have HEq:=hid hEq;have HSm:=hid hSm;clear hEn hEn' hCa hCa' hEq hSm k1 k2 k3 k4 k5 k6 q1 q2 q3 q4 q5 q6 hr hr' hall hall' hf hf' hiff;go_enter Tryz.func7,Tryz.ntmps7;go_wp2_with fail;refine(HF.out _ (Below.refl _ _)).mono ?_;rintro e w1 ⟨rfl,hb1⟩;have Hb1:=hid hb1;clear hb1;go_wp2_with fail;refine(HF'.out _ Hb1.out).mono ?_;rintro e w2 ⟨rfl,hb2⟩;have Hb2:=hid (Hb1.out.trans (hb2.mono Hb1.out.size));clear hb2;go_wp2_with fail;refine(HR.out _ Hb2.out).mono ?_;rintro e w3 ⟨rfl,hb3⟩;have Hb3:=hid (Hb2.out.trans (hb3.mono Hb2.out.size));clear hb3;go_wp2_with fail;refine(HR'.out _ Hb3.out).mono ?_;rintro e w4 ⟨rfl,hb4⟩;have Hb4:=hid (Hb3.out.trans (hb4.mono Hb3.out.size));clear hb4;go_wp2_with fail;refine(HEn.out _ Hb4.out).mono ?_;rintro e w5 ⟨⟨a5,c5,rfl,hB5⟩,hb5⟩;have HB5:=hid (fun V (h:Below w5.heap.size w5 V)=>hB5.below h);have Hb5:=hid (Hb4.out.trans (hb5.mono Hb4.out.size));clear hb5 hB5;go_wp2_with fail;refine(HEn'.out _ Hb5.out).mono ?_;rintro e w6 ⟨⟨a6,c6,rfl,hB6⟩,hb6⟩;have HB56:=hid (fun V (h:Below w6.heap.size w6 V)=>HB5.out V (hb6.trans (h.mono hb6.size)));have HB6:=hid (fun V (h:Below w6.heap.size w6 V)=>hB6.below h);have Hb6:=hid (Hb5.out.trans (hb6.mono Hb5.out.size));clear hb6 hB6;go_wp2_with fail;refine(z9x 0 0 0 _).mono ?_;rintro e w7 ⟨rfl,rfl⟩;go_wp2_with fail;refine(HA.out _ Hb6.out).mono ?_;rintro e w7 ⟨rfl,hb7⟩;have H67:=hid hb7;have Hb7:=hid (Hb6.out.trans (hb7.mono Hb6.out.size));clear hb7;go_wp2_with fail;refine(HEq.out w7 a5 c5 a6 c6 (HB56.out _ H67.out) (HB6.out _ H67.out)).mono ?_;rintro e w8 ⟨rfl,q8,rfl⟩;have Hb8:=hid (ye Hb7.out q8);generalize World.drewN _ q8=w8 at*;go_wp2_with fail;refine(HCa.out _ Hb8.out).mono ?_;rintro e w9 ⟨⟨a9,c9,rfl,hK9⟩,hb9⟩;have HK9:=hid (fun V (h:Below w9.heap.size w9 V)=>hK9.below h);have Hb9:=hid (Hb8.out.trans (hb9.mono Hb8.out.size));clear hb9 hK9;go_wp2_with fail;refine(HCa'.out _ Hb9.out).mono ?_;rintro e w10 ⟨⟨a10,c10,rfl,hK10⟩,hb10⟩;have HK910:=hid (HK9.out _ hb10);have HK10:=hid hK10;have Hb10:=hid (Hb9.out.trans (hb10.mono Hb9.out.size));clear hb10 hK10;go_wp2_with fail;refine(HSm.out w10 a9 c9 a10 c10 HK910.out HK10.out).mono ?_;rintro e w11 ⟨rfl,hb11⟩;have Hb11:=hid (Hb10.out.trans (hb11.mono Hb10.out.size));clear hb11;have hBB:(B == B)=true:=by cases B <;> rfl
 go_wp2_with fail;refine(z9z _ (HD.out _ Hb11.out)).mono ?_;rintro e w12 ⟨rfl,hb12⟩;have Hb12:=hid (Hb11.out.trans (hb12.mono Hb11.out.size));clear hb12;go_wp2_with fail;refine(z9y _).mono ?_;rintro e w13 ⟨rfl,rfl⟩;go_wp2_with fail;go_ret;exact⟨rfl,Hb12.out⟩
end
end Go.Proofs.YtdnjfnofjaoajaaGreatDoor
