/- Walks and laws, joined: Wb57. -/
import Derived.Test.YtdnjfnofjaoajaaGreatDoorWb55
import Derived.Test.YtdnjfnofjaoajaaGreatDoorWb33
import Derived.Test.YtdnjfnofjaoajaaGreatDoorWb44
import Derived.Test.YtdnjfnofjaoajaaGreatDoorWb36
import Derived.Test.YtdnjfnofjaoajaaGreatDoorWb35
set_option linter.unusedVariables false
set_option maxHeartbeats 16000000
namespace Go.Proofs.YtdnjfnofjaoajaaGreatDoor
open Lib (hid)
section
open Go.RowKit
theorem ycr (c:Kno):∀i,i<5→0≤zn (qv c) i:=fun i hi=>by
 rcases(by omega:i=0∨i=1∨i=2∨i=3∨i=4) with rfl | rfl | rfl | rfl | rfl <;> exact Int.natCast_nonneg _
theorem zyp (l:Lim):zbe l l=none:=zpu.2 fun i hi=>Int.le_refl _
theorem zyq {c:Kno} (hK:EncK c):LimsI (qv c):=by
 have h1:=zjb hK;have h2:=hK.len;have h3:=zwn hK;have h4:vp (fun i=>(za c i).2.length) c.length≤300:=zeh.2 fun i hi=>(hK.vec _ (yb hi)).len
 have h5:vp (fun i=>zbw (za c i).2) c.length≤500:=zeh.2 fun i hi=>zeh.2 fun j hj=>(hK.vec _ (yb hi)).holes _ (jb hj)
 have e:∀n:Nat,n<900000000000→I64 (n:Int):=fun n h=>⟨by omega,by omega⟩
 exact⟨e _ h1,e _ (by omega),e _ (by omega),e _ (by omega),e _ (by omega)⟩
theorem ycs {c:Kno} (hK:EncK c):zbe (qv c) unl=none:=by
 have h:=zyq hK;refine zpu.2 fun i hi=>?_
 rcases(by omega:i=0∨i=1∨i=2∨i=3∨i=4) with rfl | rfl | rfl | rfl | rfl
 · exact h.a.2
 · exact h.b.2
 · exact h.c.2
 · exact h.d.2
 · exact h.e.2
set_option maxRecDepth 100000 in
theorem yct (a:Option Addr) (n cap:Nat) (k:Kno) (w:World) (hE:Frags w a n cap k) (hD:Door w):
 Calls Tryz.prog 11 #[.slice a n cap] w fun e w'=>e=.returned (.bool true)∧Below w.heap.size w w':=by
 have HD:=hid (fun W (h:Below w.heap.size w W)=>hD.below (Nat.le_refl _) h);have HA:=hid (fun W (h:Below w.heap.size w W)=>zyn W (HD.out W h));have hF:=fun W (h:Below w.heap.size w W)=>zhe a n cap k W (hE.below h)
 have hR:=fun W (h:Below w.heap.size w W)=>zl3 a n cap k W (hE.below h)
 have HE:=hid (fun W (h:Below w.heap.size w W)=>hE.below h);have hall:=hE.all;clear hE hD
 cases hf:zcy k with
 | false=>
  rw[hf] at hF;have HF:=hid hF;clear hF hR hf hall;go_enter Tryz.func11,Tryz.ntmps11;go_wp2_with fail;refine(HF.out _ (Below.refl _ _)).mono ?_;rintro e w1 ⟨rfl,hb1⟩;have Hb1:=hid hb1;clear hb1;go_wp2_with fail;refine(HA.out _ Hb1.out).mono ?_;rintro e w2 ⟨rfl,hb2⟩;have Hb2:=hid (Hb1.out.trans (hb2.mono Hb1.out.size));clear hb2;go_wp2_with fail;go_ret
  exact⟨rfl,Hb2.out⟩
 | true=>
 rw[hf] at hF;have HF:=hid hF;clear hF
 cases hr:decide (ckF k=none) with
 | false=>
  rw[hr] at hR;have HR:=hid hR;clear hR hf hall hr;go_enter Tryz.func11,Tryz.ntmps11;go_wp2_with fail;refine(HF.out _ (Below.refl _ _)).mono ?_;rintro e w1 ⟨rfl,hb1⟩;have Hb1:=hid hb1;clear hb1;go_wp2_with fail;refine(HR.out _ Hb1.out).mono ?_;rintro e w2 ⟨rfl,hb2⟩;have Hb2:=hid (Hb1.out.trans (hb2.mono Hb1.out.size));clear hb2;go_wp2_with fail;refine(HA.out _ Hb2.out).mono ?_;rintro e w3 ⟨rfl,hb3⟩;have Hb3:=hid (Hb2.out.trans (hb3.mono Hb2.out.size));clear hb3;go_wp2_with fail;go_ret
  exact⟨rfl,Hb3.out⟩
 | true=>
 rw[hr] at hR;have HR:=hid hR;clear hR;rw[decide_eq_true_eq] at hr;obtain⟨k1,k2,k3,k4,k5,k6⟩:=zi9 hall hf hr;have hEn:=fun W (h:Below w.heap.size w W)=>zf4 a n cap k W (HE.out W h) (HD.out W h) hr k2 k3
 have hLe:=fun W (h:Below w.heap.size w W)=>zmb a n cap k W (HE.out W h) (HD.out W h) hr k2 k3
 have hF1:=fun W (h:Below w.heap.size w W)=>zmc a n cap k unl W (HE.out W h) (HD.out W h) hr k2 k3
 have hF2:=fun W (h:Below w.heap.size w W)=>zmc a n cap k (qv (zh k)) W (HE.out W h) (HD.out W h) hr k2 k3
 have hDe:=fun W b c (h:Byts W b (zo (zk (zh k))).length c (zo (zk (zh k)))) (hd:Door W)=>zyo b _ c (zh k) (qv (zh k)) W h hd k6 (zyq k6) (zjb k6)
 rw[zed k6 ((zym (ycr _)).2 (zyp _))] at hDe;have hdr:∀e W,zdv (.ok (zh k,(zo (zk (zh k))).length)) e W→∃aa cc,e=.returned (.tuple #[.slice aa (zh k).length cc,.nilIface])∧Frags W aa (zh k).length cc (zh k):=fun e W h=>h
 have hDe2:=fun W b c h hd=>(hDe W b c h hd).mono fun e w' ⟨h1,h2⟩=>(⟨h1,hdr e w' h2⟩:Below W.heap.size W w'∧_)
 unfold zjl at hF1 hF2;rw[ycs k6] at hF1;rw[zyp] at hF2;simp only[Option.map_none,yj,yl] at hF1 hF2;have hfr:(qv (zh k)).1=((zo (zk (zh k))).length:Nat):=rfl;generalize qv (zh k)=Lm at*;obtain⟨l0,l1,l2,l3,l4⟩:=Lm;simp only at hfr;subst hfr;unfold je at hLe hF1 hF2 hDe2;simp only at hLe hF1 hF2 hDe2;have HEn:=hid hEn;have HLe:=hid hLe;have HF1:=hid hF1;have HF2:=hid hF2;have HDe:=hid hDe2;clear hEn hLe hF1 hF2 hDe hDe2 hdr k1 k2 k3 k4 k5 k6 hr hall hf;generalize zo (zk (zh k))=L at*;generalize zh k=C at*;go_enter Tryz.func11,Tryz.ntmps11;go_wp2_with fail;refine(HF.out _ (Below.refl _ _)).mono ?_;rintro e w1 ⟨rfl,hb1⟩;have Hb1:=hid hb1;clear hb1;go_wp2_with fail;refine(HR.out _ Hb1.out).mono ?_;rintro e w2 ⟨rfl,hb2⟩;have Hb2:=hid (Hb1.out.trans (hb2.mono Hb1.out.size));clear hb2;go_wp2_with fail;refine(HEn.out _ Hb2.out).mono ?_;rintro e w3 ⟨⟨b,c,rfl,hB⟩,hb3⟩;have HB:=hid (fun V (h:Below w3.heap.size w3 V)=>hB.below h);have Hb3:=hid (Hb2.out.trans (hb3.mono Hb2.out.size));clear hb3 hB;go_wp2_with fail;refine(HLe.out _ Hb3.out).mono ?_;rintro e w4 ⟨rfl,hb4⟩;have hb4w:=Hb3.out.trans (hb4.mono Hb3.out.size);have hl:=(Below.refl w4.heap.size w4).alloc (Nat.le_refl _) (.cells #[.int .i64 (L.length:Nat),.int .i64 l1,.int .i64 l2,.int .i64 l3,.int .i64 l4] 42);have HX:=hid (zhg w4 (.int .i64 (L.length:Nat)) (.int .i64 l1) (.int .i64 l2) (.int .i64 l3) (.int .i64 l4) 42);have HB4:=hid (HB.out _ (hb4.trans (hl.mono hb4.size)));have Hb4:=hid (hb4w.trans (hl.mono hb4w.size));clear hb4 hb4w hl;go_wp2_with fail;generalize w4.alloc (.cells #[.int .i64 (L.length:Nat),.int .i64 l1,.int .i64 l2,.int .i64 l3,.int .i64 l4] 42)=W4 at*;refine(HDe.out W4 _ _ HB4.out (HD.out _ Hb4.out)).mono ?_;rintro e w5 ⟨hb5,aa,cc,rfl,-⟩;have HX5:=hid (fun w' (h:Below w5.heap.size w5 w')=>HX.out w' (hb5.trans (h.mono hb5.size)));have Hb5:=hid (Hb4.out.trans (hb5.mono Hb4.out.size));clear hb5 HX;go_wp2_with fail;refine(HA.out _ Hb5.out).mono ?_;rintro e w6 ⟨rfl,hb6⟩;obtain⟨x0,x1,x2,x3,x4⟩:=HX5.out _ hb6;have HX6:=hid (fun w' (h:Below w6.heap.size w6 w')=>HX5.out w' (hb6.trans (h.mono hb6.size)));have Hb6:=hid (Hb5.out.trans (hb6.mono Hb5.out.size));clear hb6 HX5;go_wp2_with fail;clear x0 x1 x2 x3 x4;refine(zw0 _).mono ?_;rintro e w7 ⟨rfl,hb7⟩;have HX7:=hid (fun w' (h:Below w7.heap.size w7 w')=>HX6.out w' (hb7.trans (h.mono hb7.size)));have Hb7:=hid (Hb6.out.trans (hb7.mono Hb6.out.size));clear hb7 HX6;unfold lmV;go_wp2_with fail;refine(HF1.out _ Hb7.out).mono ?_;rintro e w8 ⟨rfl,hb8⟩;obtain⟨x0,x1,x2,x3,x4⟩:=HX7.out _ hb8;have Hb8:=hid (Hb7.out.trans (hb8.mono Hb7.out.size));clear hb8 HX7;go_wp2_with fail;clear x0 x1 x2 x3 x4;refine(HF2.out _ Hb8.out).mono ?_;rintro e w9 ⟨rfl,hb9⟩;have Hb9:=hid (Hb8.out.trans (hb9.mono Hb8.out.size));clear hb9;go_wp2_with fail;go_ret;exact⟨rfl,Hb9.out⟩
end
end Go.Proofs.YtdnjfnofjaoajaaGreatDoor
