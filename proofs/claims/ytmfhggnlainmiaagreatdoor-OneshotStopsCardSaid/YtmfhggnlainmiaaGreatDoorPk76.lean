/- Part 76. -/
import Derived.Test.YtmfhggnlainmiaaGreatDoorPk56
import Derived.Test.YtmfhggnlainmiaaGreatDoorPk75
set_option linter.unusedVariables false
set_option maxHeartbeats 16000000
namespace Go.Proofs.YtmfhggnlainmiaaGreatDoor
open Lib (hid)
section
abbrev exO:List Nat:=zaa [0,0]++zaa [0,0]
theorem z5i:kp (fun _=>[0,0]) 2=exO:=rfl
theorem z5j:exO.length=24:=by decide +kernel
set_option maxRecDepth 100000 in
theorem ykg:qo exO unl 0=.ok ([],12):=by kernel_rfl
set_option maxRecDepth 100000 in
theorem ykh:qo exO unl 12=.ok ([],24):=by kernel_rfl
set_option maxRecDepth 100000 in
theorem yki:qo exO unl 24=.error (0,24):=by kernel_rfl
set_option maxRecDepth 100000 in
theorem ykj:qo (exO.take 23) unl 0=.ok ([],12):=by kernel_rfl
set_option maxRecDepth 100000 in
theorem ykk:qo (exO.take 23) unl 12=.error (0,12):=by kernel_rfl
theorem ykl:kq exO unl [[],[]] [12,24] (0,24):=⟨24,⟨ykg,ykh,rfl⟩,yki⟩
theorem ykm:kq (exO.take 23) unl [[]] [12] (0,12):=⟨12,⟨ykj,rfl⟩,ykk⟩
end
section
open Go.RowKit
attribute [local go_sem] y9 Tryz.eqGuard_if
set_option maxRecDepth 20000 in
theorem z5k (a:Option Addr) (n cap:Nat) (l:List Nat) (L:zc) (w:World) (hB:Byts w a n cap l) (hD:Door w) (hL:LimsI L) (hn:n≤900000000000):
 Calls Tryz.prog 58 #[.slice a n cap,lmV L] w fun e w'=>(∃ks es x E,kq l L ks es x∧e=.returned E∧w'.ownsRow w.heap.size 3 1 E es.length (qi es))∧Below w.heap.size w w':=by
 have HO:=hid (fun W (h:Below w.heap.size w W)=>z2l a n cap l L W (hB.below h) (hD.below (Nat.le_refl _) h) hL hn);unfold lmV at HO ⊢;obtain⟨wB,hwB⟩:∃wB,wB=w.alloc (.cells #[.int .i64 L.1,.int .i64 L.2.1,.int .i64 L.2.2.1,.int .i64 L.2.2.2.1,.int .i64 L.2.2.2.2] 24):=⟨_,rfl⟩;have HbB:=hid (show Below w.heap.size w wB from by rw[hwB];exact(Below.refl _ w).alloc (Nat.le_refl _) _);have HG0:=hid (show Row wB w.heap.size 24 [.int .i64 L.1,.int .i64 L.2.1,.int .i64 L.2.2.1,.int .i64 L.2.2.2.1,.int .i64 L.2.2.2.2] from by rw[hwB];exact y7 w _ _);have HwB:=hid hwB;have l0:=HG0.out.cell 0 rfl;have l1:=HG0.out.cell 1 rfl;have l2:=HG0.out.cell 2 rfl;have l3:=HG0.out.cell 3 rfl;have l4:=HG0.out.cell 4 rfl;have Hgb:=hid HbB.out.size;clear hwB hB hD hL hn;go_enter Tryz.func58,Tryz.ntmps58;go_upto_region 1 with fail
 rw[←HwB.out];go_wp2_with fail;refine(HO.out _ HbB.out).mono ?_;rintro e w1 ⟨⟨ks,es,x,V,E,hP,rfl,hK,hE⟩,hb1⟩;have Hb1:=hid (HbB.out.trans (hb1.mono Hgb.out));have Hsz1:=hid (Nat.le_trans Hgb.out hb1.size);have HE:=hid (qt hE Hgb.out);have HP:=hid hP;clear hb1 hK hE hP l0 l1 l2 l3 l4;go_wp2_with fail;go_ret;have hal:=(Below.refl w1.heap.size w1).alloc (Nat.le_refl _) (.cells #[.int .i64 (x.1:Int),.int .i64 (x.2:Int)] 29);exact⟨⟨ks,es,x,_,HP.out,rfl,zm HE.out hal⟩,Hb1.out.trans (hal.mono Hsz1.out)⟩
end
section
open Go.RowKit
attribute [local go_sem] y9 Tryz.eqGuard_if
set_option maxRecDepth 100000 in
theorem zvj (w:World) (hD:Door w):Calls Tryz.prog 53 #[] w fun e w'=>e=.returned (.bool true)∧Below w.heap.size w w':=by
 have HD:=hid (fun V (h:Below w.heap.size w V)=>hD.below (Nat.le_refl _) h);obtain⟨W,hW⟩:∃W,W=w.alloc (.cells #[.slice none 0 0,.slice none 0 0] 48):=⟨_,rfl⟩;have hal:Below w.heap.size w W:=by rw[hW];exact(Below.refl _ _).alloc (Nat.le_refl _) _
 have hcl:∀i,i<2→W.cell? ⟨w.heap.size,0+i,none⟩=some (.slice none 0 0):=by
  have hr:=y7 w 48 [.slice none 0 0,.slice none 0 0];rw[hW];intro i hi;rcases(by omega:i=0∨i=1) with rfl | rfl
  · exact hr.cell 0 rfl
  · exact hr.cell 1 rfl
 have hlen:∀i,i≤2→(kp (fun _=>[0,0]) i).length≤1000000000000:=by
  intro i hi;rcases(by omega:i=0∨i=1∨i=2) with rfl | rfl | rfl
  · decide
  · rw[zs0];decide +kernel
  · rw[z5i,z5j];decide
 have hEn:=zoz w.heap.size 0 2 2 (fun _=>.slice none 0 0) (fun _=>[0,0]) W hcl (by omega) (by omega) (fun i hi V hV=>z0y V (HD.out _ (hal.trans (hV.mono hal.size)))) (fun i hi=>by decide) hlen;obtain⟨L0,hL0,hL1,hpa,hpc,hlt⟩:∃L0,kp (fun _=>[0,0]) 2=L0∧L0.length=24∧kq L0 unl [[],[]] [12,24] (0,24)∧kq (L0.take 23) unl [[]] [12] (0,12)∧∀x∈L0,x<256:=⟨exO,z5i,z5j,ykl,ykm,by decide +kernel⟩;rw[hL0,hL1] at hEn;have HEn:=hid hEn;have HP:=hid (fun V a n c l (hB:Byts V a n c l) (h:Below w.heap.size w V) (hn:n≤900000000000)=>zmg a n c l unl V hB (HD.out _ h) zg0 hn);have HN:=hid (fun V a n c l (hB:Byts V a n c l) (h:Below w.heap.size w V) (hn:n≤900000000000)=>z5k a n c l unl V hB (HD.out _ h) zg0 hn);have HU:=hid (fun V=>zo2 V);have HW:=hid hW;have Hal:=hid hal;have Hlt:=hid hlt;have Hsz:=hid hal.size;unfold lmV at HP HN HU;have HPa:=hid hpa;have HPc:=hid hpc;clear hEn hW hal hcl hlen hD hlt hL0 hL1 hpa hpc;go_enter Tryz.func53,Tryz.ntmps53;go_wp2_with fail;rw[←HW.out];refine HEn.out.mono ?_;rintro e w1 ⟨⟨v1,rfl,ho1⟩,hb1⟩;have Hb1:=hid (Hal.out.trans (hb1.mono Hal.out.size));obtain⟨a1,c1,rfl,hB1⟩:=zbk ho1 Hlt.out;have HB1:=hid hB1;have Hs1:=hid (Nat.le_trans Hsz.out hb1.size);clear hb1 ho1 hB1;go_wp2_with fail;refine(HU.out _).mono ?_;rintro e w2 ⟨rfl,hb2⟩;have HB2:=hid (HB1.out.below hb2);have Hb2:=hid (Hb1.out.trans (hb2.mono Hs1.out));have Hs2:=hid (Nat.le_trans Hs1.out hb2.size);clear hb2;go_wp2_with fail;refine(HP.out w2 _ _ _ _ HB2.out Hb2.out (by omega)).mono ?_;rintro e w3 ⟨⟨ks,es,x,V,hP,rfl,hK⟩,hb3⟩;obtain⟨rfl,rfl,rfl⟩:=zdl HPa.out hP;obtain⟨ka,kc,rfl⟩:=hK.slice;have hl2:([[],[]]:List Kno).length=2:=rfl;have HB3:=hid (HB2.out.below hb3);have Hb3:=hid (Hb2.out.trans (hb3.mono Hs2.out));have Hs3:=hid (Nat.le_trans Hs2.out hb3.size);clear hb3 hP hK;obtain⟨wC,hwC⟩:∃wC,wC=w3.alloc (.cells #[.int .i64 0,.int .i64 24] 29):=⟨_,rfl⟩;have hbC:=(Below.refl w3.heap.size w3).alloc (Nat.le_refl _) (.cells #[.int .i64 0,.int .i64 24] 29);rw[←hwC] at hbC;have HX:=hid (show Row wC w3.heap.size 29 [.int .i64 0,.int .i64 24] from by rw[hwC];exact y7 w3 29 _);have HwC:=hid hwC;have HBC:=hid (HB3.out.below hbC);have HbC:=hid (Hb3.out.trans (hbC.mono Hs3.out));have HsC:=hid (Nat.le_trans Hs3.out hbC.size);obtain⟨b,o,rfl,-⟩:=HBC.out.cells (by omega);have hcr:=HBC.out.room;have hc0:¬c1=0:=by omega
 have hc23:23≤c1:=by omega
 clear hwC hbC;go_upto_region 5 with fail
 rw[←HwC.out];generalize w3.heap.size=g at*
 have HBx:=hid (fun V (h:Below wC.heap.size wC V)=>show Byts V (some ⟨b,o,none⟩) 23 c1 (L0.take 23) from by
  have hx:=(HBC.out.below h).sub 0 23 (by omega) (by omega) (by omega);rwa [Nat.add_zero,Nat.sub_zero,Nat.sub_zero,List.drop_zero] at hx)
 have HBa:=hid (fun V (h:Below wC.heap.size wC V)=>HBC.out.below h);have HXa:=hid (fun V (h:Below wC.heap.size wC V)=>HX.out.later h);have Hba:=hid (fun V (h:Below wC.heap.size wC V)=>HbC.out.trans (h.mono HsC.out))
 go_region_with (first
  | (go_at_call 52;refine(HU.out _).mono ?_;rintro e w5 ⟨rfl,hb5⟩
     first
     | (have Hb5:=hid (show Below wC.heap.size wC w5 from(Below.refl wC.heap.size wC).drew.trans hb5);clear hb5)
     | (have Hb5:=hid (show Below wC.heap.size wC w5 from((Below.refl wC.heap.size wC).drew.alloc (Nat.le_refl _) _).trans (hb5.mono (by simp)))
        have HR5:=hid (show Row w5 wC.heap.size 29 [.int .i64 0,.int .i64 0] from(y7 wC.drew 29 [.int .i64 0,.int .i64 0]).later hb5)
        clear hb5))
  | (go_at_call 15
     first
     | (refine(HP.out w5 _ _ _ _ (HBx.out _ Hb5.out) (Hba.out _ Hb5.out) (by omega)).mono ?_
        rintro e w6 ⟨⟨ks2,es2,x2,V2,hP2,rfl,hK2⟩,hb6⟩;obtain⟨rfl,rfl,rfl⟩:=zdl HPc.out hP2;obtain⟨k2a,k2c,rfl⟩:=hK2.slice;have hl1:([[]]:List Kno).length=1:=rfl;have Hb6:=hid (show Below wC.heap.size wC w6 from Hb5.out.trans (hb6.mono Hb5.out.size))
        try have HR6:=hid (show Row w6 wC.heap.size 29 [.int .i64 0,.int .i64 0] from HR5.out.later hb6)
        try (have d0:=HR6.out.cell 0 rfl;have d1:=HR6.out.cell 1 rfl;have e0:=HR6.out.fz 0;have e1:=HR6.out.fz 1)
        clear hb6 hP2 hK2)
     | (refine(HP.out (w5.alloc (.cells #[.int .i64 0,.int .i64 0] 29)) _ _ _ _ (HBx.out _ (Hb5.out.alloc Hb5.out.size _)) (Hba.out _ (Hb5.out.alloc Hb5.out.size _)) (by omega)).mono ?_
        rintro e w6 ⟨⟨ks2,es2,x2,V2,hP2,rfl,hK2⟩,hb6⟩;obtain⟨rfl,rfl,rfl⟩:=zdl HPc.out hP2;obtain⟨k2a,k2c,rfl⟩:=hK2.slice;have hl1:([[]]:List Kno).length=1:=rfl;have Hb6:=hid (show Below wC.heap.size wC w6 from(Hb5.out.alloc Hb5.out.size _).trans (hb6.mono (by have:=Hb5.out.size;simp only[World.size_alloc];omega)));have HR6:=hid (show Row w6 w5.heap.size 29 [.int .i64 0,.int .i64 0] from(y7 w5 29 [.int .i64 0,.int .i64 0]).later hb6);have d0:=HR6.out.cell 0 rfl;have d1:=HR6.out.cell 1 rfl;have e0:=HR6.out.fz 0;have e1:=HR6.out.fz 1;clear hb6 hP2 hK2)))
 all_goals
  first
  | (have HY0:=hid (y7 w6 29 [.int .i64 0,.int .i64 12])
     have HbE0:=hid (Hb6.out.alloc Hb6.out.size (.cells #[.int .i64 0,.int .i64 12] 29));obtain⟨wE,hwE⟩:∃wE,w6.alloc (.cells #[.int .i64 0,.int .i64 12] 29)=wE:=⟨_,rfl⟩;rw[hwE];have HY:=hid (show Row wE w6.heap.size 29 [.int .i64 0,.int .i64 12] from hwE ▸ HY0.out);have HbE:=hid (show Below wC.heap.size wC wE from hwE ▸ HbE0.out);clear HY0 HbE0 hwE Hb6;generalize w6.heap.size=r at*
     skip)
  | (have HY0:=hid ((HR6.out.set 0 (.int .i64 0)).set 1 (.int .i64 12))
     have HbE0:=hid (zmf Hb6.out (i:=0) (j:=1) (x:=.int .i64 0) (y:=.int .i64 12) (show wC.heap.size≤wC.heap.size from Nat.le_refl _));obtain⟨wE,hwE⟩:∃wE,(w6.setCell ⟨wC.heap.size,0,none⟩ (.int .i64 0)).setCell ⟨wC.heap.size,1,none⟩ (.int .i64 12)=wE:=⟨_,rfl⟩;rw[hwE];have HY:=hid (show Row wE wC.heap.size 29 [.int .i64 0,.int .i64 12] from hwE ▸ HY0.out);have HbE:=hid (show Below wC.heap.size wC wE from hwE ▸ HbE0.out);clear HY0 HbE0 hwE Hb6 HR6 d0 d1 e0 e1;generalize wC.heap.size=r at HY ⊢
     skip)
  | (have HY0:=hid ((HR6.out.set 0 (.int .i64 0)).set 1 (.int .i64 12))
     have HbE0:=hid (zmf Hb6.out (i:=0) (j:=1) (x:=.int .i64 0) (y:=.int .i64 12) Hb5.out.size);obtain⟨wE,hwE⟩:∃wE,(w6.setCell ⟨w5.heap.size,0,none⟩ (.int .i64 0)).setCell ⟨w5.heap.size,1,none⟩ (.int .i64 12)=wE:=⟨_,rfl⟩;rw[hwE];have HY:=hid (show Row wE w5.heap.size 29 [.int .i64 0,.int .i64 12] from hwE ▸ HY0.out);have HbE:=hid (show Below wC.heap.size wC wE from hwE ▸ HbE0.out);clear HY0 HbE0 hwE Hb6 HR6 d0 d1 e0 e1;generalize w5.heap.size=r at HY ⊢
     skip)
  have HBE:=hid (HBa.out _ HbE.out);have HE:=hid (Hba.out _ HbE.out);have HsE:=hid (show w.heap.size≤wE.heap.size from HE.out.size);have y0:=HY.out.cell 0 rfl;have y1:=HY.out.cell 1 rfl;have x0:=(HXa.out _ HbE.out).cell 0 rfl;have x1:=(HXa.out _ HbE.out).cell 1 rfl;go_wp2_with fail;refine(HU.out _).mono ?_;rintro e w8 ⟨rfl,hb8⟩;have HB8:=hid (HBE.out.below hb8);have H8:=hid (HE.out.trans (hb8.mono HsE.out));have Hs8:=hid (Nat.le_trans HsE.out hb8.size);clear hb8 y0 y1 x0 x1;go_wp2_with fail;refine(HN.out w8 _ _ _ _ HB8.out H8.out (by omega)).mono ?_;rintro e w9 ⟨⟨ks3,es3,x3,E3,hP3,rfl,ho3⟩,hb9⟩;obtain⟨rfl,rfl,rfl⟩:=zdl HPa.out hP3;have H9:=hid (H8.out.trans (hb9.mono Hs8.out));have Ho3:=hid ho3;have Hs9:=hid (Nat.le_trans Hs8.out hb9.size);clear hb9 hP3 ho3;go_wp2_with fail;have hal9:=(Below.refl w9.heap.size w9).alloc (Nat.le_refl _) (.cells #[.int .i64 12,.int .i64 24] 3);have hq:=World.ownsRow_lit (e:=3) (size:=1) (base:=w9.heap.size) w9 #[.int .i64 12,.int .i64 24] 2 (Nat.le_refl _) (by unfold maxLen;omega) rfl;refine(z5h w8.heap.size w9.heap.size _ _ [12,24] [12,24] _ (zm Ho3.out hal9) hq (by decide) (by decide)).mono ?_;rintro e w10 ⟨rfl,hb10⟩;have H10:=hid (H9.out.trans ((hal9.trans (hb10.mono hal9.size)).mono Hs9.out));clear hb10 hal9 hq;go_wp2_with fail;go_ret;exact⟨rfl,H10.out⟩
end
