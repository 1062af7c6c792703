/- Walks and laws, joined: Wb56. -/
import Derived.Test.YtdnjfnofjaoajaaGreatDoorWb55
import Derived.Test.YtdnjfnofjaoajaaGreatDoorWb44
import Derived.Test.YtdnjfnofjaoajaaGreatDoorWb36
import Derived.Test.YtdnjfnofjaoajaaGreatDoorWb35
set_option linter.unusedVariables false
set_option maxHeartbeats 16000000
namespace Go.Proofs.YtdnjfnofjaoajaaGreatDoor
open Lib (hid)
section
open Go.RowKit
attribute [local go_sem] vq
theorem ycm (l:Lim) (w:World):Calls Tryz.prog 75 #[je l] w fun x w'=>x=.returned (je l)∧Below w.heap.size w w':=by
 unfold je;go_enter Tryz.func75,Tryz.ntmps75;go_wp2;refine bodyPost_ret (v:=je l) (by simp[results,Tryz.results75,go_sem];rfl) rfl ?_;exact⟨rfl,((Below.refl _ _).alloc (Nat.le_refl _) _).alloc (by simp) _⟩
set_option maxRecDepth 20000 in
theorem ycn (a:Lim) (w:World):Calls Tryz.prog 38 #[je a] w fun x w'=>x=.returned (.int .i64 (zax (zhf a)))∧Below w.heap.size w w':=by
 have Hal:=hid (show Below w.heap.size w (w.alloc (.cells #[.int .i64 a.1,.int .i64 a.2.1,.int .i64 a.2.2.1,.int .i64 a.2.2.2.1,.int .i64 a.2.2.2.2] 42)) from(Below.refl _ _).alloc (Nat.le_refl _) _);have Hx:=hid (show zhf a=qj (fun i=>if zn a i<0 then some i else none) 5 from rfl);have hC:=hid (fun w=>ycm a w);unfold je at hC ⊢;go_enter Tryz.func38,Tryz.ntmps38;go_wp2_with fail;refine(hC.out _).mono ?_;rintro e w1 ⟨rfl,hb1⟩;have Hb1:=hid (Hal.out.trans (hb1.mono Hal.out.size));clear hb1;have HA:=hid (zma w1 a 131);have Hb2:=hid (Hb1.out.trans ((show Below w1.heap.size w1 (w1.alloc (.cells #[.int .i64 a.1,.int .i64 a.2.1,.int .i64 a.2.2.1,.int .i64 a.2.2.2.1,.int .i64 a.2.2.2.2] 131)) from(Below.refl _ _).alloc (Nat.le_refl _) _).mono Hb1.out.size));go_wp2_with fail;generalize w1.alloc (.cells #[.int .i64 a.1,.int .i64 a.2.1,.int .i64 a.2.2.1,.int .i64 a.2.2.2.1,.int .i64 a.2.2.2.2] 131)=W at*;go_loopw [4] (fun i wr=>∃q:Nat,q≤5∧i=.int .i64 q∧Below W.heap.size W wr∧Hid (∀j,j<q→(if zn a j<0 then some j else none)=none)) (fun i _=>5 - (intOf i).toNat)
 case atStart=>exact⟨0,by omega,rfl,Below.refl _ _,fun j h=>by omega⟩
 case round=>
  obtain⟨q,hq5,rfl,hb,ht⟩:=hrel;have Hb:=hid hb;clear hb;have h0:(0:Int)≤q:=by omega
  by_cases hq:q<5
  · have h04:(q:Int)<5:=by omega
    have y1:=HA.out _ Hb.out q hq;by_cases h:zn a q<0
    · have hd1:decide (zn a q<0)=true:=decide_eq_true h;have Hr:=hid (jg hq ht.out (if_pos h));generalize zn a q=xa at*;clear h;go_wp2;go_ret;exact⟨by rw[Hx.out,Hr.out];rfl,Hb2.out.trans (Hb.out.mono Hb2.out.size)⟩
    · have hd1:decide (zn a q<0)=false:=decide_eq_false h;have Hr:=hid (ko ht.out (if_neg h));generalize zn a q=xa at*;clear h;go_wp2;go_roundw
      case rel=>exact⟨q+1,by omega,by go_num,Hb.out,Hr.out⟩
      case measure=>simp[intOf];omega
  · obtain rfl:q=5:=by omega
    have Hr:=hid (k7 ht.out);go_wp2;go_ret;exact⟨by rw[Hx.out,Hr.out];rfl,Hb2.out.trans (Hb.out.mono Hb2.out.size)⟩
end
section
open Go.ChangeShapes Go.WideShapes Go.RowKit Go.ChangeAt
set_option maxRecDepth 100000 in
theorem yco {H:Type} {enc:TypeId×Value→H} {W:World} {fuel:Nat} {v:Value} {x:DataW H×List MemPlace} (hv:∃cs,v=.agg cs∧cs.size=Tryz.prog.cellsOf 42)
 (h:DataW.trod enc Tryz.prog W 0 (fun _=>true) true fuel 42 v.cells.toList=some x):∃l:zt,v=lmV l∧LimsI l:=by
 obtain⟨cs,rfl,hs⟩:=hv;have h5:Tryz.prog.cellsOf 42=5:=by kernel_rfl
 have h1:Tryz.prog.cellsOf 3=1:=by kernel_rfl
 rw[h5] at hs;obtain⟨l⟩:=cs;have hs':l.length=5:=hs;have h':DataW.trod enc Tryz.prog W 0 (fun _=>true) true fuel 42 l=some x:=h;obtain⟨xs,n,-,-,-,hxl,hf⟩:=DataW.trod_struct Tryz.underlying42 h'
 match xs,hxl,l,hs' with
 | [y0,y1,y2,y3,y4],_,[v0,v1,v2,v3,v4],_=>
  have g0:=hf 0 _ rfl;have g1:=hf 1 _ rfl;have g2:=hf 2 _ rfl;have g3:=hf 3 _ rfl;have g4:=hf 4 _ rfl;simp[h1] at g0 g1 g2 g3 g4;obtain⟨z0,e0,_,w0⟩:=DataW.trod_int Tryz.underlying3 g0;obtain⟨z1,e1,_,w1⟩:=DataW.trod_int Tryz.underlying3 g1;obtain⟨z2,e2,_,w2⟩:=DataW.trod_int Tryz.underlying3 g2;obtain⟨z3,e3,_,w3⟩:=DataW.trod_int Tryz.underlying3 g3;obtain⟨z4,e4,_,w4⟩:=DataW.trod_int Tryz.underlying3 g4;simp only[List.cons.injEq,and_true] at e0 e1 e2 e3 e4;subst e0 e1 e2 e3 e4;exact⟨(z0,z1,z2,z3,z4),rfl,⟨bounds_i64 w0,bounds_i64 w1,bounds_i64 w2,bounds_i64 w3,bounds_i64 w4⟩⟩
end
section
open Go.RowKit
theorem ycp {l:Lim} (h:zhf l=none):∀i,i<5→0≤zn l i:=fun i hi=>by
 unfold zhf qj at h;have:=List.findSome?_eq_none_iff.1 h i (List.mem_range.2 hi);split at this
 · cases this
 · omega
set_option maxRecDepth 100000 in
theorem ycq (a:Option Addr) (n cap:Nat) (k:Kno) (l:Lim) (w:World) (hE:Frags w a n cap k) (hLI:LimsI l) (hD:Door w):
 Calls Tryz.prog 10 #[.slice a n cap,je l] w fun e w'=>e=.returned (.bool true)∧Below w.heap.size w w':=by
 obtain⟨wB,hwB⟩:∃wB,wB=w.alloc (.cells #[.int .i64 l.1,.int .i64 l.2.1,.int .i64 l.2.2.1,.int .i64 l.2.2.2.1,.int .i64 l.2.2.2.2] 42):=⟨_,rfl⟩;have hbB:Below w.heap.size w wB:=by rw[hwB];exact(Below.refl _ _).alloc (Nat.le_refl _) _
 have HG:=hid (show Row wB w.heap.size 42 [.int .i64 l.1,.int .i64 l.2.1,.int .i64 l.2.2.1,.int .i64 l.2.2.2.1,.int .i64 l.2.2.2.2] from by rw[hwB];exact zcd w _ _);have HwB:=hid hwB;have HbB:=hid hbB;have HD:=hid (fun W (h:Below wB.heap.size wB W)=>hD.below (Nat.le_refl _) (hbB.trans (h.mono hbB.size)));have HDw:=hid (fun W (h:Below w.heap.size w W)=>hD.below (Nat.le_refl _) h);have HE:=hid (fun W (h:Below wB.heap.size wB W)=>hE.below (hbB.trans (h.mono hbB.size)));have HA:=hid (fun W (h:Below w.heap.size w W)=>zyn W (HDw.out W h));have hF:=fun W (h:Below wB.heap.size wB W)=>zhe a n cap k W (HE.out W h)
 have hR:=fun W (h:Below wB.heap.size wB W)=>zl3 a n cap k W (HE.out W h)
 have hCl:=fun W=>ycn l W
 have hall:=hE.all;have Hg0:=hid (show w.heap.size<wB.heap.size from by have:=HG.out.lt;exact this);clear hE hD hwB hbB
 cases hf:zcy k with
 | false=>
  rw[hf] at hF;have HF:=hid hF;clear hF hR hCl hf hall;unfold je;go_enter Tryz.func10,Tryz.ntmps10;go_wp2_with fail;rw[←HwB.out];refine(HF.out _ (Below.refl _ _)).mono ?_;rintro e w1 ⟨rfl,hb1⟩;have Hb1:=hid (HbB.out.trans (hb1.mono HbB.out.size));clear hb1;go_wp2_with fail;refine(HA.out _ Hb1.out).mono ?_;rintro e w2 ⟨rfl,hb2⟩;have Hb2:=hid (Hb1.out.trans (hb2.mono Hb1.out.size));clear hb2;go_wp2_with fail;go_ret
  exact⟨rfl,Hb2.out⟩
 | true=>
 rw[hf] at hF;have HF:=hid hF;clear hF
 cases hr:decide (ckF k=none) with
 | false=>
  rw[hr] at hR;have HR:=hid hR;clear hR hCl hf hall hr;unfold je;go_enter Tryz.func10,Tryz.ntmps10;go_wp2_with fail;rw[←HwB.out];refine(HF.out _ (Below.refl _ _)).mono ?_;rintro e w1 ⟨rfl,hb1⟩;have Hb1:=hid hb1;clear hb1;go_wp2_with fail;refine(HR.out _ Hb1.out).mono ?_;rintro e w2 ⟨rfl,hb2⟩;have Hb2:=hid (HbB.out.trans ((Hb1.out.trans (hb2.mono Hb1.out.size)).mono HbB.out.size));clear hb2;go_wp2_with fail;refine(HA.out _ Hb2.out).mono ?_;rintro e w3 ⟨rfl,hb3⟩;have Hb3:=hid (Hb2.out.trans (hb3.mono Hb2.out.size));clear hb3;go_wp2_with fail;go_ret
  exact⟨rfl,Hb3.out⟩
 | true=>
 rw[hr] at hR;have HR:=hid hR;clear hR;rw[decide_eq_true_eq] at hr
 cases hk:zhf l with
 | some i=>
  rw[hk] at hCl;simp only[zax] at hCl;have hd:decide ((0:Int)≤(i:Int))=true:=by rw[decide_eq_true_iff];omega
  unfold je at hCl ⊢;have HCl:=hid hCl;clear hCl hf hall hr hk;go_enter Tryz.func10,Tryz.ntmps10;go_wp2_with fail;rw[←HwB.out];refine(HF.out _ (Below.refl _ _)).mono ?_;rintro e w1 ⟨rfl,hb1⟩;have Hb1:=hid hb1;clear hb1;go_wp2_with fail;refine(HR.out _ Hb1.out).mono ?_;rintro e w2 ⟨rfl,hb2⟩;have Hb2:=hid (Hb1.out.trans (hb2.mono Hb1.out.size));clear hb2;have hG:=HG.out.later Hb2.out;have c0:=hG.cell 0 rfl;have c1:=hG.cell 1 rfl;have c2:=hG.cell 2 rfl;have c3:=hG.cell 3 rfl;have c4:=hG.cell 4 rfl;clear hG;go_wp2_with fail;refine(HCl.out _).mono ?_;rintro e w3 ⟨rfl,hb3⟩;have Hb3:=hid (HbB.out.trans ((Hb2.out.trans (hb3.mono Hb2.out.size)).mono HbB.out.size));clear hb3 c0 c1 c2 c3 c4;go_wp2_with fail;refine(HA.out _ Hb3.out).mono ?_;rintro e w4 ⟨rfl,hb4⟩;have Hb4:=hid (Hb3.out.trans (hb4.mono Hb3.out.size));clear hb4;go_wp2_with fail;go_ret
  exact⟨rfl,Hb4.out⟩
 | none=>
 rw[hk] at hCl;simp only[zax] at hCl;obtain⟨k1,k2,k3,k4,k5,k6⟩:=zi9 hall hf hr;have hEn:=fun W (h:Below wB.heap.size wB W)=>zf4 a n cap k W (HE.out W h) (HD.out W h) hr k2 k3
 have hLe:=fun W (h:Below wB.heap.size wB W)=>zmb a n cap k W (HE.out W h) (HD.out W h) hr k2 k3
 have hWi:=fun W=>zyl (qv (zh k)) ((qv (zh k)).1,l.2) W
 obtain⟨B,hB⟩:∃B:Bool,B=decide (zbe (qv (zh k)) ((qv (zh k)).1,l.2)=none):=⟨_,rfl⟩;rw[←hB] at hWi;have hBt:zbe (qv (zh k)) ((qv (zh k)).1,l.2)=none→B=true:=fun h=>by rw[hB];exact decide_eq_true h
 have hBf:zbe (qv (zh k)) ((qv (zh k)).1,l.2)≠none→B=false:=fun h=>by rw[hB];exact decide_eq_false h
 have hDe:∀W b c,Byts W b (zo (zk (zh k))).length c (zo (zk (zh k)))→Door W→Calls Tryz.prog 22 #[.slice b (zo (zk (zh k))).length c,je l] W fun e w'=>Below W.heap.size W w'∧∃v bad,e=.returned (.tuple #[v,bad])∧((B=true∧bad=.nilIface)∨(B=false∧∃o:Nat,bad=.iface 94 (.agg #[.int .i64 7,.int .i64 o]))):=fun W b c h hd=>by
  refine(zyo b _ c (zh k) l W h hd k6 hLI (zjb k6)).mono ?_;rintro e w' ⟨h1,h2⟩;refine⟨h1,?_⟩;have hi:=zym (c:=zh k) (ycp hk);by_cases ho:okK l (zh k)
  · rw[zed k6 ho] at h2;obtain⟨aa,cc,e1,-⟩:=h2;exact⟨_,_,e1,.inl ⟨hBt (hi.1 ho),rfl⟩⟩
  · obtain⟨o,hbad⟩:=(zlv (L:=l) k6.can k6 [] (fun x hx=>(by cases hx))).2 ho;rw[List.append_nil] at hbad;rw[hbad] at h2;exact⟨_,_,h2,.inr ⟨hBf fun h=>ho (hi.2 h),o,rfl⟩⟩
 have HDe:=hid hDe;clear hDe hB hBt hBf;generalize qv (zh k)=Lm at*;unfold je at hLe hWi hCl ⊢;have HDe2:=hid (by have:=HDe.out;unfold je at this;exact this);have HEn:=hid hEn;have HLe:=hid hLe;have HWi:=hid hWi;have HCl:=hid hCl;clear hEn hLe hWi HDe hCl k1 k2 k3 k4 k5 k6 hr hall hf hk;generalize zo (zk (zh k))=L at*;go_enter Tryz.func10,Tryz.ntmps10;go_wp2_with fail;rw[←HwB.out];refine(HF.out _ (Below.refl _ _)).mono ?_;rintro e w1 ⟨rfl,hb1⟩;have Hb1:=hid hb1;clear hb1;go_wp2_with fail;refine(HR.out _ Hb1.out).mono ?_;rintro e w2 ⟨rfl,hb2⟩;have Hb2:=hid (Hb1.out.trans (hb2.mono Hb1.out.size));clear hb2;have hG:=HG.out.later Hb2.out;have c0:=hG.cell 0 rfl;have c1:=hG.cell 1 rfl;have c2:=hG.cell 2 rfl;have c3:=hG.cell 3 rfl;have c4:=hG.cell 4 rfl;clear hG;go_wp2_with fail;refine(HCl.out _).mono ?_;rintro e w3 ⟨rfl,hb3⟩;have Hb3:=hid (Hb2.out.trans (hb3.mono Hb2.out.size));clear hb3 c0 c1 c2 c3 c4;go_wp2_with fail;refine(HEn.out _ Hb3.out).mono ?_;rintro e w4 ⟨⟨b,c,rfl,hB⟩,hb4⟩;have HBy:=hid (fun V (h:Below w4.heap.size w4 V)=>hB.below h);have Hb4:=hid (Hb3.out.trans (hb4.mono Hb3.out.size));clear hb4 hB;go_wp2_with fail;refine(HLe.out _ Hb4.out).mono ?_;rintro e w5 ⟨rfl,hb5⟩;have hb5w:=Hb4.out.trans (hb5.mono Hb4.out.size);have hl:=(Below.refl w5.heap.size w5).alloc (Nat.le_refl _) (.cells #[.int .i64 Lm.1,.int .i64 Lm.2.1,.int .i64 Lm.2.2.1,.int .i64 Lm.2.2.2.1,.int .i64 Lm.2.2.2.2] 42);have HX:=hid (zcd w5 42 [.int .i64 Lm.1,.int .i64 Lm.2.1,.int .i64 Lm.2.2.1,.int .i64 Lm.2.2.2.1,.int .i64 Lm.2.2.2.2]);have HB5:=hid (HBy.out _ (hb5.trans (hl.mono hb5.size)));have Hb6:=hid (hb5w.trans (hl.mono hb5w.size));have Hg5:=hid (show w.heap.size≠w5.heap.size from by have:=hb5w.size;have:=Hg0.out;omega);clear hb5 hb5w hl;have hX:w5.alloc (.cells #[.int .i64 Lm.1,.int .i64 Lm.2.1,.int .i64 Lm.2.2.1,.int .i64 Lm.2.2.2.1,.int .i64 Lm.2.2.2.2] 42)=w5.alloc (.cells [.int .i64 Lm.1,.int .i64 Lm.2.1,.int .i64 Lm.2.2.1,.int .i64 Lm.2.2.2.1,.int .i64 Lm.2.2.2.2].toArray 42):=rfl;rw[←hX] at HX;clear hX;obtain⟨W6,hW6⟩:∃W6,W6=w5.alloc (.cells #[.int .i64 Lm.1,.int .i64 Lm.2.1,.int .i64 Lm.2.2.1,.int .i64 Lm.2.2.2.1,.int .i64 Lm.2.2.2.2] 42):=⟨_,rfl⟩;rw[←hW6] at HX HB5 Hb6;have hG:=HG.out.later Hb6.out;have c0:=hG.cell 0 rfl;have c1:=hG.cell 1 rfl;have c2:=hG.cell 2 rfl;have c3:=hG.cell 3 rfl;have c4:=hG.cell 4 rfl;rw[hW6] at c0 c1 c2 c3 c4;clear hG;have HW6:=hid hW6;clear hW6;go_wp2_with fail;rw[←HW6.out];clear c0 c1 c2 c3 c4;refine(HDe2.out W6 _ _ HB5.out (HD.out _ Hb6.out)).mono ?_;rintro e w7 ⟨hb7,v,bad,rfl,hbad⟩;have hG:=HG.out.later (Hb6.out.trans (hb7.mono Hb6.out.size));have hX:=HX.out.later hb7;have Hb7:=hid (HbB.out.trans ((Hb6.out.trans (hb7.mono Hb6.out.size)).mono HbB.out.size));clear hb7;have c1:=hG.cell 1 rfl;have c2:=hG.cell 2 rfl;have c3:=hG.cell 3 rfl;have c4:=hG.cell 4 rfl;have f0:=hG.fz 0;have d0:=hX.cell 0 rfl;have d1:=hX.cell 1 rfl;have d2:=hX.cell 2 rfl;have d3:=hX.cell 3 rfl;have d4:=hX.cell 4 rfl;have c0:=hG.cell 0 rfl;have hne:=Hg5.out;have Hb8:=hid (Hb7.out.setCell (p:=⟨w.heap.size,0,none⟩) (Nat.le_refl _) (.int .i64 Lm.1));have Hbad:=hid hbad;clear hG hX hbad;go_wp2_with fail;refine(HWi.out _).mono ?_;rintro e w9 ⟨rfl,hb9⟩;have Hb9:=hid (Hb8.out.trans (hb9.mono (by simpa using Hb7.out.size)));clear hb9 c0 c1 c2 c3 c4 d0 d1 d2 d3 d4 f0 hne;rcases Hbad.out with ⟨rfl,rfl⟩ | ⟨rfl,o,rfl⟩
 · clear Hbad;go_wp2_with fail;refine(HA.out _ Hb9.out).mono ?_;rintro e w10 ⟨rfl,hb10⟩;have Hb10:=hid (Hb9.out.trans (hb10.mono Hb9.out.size));clear hb10;go_wp2_with fail;go_ret;exact⟨rfl,Hb10.out⟩
 · clear Hbad;go_wp2_with fail;refine(HA.out _ Hb9.out).mono ?_;rintro e w10 ⟨rfl,hb10⟩;have Hb10:=hid (Hb9.out.trans (hb10.mono Hb9.out.size));clear hb10;go_wp2_with fail;refine(zci (some (7,some (o:Int))) _ (HDw.out _ Hb10.out)).mono ?_;rintro e w11 ⟨rfl,hb11⟩;have Hb11:=hid (Hb10.out.trans (hb11.mono Hb10.out.size));clear hb11;simp only[qo];go_wp2_with fail;go_ret;exact⟨rfl,Hb11.out⟩
end
end Go.Proofs.YtdnjfnofjaoajaaGreatDoor
