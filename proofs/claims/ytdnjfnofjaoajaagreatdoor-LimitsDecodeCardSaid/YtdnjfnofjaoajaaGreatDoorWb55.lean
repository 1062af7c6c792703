/- Walks and laws, joined: Wb55. -/
import Derived.Test.YtdnjfnofjaoajaaGreatDoorWb54
import Derived.Test.YtdnjfnofjaoajaaGreatDoorWb31
set_option linter.unusedVariables false
set_option maxHeartbeats 16000000
namespace Go.Proofs.YtdnjfnofjaoajaaGreatDoor
open Lib (hid)
section
open Go.RowKit
abbrev exL:Kno:=[([(1,3)],[(7,5,[])])]
abbrev zei:Lim:=(9,1,1,0,1)
abbrev zf7:Lim:=(9,1,0,0,1)
theorem ycd {W:World} {b0:Nat} (h0:W.heap[b0]?=some (.cells #[.int .u64 7,.int .u64 5,.slice none 0 0] 101)):Ents W (some ⟨b0,0,none⟩) 1 1 [(7,5,[])]:=by
 refine⟨rfl,?_,Nat.le_refl _,by omega,(by intro h;cases h),fun _=>⟨b0,0,rfl,fun i hi=>?_⟩⟩
 · intro e he;simp at he;subst he;exact⟨by simp,by simp,fun s hs=>by cases hs⟩
 · obtain rfl:i=0:=by omega
   exact⟨zu (i:=0) h0 rfl,zu (i:=1) h0 rfl,none,0,0,zu (i:=2) h0 rfl,zgd _⟩
theorem yce {W:World} {b0 b1 b3:Nat} (h0:W.heap[b0]?=some (.cells #[.int .u64 7,.int .u64 5,.slice none 0 0] 101)) (h1:W.heap[b1]?=some (.cells #[.int .u64 1,.int .u64 3] 99))
 (h3:W.heap[b3]?=some (.cells #[.slice (some ⟨b1,0,none⟩) 1 1,.slice (some ⟨b0,0,none⟩) 1 1] 85)):Frags W (some ⟨b3,0,none⟩) 1 1 exL:=by
 have hv:=ycd h0;have i1:Ivs W (some ⟨b1,0,none⟩) 1 1 [(1,3)]:=zgk (s:=(1,3)) h1 (by decide);refine⟨rfl,Nat.le_refl _,by omega,(by intro h;cases h),fun _=>⟨b3,0,rfl,fun i hi=>?_⟩⟩;obtain rfl:i=0:=by omega
 exact⟨⟨_,_,_,zu (i:=0) h3 rfl,i1⟩,⟨_,_,_,zu (i:=1) h3 rfl,hv⟩⟩
theorem zp1:ckF exL=none:=by decide +kernel
theorem ycf:zh exL=exL:=by decide +kernel
theorem ycg:qv exL=zei:=by decide +kernel
theorem ych:zjl exL zei=none:=by decide +kernel
theorem yci:zjl exL zf7=some (7,some 2):=by decide +kernel
theorem ycj:zbe zf7 zei=none:=by decide +kernel
theorem yck:zl9 zf7 zei=zei:=by decide +kernel
theorem ycl:zpv (0,0,0,-1,0)=some (8,some 3):=by decide +kernel
theorem zp2:SmallK exL:=⟨by simp,by simp,by simp,fun f hf e he=>by simp at hf;subst hf;simp at he;subst he;simp⟩
set_option maxRecDepth 100000 in
theorem zyn (w:World) (hD:Door w):Calls Tryz.prog 39 #[] w fun e w'=>e=.returned (.bool true)∧Below w.heap.size w w':=by
 have hal:Below w.heap.size w (((w.alloc (.cells #[.int .u64 1,.int .u64 3] 99)).alloc (.cells #[.int .u64 7,.int .u64 5,.slice none 0 0] 101)).alloc (.cells #[.slice (some ⟨w.heap.size,0,none⟩) 1 1,.slice (some ⟨w.heap.size+1,0,none⟩) 1 1] 85)):=(((Below.refl _ _).alloc (Nat.le_refl _) _).alloc (by simp) _).alloc (by simp only[World.size_alloc];omega) _
 have hK:Frags (((w.alloc (.cells #[.int .u64 1,.int .u64 3] 99)).alloc (.cells #[.int .u64 7,.int .u64 5,.slice none 0 0] 101)).alloc (.cells #[.slice (some ⟨w.heap.size,0,none⟩) 1 1,.slice (some ⟨w.heap.size+1,0,none⟩) 1 1] 85)) (some ⟨w.heap.size+2,0,none⟩) 1 1 exL:=
  yce (b0:=w.heap.size+1) (b1:=w.heap.size) (b3:=w.heap.size+2) (yy _ _ _ _ (zg _ _ _ (by simp))) (yy _ _ _ _ (yy _ _ _ _ (zg _ _ _ rfl))) (zg _ _ _ (by simp))
 have Hal:=hid hal;have HK:=hid hK;have HD:=hid (fun W (h:Below w.heap.size w W)=>hD.below (Nat.le_refl _) h);have HL:=hid (fun W a n c (h:Frags W a n c exL) (hd:Door W)=>zmb a n c exL W h hd zp1 zp2 (by decide));have HFt:=hid (fun W a n c (h:Frags W a n c exL) (hd:Door W)=>zmc a n c exL zei W h hd zp1 zp2 (by decide));have HFb:=hid (fun W a n c (h:Frags W a n c exL) (hd:Door W)=>zmc a n c exL zf7 W h hd zp1 zp2 (by decide));have HW:=hid (fun W=>zyl zf7 zei W);have HJ:=hid (fun W=>ycb zf7 zei W);have HCk:=hid (fun W=>yb4 (0,0,0,-1,0) W);have HCo:=hid (fun W (hd:Door W)=>zci (some (7,some 2)) W hd);have HAt:=hid (fun (c a:Int) W (hd:Door W)=>show Calls Tryz.prog 17 #[.iface 94 (.agg #[.int .i64 c,.int .i64 a])] W fun e w'=>e=.returned (.int .i64 a)∧Below W.heap.size W w' from zio (some (c,some a)) W hd);rw[ycf] at HL HFt HFb;rw[ycg] at HL;rw[ych] at HFt;rw[yci] at HFb;rw[show decide (zbe zf7 zei=none)=true from decide_eq_true ycj] at HW;rw[yck] at HJ;rw[ycl] at HCk;simp only[yl,qo,je] at HL HFt HFb HW HJ HCk HCo;clear hal hK hD;go_enter Tryz.func39,Tryz.ntmps39;go_wp2_with fail;generalize ((w.alloc (.cells #[.int .u64 1,.int .u64 3] 99)).alloc (.cells #[.int .u64 7,.int .u64 5,.slice none 0 0] 101)).alloc (.cells #[.slice (some ⟨w.heap.size,0,none⟩) 1 1,.slice (some ⟨w.heap.size+1,0,none⟩) 1 1] 85)=W at*;refine(HL.out W _ _ _ HK.out (HD.out _ Hal.out)).mono ?_;rintro e w1 ⟨rfl,hb1⟩;have Hq1:=hid hb1;have Hb1:=hid (Hal.out.trans (hb1.mono Hal.out.size));clear hb1;have hl1:Below w1.heap.size w1 (w1.alloc (.cells #[.int .i64 9,.int .i64 1,.int .i64 1,.int .i64 0,.int .i64 1] 42)):=(Below.refl _ _).alloc (Nat.le_refl _) _;have hl2:Below (w1.alloc (.cells #[.int .i64 9,.int .i64 1,.int .i64 1,.int .i64 0,.int .i64 1] 42)).heap.size (w1.alloc (.cells #[.int .i64 9,.int .i64 1,.int .i64 1,.int .i64 0,.int .i64 1] 42)) ((w1.alloc (.cells #[.int .i64 9,.int .i64 1,.int .i64 1,.int .i64 0,.int .i64 1] 42)).alloc (.cells #[.int .i64 9,.int .i64 1,.int .i64 0,.int .i64 0,.int .i64 1] 42)):=(Below.refl _ _).alloc (Nat.le_refl _) _;go_wp2_with fail;have HY:=hid (fun w' (h:Below (((w1.alloc (.cells #[.int .i64 9,.int .i64 1,.int .i64 1,.int .i64 0,.int .i64 1] 42)).alloc (.cells #[.int .i64 9,.int .i64 1,.int .i64 0,.int .i64 0,.int .i64 1] 42))).heap.size (((w1.alloc (.cells #[.int .i64 9,.int .i64 1,.int .i64 1,.int .i64 0,.int .i64 1] 42)).alloc (.cells #[.int .i64 9,.int .i64 1,.int .i64 0,.int .i64 0,.int .i64 1] 42))) w')=>zhg w1 (.int .i64 9) (.int .i64 1) (.int .i64 1) (.int .i64 0) (.int .i64 1) 42 w' (hl2.trans (h.mono hl2.size)))
 have HZ:=hid (fun w' (h:Below (((w1.alloc (.cells #[.int .i64 9,.int .i64 1,.int .i64 1,.int .i64 0,.int .i64 1] 42)).alloc (.cells #[.int .i64 9,.int .i64 1,.int .i64 0,.int .i64 0,.int .i64 1] 42))).heap.size (((w1.alloc (.cells #[.int .i64 9,.int .i64 1,.int .i64 1,.int .i64 0,.int .i64 1] 42)).alloc (.cells #[.int .i64 9,.int .i64 1,.int .i64 0,.int .i64 0,.int .i64 1] 42))) w')=>show w'.cell? ⟨w1.heap.size+1,0,none⟩=some (.int .i64 9)∧w'.cell? ⟨w1.heap.size+1,1,none⟩=some (.int .i64 1)∧w'.cell? ⟨w1.heap.size+1,2,none⟩=some (.int .i64 0)∧w'.cell? ⟨w1.heap.size+1,3,none⟩=some (.int .i64 0)∧w'.cell? ⟨w1.heap.size+1,4,none⟩=some (.int .i64 1) from by
  have:=zhg (w1.alloc (.cells #[.int .i64 9,.int .i64 1,.int .i64 1,.int .i64 0,.int .i64 1] 42)) (.int .i64 9) (.int .i64 1) (.int .i64 0) (.int .i64 0) (.int .i64 1) 42 w' h;rwa [World.size_alloc] at this)
 have hq2:=Hq1.out.trans ((hl1.trans (hl2.mono hl1.size)).mono Hq1.out.size);have Hq2:=hid hq2;have HK2:=hid (HK.out.below hq2);have Hb2:=hid (Hb1.out.trans ((hl1.trans (hl2.mono hl1.size)).mono Hb1.out.size));clear hl1 hl2 hq2;generalize ((w1.alloc (.cells #[.int .i64 9,.int .i64 1,.int .i64 1,.int .i64 0,.int .i64 1] 42)).alloc (.cells #[.int .i64 9,.int .i64 1,.int .i64 0,.int .i64 0,.int .i64 1] 42))=W2 at*;refine(HFb.out W2 _ _ _ HK2.out (HD.out _ Hb2.out)).mono ?_;rintro e w3 ⟨rfl,hb3⟩;have HYf:=hid (fun w' (h:Below w3.heap.size w3 w')=>HY.out w' (hb3.trans (h.mono hb3.size)));have HZf:=hid (fun w' (h:Below w3.heap.size w3 w')=>HZ.out w' (hb3.trans (h.mono hb3.size)));have HKf:=hid (fun w' (h:Below w3.heap.size w3 w')=>HK2.out.below (hb3.trans (h.mono hb3.size)));have hb3w:=Hb2.out.trans (hb3.mono Hb2.out.size);have HDf:=hid (fun w' (h:Below w3.heap.size w3 w')=>HD.out w' (hb3w.trans (h.mono hb3w.size)));have Hb3:=hid hb3w;clear hb3 hb3w HY HZ;go_wp2_with fail;refine qi (by kernel_rfl) (by kernel_rfl) ?_
 repeat (go_big_quiet_step ((intro hw;first
  | rfl
  | (go_at_call 42;exact kp hw (HFt.out _ _ _ _ (HKf.out _ hw) (HDf.out _ hw)))
  | (go_at_call 16;exact kp hw (HCo.out _ (HDf.out _ hw)))
  | (go_at_call 17;exact kp hw (HAt.out _ _ _ (HDf.out _ hw)))
  | (go_at_call 41;exact kp hw (HW.out _))
  | (go_at_call 76;exact kp hw (HJ.out _))
  | (go_at_call 77;exact kp hw (HCk.out _))
  | (obtain⟨y0,y1,y2,y3,y4⟩:=HYf.out _ hw
     obtain⟨z0,z1,z2,z3,z4⟩:=HZf.out _ hw;go_simp;first | rfl | exact⟨rfl,hw⟩ | (trace_state;fail)))))
 refine wpQuiet_nil ?_;intro w5 hb5;go_wp2;go_ret;exact⟨rfl,Hb3.out.trans (hb5.mono Hb3.out.size)⟩
theorem zyo (a:Option Addr) (n cap:Nat) (c:Kno) (L:Lim) (w:World) (hB:Byts w a n cap (zo (zk c))) (hD:Door w) (hK:EncK c) (hL:LimsI L) (hE:n<900000000000):
 Calls Tryz.prog 22 #[.slice a n cap,je L] w fun e w'=>Below w.heap.size w w'∧zdv (zag L (zo (zk c))) e w':=
 zwq _ a n cap _ L w hB hD hL (zwu (L0:=unl) (zhb _) (zed hK (zec hK)) hK.vec zi1) hE
end
end Go.Proofs.YtdnjfnofjaoajaaGreatDoor
