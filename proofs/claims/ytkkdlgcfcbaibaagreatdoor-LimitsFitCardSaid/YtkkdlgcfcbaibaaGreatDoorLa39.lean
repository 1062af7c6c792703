/- Walks and laws, joined: La39. -/
import Derived.Laws.StructEq
import Derived.Test.YtkkdlgcfcbaibaaGreatDoorRows
import Derived.ChangeSame
import Derived.ChangeVars
import Derived.JoinedOf
import Derived.RowKit
import Derived.RowKitTokens
import Derived.LaidLaws
import Derived.LaidHandle
import Derived.LaidSub
import Derived.LaidMore
import Derived.Lay
import Derived.HandedShaped
import Derived.Deep.DeepLaidRun
import Derived.Lib.LaidTab
import Derived.Stop.LaidErr
import Derived.Stop.Joined
import Derived.Deep.SlicePairs
import Derived.ProofKit
import Derived.OpenShut
import Derived.Below
import Derived.Test.YtkkdlgcfcbaibaaGreatDoorLa38
import Derived.Test.YtkkdlgcfcbaibaaGreatDoorLa02
import Derived.Test.YtkkdlgcfcbaibaaGreatDoorLa30
import Derived.Test.YtkkdlgcfcbaibaaGreatDoorLa27
import Derived.Test.YtkkdlgcfcbaibaaGreatDoorLa37
import Derived.Test.YtkkdlgcfcbaibaaGreatDoorLa22
set_option linter.unusedVariables false
namespace Go.Proofs.YtkkdlgcfcbaibaaGreatDoor
section
open Go.RowKit
theorem ckF_of_joins {k : Kno} (h : Joins k) : ckF k = none := ckF_none.2 fun f hf => ⟨h.good f hf, h.ck f hf⟩
set_option maxRecDepth 100000 in
set_option maxHeartbeats 8000000 in
theorem least_any (a : Option Addr) (n cap : Nat) (k : Kno) (w : World) (hE : Frags w a n cap k) (hD : Door w) (hck : ckF k = none) (hs : SmallK k) (h240 : isum k ≤ 240) :
 Calls Tryz.prog 30 #[.slice a n cap] w fun x w' => x = .returned (.tuple #[limV (leastL (canonK k)), .nilIface]) ∧ Below w.heap.size w w' := by
 have hk := ltK_of hE.all hck
 have hJ := small_joins hk hs hck
 obtain ⟨jc, ic, lc⟩ := canon_joins hk hs h240
 obtain ⟨c1, c2, -⟩ := canonK_can hk
 have hself := canonK_self c2 c1
 have hC := fun w' (h : Below w.heap.size w w') => scoCheck_any a n cap k w' (hE.below h) (hD.below (Nat.le_refl _) h)
 rw [hck] at hC
 simp only [errOf, errVal] at hC
 have HC := Lib.hid hC
 have HCn := Lib.hid (fun W (h : Below w.heap.size w W) => canCanon_any a n cap k W (hE.below h) hJ (Nat.le_trans (startsK_le _) (by omega)))
 have HSg := Lib.hid (fun W a' c' (h : Frags W a' (canonK k).length c' (canonK k)) => segments_any a' _ c' (canonK k) W h jc.good (by omega))
 have HEn := Lib.hid (fun W (hb : Below w.heap.size w W) a' c' (h : Frags W a' (canonK k).length c' (canonK k)) => encode_any a' _ c' (canonK k) W h (hD.below (Nat.le_refl _) hb) (ckF_of_joins jc) jc (Nat.le_trans (startsK_le _) (by omega)) (by rw [hself]; exact c2) (by rw [hself]; exact c1) (by rw [hself]; omega) (by rw [hself]; exact jc.fits.vec) (by rw [hself]; exact fun d hd => by have := vecsTo_len jc.fits.vec d hd; omega) (by rw [hself]; omega))
 rw [hself] at HEn
 have Hcan := Lib.hid c1
 have hR := World.ownsRow_lit (e := 47) (size := 5) (base := w.heap.size) w #[.int .i64 0, .int .i64 0, .int .i64 0, .int .i64 0, .int .i64 0] 1 (Nat.le_refl _) (by unfold maxLen; omega) rfl
 have hal : Below w.heap.size w (w.alloc (.cells #[.int .i64 0, .int .i64 0, .int .i64 0, .int .i64 0, .int .i64 0] 47)) := (Below.refl _ _).alloc (Nat.le_refl _) _
 have HR := Lib.hid hR
 have Hal := Lib.hid hal
 clear hk hJ jc ic lc c1 c2 hself hC hE hD hck hs h240 hR hal
 generalize canonK k = c at *
 go_enter Tryz.func30, Tryz.ntmps30
 go_wp2_with fail
 generalize w.alloc (.cells #[.int .i64 0, .int .i64 0, .int .i64 0, .int .i64 0, .int .i64 0] 47) = W at *
 refine (HC.out _ Hal.out).mono ?_
 rintro e w0 ⟨rfl, hb0⟩
 have HR0 := Lib.hid (own_below HR.out hb0)
 have Hb0 := Lib.hid (Hal.out.trans (hb0.mono Hal.out.size)); clear hb0 HR
 go_wp2_with fail
 refine (HCn.out _ Hb0.out).mono ?_
 rintro e w1 ⟨⟨y, rfl, ho⟩, hb1⟩
 obtain ⟨a1, c1, rfl, hK⟩ := ho.frags
 have HK := Lib.hid (fun W (h : Below w1.heap.size w1 W) => hK.below h)
 have HR1 := Lib.hid (own_below HR0.out hb1)
 have Hb1 := Lib.hid (Hb0.out.trans (hb1.mono Hb0.out.size)); clear hb1 ho hK HR0
 go_wp2_with fail
 refine (HSg.out w1 _ _ (HK.out _ (Below.refl _ _))).mono ?_
 rintro e w2 ⟨⟨l, al, cl, gi, rfl, hp, hasc, -, -⟩, hb2⟩
 obtain ⟨e1, -⟩ := seg_same Hcan.out hp hasc
 obtain rfl : l = segL c := e1
 have HR2 := Lib.hid (own_below HR1.out hb2)
 have Hq2 := Lib.hid hb2
 have Hb2 := Lib.hid (Hb1.out.trans (hb2.mono Hb1.out.size)); clear hb2 hp hasc HR1
 go_wp2_with fail
 refine (HEn.out w2 Hb2.out _ _ (HK.out _ Hq2.out)).mono ?_
 rintro e w3 ⟨⟨v, rfl, hov⟩, hb3⟩
 obtain ⟨av, cv, rfl⟩ := own_slice hov
 have HR3 := Lib.hid (own_below HR2.out hb3)
 have Hq3 := Lib.hid (Hq2.out.trans (hb3.mono Hq2.out.size))
 have Hb3 := Lib.hid (Hb2.out.trans (hb3.mono Hb2.out.size)); clear hb3 hov HR2
 go_wp2_with fail
 refine (greatF1_any _ _ _ c w3 (HK.out _ Hq3.out)).mono ?_
 rintro e w4 ⟨rfl, hb4⟩
 have HR4 := Lib.hid (own_below HR3.out hb4)
 have Hq4 := Lib.hid (Hq3.out.trans (hb4.mono Hq3.out.size))
 have Hb4 := Lib.hid (Hb3.out.trans (hb4.mono Hb3.out.size)); clear hb4 HR3
 go_wp2_with fail
 refine (greatF2_any _ _ _ c w4 (HK.out _ Hq4.out)).mono ?_
 rintro e w5 ⟨rfl, hb5⟩
 have hR5 := own_below HR4.out hb5
 have Hb5 := Lib.hid (Hb4.out.trans (hb5.mono Hb4.out.size)); clear hb5 HR4
 have r0 := hR5.cells (g := w.heap.size) rfl 0 _ rfl
 have r1 := hR5.cells (g := w.heap.size) rfl 1 _ rfl
 have r2 := hR5.cells (g := w.heap.size) rfl 2 _ rfl
 have r3 := hR5.cells (g := w.heap.size) rfl 3 _ rfl
 have r4 := hR5.cells (g := w.heap.size) rfl 4 _ rfl
 rw [add_at] at r0 r1 r2 r3 r4
 simp only [Nat.zero_add] at r0 r1 r2 r3 r4
 have f0 := own_frozen hR5 0
 have f1 := own_frozen hR5 1
 have f2 := own_frozen hR5 2
 have f3 := own_frozen hR5 3
 have f4 := own_frozen hR5 4
 have Hsl := Lib.hid (segL_len c)
 clear hR5
 go_wp2_with fail
 refine bodyPost_ret (v := .tuple #[limV (leastL c), .nilIface]) (by simp [results, Tryz.results30, go_sem, World.cell?_setCell_same, World.cell?_setCell_other, r0, r1, r2, r3, r4]; rw [Hsl.out]; rfl) rfl ?_
 refine ⟨rfl, ?_⟩
 refine Below.setCell (Below.setCell (Below.setCell (Below.setCell (Below.setCell Hb5.out ?_ _) ?_ _) ?_ _) ?_ _) ?_ _ <;> simp
def fitsE (c : Kno) (l : Lim) : Err := errOf ((limX (leastL c) l).map fun i => (7, i))
set_option maxRecDepth 100000 in
theorem fits_any (a : Option Addr) (n cap : Nat) (k : Kno) (l : Lim) (w : World) (hE : Frags w a n cap k) (hD : Door w) (hck : ckF k = none) (hs : SmallK k) (h240 : isum k ≤ 240) :
 Calls Tryz.prog 34 #[.slice a n cap, limV l] w fun x w' => x = .returned (errVal (fitsE (canonK k) l)) ∧ Below w.heap.size w w' := by
 have hal : Below w.heap.size w (w.alloc (.cells #[.int .i64 l.1, .int .i64 l.2.1, .int .i64 l.2.2.1, .int .i64 l.2.2.2.1, .int .i64 l.2.2.2.2] 47)) := (Below.refl _ _).alloc (Nat.le_refl _) _
 have HC := Lib.hid (least_any a n cap k _ (hE.below hal) (hD.below (Nat.le_refl _) hal) hck hs h240)
 have HBx := Lib.hid (box5 w (.int .i64 l.1) (.int .i64 l.2.1) (.int .i64 l.2.2.1) (.int .i64 l.2.2.2.1) (.int .i64 l.2.2.2.2) 47)
 have Hal := Lib.hid hal
 have Hf := Lib.hid (show fitsE (canonK k) l = errOf ((limX (leastL (canonK k)) l).map fun i => (7, i)) from rfl)
 have hX := Lib.hid (fun w => exceeds_any (leastL (canonK k)) l w)
 clear hE hD hck hs h240 hal
 generalize leastL (canonK k) = L at *
 unfold limV at hX HC ⊢
 go_enter Tryz.func34, Tryz.ntmps34
 go_wp2_with fail
 refine HC.out.mono ?_
 rintro e w1 ⟨rfl, hb1⟩
 have Hq1 := Lib.hid hb1
 have Hb1 := Lib.hid (Hal.out.trans (hb1.mono Hal.out.size)); clear hb1
 go_wp2_with fail
 have hl1 : Below w1.heap.size w1 (w1.alloc (.cells #[.int .i64 L.1, .int .i64 L.2.1, .int .i64 L.2.2.1, .int .i64 L.2.2.2.1, .int .i64 L.2.2.2.2] 47)) := (Below.refl _ _).alloc (Nat.le_refl _) _
 have hl2 : Below (w1.alloc (.cells #[.int .i64 L.1, .int .i64 L.2.1, .int .i64 L.2.2.1, .int .i64 L.2.2.2.1, .int .i64 L.2.2.2.2] 47)).heap.size (w1.alloc (.cells #[.int .i64 L.1, .int .i64 L.2.1, .int .i64 L.2.2.1, .int .i64 L.2.2.2.1, .int .i64 L.2.2.2.2] 47)) ((w1.alloc (.cells #[.int .i64 L.1, .int .i64 L.2.1, .int .i64 L.2.2.1, .int .i64 L.2.2.2.1, .int .i64 L.2.2.2.2] 47)).alloc (.cells #[.int .i64 0, .int .i64 0] 99)) := (Below.refl _ _).alloc (Nat.le_refl _) _
 obtain ⟨x0, x1, x2, x3, x4⟩ := HBx.out ((w1.alloc (.cells #[.int .i64 L.1, .int .i64 L.2.1, .int .i64 L.2.2.1, .int .i64 L.2.2.2.1, .int .i64 L.2.2.2.2] 47)).alloc (.cells #[.int .i64 0, .int .i64 0] 99)) (Hq1.out.trans ((hl1.trans (hl2.mono hl1.size)).mono Hq1.out.size))
 obtain ⟨y0, y1, y2, y3, y4⟩ := box5 w1 (.int .i64 L.1) (.int .i64 L.2.1) (.int .i64 L.2.2.1) (.int .i64 L.2.2.2.1) (.int .i64 L.2.2.2.2) 47 ((w1.alloc (.cells #[.int .i64 L.1, .int .i64 L.2.1, .int .i64 L.2.2.1, .int .i64 L.2.2.2.1, .int .i64 L.2.2.2.2] 47)).alloc (.cells #[.int .i64 0, .int .i64 0] 99)) hl2
 have Hb2 := Lib.hid (Hb1.out.trans ((hl1.trans (hl2.mono hl1.size)).mono Hb1.out.size))
 clear hl1 hl2
 generalize ((w1.alloc (.cells #[.int .i64 L.1, .int .i64 L.2.1, .int .i64 L.2.2.1, .int .i64 L.2.2.2.1, .int .i64 L.2.2.2.2] 47)).alloc (.cells #[.int .i64 0, .int .i64 0] 99)) = W2 at *
 refine (As_nil _ _).mono ?_
 rintro e w3 ⟨rfl, rfl⟩
 cases h : limX L l with
 | none =>
  rw [h] at hX Hf
  simp only [intO] at hX
  clear h
  go_wp2_with fail
  refine (hX.out _).mono ?_
  rintro e w4 ⟨rfl, hb4⟩
  have Hb4 := Lib.hid (Hb2.out.trans (hb4.mono Hb2.out.size)); clear hb4
  go_wp2_with fail
  go_ret
  exact ⟨by rw [Hf.out]; rfl, Hb4.out⟩
 | some i =>
  rw [h] at hX Hf
  simp only [intO] at hX
  have hd : decide ((0 : Int) ≤ (i : Int)) = true := by rw [decide_eq_true_iff]; omega
  clear h
  go_wp2_with fail
  refine (hX.out _).mono ?_
  rintro e w4 ⟨rfl, hb4⟩
  have Hb4 := Lib.hid (Hb2.out.trans (hb4.mono Hb2.out.size)); clear hb4
  go_wp2_with fail
  refine (new_any 7 i _).mono ?_
  rintro e w5 ⟨rfl, rfl⟩
  go_wp2_with fail
  go_ret
  exact ⟨by rw [Hf.out]; rfl, Hb4.out⟩
abbrev exL : Kno := [([(1, 3)], [(7, 5, [])])]
abbrev exLim : Lim := (9, 1, 1, 0, 1)
abbrev exSmall : Lim := (9, 1, 0, 0, 1)
theorem litL_ents {W : World} {b0 : Nat} (h0 : W.heap[b0]? = some (.cells #[.int .u64 7, .int .u64 5, .slice none 0 0] 71)) : Ents W (some ⟨b0, 0, none⟩) 1 1 [(7, 5, [])] := by
 refine ⟨rfl, ?_, Nat.le_refl _, by omega, (by intro h; cases h), fun _ => ⟨b0, 0, rfl, fun i hi => ?_⟩⟩
 · intro e he
   simp at he
   subst he
   exact ⟨by simp, by simp, fun s hs => by cases hs⟩
 · obtain rfl : i = 0 := by omega
   exact ⟨cells_cell (i := 0) h0 rfl, cells_cell (i := 1) h0 rfl, none, 0, 0, cells_cell (i := 2) h0 rfl, ivs_nil _⟩
theorem litL {W : World} {b0 b1 b3 : Nat} (h0 : W.heap[b0]? = some (.cells #[.int .u64 7, .int .u64 5, .slice none 0 0] 71)) (h1 : W.heap[b1]? = some (.cells #[.int .u64 1, .int .u64 3] 73))
 (h3 : W.heap[b3]? = some (.cells #[.slice (some ⟨b1, 0, none⟩) 1 1, .slice (some ⟨b0, 0, none⟩) 1 1] 39)) : Frags W (some ⟨b3, 0, none⟩) 1 1 exL := by
 have hv := litL_ents h0
 have i1 : Ivs W (some ⟨b1, 0, none⟩) 1 1 [(1, 3)] := ivs_lit (s := (1, 3)) h1 (by decide)
 refine ⟨rfl, Nat.le_refl _, by omega, (by intro h; cases h), fun _ => ⟨b3, 0, rfl, fun i hi => ?_⟩⟩
 obtain rfl : i = 0 := by omega
 exact ⟨⟨_, _, _, cells_cell (i := 0) h3 rfl, i1⟩, ⟨_, _, _, cells_cell (i := 1) h3 rfl, hv⟩⟩
theorem exL_ck : ckF exL = none := by decide +kernel
theorem exL_canon : canonK exL = exL := by decide +kernel
theorem exL_least : leastL exL = exLim := by decide +kernel
theorem exL_fit : fitsE exL exLim = none := by decide +kernel
theorem exL_bad : fitsE exL exSmall = some (7, some 2) := by decide +kernel
theorem exL_within : limX exSmall exLim = none := by decide +kernel
theorem exL_join : limJ exSmall exLim = exLim := by decide +kernel
theorem exL_check : limE (0, 0, 0, -1, 0) = some (8, some 3) := by decide +kernel
theorem exL_small : SmallK exL := ⟨by simp, by simp, by simp, fun f hf e he => by simp at hf; subst hf; simp at he; subst he; simp⟩
set_option maxRecDepth 100000 in
set_option maxHeartbeats 8000000 in
theorem aliveL_any (w : World) (hD : Door w) : Calls Tryz.prog 22 #[] w fun e w' => e = .returned (.bool true) ∧ Below w.heap.size w w' := by
 have hal : Below w.heap.size w (((w.alloc (.cells #[.int .u64 1, .int .u64 3] 73)).alloc (.cells #[.int .u64 7, .int .u64 5, .slice none 0 0] 71)).alloc (.cells #[.slice (some ⟨w.heap.size, 0, none⟩) 1 1, .slice (some ⟨w.heap.size + 1, 0, none⟩) 1 1] 39)) := (((Below.refl _ _).alloc (Nat.le_refl _) _).alloc (by simp) _).alloc (by simp only [World.size_alloc]; omega) _
 have hK : Frags (((w.alloc (.cells #[.int .u64 1, .int .u64 3] 73)).alloc (.cells #[.int .u64 7, .int .u64 5, .slice none 0 0] 71)).alloc (.cells #[.slice (some ⟨w.heap.size, 0, none⟩) 1 1, .slice (some ⟨w.heap.size + 1, 0, none⟩) 1 1] 39)) (some ⟨w.heap.size + 2, 0, none⟩) 1 1 exL :=
  litL (b0 := w.heap.size + 1) (b1 := w.heap.size) (b3 := w.heap.size + 2) (heap_at_old _ _ _ _ (heap_at_new _ _ _ (by simp))) (heap_at_old _ _ _ _ (heap_at_old _ _ _ _ (heap_at_new _ _ _ rfl))) (heap_at_new _ _ _ (by simp))
 have Hal := Lib.hid hal
 have HK := Lib.hid hK
 have HD := Lib.hid (fun W (h : Below w.heap.size w W) => hD.below (Nat.le_refl _) h)
 have HL := Lib.hid (fun W a n c (h : Frags W a n c exL) (hd : Door W) => least_any a n c exL W h hd exL_ck exL_small (by decide))
 have HFt := Lib.hid (fun W a n c (h : Frags W a n c exL) (hd : Door W) => fits_any a n c exL exLim W h hd exL_ck exL_small (by decide))
 have HFb := Lib.hid (fun W a n c (h : Frags W a n c exL) (hd : Door W) => fits_any a n c exL exSmall W h hd exL_ck exL_small (by decide))
 have HW := Lib.hid (fun W => within_any exSmall exLim W)
 have HJ := Lib.hid (fun W => limJoin_any exSmall exLim W)
 have HCk := Lib.hid (fun W => limCheck_any (0, 0, 0, -1, 0) W)
 have HCo := Lib.hid (fun W (hd : Door W) => code_any (some (7, some 2)) W hd)
 have HAt := Lib.hid (fun (c a : Int) W (hd : Door W) => show Calls Tryz.prog 24 #[.iface 99 (.agg #[.int .i64 c, .int .i64 a])] W fun e w' => e = .returned (.int .i64 a) ∧ Below W.heap.size W w' from at_any (some (c, some a)) W hd)
 rw [exL_canon] at HL HFt HFb
 rw [exL_least] at HL
 rw [exL_fit] at HFt
 rw [exL_bad] at HFb
 rw [show decide (limX exSmall exLim = none) = true from decide_eq_true exL_within] at HW
 rw [exL_join] at HJ
 rw [exL_check] at HCk
 simp only [errVal, errCode, limV] at HL HFt HFb HW HJ HCk HCo
 clear hal hK hD
 go_enter Tryz.func22, Tryz.ntmps22
 go_wp2_with fail
 generalize ((w.alloc (.cells #[.int .u64 1, .int .u64 3] 73)).alloc (.cells #[.int .u64 7, .int .u64 5, .slice none 0 0] 71)).alloc (.cells #[.slice (some ⟨w.heap.size, 0, none⟩) 1 1, .slice (some ⟨w.heap.size + 1, 0, none⟩) 1 1] 39) = W at *
 refine (HL.out W _ _ _ HK.out (HD.out _ Hal.out)).mono ?_
 rintro e w1 ⟨rfl, hb1⟩
 have Hq1 := Lib.hid hb1
 have Hb1 := Lib.hid (Hal.out.trans (hb1.mono Hal.out.size)); clear hb1
 have hl1 : Below w1.heap.size w1 (w1.alloc (.cells #[.int .i64 9, .int .i64 1, .int .i64 1, .int .i64 0, .int .i64 1] 47)) := (Below.refl _ _).alloc (Nat.le_refl _) _
 have hl2 : Below (w1.alloc (.cells #[.int .i64 9, .int .i64 1, .int .i64 1, .int .i64 0, .int .i64 1] 47)).heap.size (w1.alloc (.cells #[.int .i64 9, .int .i64 1, .int .i64 1, .int .i64 0, .int .i64 1] 47)) ((w1.alloc (.cells #[.int .i64 9, .int .i64 1, .int .i64 1, .int .i64 0, .int .i64 1] 47)).alloc (.cells #[.int .i64 9, .int .i64 1, .int .i64 0, .int .i64 0, .int .i64 1] 47)) := (Below.refl _ _).alloc (Nat.le_refl _) _
 go_wp2_with fail
 have HY := Lib.hid (fun w' (h : Below (((w1.alloc (.cells #[.int .i64 9, .int .i64 1, .int .i64 1, .int .i64 0, .int .i64 1] 47)).alloc (.cells #[.int .i64 9, .int .i64 1, .int .i64 0, .int .i64 0, .int .i64 1] 47))).heap.size (((w1.alloc (.cells #[.int .i64 9, .int .i64 1, .int .i64 1, .int .i64 0, .int .i64 1] 47)).alloc (.cells #[.int .i64 9, .int .i64 1, .int .i64 0, .int .i64 0, .int .i64 1] 47))) w') => box5 w1 (.int .i64 9) (.int .i64 1) (.int .i64 1) (.int .i64 0) (.int .i64 1) 47 w' (hl2.trans (h.mono hl2.size)))
 have HZ := Lib.hid (fun w' (h : Below (((w1.alloc (.cells #[.int .i64 9, .int .i64 1, .int .i64 1, .int .i64 0, .int .i64 1] 47)).alloc (.cells #[.int .i64 9, .int .i64 1, .int .i64 0, .int .i64 0, .int .i64 1] 47))).heap.size (((w1.alloc (.cells #[.int .i64 9, .int .i64 1, .int .i64 1, .int .i64 0, .int .i64 1] 47)).alloc (.cells #[.int .i64 9, .int .i64 1, .int .i64 0, .int .i64 0, .int .i64 1] 47))) w') => show w'.cell? ⟨w1.heap.size + 1, 0, none⟩ = some (.int .i64 9) ∧ w'.cell? ⟨w1.heap.size + 1, 1, none⟩ = some (.int .i64 1) ∧ w'.cell? ⟨w1.heap.size + 1, 2, none⟩ = some (.int .i64 0) ∧ w'.cell? ⟨w1.heap.size + 1, 3, none⟩ = some (.int .i64 0) ∧ w'.cell? ⟨w1.heap.size + 1, 4, none⟩ = some (.int .i64 1) from by
  have := box5 (w1.alloc (.cells #[.int .i64 9, .int .i64 1, .int .i64 1, .int .i64 0, .int .i64 1] 47)) (.int .i64 9) (.int .i64 1) (.int .i64 0) (.int .i64 0) (.int .i64 1) 47 w' h
  rwa [World.size_alloc] at this)
 have hq2 := Hq1.out.trans ((hl1.trans (hl2.mono hl1.size)).mono Hq1.out.size)
 have Hq2 := Lib.hid hq2
 have HK2 := Lib.hid (HK.out.below hq2)
 have Hb2 := Lib.hid (Hb1.out.trans ((hl1.trans (hl2.mono hl1.size)).mono Hb1.out.size))
 clear hl1 hl2 hq2
 generalize ((w1.alloc (.cells #[.int .i64 9, .int .i64 1, .int .i64 1, .int .i64 0, .int .i64 1] 47)).alloc (.cells #[.int .i64 9, .int .i64 1, .int .i64 0, .int .i64 0, .int .i64 1] 47)) = W2 at *
 refine (HFb.out W2 _ _ _ HK2.out (HD.out _ Hb2.out)).mono ?_
 rintro e w3 ⟨rfl, hb3⟩
 have HYf := Lib.hid (fun w' (h : Below w3.heap.size w3 w') => HY.out w' (hb3.trans (h.mono hb3.size)))
 have HZf := Lib.hid (fun w' (h : Below w3.heap.size w3 w') => HZ.out w' (hb3.trans (h.mono hb3.size)))
 have HKf := Lib.hid (fun w' (h : Below w3.heap.size w3 w') => HK2.out.below (hb3.trans (h.mono hb3.size)))
 have hb3w := Hb2.out.trans (hb3.mono Hb2.out.size)
 have HDf := Lib.hid (fun w' (h : Below w3.heap.size w3 w') => HD.out w' (hb3w.trans (h.mono hb3w.size)))
 have Hb3 := Lib.hid hb3w
 clear hb3 hb3w HY HZ
 go_wp2_with fail
 refine wp_region_below (by kernel_rfl) (by kernel_rfl) ?_
 repeat (go_big_quiet_step ((intro hw; first
  | rfl
  | (go_at_call 34; exact keep_below hw (HFt.out _ _ _ _ (HKf.out _ hw) (HDf.out _ hw)))
  | (go_at_call 23; exact keep_below hw (HCo.out _ (HDf.out _ hw)))
  | (go_at_call 24; exact keep_below hw (HAt.out _ _ _ (HDf.out _ hw)))
  | (go_at_call 26; exact keep_below hw (HW.out _))
  | (go_at_call 25; exact keep_below hw (HJ.out _))
  | (go_at_call 20; exact keep_below hw (HCk.out _))
  | (obtain ⟨y0, y1, y2, y3, y4⟩ := HYf.out _ hw
     obtain ⟨z0, z1, z2, z3, z4⟩ := HZf.out _ hw
     go_simp
     first | rfl | exact ⟨rfl, hw⟩ | (trace_state; fail)))))
 refine wpQuiet_nil ?_
 intro w5 hb5
 go_wp2
 go_ret
 exact ⟨rfl, Hb3.out.trans (hb5.mono Hb3.out.size)⟩
set_option maxRecDepth 20000 in
set_option maxHeartbeats 4000000 in
theorem walkLimitsCheck (l : Lim) (w : World) (hD : Door w) :
 Calls Tryz.prog 4 #[limV l] w fun e w' => e = .returned (.bool true) ∧ Below w.heap.size w w' := by
 have hal : Below w.heap.size w (w.alloc (.cells #[.int .i64 l.1, .int .i64 l.2.1, .int .i64 l.2.2.1, .int .i64 l.2.2.2.1, .int .i64 l.2.2.2.2] 47)) := (Below.refl _ _).alloc (Nat.le_refl _) _
 have HX := Lib.hid (box5 w (.int .i64 l.1) (.int .i64 l.2.1) (.int .i64 l.2.2.1) (.int .i64 l.2.2.2.1) (.int .i64 l.2.2.2.2) 47)
 have HD := Lib.hid (fun W (h : Below w.heap.size w W) => hD.below (Nat.le_refl _) h)
 have HC := Lib.hid (fun W => limCheck_any l W)
 have HR := Lib.hid (fun W => refLimCheck_any l W)
 have Hal := Lib.hid hal
 unfold limE at HC
 unfold limV at HC HR ⊢
 clear hal hD
 go_enter Tryz.func4, Tryz.ntmps4
 go_wp2_with fail
 refine (HC.out _).mono ?_
 rintro e w1 ⟨rfl, hb1⟩
 obtain ⟨x0, x1, x2, x3, x4⟩ := HX.out _ hb1
 have Hb1 := Lib.hid (Hal.out.trans (hb1.mono Hal.out.size)); clear hb1
 go_wp2_with fail
 refine (HR.out _).mono ?_
 rintro e w2 ⟨rfl, hb2⟩
 have Hb2 := Lib.hid (Hb1.out.trans (hb2.mono Hb1.out.size)); clear hb2 x0 x1 x2 x3 x4
 cases h : limK l with
 | none =>
  simp only [intO, Option.map_none, errOf, errVal]
  go_wp2_with fail
  refine (aliveL_any _ (HD.out _ Hb2.out)).mono ?_
  rintro e w3 ⟨rfl, hb3⟩
  have Hb3 := Lib.hid (Hb2.out.trans (hb3.mono Hb2.out.size)); clear hb3
  go_wp2_with fail
  go_ret
  exact ⟨rfl, Hb3.out⟩
 | some i =>
  simp only [intO, Option.map_some, errOf]
  have hd : decide ((i : Int) < 0) = false := by rw [decide_eq_false_iff_not]; omega
  go_wp2_with fail
  refine (aliveL_any _ (HD.out _ Hb2.out)).mono ?_
  rintro e w3 ⟨rfl, hb3⟩
  have Hb3 := Lib.hid (Hb2.out.trans (hb3.mono Hb2.out.size)); clear hb3
  go_wp2_with fail
  refine (code_any (some ((8 : Nat), some (i : Int))) _ (HD.out _ Hb3.out)).mono ?_
  rintro e w4 ⟨rfl, hb4⟩
  have Hb4 := Lib.hid (Hb3.out.trans (hb4.mono Hb3.out.size)); clear hb4
  go_wp2_with fail
  refine (at_any (some ((8 : Nat), some (i : Int))) _ (HD.out _ Hb4.out)).mono ?_
  rintro e w5 ⟨rfl, hb5⟩
  have Hb5 := Lib.hid (Hb4.out.trans (hb5.mono Hb4.out.size)); clear hb5
  simp only [errAt]
  go_wp2_with fail
  go_ret
  exact ⟨rfl, Hb5.out⟩
structure Ready (w : World) : Prop where
 door : Door w
 codes : Codes w
theorem Ready.below {w w' : World} (h : Ready w) (hb : Below w.heap.size w w') : Ready w' := ⟨h.door.below (Nat.le_refl _) hb, h.codes.below hb⟩
end
section
open Go.ChangeShapes Go.WideShapes Go.RowKit
abbrev LL : List (String × DataW Unit) := Rows.canonSegmentsRow.laid
theorem Lay.own : ownKnob Tryz.prog.godebug = none := by kernel_rfl
theorem Lay.et : Tryz.prog.globalNamed "errors.errorType" = some 1 := by kernel_rfl
theorem Lay.rt : (Tryz.prog.cutTypes.find? (·.1 == "internal/reflectlite.rtype")).map (·.2) = some 186 := by kernel_rfl
theorem Lay.oneRow : ((List.range 320).filter fun t => Tryz.prog.rowNamed t [101, 114, 114, 111, 114]) = [41] := by kernel_rfl
theorem Lay.size : Tryz.prog.types.size = 320 := by kernel_rfl
theorem door_of_handles {W : World} (h' : handlesMet Tryz.prog [("errors.errorType", Rows.laid_errors_errorType)] W) : Door W := by
 obtain ⟨name, u, ty, e1, e2, e3, e4, e5⟩ := h' _ (List.mem_singleton.2 rfl)
 have en : name = [101, 114, 114, 111, 114] := (Option.some.inj e1).symm
 subst en
 obtain rfl := Option.some.inj (Lay.rt.symm.trans e2)
 have hm : ty ∈ (List.range 320).filter fun t => Tryz.prog.rowNamed t [101, 114, 114, 111, 114] := List.mem_filter.2 ⟨List.mem_range.2 (by rw [← Lay.size]; exact e3), e4⟩
 rw [Lay.oneRow] at hm
 obtain rfl := List.mem_singleton.1 hm
 have hh : typeHandle Tryz.prog 41 = .pointer (some ⟨2, 41, none⟩) := by kernel_rfl
 rw [hh] at e5
 have := World.var?_cell Lay.et e5 0
 unfold Door
 simpa using this
theorem Lay.codes : (LL.filter fun x => x.2.handleName?.isNone) = [("kenning/canon.codes", Lib.tabData .i64 [9, 10, 10, 3])] := by rfl
noncomputable def laidWorld (os : Os) : World := World.doorLaid Tryz.prog 21 os
theorem laidWorld_os (os : Os) : (laidWorld os).os = os := rfl
theorem laidWorld_shaped (os : Os) (args : Array Value) : ((laidWorld os).forCall (fun _ _ => 0) ⟨#[], args, []⟩).Shaped Tryz.prog := World.shaped_of_ZipB (by kernel_rfl) (by kernel_rfl)
theorem handed_and_shaped {H : Type} {enc : TypeId × Value → H} {a : Assume} {C : Checked} {os : Os} {f : FuncId} {fn : Func} {s : ChangeSpec} {conds : List PathCond} {apart fresh handsOn again : Bool} {X : World → Array Value → Prop}
 (hX : ∀ (w w' : World) (args : Array Value), w.heap = w'.heap → X w args → X w' args)
 (own : ownKnob C.prog.godebug = none) (started : os.Started) (noInit : C.prog.inits.idxOf? f = none) (hfn : C.prog.funcs[f]? = some fn)
 (witness : ∃ (w : World) (tape : Tape) (i : Input), w.os = os ∧ (w.forCall tape i).Shaped C.prog ∧ i.vars = [] ∧ Input.okWide C.prog (w.forCall tape i) .any w.heap.size f i ∧
   ((s.pre enc C.prog fn conds apart (w.forCall tape i).memory i.args ∧ X (w.forCall tape i).memory i.args) ∧ sizedMet enc C.prog fn (OpenSpec.ofChange s) apart (w.forCall tape i).memory i.args) ∧ a.holds C.prog (lone (Frame.enter C.prog f i.args .normal) [] (w.forCall tape i)))
 (contract : ∀ (W : World) (base : Nat) (args : Array Value) (ds gs : List (DataW H)) (before : List MemPlace),
   (∀ (j : Nat) t v, fn.params[j]? = some t → args[j]? = some v → Value.okWide C.prog W .any base t v) →
   DataW.Whole enc C.prog fn.params.toList s.vars apart W args.toList ds gs before →
   conds.all (PathCond.test C.prog ⟨fn.params.toList, ds, s.plain.varTypes C.prog, gs⟩) = true →
   (DataW.weightsEach C.prog (fn.params.toList ++ s.plain.varTypes C.prog) (ds ++ gs)).all (· ≤ reachBytes) = true → X W args → W.ShapedOpen C.prog →
   a.holds C.prog (lone (Frame.enter C.prog f args .normal) [] W) →
   Calls C.prog f args W fun e W' => ∃ v, e = .returned v ∧ s.post enc C.prog fn apart fresh handsOn again W args v W') :
 ReturnsInHanded a C os f .any (fun w args => (s.pre enc C.prog fn conds apart w args ∧ X w args) ∧ sizedMet enc C.prog fn (OpenSpec.ofChange s) apart w args) (s.post enc C.prog fn apart fresh handsOn again) := by
 refine returnsInHanded_of_calls own started noInit witness ?_
 intro w tape i _ hsh _ hok hpre hholds
 obtain ⟨_, _, _, fn', hfn', _, _, _, _, hval⟩ := hok
 have e : fn' = fn := Option.some.inj (hfn'.symm.trans hfn)
 subst e
 obtain ⟨⟨⟨ds, gs, before, hw, hc⟩, hx⟩, hz⟩ := hpre
 have hw' := DataW.Whole.of_heap (w' := w.forCall tape i) (by rfl) hw
 refine (contract (w.forCall tape i) w.heap.size i.args ds gs before hval hw' hc (hz.weights hw) (hX _ _ _ (by rfl) hx) hsh hholds).mono fun e W' ⟨v, he, hp⟩ => ?_
 subst he
 exact ChangeSpec.post_blind hp
theorem u64_wf {z : Int} (h : (Lit.int .u64 z).wf = true) : ∃ n : Nat, z = n ∧ n < 18446744073709551616 := by
 have h' : 0 ≤ z ∧ z ≤ 18446744073709551615 := by
  simp [Lit.wf, IntKind.min, IntKind.max, IntKind.bits, IntKind.signed] at h
  omega
 exact ⟨z.toNat, by omega, by omega⟩
theorem addr_plain {w : World} {b o d : Nat} {k : Option Nat} {v : Value} (h : w.cell? ((⟨b, o, k⟩ : Addr).add (0 * d)) = some v) : k = none := by
 cases k with
 | none => rfl
 | some j =>
  rw [Nat.zero_mul] at h
  have hx : ((⟨b, o, some j⟩ : Addr).add 0) = ⟨b, o, some j⟩ := rfl
  rw [hx] at h
  unfold World.cell? at h
  split at h <;> simp at h
section
variable {H : Type} {enc : TypeId × Value → H} {W : World} {fuel : Nat} {x : DataW H × List MemPlace}
theorem open_slice_three {P : Program} {base : Nat} {spare : Nat → Bool} {held : Bool} {t e : TypeId} {f0 f1 f2 : Field} {cs : List Value} (ht : P.underlying t = some (.slice e)) (he : P.underlying e = some (.struct #[f0, f1, f2]))
 (ce : P.cellsOf e = 3) (o0 : f0.offset = 0) (o1 : f1.offset = 1) (o2 : f2.offset = 2) (c0 : P.cellsOf f0.type = 1) (c1 : P.cellsOf f1.type = 1) (c2 : P.cellsOf f2.type = 1)
 (h : DataW.trod enc P W base spare held fuel t cs = some x) :
 cs = [.slice none 0 0] ∨ ∃ (a : Addr) (len cap m n : Nat), cs = [.slice (some a) len cap] ∧ len ≤ cap ∧ cap ≤ maxLen ∧ m = (if spare a.block then cap else len) ∧
  ∀ i, i < m → ∃ v0 v1 v2 y0 y1 y2, W.cell? (a.add (i * 3)) = some v0 ∧ W.cell? (a.add (i * 3 + 1)) = some v1 ∧ W.cell? (a.add (i * 3 + 2)) = some v2 ∧
    DataW.trod enc P W base spare held n f0.type [v0] = some y0 ∧ DataW.trod enc P W base spare held n f1.type [v1] = some y1 ∧ DataW.trod enc P W base spare held n f2.type [v2] = some y2 := by
 rcases Deep.open_slice ht h with ⟨h0, -⟩ | ⟨a, len, cap, m, n, D, Pl, rfl, hb, hl, hm, hmm, rfl, hx⟩
 · exact Or.inl h0
 right
 refine ⟨a, len, cap, m, n - 1, rfl, hl, hm, hmm, fun i hi => ?_⟩
 obtain ⟨cs', h1, h2⟩ := hx i hi
 rw [ce] at h1
 obtain ⟨_, hlen, hcell⟩ := World.cells?_some h1
 obtain ⟨xs, k, hk, hxy, _, hxl, hf⟩ := DataW.trod_struct he h2
 have hk' : k = n - 1 := by omega
 subst hk'
 match xs, hxl, cs', hlen with
 | [y0, y1, y2], _, [v0, v1, v2], _ =>
  have g0 := hf 0 f0 rfl
  have g1 := hf 1 f1 rfl
  have g2 := hf 2 f2 rfl
  simp [o0, o1, o2, c0, c1, c2] at g0 g1 g2
  have e0 := hcell 0 (by omega)
  have e1 := hcell 1 (by omega)
  have e2 := hcell 2 (by omega)
  rw [Deep.add_add] at e0 e1 e2
  exact ⟨v0, v1, v2, y0, y1, y2, by simpa using e0, by simpa using e1, by simpa using e2, g0, g1, g2⟩
theorem ivs_open {v : Value} (h : DataW.trod enc Tryz.prog W 0 (fun _ => true) true fuel 28 [v] = some x) : ∃ a n c l, v = .slice a n c ∧ Ivs W a n c l := by
 rcases Deep.open_slice_pairs Tryz.underlying28 Tryz.underlying73 (by kernel_rfl) rfl rfl (by kernel_rfl) (by kernel_rfl) h with ⟨hcs, _⟩ | ⟨ad, len, cap, m, n, V0, V1, D0, D1, P0, P1, hcs, hb, hl, hm, hmm, hx, hc⟩
 · simp at hcs
   subst hcs
   exact ⟨none, 0, 0, [], rfl, ivs_nil _⟩
 · simp at hcs
   subst hcs
   have each : ∀ i, i < m → ∃ s : Iv, W.cell? (ad.add (i * 2)) = some (.int .u64 ((s.1 : Nat) : Int)) ∧ W.cell? (ad.add (i * 2 + 1)) = some (.int .u64 ((s.2 : Nat) : Int)) ∧ s.1 < 18446744073709551616 ∧ s.2 < 18446744073709551616 := by
    intro i hi
    obtain ⟨h1, h2, h3, h4⟩ := hc i hi
    obtain ⟨z0, e0, _, w0⟩ := DataW.trod_int Tryz.underlying24 h3
    obtain ⟨z1, e1, _, w1⟩ := DataW.trod_int Tryz.underlying24 h4
    obtain ⟨n0, rfl, l0⟩ := u64_wf w0
    obtain ⟨n1, rfl, l1⟩ := u64_wf w1
    simp only [List.cons.injEq, and_true] at e0 e1
    rw [e0] at h1
    rw [e1] at h2
    exact ⟨(n0, n1), h1, h2, l0, l1⟩
   obtain ⟨f, hf⟩ := Deep.choose_lt each
   have hmc : m = cap := by simpa using hmm
   refine ⟨some ad, len, cap, (List.range len).map f, rfl, by simp, ?_, hl, by unfold maxLen at hm; omega, (by intro h; cases h), fun hn => ?_⟩
   · intro s hs
     obtain ⟨i, hi, rfl⟩ := List.mem_map.1 hs
     have hi' : i < len := List.mem_range.1 hi
     exact (hf i (by omega)).2.2
   · obtain ⟨b, o, k⟩ := ad
     obtain rfl : k = none := addr_plain (hf 0 (by omega)).1
     refine ⟨b, o, rfl, fun i hi => ?_⟩
     obtain ⟨h1, h2, _, _⟩ := hf i (by omega)
     rw [add_at] at h1 h2
     have e : nthI ((List.range len).map f) i = f i := by rw [nthI_get (by simpa using hi)]; simp
     rw [e, Nat.add_assoc]
     exact ⟨h1, h2⟩
theorem ents_open {v : Value} (h : DataW.trod enc Tryz.prog W 0 (fun _ => true) true fuel 37 [v] = some x) : ∃ a n c l, v = .slice a n c ∧ Ents W a n c l := by
 rcases open_slice_three Tryz.underlying37 Tryz.underlying71 (by kernel_rfl) rfl rfl rfl (by kernel_rfl) (by kernel_rfl) (by kernel_rfl) h with hcs | ⟨ad, len, cap, m, n, hcs, hl, hm, hmm, hc⟩
 · simp at hcs
   subst hcs
   exact ⟨none, 0, 0, [], rfl, ents_nil _⟩
 · simp at hcs
   subst hcs
   have each : ∀ i, i < m → ∃ e : Ent, W.cell? (ad.add (i * 3)) = some (.int .u64 ((e.1 : Nat) : Int)) ∧ W.cell? (ad.add (i * 3 + 1)) = some (.int .u64 ((e.2.1 : Nat) : Int)) ∧ LtE e ∧
    ∃ x k c, W.cell? (ad.add (i * 3 + 2)) = some (.slice x k c) ∧ Ivs W x k c e.2.2 := by
    intro i hi
    obtain ⟨v0, v1, v2, y0, y1, y2, h1, h2, h3, g0, g1, g2⟩ := hc i hi
    obtain ⟨z0, e0, _, w0⟩ := DataW.trod_int Tryz.underlying24 g0
    obtain ⟨z1, e1, _, w1⟩ := DataW.trod_int Tryz.underlying24 g1
    obtain ⟨a, k, c, l, rfl, hI⟩ := ivs_open g2
    obtain ⟨n0, rfl, l0⟩ := u64_wf w0
    obtain ⟨n1, rfl, l1⟩ := u64_wf w1
    simp only [List.cons.injEq, and_true] at e0 e1
    rw [e0] at h1
    rw [e1] at h2
    exact ⟨(n0, n1, l), h1, h2, ⟨l0, l1, hI.lt⟩, a, k, c, h3, hI⟩
   obtain ⟨f, hf⟩ := Deep.choose_lt each
   have hmc : m = cap := by simpa using hmm
   refine ⟨some ad, len, cap, (List.range len).map f, rfl, by simp, ?_, hl, by unfold maxLen at hm; omega, (by intro h; cases h), fun hn => ?_⟩
   · intro s hs
     obtain ⟨i, hi, rfl⟩ := List.mem_map.1 hs
     have hi' : i < len := List.mem_range.1 hi
     exact (hf i (by omega)).2.2.1
   · obtain ⟨b, o, k⟩ := ad
     obtain rfl : k = none := addr_plain (hf 0 (by omega)).1
     refine ⟨b, o, rfl, fun i hi => ?_⟩
     obtain ⟨h1, h2, -, x, k, c, h3, h4⟩ := hf i (by omega)
     rw [add_at] at h1 h2 h3
     have e : nthE ((List.range len).map f) i = f i := by rw [nthE_get (by simpa using hi)]; simp
     rw [e, Nat.add_assoc, Nat.add_assoc]
     exact ⟨h1, h2, x, k, c, h3, h4⟩
theorem frags_open {v : Value} (h : DataW.trod enc Tryz.prog W 0 (fun _ => true) true fuel 23 [v] = some x) : ∃ a n c k, v = .slice a n c ∧ Frags W a n c k := by
 rcases Deep.open_slice_pairs Tryz.underlying23 Tryz.underlying39 (by kernel_rfl) rfl rfl (by kernel_rfl) (by kernel_rfl) h with ⟨hcs, _⟩ | ⟨ad, len, cap, m, n, V0, V1, D0, D1, P0, P1, hcs, hb, hl, hm, hmm, hx, hc⟩
 · simp at hcs
   subst hcs
   exact ⟨none, 0, 0, [], rfl, frags_nil _⟩
 · simp at hcs
   subst hcs
   have each : ∀ i, i < m → ∃ f : Frg, IvCell W (ad.add (i * 2)) f.1 ∧ EnCell W (ad.add (i * 2 + 1)) f.2 := by
    intro i hi
    obtain ⟨h1, h2, h3, h4⟩ := hc i hi
    obtain ⟨a, k, c, l, e0, hI⟩ := ivs_open h3
    obtain ⟨a', k', c', l', e1, hV⟩ := ents_open h4
    rw [e0] at h1
    rw [e1] at h2
    exact ⟨(l, l'), ⟨a, k, c, h1, hI⟩, ⟨a', k', c', h2, hV⟩⟩
   obtain ⟨f, hf⟩ := Deep.choose_lt each
   have hmc : m = cap := by simpa using hmm
   refine ⟨some ad, len, cap, (List.range len).map f, rfl, by simp, hl, by unfold maxLen at hm; omega, (by intro h; cases h), fun hn => ?_⟩
   obtain ⟨b, o, k⟩ := ad
   obtain rfl : k = none := by
    obtain ⟨⟨_, _, _, h1, _⟩, _⟩ := hf 0 (by omega)
    exact addr_plain h1
   refine ⟨b, o, rfl, fun i hi => ?_⟩
   obtain ⟨h1, h2⟩ := hf i (by omega)
   rw [add_at] at h1 h2
   have e : nthF ((List.range len).map f) i = f i := by rw [nthF_get (by simpa using hi)]; simp
   rw [e, Nat.add_assoc]
   exact ⟨h1, h2⟩
end
end
section
open Go.ChangeShapes Go.WideShapes Go.RowKit
abbrev LM : List (String × DataW Unit) := Rows.limitsCheckRow.laid
theorem LM_parts {W : World} (h : laidMetH Tryz.prog LM W) : laidMet Tryz.prog (LM.filter fun x => x.2.handleName?.isNone) W ∧ handlesMet Tryz.prog [("errors.errorType", Rows.laid_errors_errorType)] W := h
theorem door_of_laid {W : World} (h : laidMetH Tryz.prog LM W) : Door W := door_of_handles (LM_parts h).2
theorem limWorld_met (os : Os) (args : Array Value) : laidMetH Tryz.prog LM ((laidWorld os).forCall (fun _ _ => 0) ⟨#[], args, []⟩).memory :=
 laidMetH_of_parts (laidMet_of_run3 8 (by kernel_rfl) (by kernel_rfl) (by kernel_rfl)) (by kernel_rfl)
set_option maxRecDepth 100000 in
theorem lim_open {H : Type} {enc : TypeId × Value → H} {W : World} {fuel : Nat} {v : Value} {x : DataW H × List MemPlace} (hv : ∃ cs, v = .agg cs ∧ cs.size = Tryz.prog.cellsOf 47)
 (h : DataW.trod enc Tryz.prog W 0 (fun _ => true) true fuel 47 v.cells.toList = some x) : ∃ l : Lim, v = limV l := by
 obtain ⟨cs, rfl, hs⟩ := hv
 have h5 : Tryz.prog.cellsOf 47 = 5 := by kernel_rfl
 have h1 : Tryz.prog.cellsOf 3 = 1 := by kernel_rfl
 rw [h5] at hs
 obtain ⟨l⟩ := cs
 have hs' : l.length = 5 := hs
 have h' : DataW.trod enc Tryz.prog W 0 (fun _ => true) true fuel 47 l = some x := h
 obtain ⟨xs, n, -, -, -, hxl, hf⟩ := DataW.trod_struct Tryz.underlying47 h'
 match xs, hxl, l, hs' with
 | [y0, y1, y2, y3, y4], _, [v0, v1, v2, v3, v4], _ =>
  have g0 := hf 0 _ rfl
  have g1 := hf 1 _ rfl
  have g2 := hf 2 _ rfl
  have g3 := hf 3 _ rfl
  have g4 := hf 4 _ rfl
  simp [h1] at g0 g1 g2 g3 g4
  obtain ⟨z0, e0, _, w0⟩ := DataW.trod_int Tryz.underlying3 g0
  obtain ⟨z1, e1, _, w1⟩ := DataW.trod_int Tryz.underlying3 g1
  obtain ⟨z2, e2, _, w2⟩ := DataW.trod_int Tryz.underlying3 g2
  obtain ⟨z3, e3, _, w3⟩ := DataW.trod_int Tryz.underlying3 g3
  obtain ⟨z4, e4, _, w4⟩ := DataW.trod_int Tryz.underlying3 g4
  simp only [List.cons.injEq, and_true] at e0 e1 e2 e3 e4
  subst e0 e1 e2 e3 e4
  exact ⟨(z0, z1, z2, z3, z4), rfl⟩
end
end Go.Proofs.YtkkdlgcfcbaibaaGreatDoor
