/- Walks and laws, joined: La20. -/
import Derived.Shelf.Small.Bits
import Derived.Shelf.Small.Wraps
import Derived.Shelf.Strconv.Itoa0
import Derived.Shelf.Slices.Equal
import Derived.Ground.Names2Prog
import Derived.Shelf.Slices.SearchI
import Derived.Shelf.Slices.Empties2
import Derived.Test.YtkkdlgcfcbaibaaGreatDoorProg
import Derived.Test.YtkkdlgcfcbaibaaGreatDoorLa12
import Derived.Test.YtkkdlgcfcbaibaaGreatDoorLa19
import Derived.Test.YtkkdlgcfcbaibaaGreatDoorLa02
import Derived.Test.YtkkdlgcfcbaibaaGreatDoorLa13
import Derived.Test.YtkkdlgcfcbaibaaGreatDoorLa17
import Derived.Test.YtkkdlgcfcbaibaaGreatDoorLa08
import Derived.Test.YtkkdlgcfcbaibaaGreatDoorLa16
set_option linter.unusedVariables false
namespace Go.Proofs.YtkkdlgcfcbaibaaGreatDoor
section
open Go.RowKit
theorem entCheck2_any (a : Option Addr) (n c p : Nat) (hs : List Iv) (w : World) (hI : Ivs w a n c hs) (hD : Door w) (hp : w.cell? ⟨p, 2, none⟩ = some (.slice a n c)) :
 Calls Tryz.prog 175 #[.pointer (some ⟨p, 0, none⟩)] w fun e w' => e = .returned (errVal (errOf (ck hs))) ∧ Below w.heap.size w w' := by
 have hC := Lib.hid (check_any a n c hs w hI hD)
 clear hI hD
 go_enter Tryz.func175, Tryz.ntmps175
 go_wp2_with fail
 refine hC.out.mono ?_
 rintro e w1 ⟨rfl, hb1⟩
 have Hb1 := Lib.hid hb1; clear hb1
 go_wp2
 go_ret
 exact ⟨rfl, Hb1.out⟩
set_option maxRecDepth 20000 in
set_option maxHeartbeats 2000000 in
theorem entCheck1_any (a : Option Addr) (n c p r m : Nat) (hs : List Iv) (w : World) (hI : Ivs w a n c hs) (hp : w.cell? ⟨p, 2, none⟩ = some (.slice a n c)) (hq : w.cell? ⟨p, 1, none⟩ = some (.int .u64 m)) :
 Calls Tryz.prog 174 #[.pointer (some ⟨p, 0, none⟩)] w fun e w' => e = .returned (errVal (errOf (firstS (ckHole (r, m, hs)) hs.length))) ∧ Below w.heap.size w w' := by
 have HI := Lib.hid hI
 have Hl := Lib.hid hI.len
 have hnm : n ≤ 9223372036854775807 := Nat.le_trans hI.room hI.most
 have Hq2 := Lib.hid (fun w' (h : Below w.heap.size w w') => (h.cell (p := ⟨p, 1, none⟩) (cell_lt hq)).trans hq)
 clear hI
 go_enter Tryz.func174, Tryz.ntmps174
 go_wp2
 clear hp hq
 go_loopw [2, 3, 7] (fun _ _ i wr => ∃ k : Nat, k ≤ n ∧ i = .int .i64 k ∧ Below w.heap.size w wr ∧ Hid (∀ j, j < k → ckHole (r, m, hs) j = none)) (fun _ _ i _ => n - (intOf i).toNat)
 case atStart => exact ⟨0, by omega, rfl, Below.refl _ _, fun j h => by omega⟩
 case round =>
  obtain ⟨k, hk, rfl, hb, ht⟩ := hrel
  have Hb := Lib.hid hb; clear hb
  by_cases hkn : k < n
  · obtain ⟨cb, co, rfl, hcell⟩ := (HI.out.below Hb.out).cells (by omega)
    obtain ⟨c1, c2⟩ := hcell k hkn
    have hq := Hq2.out _ Hb.out
    clear hcell
    have h0 : (0 : Int) ≤ k := by omega
    have h04 : (k : Int) < (n : Int) := by omega
    have Hh := Lib.hid (show ckHole (r, m, hs) k = if m < (nthI hs k).2 then some (4, k) else none from rfl)
    have hkl : k < hs.length := by rw [Hl.out]; exact hkn
    generalize nthI hs k = s at *
    obtain ⟨x, u⟩ := s
    simp only at c1 c2 Hh
    have hal : Below wr.heap.size wr (wr.alloc (.cells #[.int .u64 x, .int .u64 u] 73)) := (Below.refl _ _).alloc (Nat.le_refl _) _
    have hq2 := (hal.cell (p := ⟨p, 1, none⟩) (cell_lt hq)).trans hq
    have Hal := Lib.hid (Hb.out.trans (hal.mono Hb.out.size))
    clear hal
    by_cases hu : m < u
    · have hd1 : decide ((m : Int) < (u : Int)) = true := by rw [decide_eq_true_iff]; omega
      have hd2 : decide (m < u) = true := by rw [decide_eq_true_iff]; omega
      have Hr := Lib.hid (firstS_some hkl ht.out (Hh.out.trans (if_pos hu)))
      clear hu
      go_wp2_with fail
      refine (new_any 4 k _).mono ?_
      rintro e w3 ⟨rfl, rfl⟩
      go_wp2
      go_ret
      exact ⟨by rw [Hr.out]; rfl, by first | exact Hal.out | exact below_drewN' Hal.out _⟩
    · have hd1 : decide ((m : Int) < (u : Int)) = false := by rw [decide_eq_false_iff_not]; omega
      have hd2 : decide (m < u) = false := by rw [decide_eq_false_iff_not]; omega
      have Hr := Lib.hid (firstS_step ht.out (Hh.out.trans (if_neg hu)))
      clear hu
      go_wp2
      go_roundw
      case rel => exact ⟨k + 1, by omega, by go_num, by first | exact Hal.out | exact below_drewN' Hal.out _, Hr.out⟩
      case measure => simp [intOf]; omega
  · obtain rfl : k = n := by omega
    have Hr := Lib.hid (firstS_none (n := hs.length) (fun j hj => ht.out j (by rw [← Hl.out]; exact hj)))
    go_wp2
    go_ret
    exact ⟨by rw [Hr.out]; rfl, Hb.out⟩
set_option maxRecDepth 20000 in
set_option maxHeartbeats 2000000 in
theorem entCheck_any (e : Ent) (a : Option Addr) (n c : Nat) (w : World) (hI : Ivs w a n c e.2.2) (hD : Door w) :
 Calls Tryz.prog 138 #[entV e (.slice a n c)] w fun y w' => y = .returned (errVal (errOf (ckE e))) ∧ Below w.heap.size w w' := by
 obtain ⟨r, m, hs⟩ := e
 simp only at hI
 have hal : Below w.heap.size w (w.alloc (.cells #[.int .u64 r, .int .u64 m, .slice a n c] 71)) := (Below.refl w.heap.size w).alloc (Nat.le_refl _) _
 have hq := box3 w (.int .u64 r) (.int .u64 m) (.slice a n c) 71
 have hC2 := Lib.hid (fun w' (h : Below (w.alloc (.cells #[.int .u64 r, .int .u64 m, .slice a n c] 71)).heap.size (w.alloc (.cells #[.int .u64 r, .int .u64 m, .slice a n c] 71)) w') =>
  entCheck2_any a n c w.heap.size hs w' (hI.below (hal.trans (h.mono hal.size))) (hD.below (Nat.le_refl _) (hal.trans (h.mono hal.size))) (hq w' h).2.2)
 have hC1 := Lib.hid (fun w' (h : Below (w.alloc (.cells #[.int .u64 r, .int .u64 m, .slice a n c] 71)).heap.size (w.alloc (.cells #[.int .u64 r, .int .u64 m, .slice a n c] 71)) w') =>
  entCheck1_any a n c w.heap.size r m hs w' (hI.below (hal.trans (h.mono hal.size))) (hq w' h).2.2 (hq w' h).2.1)
 have Hal := Lib.hid hal
 have Hck := Lib.hid (show ckE (r, m, hs) = match ck hs with | some x => some x | none => firstS (ckHole (r, m, hs)) hs.length from rfl)
 clear hI hD hal hq
 go_enter Tryz.func138, Tryz.ntmps138
 go_wp2
 obtain ⟨fs, hfs⟩ : ∃ fs : Obj, fs = .cells #[.func (.func 175) #[] #[.pointer (some ⟨w.heap.size, 0, none⟩)], .func (.func 174) #[] #[.pointer (some ⟨w.heap.size, 0, none⟩)]] 194 := ⟨_, rfl⟩
 have hb0 : Below (w.alloc (.cells #[.int .u64 r, .int .u64 m, .slice a n c] 71)).heap.size (w.alloc (.cells #[.int .u64 r, .int .u64 m, .slice a n c] 71)) ((w.alloc (.cells #[.int .u64 r, .int .u64 m, .slice a n c] 71)).alloc fs) := (Below.refl _ _).alloc (Nat.le_refl _) _
 have hrow : ((w.alloc (.cells #[.int .u64 r, .int .u64 m, .slice a n c] 71)).alloc fs).heap[w.heap.size + 1]? = some fs := row_new (by simp)
 have hsz : ((w.alloc (.cells #[.int .u64 r, .int .u64 m, .slice a n c] 71)).alloc fs).heap.size = w.heap.size + 2 := by simp
 rw [← hfs]
 generalize (w.alloc (.cells #[.int .u64 r, .int .u64 m, .slice a n c] 71)).alloc fs = W2 at *
 have Hb0 := Lib.hid hb0
 have Hz := Lib.hid hb0.size
 have Hfn := Lib.hid (show ∀ w', Below W2.heap.size W2 w' → w'.cell? ⟨w.heap.size + 1, 0, none⟩ = some (.func (.func 175) #[] #[.pointer (some ⟨w.heap.size, 0, none⟩)]) ∧ w'.cell? ⟨w.heap.size + 1, 1, none⟩ = some (.func (.func 174) #[] #[.pointer (some ⟨w.heap.size, 0, none⟩)]) from fun w' h => by
  have hr : w'.heap[w.heap.size + 1]? = some fs := (h.block _ (by omega)).trans hrow
  rw [hfs] at hr
  exact ⟨cells_cell (i := 0) hr rfl, cells_cell (i := 1) hr rfl⟩)
 clear hb0 hrow hsz hfs
 go_loopw [5, 6, 12] (fun _ _ i wr => Below W2.heap.size W2 wr ∧ Hid (i = .int .i64 0 ∨ (i = .int .i64 1 ∧ ck hs = none) ∨ (i = .int .i64 2 ∧ ck hs = none ∧ firstS (ckHole (r, m, hs)) hs.length = none))) (fun _ _ i _ => 2 - (intOf i).toNat)
 case atStart => exact ⟨Below.refl _ _, .inl rfl⟩
 case round =>
  obtain ⟨hb, hi⟩ := hrel
  have Hb := Lib.hid hb; clear hb
  have Hbw := Lib.hid (Hb0.out.trans (Hb.out.mono Hz.out))
  have Hbz := Lib.hid (Hal.out.trans (Hbw.out.mono Hal.out.size))
  obtain ⟨f1, f2⟩ := Hfn.out _ Hb.out
  rcases hi.out with rfl | ⟨rfl, h1⟩ | ⟨rfl, h1, h2⟩
  · have hC := Lib.hid (hC2.out wr Hbw.out)
    cases h : ck hs with
    | none =>
     rw [h] at hC
     simp only [errOf, errVal] at hC
     have Hn := Lib.hid h
     clear h hi
     go_wp2_with fail
     refine hC.out.mono ?_
     rintro e w1 ⟨rfl, hb1⟩
     have Hb1 := Lib.hid (Hb.out.trans (hb1.mono Hb.out.size)); clear hb1
     go_wp2
     go_roundw
     case rel => exact ⟨Hb1.out, .inr (.inl ⟨by go_num, trivial⟩)⟩
     case measure => simp [intOf]
    | some x =>
     obtain ⟨cd, ci⟩ := x
     rw [h] at hC Hck
     simp only [errOf, errVal] at hC Hck
     clear h hi
     go_wp2_with fail
     refine hC.out.mono ?_
     rintro e w1 ⟨rfl, hb1⟩
     have Hb1 := Lib.hid (Hbz.out.trans (hb1.mono Hbz.out.size)); clear hb1
     go_wp2
     go_ret
     exact ⟨by rw [Hck.out]; rfl, Hb1.out⟩
  · have hC := Lib.hid (hC1.out wr Hbw.out)
    rw [h1] at Hck
    simp only at Hck
    cases h : firstS (ckHole (r, m, hs)) hs.length with
    | none =>
     rw [h] at hC
     simp only [errOf, errVal] at hC
     have Hn := Lib.hid (And.intro h1 h)
     clear h hi h1
     go_wp2_with fail
     refine hC.out.mono ?_
     rintro e w1 ⟨rfl, hb1⟩
     have Hb1 := Lib.hid (Hb.out.trans (hb1.mono Hb.out.size)); clear hb1
     go_wp2
     go_roundw
     case rel => exact ⟨Hb1.out, .inr (.inr ⟨by go_num, Hn.out.1, trivial⟩)⟩
     case measure => simp [intOf]
    | some x =>
     obtain ⟨cd, ci⟩ := x
     rw [h] at hC Hck
     simp only [errOf, errVal] at hC
     clear h hi h1
     go_wp2_with fail
     refine hC.out.mono ?_
     rintro e w1 ⟨rfl, hb1⟩
     have Hb1 := Lib.hid (Hbz.out.trans (hb1.mono Hbz.out.size)); clear hb1
     go_wp2
     go_ret
     exact ⟨by rw [Hck.out]; rfl, Hb1.out⟩
  · rw [h1] at Hck
    simp only at Hck
    rw [h2] at Hck
    clear h1 h2 hi
    go_wp2
    go_ret
    exact ⟨by rw [Hck.out]; rfl, Hbz.out⟩
end
end Go.Proofs.YtkkdlgcfcbaibaaGreatDoor
section
namespace Go.Proofs
open Go.Shelf
def Tryz.lays125_ren : Go.Shelf.Ren := ⟨fun | 125 => 73 | 128 => 129 | 129 => 130 | n => n, fun | 46 => 124 | 3 => 3 | 51 => 177 | 53 => 24 | 4 => 4 | 5 => 5 | 9 => 9 | n => n, fun | n => n⟩
theorem Tryz.lays125 : Go.Proofs.Lays.n125 Tryz.prog Tryz.lays125_ren := {
 mixed := by kernel_rfl
 f125 := Tryz.func73.trans (congrArg some (by kernel_rfl))
 f128 := Tryz.func129.trans (congrArg some (by kernel_rfl))
 f129 := Tryz.func130.trans (congrArg some (by kernel_rfl))
 t3 := Tryz.underlying3
 a3 := Tryz.isAgg3
 z3 := Tryz.sizeOf3
 v3 := Tryz.zeroValue3
 t4 := Tryz.underlying4
 a4 := Tryz.isAgg4
 z4 := Tryz.sizeOf4
 v4 := Tryz.zeroValue4
 t5 := Tryz.underlying5
 a5 := Tryz.isAgg5
 z5 := Tryz.sizeOf5
 v5 := Tryz.zeroValue5
 t9 := Tryz.underlying9
 a9 := Tryz.isAgg9
 z9 := Tryz.sizeOf9
 v9 := Tryz.zeroValue9
 t46 := Tryz.underlying124
 a46 := Tryz.isAgg124
 z46 := Tryz.sizeOf124
 v46 := Tryz.zeroValue124
 t51 := Tryz.underlying177
 a51 := Tryz.isAgg177
 z51 := Tryz.sizeOf177
 v51 := Tryz.zeroValue177
 t53 := Tryz.underlying24
 a53 := Tryz.isAgg24
 z53 := Tryz.sizeOf24
 v53 := Tryz.zeroValue24 }
theorem Tryz.bits_Len (x : Int) (w : World) (h0 : 0 ≤ x) (h1 : x ≤ 18446744073709551615) :
 Calls Tryz.prog 73 #[.int .u64 x] w fun e w' => e = .returned (.int .i64 (Lib.bitLen x.toNat)) ∧ w' = w := Any.bits_Len Tryz.lays125 x w h0 h1
open Go.RowKit in
open Go.RowKit in
def Tryz.lays129_ren : Go.Shelf.Ren := ⟨fun | 129 => 130 | n => n, fun | 53 => 24 | 3 => 3 | 4 => 4 | 46 => 124 | 5 => 5 | 9 => 9 | n => n, fun | n => n⟩
theorem Tryz.lays129 : Go.Proofs.Lays.n129 Tryz.prog Tryz.lays129_ren := {
 mixed := by kernel_rfl
 f129 := Tryz.func130.trans (congrArg some (by kernel_rfl))
 t3 := Tryz.underlying3
 a3 := Tryz.isAgg3
 z3 := Tryz.sizeOf3
 v3 := Tryz.zeroValue3
 t4 := Tryz.underlying4
 a4 := Tryz.isAgg4
 z4 := Tryz.sizeOf4
 v4 := Tryz.zeroValue4
 t5 := Tryz.underlying5
 a5 := Tryz.isAgg5
 z5 := Tryz.sizeOf5
 v5 := Tryz.zeroValue5
 t9 := Tryz.underlying9
 a9 := Tryz.isAgg9
 z9 := Tryz.sizeOf9
 v9 := Tryz.zeroValue9
 t46 := Tryz.underlying124
 a46 := Tryz.isAgg124
 z46 := Tryz.sizeOf124
 v46 := Tryz.zeroValue124
 t53 := Tryz.underlying24
 a53 := Tryz.isAgg24
 z53 := Tryz.sizeOf24
 v53 := Tryz.zeroValue24 }
theorem Tryz.bits_Len64 (x : Int) (w : World) (h0 : 0 ≤ x) (h1 : x ≤ 18446744073709551615) :
 Calls Tryz.prog 130 #[.int .u64 x] w fun e w' => e = .returned (.int .i64 (Lib.bitLen x.toNat)) ∧ w' = w := Any.bits_Len64 Tryz.lays129 x w h0 h1
def Tryz.lays111_ren : Go.Shelf.Ren := ⟨fun | 111 => 15 | n => n, fun | 28 => 29 | 3 => 3 | 4 => 4 | 0 => 0 | n => n, fun | n => n⟩
theorem Tryz.lays111 : Go.Proofs.Lays.n111 Tryz.prog Tryz.lays111_ren := {
 mixed := by kernel_rfl
 f111 := Tryz.func15.trans (congrArg some (by kernel_rfl))
 t0 := Tryz.underlying0
 a0 := Tryz.isAgg0
 z0 := Tryz.sizeOf0
 v0 := Tryz.zeroValue0
 t3 := Tryz.underlying3
 a3 := Tryz.isAgg3
 z3 := Tryz.sizeOf3
 v3 := Tryz.zeroValue3
 t4 := Tryz.underlying4
 a4 := Tryz.isAgg4
 z4 := Tryz.sizeOf4
 v4 := Tryz.zeroValue4
 t28 := Tryz.underlying29
 a28 := Tryz.isAgg29
 z28 := Tryz.sizeOf29
 v28 := Tryz.zeroValue29 }
open Go.RowKit Go.Lib in
theorem Tryz.slices_Equal_int (b1 o1 n c b2 o2 m d : Nat) (xs ys : List Int) (w : World) (hx : n ≤ xs.length) (hy : m ≤ ys.length) (hbig : n ≤ 9223372036854775807) (hbig2 : m ≤ 9223372036854775807) (hc1 : ∀ j, j < xs.length → w.cell? ⟨b1, o1 + j, none⟩ = some (.int .i64 (xs.getD j 0))) (hc2 : ∀ j, j < ys.length → w.cell? ⟨b2, o2 + j, none⟩ = some (.int .i64 (ys.getD j 0))) :
 Calls Tryz.prog 15 #[.slice (some ⟨b1, o1, none⟩) n c, .slice (some ⟨b2, o2, none⟩) m d] w fun e w' => e = .returned (.bool (xs.take n == ys.take m)) ∧ ∃ q, w' = w.drewN q := Any.slices_Equal_int Tryz.lays111 b1 o1 n c b2 o2 m d xs ys w hx hy hbig hbig2 hc1 hc2
open Go.RowKit Go.Lib in
theorem Tryz.slices_Equal_int_empty (a1 a2 : Option Addr) (c m d : Nat) (w : World) (hbig2 : m ≤ 9223372036854775807) :
 Calls Tryz.prog 15 #[.slice a1 0 c, .slice a2 m d] w fun e w' => e = .returned (.bool (decide (m = 0))) ∧ w' = w := Any.slices_Equal_int_empty Tryz.lays111 a1 a2 c m d w hbig2
open Go.RowKit Go.Lib in
open Go.RowKit Go.Lib in
theorem Tryz.slices_Equal_int_lens (a1 a2 : Option Addr) (n c m d : Nat) (w : World) (hnm : n ≠ m) :
 Calls Tryz.prog 15 #[.slice a1 n c, .slice a2 m d] w fun e w' => e = .returned (.bool false) ∧ w' = w := Any.slices_Equal_int_lens Tryz.lays111 a1 a2 n c m d w hnm
end Go.Proofs
end
namespace Go.Proofs.YtkkdlgcfcbaibaaGreatDoor
section
open Go.RowKit
theorem isNaN_any (x : Nat) (w : World) : Calls Tryz.prog 74 #[.int .u64 x] w fun e w' => e = .returned (.bool false) ∧ w' = w := by
 go_enter Tryz.func74, Tryz.ntmps74
 go_wp2
 go_ret
 exact ⟨by simp, rfl⟩
theorem cmp_any (x y : Nat) (w : World) : Calls Tryz.prog 41 #[.int .u64 x, .int .u64 y] w fun e w' => e = .returned (.int .i64 (Lib.compareInt (x : Int) (y : Int))) ∧ w' = w := by
 unfold Lib.compareInt
 by_cases h1 : x < y
 · rw [if_pos (by omega)]
   go_enter Tryz.func41, Tryz.ntmps41
   go_wp2_with (go_at_call 74; refine (isNaN_any _ _).mono ?_; rintro e w1 ⟨rfl, rfl⟩)
   go_ret
   exact ⟨rfl, rfl⟩
 · rw [if_neg (by omega)]
   by_cases h2 : y < x
   · rw [if_pos (by omega)]
     go_enter Tryz.func41, Tryz.ntmps41
     go_wp2_with (go_at_call 74; refine (isNaN_any _ _).mono ?_; rintro e w1 ⟨rfl, rfl⟩)
     go_ret
     exact ⟨rfl, rfl⟩
   · rw [if_neg (by omega)]
     go_enter Tryz.func41, Tryz.ntmps41
     go_wp2_with (go_at_call 74; refine (isNaN_any _ _).mono ?_; rintro e w1 ⟨rfl, rfl⟩)
     go_ret
     exact ⟨rfl, rfl⟩
theorem errNew_nz {c : Nat} (a : Nat) (h : c ≠ 0) : errNew (c : Int) (a : Int) = some ((c : Int), some (a : Int)) := by
 unfold errNew; rw [if_neg (by omega)]
theorem keyCmp_any (r : Nat) (e : Ent) (s : Value) (w : World) : Calls Tryz.prog 139 #[.int .u64 r, entV e s] w fun x w' => x = .returned (.int .i64 (Lib.compareInt (e.1 : Int) (r : Int))) ∧ Below w.heap.size w w' := by
 obtain ⟨er, em, eh⟩ := e
 obtain ⟨q0, q1, q2⟩ := box3 w (.int .u64 er) (.int .u64 em) s 71 _ (Below.refl _ _)
 have Hal := Lib.hid ((Below.refl w.heap.size w).alloc (Nat.le_refl _) (.cells #[.int .u64 er, .int .u64 em, s] 71))
 go_enter Tryz.func139, Tryz.ntmps139
 go_wp2_with fail
 refine (cmp_any er r _).mono ?_
 rintro e w1 ⟨rfl, rfl⟩
 go_wp2
 go_ret
 exact ⟨rfl, Hal.out⟩
set_option maxRecDepth 20000 in
set_option maxHeartbeats 4000000 in
theorem vecCheck_any (a : Option Addr) (n cap : Nat) (v : Vec) (w : World) (hE : Ents w a n cap v) (hD : Door w) :
 Calls Tryz.prog 94 #[.slice a n cap] w fun x w' => x = .returned (errVal (errOf (ckV v))) ∧ Below w.heap.size w w' := by
 have HE := Lib.hid hE; have HD := Lib.hid hD
 have Hl := Lib.hid hE.len
 have hm : n ≤ 9223372036854775807 := Nat.le_trans hE.room hE.most
 have Hck := Lib.hid (show ckV v = firstS (ckVAt v) v.length from rfl)
 clear hE hD
 go_enter Tryz.func94, Tryz.ntmps94
 go_wp2
 go_loopw [3, 4, 5, 8] (fun _ _ _ i wr => ∃ k : Nat, k ≤ n ∧ i = .int .i64 k ∧ Below w.heap.size w wr ∧ Hid (∀ j, j < k → ckVAt v j = none)) (fun _ _ _ i _ => n - (intOf i).toNat)
 case atStart => exact ⟨0, by omega, rfl, Below.refl _ _, fun j h => by omega⟩
 case round =>
  obtain ⟨k, hk, rfl, hb, ht⟩ := hrel
  have Hb := Lib.hid hb; clear hb
  by_cases hkn : k < n
  · have hkv : k < v.length := by rw [Hl.out]; exact hkn
    have HEr := Lib.hid (HE.out.below Hb.out)
    obtain ⟨bb, oo, rfl⟩ := HEr.out.some (by omega)
    obtain ⟨x, m, c, hq⟩ := HEr.out.fix hkn
    have Hat := Lib.hid (show ckVAt v k = match ckE (nthE v k) with | some x => some (x.1, k) | none => if 0 < k ∧ (nthE v k).1 ≤ (nthE v (k - 1)).1 then some (3, k) else none from rfl)
    have Hp := Lib.hid (show 0 < k → ∀ w', Below wr.heap.size wr w' → w'.cell? ⟨bb, oo + (k - 1) * 3, none⟩ = some (.int .u64 (((nthE v (k - 1)).1 : Nat) : Int)) from fun h0 w' h => (HEr.out.at (k := k - 1) (by omega) w' h).1)
    generalize nthE v k = e at *
    generalize nthE v (k - 1) = p at *
    have h0 : (0 : Int) ≤ k := by omega
    have h04 : (k : Int) < (n : Int) := by omega
    obtain ⟨q1, q2, q3, -⟩ := hq _ (Below.refl _ _)
    have hal : Below wr.heap.size wr (wr.alloc (.cells #[.int .u64 e.1, .int .u64 e.2.1, .slice x m c] 71)) := (Below.refl _ _).alloc (Nat.le_refl _) _
    have HX := Lib.hid (box3 wr (.int .u64 e.1) (.int .u64 e.2.1) (.slice x m c) 71)
    have hDa := HD.out.below (Nat.le_refl _) (Hb.out.trans (hal.mono Hb.out.size))
    have hC := Lib.hid (entCheck_any e x m c (wr.alloc (.cells #[.int .u64 e.1, .int .u64 e.2.1, .slice x m c] 71)) (hq _ hal).2.2.2 hDa)
    have Hal := Lib.hid hal
    have HalW := Lib.hid (Hb.out.trans (hal.mono Hb.out.size))
    clear hq hal hDa
    obtain ⟨er, em, eh⟩ := e
    obtain ⟨pr, pm, ph⟩ := p
    simp only at q1 q2 q3 Hp Hat hC HX Hal HalW
    cases h : ckE (er, em, eh) with
    | some y =>
     obtain ⟨cd, ci⟩ := y
     rw [h] at Hat hC
     simp only [errOf, errVal] at Hat hC
     have hc0 := ckE_code h
     simp only at hc0
     have Hr := Lib.hid (firstS_some hkv ht.out Hat.out)
     clear h
     go_wp2_with fail
     refine hC.out.mono ?_
     rintro z w1 ⟨rfl, hb1⟩
     have Hb1 := Lib.hid (HalW.out.trans (hb1.mono HalW.out.size)); clear hb1
     go_wp2_with fail
     refine (code_any (some ((cd : Int), some (ci : Int))) _ (HD.out.below (Nat.le_refl _) Hb1.out)).mono ?_
     rintro z w2 ⟨rfl, hb2⟩
     have Hb2 := Lib.hid (Hb1.out.trans (hb2.mono Hb1.out.size)); clear hb2
     simp only [errCode]
     go_wp2_with fail
     refine (new_any cd k _).mono ?_
     rintro z w3 ⟨rfl, rfl⟩
     go_wp2
     go_ret
     exact ⟨by rw [Hck.out, Hr.out]; show _ = Ending.returned (errVal (some ((cd : Int), some (k : Int)))); rw [← errNew_nz k hc0]; rfl, Hb2.out⟩
    | none =>
     rw [h] at Hat hC
     simp only [errOf, errVal] at Hat hC
     clear h
     go_wp2_with fail
     refine hC.out.mono ?_
     rintro z w1 ⟨rfl, hb1⟩
     have Hb1 := Lib.hid hb1
     have Hw1 := Lib.hid (HalW.out.trans (hb1.mono HalW.out.size))
     clear hb1
     by_cases hk0 : 0 < k
     · have hg : decide (0 < (k : Int)) = true := by rw [decide_eq_true_iff]; omega
       have hsub : IntKind.i64.wrap ((k : Int) - 1) = ((k - 1 : Nat) : Int) := by rw [IntKind.wrap_i64]; omega
       have h01 : (0 : Int) ≤ ((k - 1 : Nat) : Int) := by omega
       have h03 : ((k - 1 : Nat) : Int) < (n : Int) := by omega
       have HX1 := Lib.hid (fun w' (h : Below w1.heap.size w1 w') => HX.out w' (Hb1.out.trans (h.mono Hb1.out.size)))
       have HP1 := Lib.hid (fun w' (h : Below w1.heap.size w1 w') => Hp.out hk0 w' (Hal.out.trans ((Hb1.out.trans (h.mono Hb1.out.size)).mono Hal.out.size)))
       have hK := Lib.hid (fun w' => keyCmp_any pr (er, em, eh) (.slice x m c) w')
       generalize k - 1 = k1 at *
       by_cases hle : er ≤ pr
       · have Hr := Lib.hid (firstS_some hkv ht.out (Hat.out.trans (if_pos ⟨hk0, hle⟩)))
         have hci : decide (Lib.compareInt (er : Int) (pr : Int) ≤ 0) = true := by
          unfold Lib.compareInt
          rw [decide_eq_true_iff]
          split
          · omega
          · rw [if_neg (by omega)]; omega
         generalize Lib.compareInt (er : Int) (pr : Int) = ci at *
         clear hle
         go_wp2_with fail
         go_cut [33] (fun t wc => t = .bool true ∧ Hid (Below w1.heap.size w1 wc))
         case first =>
          refine wp_region_below (by kernel_rfl) (by kernel_rfl) ?_
          repeat (go_big_quiet_step ((intro hw; first
           | rfl
           | (have q0 := HX1.out _ hw
              have q1 := q0.1; have q2 := q0.2.1; have q3 := q0.2.2
              have q4 := HP1.out _ hw
              clear q0
              first
              | (go_at_call 139; exact keep_below hw (hK.out _))
              | (go_simp
                 first | rfl | exact ⟨rfl, hw⟩ | (trace_state; fail))))))
          refine wpQuiet_nil ?_
          intro w3 hb3
          go_wp2
          go_meet
          exact ⟨rfl, hb3⟩
         case rest =>
          obtain ⟨rfl, hb2⟩ := hcut
          have Hb2 := Lib.hid (Hw1.out.trans (hb2.out.mono Hw1.out.size))
          clear hb2
          go_wp2_with fail
          refine (new_any 3 k _).mono ?_
          rintro z w3 ⟨rfl, rfl⟩
          go_wp2
          go_ret
          exact ⟨by rw [Hck.out, Hr.out]; rfl, Hb2.out⟩
       · have Hr := Lib.hid (firstS_step ht.out (Hat.out.trans (if_neg (fun h => hle h.2))))
         have hci : decide (Lib.compareInt (er : Int) (pr : Int) ≤ 0) = false := by
          unfold Lib.compareInt
          rw [decide_eq_false_iff_not, if_neg (by omega), if_pos (by omega)]
          omega
         generalize Lib.compareInt (er : Int) (pr : Int) = ci at *
         clear hle
         go_wp2_with fail
         go_cut [33] (fun t wc => t = .bool false ∧ Hid (Below w1.heap.size w1 wc))
         case first =>
          refine wp_region_below (by kernel_rfl) (by kernel_rfl) ?_
          repeat (go_big_quiet_step ((intro hw; first
           | rfl
           | (have q0 := HX1.out _ hw
              have q1 := q0.1; have q2 := q0.2.1; have q3 := q0.2.2
              have q4 := HP1.out _ hw
              clear q0
              first
              | (go_at_call 139; exact keep_below hw (hK.out _))
              | (go_simp
                 first | rfl | exact ⟨rfl, hw⟩ | (trace_state; fail))))))
          refine wpQuiet_nil ?_
          intro w3 hb3
          go_wp2
          go_meet
          exact ⟨rfl, hb3⟩
         case rest =>
          obtain ⟨rfl, hb2⟩ := hcut
          have Hb2 := Lib.hid (Hw1.out.trans (hb2.out.mono Hw1.out.size))
          clear hb2
          go_wp2
          go_roundw
          case rel => exact ⟨k + 1, by omega, by go_num, Hb2.out, Hr.out⟩
          case measure => simp [intOf]; omega
     · have hg : decide (0 < (k : Int)) = false := by rw [decide_eq_false_iff_not]; omega
       have hgn : decide (0 < k) = false := by rw [decide_eq_false_iff_not]; exact hk0
       have Hr := Lib.hid (firstS_step ht.out (Hat.out.trans (if_neg (fun h => hk0 h.1))))
       clear hk0
       go_wp2
       go_quiet (fail)
       go_wp2
       go_roundw
       case rel => exact ⟨k + 1, by omega, by go_num, by first | exact Hw1.out | exact below_drewN' Hw1.out _, Hr.out⟩
       case measure => simp [intOf]; omega
  · obtain rfl : k = n := by omega
    have Hr := Lib.hid (firstS_none (n := v.length) (fun j hj => ht.out j (by rw [← Hl.out]; exact hj)))
    go_wp2
    go_ret
    exact ⟨by rw [Hck.out, Hr.out]; rfl, Hb.out⟩
theorem box2 (w : World) (x y : Value) (T : TypeId) (w' : World) (h : Below (w.alloc (.cells #[x, y] T)).heap.size (w.alloc (.cells #[x, y] T)) w') :
 w'.cell? ⟨w.heap.size, 0, none⟩ = some x ∧ w'.cell? ⟨w.heap.size, 1, none⟩ = some y := by
 have hrow : (w.alloc (.cells #[x, y] T)).heap[w.heap.size]? = some (.cells #[x, y] T) := row_new rfl
 exact ⟨(h.cell (p := ⟨w.heap.size, 0, none⟩) (by simp)).trans (cells_cell (i := 0) hrow rfl),
  (h.cell (p := ⟨w.heap.size, 1, none⟩) (by simp)).trans (cells_cell (i := 1) hrow rfl)⟩
set_option maxRecDepth 20000 in
set_option maxHeartbeats 4000000 in
theorem scoCheck_any (a : Option Addr) (n cap : Nat) (k : Kno) (w : World) (hE : Frags w a n cap k) (hD : Door w) :
 Calls Tryz.prog 55 #[.slice a n cap] w fun x w' => x = .returned (errVal (errOf (ckF k))) ∧ Below w.heap.size w w' := by
 have HE := Lib.hid hE; have HD := Lib.hid hD
 have Hl := Lib.hid hE.len
 have hm : n ≤ 9223372036854775807 := Nat.le_trans hE.room hE.most
 have Hck := Lib.hid (show ckF k = firstS (ckFAt k) k.length from rfl)
 clear hE hD
 go_enter Tryz.func55, Tryz.ntmps55
 go_wp2
 go_loopw [3, 4, 5, 6, 9] (fun _ _ _ _ i wr => ∃ d : Nat, d ≤ n ∧ i = .int .i64 d ∧ Below w.heap.size w wr ∧ Hid (∀ j, j < d → ckFAt k j = none)) (fun _ _ _ _ i _ => n - (intOf i).toNat)
 case atStart => exact ⟨0, by omega, rfl, Below.refl _ _, fun j h => by omega⟩
 case round =>
  obtain ⟨d, hd, rfl, hb, ht⟩ := hrel
  have Hb := Lib.hid hb; clear hb
  by_cases hdn : d < n
  · have hdk : d < k.length := by rw [Hl.out]; exact hdn
    have HEr := Lib.hid (HE.out.below Hb.out)
    obtain ⟨bb, oo, rfl⟩ := HEr.out.some (by omega)
    obtain ⟨x, m, c, y, m', c', hq⟩ := HEr.out.fix hdn
    have Hat := Lib.hid (show ckFAt k d = match ck (nthF k d).1 with | some x => some (x.1, d) | none => match ckV (nthF k d).2 with | some x => some (x.1, d) | none => none from rfl)
    have hal : Below wr.heap.size wr (wr.alloc (.cells #[.slice x m c, .slice y m' c'] 39)) := (Below.refl _ _).alloc (Nat.le_refl _) _
    have HX := Lib.hid (box2 wr (.slice x m c) (.slice y m' c') 39)
    have HalW := Lib.hid (Hb.out.trans (hal.mono Hb.out.size))
    have Hal := Lib.hid hal
    have hC := Lib.hid (check_any x m c (nthF k d).1 _ (hq _ hal).2.1 (HD.out.below (Nat.le_refl _) HalW.out))
    have hV := Lib.hid (fun w' (h : Below (wr.alloc (.cells #[.slice x m c, .slice y m' c'] 39)).heap.size (wr.alloc (.cells #[.slice x m c, .slice y m' c'] 39)) w') =>
     vecCheck_any y m' c' (nthF k d).2 w' (hq _ (hal.trans (h.mono hal.size))).2.2.2 (HD.out.below (Nat.le_refl _) (HalW.out.trans (h.mono HalW.out.size))))
    have h0 : (0 : Int) ≤ d := by omega
    have h04 : (d : Int) < (n : Int) := by omega
    obtain ⟨q1, -, q2, -⟩ := hq _ (Below.refl _ _)
    obtain ⟨x0, x1⟩ := HX.out _ (Below.refl _ _)
    clear hq hal
    generalize nthF k d = f at *
    cases h : ck f.1 with
    | some z =>
     have hc0 := ck_code h
     obtain ⟨cd, ci⟩ := z
     rw [h] at Hat hC
     simp only [errOf, errVal] at Hat hC
     simp only at hc0
     have Hr := Lib.hid (firstS_some hdk ht.out Hat.out)
     clear h hV
     go_wp2_with fail
     refine hC.out.mono ?_
     rintro z w1 ⟨rfl, hb1⟩
     have Hb1 := Lib.hid (HalW.out.trans (hb1.mono HalW.out.size)); clear hb1
     go_wp2_with fail
     refine (code_any (some ((cd : Int), some (ci : Int))) _ (HD.out.below (Nat.le_refl _) Hb1.out)).mono ?_
     rintro z w2 ⟨rfl, hb2⟩
     have Hb2 := Lib.hid (Hb1.out.trans (hb2.mono Hb1.out.size)); clear hb2
     simp only [errCode]
     go_wp2_with fail
     refine (new_any cd d _).mono ?_
     rintro z w3 ⟨rfl, rfl⟩
     go_wp2
     go_ret
     exact ⟨by rw [Hck.out, Hr.out]; show _ = Ending.returned (errVal (some ((cd : Int), some (d : Int)))); rw [← errNew_nz d hc0]; rfl, Hb2.out⟩
    | none =>
     rw [h] at Hat hC
     simp only [errOf, errVal] at Hat hC
     clear h
     go_wp2_with fail
     refine hC.out.mono ?_
     rintro z w1 ⟨rfl, hb1⟩
     have Hb1 := Lib.hid hb1
     have Hw1 := Lib.hid (HalW.out.trans (hb1.mono HalW.out.size))
     clear hb1 q1 q2 x0 x1
     obtain ⟨x0, x1⟩ := HX.out _ Hb1.out
     cases h : ckV f.2 with
     | some z =>
      have hc0 := ckV_code h
      obtain ⟨cd, ci⟩ := z
      rw [h] at Hat hV
      simp only [errOf, errVal] at Hat hV
      simp only at hc0
      have Hr := Lib.hid (firstS_some hdk ht.out Hat.out)
      clear h
      go_wp2_with fail
      refine (hV.out _ Hb1.out).mono ?_
      rintro z w2 ⟨rfl, hb2⟩
      have Hb2 := Lib.hid (Hw1.out.trans (hb2.mono Hw1.out.size)); clear hb2
      go_wp2_with fail
      refine (code_any (some ((cd : Int), some (ci : Int))) _ (HD.out.below (Nat.le_refl _) Hb2.out)).mono ?_
      rintro z w3 ⟨rfl, hb3⟩
      have Hb3 := Lib.hid (Hb2.out.trans (hb3.mono Hb2.out.size)); clear hb3
      simp only [errCode]
      go_wp2_with fail
      refine (new_any cd d _).mono ?_
      rintro z w4 ⟨rfl, rfl⟩
      go_wp2
      go_ret
      exact ⟨by rw [Hck.out, Hr.out]; show _ = Ending.returned (errVal (some ((cd : Int), some (d : Int)))); rw [← errNew_nz d hc0]; rfl, Hb3.out⟩
     | none =>
      rw [h] at Hat hV
      simp only [errOf, errVal] at Hat hV
      have Hr := Lib.hid (firstS_step ht.out Hat.out)
      clear h
      go_wp2_with fail
      refine (hV.out _ Hb1.out).mono ?_
      rintro z w2 ⟨rfl, hb2⟩
      have Hb2 := Lib.hid (Hw1.out.trans (hb2.mono Hw1.out.size)); clear hb2
      go_wp2
      go_roundw
      case rel => exact ⟨d + 1, by omega, by go_num, Hb2.out, Hr.out⟩
      case measure => simp [intOf]; omega
  · obtain rfl : d = n := by omega
    have Hr := Lib.hid (firstS_none (n := k.length) (fun j hj => ht.out j (by rw [← Hl.out]; exact hj)))
    go_wp2
    go_ret
    exact ⟨by rw [Hck.out, Hr.out]; rfl, Hb.out⟩
end
section
open Go.RowKit
theorem run_store_fn (P : Program) (w : World) (a : Addr) (m : Mode) (f : Fn) (t c : Array Value) : (store a (.func f t c) m).run P w = stored P w a (.func f t c) m := run_store P w a _ m rfl
attribute [local go_sem] run_store_fn
end
section
open Go.RowKit
theorem canFind1_any (x y : Option Addr) (m c m' c' bt t : Nat) (l : List Iv) (w : World) (hI : Ivs w x m c l) (hG : Good l) (hn : m ≤ 1000000) (hbt : w.heap[bt]? = some (.cells #[.int .u64 t] 24)) :
 Calls Tryz.prog 43 #[.agg #[.slice x m c, .slice y m' c'], .pointer (some ⟨bt, 0, none⟩)] w fun e w' => e = .returned (.bool (mem l t)) ∧ Below w.heap.size w w' := by
 have hal : Below w.heap.size w (w.alloc (.cells #[.slice x m c, .slice y m' c'] 39)) := (Below.refl w.heap.size w).alloc (Nat.le_refl _) _
 have hC := Lib.hid (has_any x m c t l _ (hI.below hal) hG hn)
 obtain ⟨q0, q1⟩ := box2 w (.slice x m c) (.slice y m' c') 39 _ (Below.refl _ _)
 have q2 := box_cell ((hal.block bt (Array.getElem?_eq_some_iff.1 hbt).1).trans hbt)
 have Hal := Lib.hid hal
 clear hI hG hal hbt
 generalize mem l t = b at *
 go_enter Tryz.func43, Tryz.ntmps43
 go_wp2_with fail
 refine hC.out.mono ?_
 rintro e w1 ⟨rfl, hb1⟩
 have Hb1 := Lib.hid hb1; clear hb1
 go_wp2
 go_ret
 exact ⟨rfl, Hal.out.trans (Hb1.out.mono Hal.out.size)⟩
set_option maxRecDepth 20000 in
set_option maxHeartbeats 2000000 in
theorem indexFind_any (a : Option Addr) (n cap bt t : Nat) (k : Kno) (w : World) (hE : Frags w a n cap k) (hG : ∀ f ∈ k, Good f.1 ∧ f.1.length ≤ 1000000) (hbt : w.heap[bt]? = some (.cells #[.int .u64 t] 24)) :
 Calls Tryz.prog 42 #[.slice a n cap, .func (.func 43) #[] #[.pointer (some ⟨bt, 0, none⟩)]] w fun x w' =>
  x = .returned (.int .i64 (intO (firstS (fun i => if mem (nthF k i).1 t = true then some i else none) k.length))) ∧ Below w.heap.size w w' := by
 have HE := Lib.hid hE; have HG := Lib.hid hG
 have Hl := Lib.hid hE.len
 have hm : n ≤ 9223372036854775807 := Nat.le_trans hE.room hE.most
 obtain ⟨f, hf⟩ : ∃ f : Nat → Option Nat, f = fun i => if mem (nthF k i).1 t = true then some i else none := ⟨_, rfl⟩
 rw [← hf]
 have Hf := Lib.hid (show ∀ i, f i = if mem (nthF k i).1 t = true then some i else none from fun i => by rw [hf])
 have Hbt := Lib.hid (fun w' (h : Below w.heap.size w w') => (h.block bt (Array.getElem?_eq_some_iff.1 hbt).1).trans hbt)
 clear hE hG hf hbt
 go_enter Tryz.func42, Tryz.ntmps42
 go_wp2
 go_loopw [5, 8] (fun _ i wr => ∃ d : Nat, d ≤ n ∧ i = .int .i64 d ∧ Below w.heap.size w wr ∧ Hid (∀ j, j < d → f j = none)) (fun _ i _ => n - (intOf i).toNat)
 case atStart => exact ⟨0, by omega, rfl, Below.refl _ _, fun j h => by omega⟩
 case round =>
  obtain ⟨d, hd, rfl, hb, ht⟩ := hrel
  have Hb := Lib.hid hb; clear hb
  by_cases hdn : d < n
  · have hdk : d < k.length := by rw [Hl.out]; exact hdn
    have HEr := Lib.hid (HE.out.below Hb.out)
    obtain ⟨bb, oo, rfl⟩ := HEr.out.some (by omega)
    obtain ⟨x, m, c, y, m', c', hq⟩ := HEr.out.fix hdn
    have Hat := Lib.hid (Hf.out d)
    obtain ⟨q1, hI, q2, -⟩ := hq _ (Below.refl _ _)
    have hgd := HG.out _ (nthF_mem hdk)
    have hC := Lib.hid (canFind1_any x y m c m' c' bt t (nthF k d).1 wr hI hgd.1 (by rw [← hI.len]; exact hgd.2) (Hbt.out _ Hb.out))
    clear hq hI hgd
    generalize nthF k d = e at *
    generalize mem e.1 t = b at *
    have h0 : (0 : Int) ≤ d := by omega
    have h04 : (d : Int) < (n : Int) := by omega
    cases b with
    | false =>
     have Hr := Lib.hid (firstS_step ht.out (Hat.out.trans (if_neg (by simp))))
     go_wp2_with fail
     refine hC.out.mono ?_
     rintro e w1 ⟨rfl, hb1⟩
     have Hb1 := Lib.hid (Hb.out.trans (hb1.mono Hb.out.size)); clear hb1
     go_wp2
     go_roundw
     case rel => exact ⟨d + 1, by omega, by go_num, Hb1.out, Hr.out⟩
     case measure => simp [intOf]; omega
    | true =>
     have Hr := Lib.hid (firstS_some hdk ht.out (Hat.out.trans (if_pos rfl)))
     go_wp2_with fail
     refine hC.out.mono ?_
     rintro e w1 ⟨rfl, hb1⟩
     have Hb1 := Lib.hid (Hb.out.trans (hb1.mono Hb.out.size)); clear hb1
     go_wp2
     go_ret
     exact ⟨by rw [Hr.out]; rfl, Hb1.out⟩
  · obtain rfl : d = n := by omega
    have Hr := Lib.hid (firstS_none (n := k.length) (fun j hj => ht.out j (by rw [← Hl.out]; exact hj)))
    go_wp2
    go_ret
    exact ⟨by rw [Hr.out]; rfl, Hb.out⟩
theorem canFind_any (a : Option Addr) (n cap t : Nat) (k : Kno) (w : World) (hE : Frags w a n cap k) (hG : ∀ f ∈ k, Good f.1 ∧ f.1.length ≤ 1000000) :
 Calls Tryz.prog 16 #[.slice a n cap, .int .u64 t] w fun x w' =>
  x = .returned (.int .i64 (intO (firstS (fun i => if mem (nthF k i).1 t = true then some i else none) k.length))) ∧ Below w.heap.size w w' := by
 have hal : Below w.heap.size w (w.alloc (.cells #[.int .u64 t] 24)) := (Below.refl w.heap.size w).alloc (Nat.le_refl _) _
 have hC := Lib.hid (indexFind_any a n cap w.heap.size t k _ (hE.below hal) hG (row_new rfl))
 have Hal := Lib.hid hal
 clear hE hG hal
 generalize intO (firstS (fun i => if mem (nthF k i).1 t = true then some i else none) k.length) = z at *
 go_enter Tryz.func16, Tryz.ntmps16
 go_wp2_with fail
 refine hC.out.mono ?_
 rintro e w1 ⟨rfl, hb1⟩
 have Hb1 := Lib.hid hb1; clear hb1
 go_wp2
 go_ret
 exact ⟨rfl, Hal.out.trans (Hb1.out.mono Hal.out.size)⟩
end
section
open Go.RowKit Go.Shelf
attribute [local go_sem] Oper.semAt_some wide_fn
def disjL (a b : List Iv) : Bool := decide (opL gAnd a b = [])
end
end Go.Proofs.YtkkdlgcfcbaibaaGreatDoor
