/- Walks and laws, joined: La23. -/
import Derived.Shelf.SlSortCmp.WholeK
import Derived.Ground.SlsfProg
import Derived.Test.YtkkdlgcfcbaibaaGreatDoorProg
import Derived.Test.YtkkdlgcfcbaibaaGreatDoorLa22
import Derived.Test.YtkkdlgcfcbaibaaGreatDoorLa06
import Derived.Test.YtkkdlgcfcbaibaaGreatDoorLa04
import Derived.Test.YtkkdlgcfcbaibaaGreatDoorLa20
import Derived.Test.YtkkdlgcfcbaibaaGreatDoorLa07
import Derived.Test.YtkkdlgcfcbaibaaGreatDoorLa18
import Derived.Test.YtkkdlgcfcbaibaaGreatDoorLa17
set_option linter.unusedVariables false
namespace Go.Proofs.YtkkdlgcfcbaibaaGreatDoor
section
open Go.RowKit
attribute [local go_sem] run_store_fn
def limE (a : Lim) : Err := errOf ((limK a).map fun i => (8, i))
set_option maxRecDepth 100000 in
set_option maxHeartbeats 8000000 in
theorem limCheck_any (a : Lim) (w : World) : Calls Tryz.prog 20 #[limV a] w fun x w' => x = .returned (errVal (limE a)) ∧ Below w.heap.size w w' := by
 have HA := Lib.hid (limAt_box w a 47)
 have Hal := Lib.hid (show Below w.heap.size w (w.alloc (.cells #[.int .i64 a.1, .int .i64 a.2.1, .int .i64 a.2.2.1, .int .i64 a.2.2.2.1, .int .i64 a.2.2.2.2] 47)) from (Below.refl _ _).alloc (Nat.le_refl _) _)
 have Hx := Lib.hid (show limE a = errOf ((firstS (fun i => if limAt a i < 0 then some i else none) 5).map fun i => (8, i)) from rfl)
 unfold limV
 go_enter Tryz.func20, Tryz.ntmps20
 go_wp2_with fail
 generalize hW : w.alloc (.cells #[.int .i64 a.1, .int .i64 a.2.1, .int .i64 a.2.2.1, .int .i64 a.2.2.2.1, .int .i64 a.2.2.2.2] 47) = W at *
 clear hW
 refine (fields_any _).mono ?_
 rintro e w1 ⟨rfl, hb1⟩
 have Hb1 := Lib.hid hb1; clear hb1
 unfold fieldsV fieldV
 go_wp2
 go_loopw [3, 4, 6] (fun _ _ i wr => ∃ q : Nat, q ≤ 5 ∧ i = .int .i64 q ∧ Below W.heap.size W wr ∧ Hid (∀ j, j < q → (if limAt a j < 0 then some j else none) = none)) (fun _ _ i _ => 5 - (intOf i).toNat)
 case atStart => exact ⟨0, by omega, rfl, Hb1.out, fun j h => by omega⟩
 case round =>
  obtain ⟨q, hq5, rfl, hb, ht⟩ := hrel
  have Hb := Lib.hid hb; clear hb
  by_cases hq : q < 5
  · rcases (by omega : q = 0 ∨ q = 1 ∨ q = 2 ∨ q = 3 ∨ q = 4) with rfl | rfl | rfl | rfl | rfl
    · by_cases h : limAt a 0 < 0
      · have hd1 : decide (limAt a 0 < 0) = true := decide_eq_true h
        have Hr := Lib.hid (firstS_some (show 0 < 5 by omega) ht.out (if_pos h))
        clear h hq
        have Hal2 := Lib.hid (Hb.out.alloc Hb.out.size (.cells #[.func (.func 84) #[] #[]] 88))
        have y1 := HA.out _ Hal2.out 0 (by omega)
        generalize limAt a 0 = xa at *
        go_wp2_with (refine wpList_index_st _ _ _ rfl rfl _ 0 5 88 _ _ rfl rfl Tryz.underlying89 (by omega) Tryz.underlying88 sizeField rfl ?_)
        generalize wr.alloc (.cells #[.func (.func 84) #[] #[]] 88) = wq at *
        refine (field0_any _ _).mono ?_
        rintro e w4 ⟨rfl, rfl⟩
        go_wp2_with fail
        refine (new_any 8 (0 : Nat) _).mono ?_
        rintro e w5 ⟨rfl, rfl⟩
        go_wp2
        go_ret
        exact ⟨by rw [Hx.out, Hr.out]; rfl, Hal.out.trans (Hal2.out.mono Hal.out.size)⟩
      · have hd1 : decide (limAt a 0 < 0) = false := decide_eq_false h
        have Hr := Lib.hid (firstS_step ht.out (if_neg h))
        clear h hq
        have Hal2 := Lib.hid (Hb.out.alloc Hb.out.size (.cells #[.func (.func 84) #[] #[]] 88))
        have y1 := HA.out _ Hal2.out 0 (by omega)
        generalize limAt a 0 = xa at *
        go_wp2_with (refine wpList_index_st _ _ _ rfl rfl _ 0 5 88 _ _ rfl rfl Tryz.underlying89 (by omega) Tryz.underlying88 sizeField rfl ?_)
        generalize wr.alloc (.cells #[.func (.func 84) #[] #[]] 88) = wq at *
        refine (field0_any _ _).mono ?_
        rintro e w4 ⟨rfl, rfl⟩
        go_wp2
        go_roundw
        case rel => exact ⟨1, by omega, by go_num, Hal2.out, Hr.out⟩
        case measure => simp [intOf]
    · by_cases h : limAt a 1 < 0
      · have hd1 : decide (limAt a 1 < 0) = true := decide_eq_true h
        have Hr := Lib.hid (firstS_some (show 1 < 5 by omega) ht.out (if_pos h))
        clear h hq
        have Hal2 := Lib.hid (Hb.out.alloc Hb.out.size (.cells #[.func (.func 85) #[] #[]] 88))
        have y1 := HA.out _ Hal2.out 1 (by omega)
        generalize limAt a 1 = xa at *
        go_wp2_with (refine wpList_index_st _ _ _ rfl rfl _ 1 5 88 _ _ rfl rfl Tryz.underlying89 (by omega) Tryz.underlying88 sizeField rfl ?_)
        generalize wr.alloc (.cells #[.func (.func 85) #[] #[]] 88) = wq at *
        refine (field1_any _ _).mono ?_
        rintro e w4 ⟨rfl, rfl⟩
        go_wp2_with fail
        refine (new_any 8 (1 : Nat) _).mono ?_
        rintro e w5 ⟨rfl, rfl⟩
        go_wp2
        go_ret
        exact ⟨by rw [Hx.out, Hr.out]; rfl, Hal.out.trans (Hal2.out.mono Hal.out.size)⟩
      · have hd1 : decide (limAt a 1 < 0) = false := decide_eq_false h
        have Hr := Lib.hid (firstS_step ht.out (if_neg h))
        clear h hq
        have Hal2 := Lib.hid (Hb.out.alloc Hb.out.size (.cells #[.func (.func 85) #[] #[]] 88))
        have y1 := HA.out _ Hal2.out 1 (by omega)
        generalize limAt a 1 = xa at *
        go_wp2_with (refine wpList_index_st _ _ _ rfl rfl _ 1 5 88 _ _ rfl rfl Tryz.underlying89 (by omega) Tryz.underlying88 sizeField rfl ?_)
        generalize wr.alloc (.cells #[.func (.func 85) #[] #[]] 88) = wq at *
        refine (field1_any _ _).mono ?_
        rintro e w4 ⟨rfl, rfl⟩
        go_wp2
        go_roundw
        case rel => exact ⟨2, by omega, by go_num, Hal2.out, Hr.out⟩
        case measure => simp [intOf]
    · by_cases h : limAt a 2 < 0
      · have hd1 : decide (limAt a 2 < 0) = true := decide_eq_true h
        have Hr := Lib.hid (firstS_some (show 2 < 5 by omega) ht.out (if_pos h))
        clear h hq
        have Hal2 := Lib.hid (Hb.out.alloc Hb.out.size (.cells #[.func (.func 86) #[] #[]] 88))
        have y1 := HA.out _ Hal2.out 2 (by omega)
        generalize limAt a 2 = xa at *
        go_wp2_with (refine wpList_index_st _ _ _ rfl rfl _ 2 5 88 _ _ rfl rfl Tryz.underlying89 (by omega) Tryz.underlying88 sizeField rfl ?_)
        generalize wr.alloc (.cells #[.func (.func 86) #[] #[]] 88) = wq at *
        refine (field2_any _ _).mono ?_
        rintro e w4 ⟨rfl, rfl⟩
        go_wp2_with fail
        refine (new_any 8 (2 : Nat) _).mono ?_
        rintro e w5 ⟨rfl, rfl⟩
        go_wp2
        go_ret
        exact ⟨by rw [Hx.out, Hr.out]; rfl, Hal.out.trans (Hal2.out.mono Hal.out.size)⟩
      · have hd1 : decide (limAt a 2 < 0) = false := decide_eq_false h
        have Hr := Lib.hid (firstS_step ht.out (if_neg h))
        clear h hq
        have Hal2 := Lib.hid (Hb.out.alloc Hb.out.size (.cells #[.func (.func 86) #[] #[]] 88))
        have y1 := HA.out _ Hal2.out 2 (by omega)
        generalize limAt a 2 = xa at *
        go_wp2_with (refine wpList_index_st _ _ _ rfl rfl _ 2 5 88 _ _ rfl rfl Tryz.underlying89 (by omega) Tryz.underlying88 sizeField rfl ?_)
        generalize wr.alloc (.cells #[.func (.func 86) #[] #[]] 88) = wq at *
        refine (field2_any _ _).mono ?_
        rintro e w4 ⟨rfl, rfl⟩
        go_wp2
        go_roundw
        case rel => exact ⟨3, by omega, by go_num, Hal2.out, Hr.out⟩
        case measure => simp [intOf]
    · by_cases h : limAt a 3 < 0
      · have hd1 : decide (limAt a 3 < 0) = true := decide_eq_true h
        have Hr := Lib.hid (firstS_some (show 3 < 5 by omega) ht.out (if_pos h))
        clear h hq
        have Hal2 := Lib.hid (Hb.out.alloc Hb.out.size (.cells #[.func (.func 87) #[] #[]] 88))
        have y1 := HA.out _ Hal2.out 3 (by omega)
        generalize limAt a 3 = xa at *
        go_wp2_with (refine wpList_index_st _ _ _ rfl rfl _ 3 5 88 _ _ rfl rfl Tryz.underlying89 (by omega) Tryz.underlying88 sizeField rfl ?_)
        generalize wr.alloc (.cells #[.func (.func 87) #[] #[]] 88) = wq at *
        refine (field3_any _ _).mono ?_
        rintro e w4 ⟨rfl, rfl⟩
        go_wp2_with fail
        refine (new_any 8 (3 : Nat) _).mono ?_
        rintro e w5 ⟨rfl, rfl⟩
        go_wp2
        go_ret
        exact ⟨by rw [Hx.out, Hr.out]; rfl, Hal.out.trans (Hal2.out.mono Hal.out.size)⟩
      · have hd1 : decide (limAt a 3 < 0) = false := decide_eq_false h
        have Hr := Lib.hid (firstS_step ht.out (if_neg h))
        clear h hq
        have Hal2 := Lib.hid (Hb.out.alloc Hb.out.size (.cells #[.func (.func 87) #[] #[]] 88))
        have y1 := HA.out _ Hal2.out 3 (by omega)
        generalize limAt a 3 = xa at *
        go_wp2_with (refine wpList_index_st _ _ _ rfl rfl _ 3 5 88 _ _ rfl rfl Tryz.underlying89 (by omega) Tryz.underlying88 sizeField rfl ?_)
        generalize wr.alloc (.cells #[.func (.func 87) #[] #[]] 88) = wq at *
        refine (field3_any _ _).mono ?_
        rintro e w4 ⟨rfl, rfl⟩
        go_wp2
        go_roundw
        case rel => exact ⟨4, by omega, by go_num, Hal2.out, Hr.out⟩
        case measure => simp [intOf]
    · by_cases h : limAt a 4 < 0
      · have hd1 : decide (limAt a 4 < 0) = true := decide_eq_true h
        have Hr := Lib.hid (firstS_some (show 4 < 5 by omega) ht.out (if_pos h))
        clear h hq
        have Hal2 := Lib.hid (Hb.out.alloc Hb.out.size (.cells #[.func (.func 88) #[] #[]] 88))
        have y1 := HA.out _ Hal2.out 4 (by omega)
        generalize limAt a 4 = xa at *
        go_wp2_with (refine wpList_index_st _ _ _ rfl rfl _ 4 5 88 _ _ rfl rfl Tryz.underlying89 (by omega) Tryz.underlying88 sizeField rfl ?_)
        generalize wr.alloc (.cells #[.func (.func 88) #[] #[]] 88) = wq at *
        refine (field4_any _ _).mono ?_
        rintro e w4 ⟨rfl, rfl⟩
        go_wp2_with fail
        refine (new_any 8 (4 : Nat) _).mono ?_
        rintro e w5 ⟨rfl, rfl⟩
        go_wp2
        go_ret
        exact ⟨by rw [Hx.out, Hr.out]; rfl, Hal.out.trans (Hal2.out.mono Hal.out.size)⟩
      · have hd1 : decide (limAt a 4 < 0) = false := decide_eq_false h
        have Hr := Lib.hid (firstS_step ht.out (if_neg h))
        clear h hq
        have Hal2 := Lib.hid (Hb.out.alloc Hb.out.size (.cells #[.func (.func 88) #[] #[]] 88))
        have y1 := HA.out _ Hal2.out 4 (by omega)
        generalize limAt a 4 = xa at *
        go_wp2_with (refine wpList_index_st _ _ _ rfl rfl _ 4 5 88 _ _ rfl rfl Tryz.underlying89 (by omega) Tryz.underlying88 sizeField rfl ?_)
        generalize wr.alloc (.cells #[.func (.func 88) #[] #[]] 88) = wq at *
        refine (field4_any _ _).mono ?_
        rintro e w4 ⟨rfl, rfl⟩
        go_wp2
        go_roundw
        case rel => exact ⟨5, by omega, by go_num, Hal2.out, Hr.out⟩
        case measure => simp [intOf]
  · obtain rfl : q = 5 := by omega
    have Hr := Lib.hid (firstS_none ht.out)
    go_wp2
    go_ret
    exact ⟨by rw [Hx.out, Hr.out]; rfl, Hal.out.trans (Hb.out.mono Hal.out.size)⟩
theorem refList_any (l : Lim) (w : World) : Calls Tryz.prog 51 #[limV l] w fun x w' => x = .returned (limV l) ∧ Below w.heap.size w w' := by
 unfold limV
 go_enter Tryz.func51, Tryz.ntmps51
 go_wp2
 refine bodyPost_ret (v := limV l) (by simp [results, Tryz.results51, go_sem]; rfl) rfl ?_
 exact ⟨rfl, ((Below.refl _ _).alloc (Nat.le_refl _) _).alloc (by simp) _⟩
set_option maxRecDepth 20000 in
theorem refLimCheck_any (a : Lim) (w : World) : Calls Tryz.prog 21 #[limV a] w fun x w' => x = .returned (.int .i64 (intO (limK a))) ∧ Below w.heap.size w w' := by
 have Hal := Lib.hid (show Below w.heap.size w (w.alloc (.cells #[.int .i64 a.1, .int .i64 a.2.1, .int .i64 a.2.2.1, .int .i64 a.2.2.2.1, .int .i64 a.2.2.2.2] 47)) from (Below.refl _ _).alloc (Nat.le_refl _) _)
 have Hx := Lib.hid (show limK a = firstS (fun i => if limAt a i < 0 then some i else none) 5 from rfl)
 have hC := Lib.hid (fun w => refList_any a w)
 unfold limV at hC ⊢
 go_enter Tryz.func21, Tryz.ntmps21
 go_wp2_with fail
 refine (hC.out _).mono ?_
 rintro e w1 ⟨rfl, hb1⟩
 have Hb1 := Lib.hid (Hal.out.trans (hb1.mono Hal.out.size)); clear hb1
 have HA := Lib.hid (limAt_box w1 a 94)
 have Hb2 := Lib.hid (Hb1.out.trans ((show Below w1.heap.size w1 (w1.alloc (.cells #[.int .i64 a.1, .int .i64 a.2.1, .int .i64 a.2.2.1, .int .i64 a.2.2.2.1, .int .i64 a.2.2.2.2] 94)) from (Below.refl _ _).alloc (Nat.le_refl _) _).mono Hb1.out.size))
 go_wp2_with fail
 generalize w1.alloc (.cells #[.int .i64 a.1, .int .i64 a.2.1, .int .i64 a.2.2.1, .int .i64 a.2.2.2.1, .int .i64 a.2.2.2.2] 94) = W at *
 go_loopw [4] (fun i wr => ∃ q : Nat, q ≤ 5 ∧ i = .int .i64 q ∧ Below W.heap.size W wr ∧ Hid (∀ j, j < q → (if limAt a j < 0 then some j else none) = none)) (fun i _ => 5 - (intOf i).toNat)
 case atStart => exact ⟨0, by omega, rfl, Below.refl _ _, fun j h => by omega⟩
 case round =>
  obtain ⟨q, hq5, rfl, hb, ht⟩ := hrel
  have Hb := Lib.hid hb; clear hb
  have h0 : (0 : Int) ≤ q := by omega
  by_cases hq : q < 5
  · have h04 : (q : Int) < 5 := by omega
    have y1 := HA.out _ Hb.out q hq
    by_cases h : limAt a q < 0
    · have hd1 : decide (limAt a q < 0) = true := decide_eq_true h
      have Hr := Lib.hid (firstS_some hq ht.out (if_pos h))
      generalize limAt a q = xa at *
      clear h
      go_wp2
      go_ret
      exact ⟨by rw [Hx.out, Hr.out]; rfl, Hb2.out.trans (Hb.out.mono Hb2.out.size)⟩
    · have hd1 : decide (limAt a q < 0) = false := decide_eq_false h
      have Hr := Lib.hid (firstS_step ht.out (if_neg h))
      generalize limAt a q = xa at *
      clear h
      go_wp2
      go_roundw
      case rel => exact ⟨q + 1, by omega, by go_num, Hb.out, Hr.out⟩
      case measure => simp [intOf]; omega
  · obtain rfl : q = 5 := by omega
    have Hr := Lib.hid (firstS_none ht.out)
    go_wp2
    go_ret
    exact ⟨by rw [Hx.out, Hr.out]; rfl, Hb2.out.trans (Hb.out.mono Hb2.out.size)⟩
set_option maxRecDepth 20000 in
theorem refExceeds_any (a b : Lim) (w : World) : Calls Tryz.prog 27 #[limV a, limV b] w fun x w' => x = .returned (.int .i64 (intO (limX a b))) ∧ Below w.heap.size w w' := by
 have Hal := Lib.hid (show Below w.heap.size w ((w.alloc (.cells #[.int .i64 a.1, .int .i64 a.2.1, .int .i64 a.2.2.1, .int .i64 a.2.2.2.1, .int .i64 a.2.2.2.2] 47)).alloc (.cells #[.int .i64 b.1, .int .i64 b.2.1, .int .i64 b.2.2.1, .int .i64 b.2.2.2.1, .int .i64 b.2.2.2.2] 47)) from ((Below.refl _ _).alloc (Nat.le_refl _) _).alloc (by simp) _)
 have HBx := Lib.hid (box5 (w.alloc (.cells #[.int .i64 a.1, .int .i64 a.2.1, .int .i64 a.2.2.1, .int .i64 a.2.2.2.1, .int .i64 a.2.2.2.2] 47)) (.int .i64 b.1) (.int .i64 b.2.1) (.int .i64 b.2.2.1) (.int .i64 b.2.2.2.1) (.int .i64 b.2.2.2.2) 47)
 have Hx := Lib.hid (show limX a b = firstS (fun i => if limAt b i < limAt a i then some i else none) 5 from rfl)
 have hC := Lib.hid (fun w => refList_any a w)
 have hD := Lib.hid (fun w => refList_any b w)
 unfold limV at hC hD ⊢
 go_enter Tryz.func27, Tryz.ntmps27
 go_wp2_with fail
 refine (hC.out _).mono ?_
 rintro e w1 ⟨rfl, hb1⟩
 have Hb1 := Lib.hid (Hal.out.trans (hb1.mono Hal.out.size))
 have hal1 : Below w1.heap.size w1 (w1.alloc (.cells #[.int .i64 a.1, .int .i64 a.2.1, .int .i64 a.2.2.1, .int .i64 a.2.2.2.1, .int .i64 a.2.2.2.2] 94)) := (Below.refl _ _).alloc (Nat.le_refl _) _
 obtain ⟨x0, x1, x2, x3, x4⟩ := HBx.out _ (hb1.trans (hal1.mono hb1.size))
 simp only [World.size_alloc] at x0 x1 x2 x3 x4
 have HA := Lib.hid (limAt_box w1 a 94)
 have Hb2 := Lib.hid (Hb1.out.trans (hal1.mono Hb1.out.size))
 clear hb1 hal1
 go_wp2_with fail
 generalize w1.alloc (.cells #[.int .i64 a.1, .int .i64 a.2.1, .int .i64 a.2.2.1, .int .i64 a.2.2.2.1, .int .i64 a.2.2.2.2] 94) = W1 at *
 refine (hD.out _).mono ?_
 rintro e w2 ⟨rfl, hb2⟩
 have HB := Lib.hid (limAt_box w2 b 94)
 have hal2 : Below w2.heap.size w2 (w2.alloc (.cells #[.int .i64 b.1, .int .i64 b.2.1, .int .i64 b.2.2.1, .int .i64 b.2.2.2.1, .int .i64 b.2.2.2.2] 94)) := (Below.refl _ _).alloc (Nat.le_refl _) _
 have HA2 := Lib.hid (fun w' (h : Below (w2.alloc (.cells #[.int .i64 b.1, .int .i64 b.2.1, .int .i64 b.2.2.1, .int .i64 b.2.2.2.1, .int .i64 b.2.2.2.2] 94)).heap.size (w2.alloc (.cells #[.int .i64 b.1, .int .i64 b.2.1, .int .i64 b.2.2.1, .int .i64 b.2.2.2.1, .int .i64 b.2.2.2.2] 94)) w') => HA.out w' (hb2.trans ((hal2.trans (h.mono hal2.size)).mono hb2.size)))
 have Hb3 := Lib.hid (Hb2.out.trans ((hb2.trans (hal2.mono hb2.size)).mono Hb2.out.size))
 clear hb2 hal2 x0 x1 x2 x3 x4
 go_wp2_with fail
 generalize w2.alloc (.cells #[.int .i64 b.1, .int .i64 b.2.1, .int .i64 b.2.2.1, .int .i64 b.2.2.2.1, .int .i64 b.2.2.2.2] 94) = W at *
 go_loopw [7] (fun i wr => ∃ q : Nat, q ≤ 5 ∧ i = .int .i64 q ∧ Below W.heap.size W wr ∧ Hid (∀ j, j < q → (if limAt b j < limAt a j then some j else none) = none)) (fun i _ => 5 - (intOf i).toNat)
 case atStart => exact ⟨0, by omega, rfl, Below.refl _ _, fun j h => by omega⟩
 case round =>
  obtain ⟨q, hq5, rfl, hb, ht⟩ := hrel
  have Hb := Lib.hid hb; clear hb
  have h0 : (0 : Int) ≤ q := by omega
  by_cases hq : q < 5
  · have h04 : (q : Int) < 5 := by omega
    have y1 := HA2.out _ Hb.out q hq
    have y2 := HB.out _ Hb.out q hq
    by_cases h : limAt b q < limAt a q
    · have hd1 : decide (limAt b q < limAt a q) = true := decide_eq_true h
      have Hr := Lib.hid (firstS_some hq ht.out (if_pos h))
      generalize limAt a q = xa at *
      generalize limAt b q = xb at *
      clear h
      go_wp2
      go_quiet (fail)
      go_wp2
      go_ret
      exact ⟨by rw [Hx.out, Hr.out]; rfl, Hb3.out.trans ((by first | exact Hb.out | exact below_drewN' Hb.out _ : Below W.heap.size W _).mono Hb3.out.size)⟩
    · have hd1 : decide (limAt b q < limAt a q) = false := decide_eq_false h
      have Hr := Lib.hid (firstS_step ht.out (if_neg h))
      generalize limAt a q = xa at *
      generalize limAt b q = xb at *
      clear h
      go_wp2
      go_quiet (fail)
      go_wp2
      go_roundw
      case rel => exact ⟨q + 1, by omega, by go_num, by first | exact Hb.out | exact below_drewN' Hb.out _, Hr.out⟩
      case measure => simp [intOf]; omega
  · obtain rfl : q = 5 := by omega
    have Hr := Lib.hid (firstS_none ht.out)
    go_wp2
    go_ret
    exact ⟨by rw [Hx.out, Hr.out]; rfl, Hb3.out.trans (Hb.out.mono Hb3.out.size)⟩
end
section
open Go.RowKit Go.Sort
def encI (s : Iv) : List Value := [.int .u64 ((s.1 : Nat) : Int), .int .u64 ((s.2 : Nat) : Int)]
def cfI (x y : Iv) : Int := Lib.compareInt (x.1 : Int) (y.1 : Int)
theorem ltI (x y : Iv) : ltOf cfI x y = decide (x.1 < y.1) := by
 unfold ltOf cfI Lib.compareInt
 by_cases h1 : x.1 < y.1
 · simp [h1]
 · by_cases h2 : y.1 < x.1
   · simp [h1, h2]
   · simp [h1, h2]
theorem swoI : SWO (ltOf cfI) where
 irrefl x := by rw [ltI]; simp
 trans x y z h1 h2 := by rw [ltI] at *; simp at *; omega
 ntrans x y z h1 h2 := by rw [ltI] at *; simp at *; omega
theorem perm_list {d d' : Array Iv} (h : PermIn 0 d.size d d') : d'.toList.Perm d.toList := by
 obtain ⟨h1, _, h3⟩ := h
 rw [Array.extract_eq_self_of_le (by omega), Array.extract_eq_self_of_le (by omega)] at h3
 exact h3
theorem sorted_list {d : Array Iv} {d' : Array Iv} (hs : d'.size = d.size) (h : SortedIn (ltOf cfI) 0 d.size d') : AscLo d'.toList := by
 intro i j hij hj
 have hj' : j < d'.size := by simpa using hj
 have := h i j (Nat.zero_le _) hij (by omega)
 rw [ltI] at this
 have e1 : nthI d'.toList i = d'[i]! := by rw [nthI_get (by simp; omega)]; simp [getElem!_pos d' i (by omega)]
 have e2 : nthI d'.toList j = d'[j]! := by rw [nthI_get hj]; simp [getElem!_pos d' j hj']
 rw [e1, e2]
 simp at this
 omega
theorem holds_own {w : World} {base n cap g : Nat} {T : TypeId} {l : List Iv} (h : w.ownsRow base T 2 (.slice (some ⟨g, 0, none⟩) n cap) n (ivC l)) : HoldsK encI 2 w g 0 l.toArray := by
 have hlen : l.length = n := by have := h.1; rw [ivC_length] at this; omega
 intro j hj
 rw [size_flatK] at hj
 have hj' : j < l.length * 2 := by simpa using hj
 have hi : j / 2 < l.length := by omega
 refine ⟨?_, by rw [Nat.zero_add]; exact h.frozenAt j⟩
 rw [Nat.zero_add, h.cellAt j (by omega)]
 obtain ⟨e1, e2⟩ := ivC_get l (j / 2) hi
 rw [get_flatK _ _ _ _ (by simpa using hj')]
 have e : l.toArray[j / 2]! = nthI l (j / 2) := by rw [nthI_get hi]; simp [hi]
 rw [e]
 rcases Nat.mod_two_eq_zero_or_one j with hm | hm
 · rw [show j / 2 * 2 = j by omega] at e1
   rw [e1, hm]; rfl
 · rw [show j / 2 * 2 + 1 = j by omega] at e2
   rw [e2, hm]; rfl
theorem below_sorted {w : World} {base g n : Nat} (d' : Array Iv) (os : Array Obj) (hg : base ≤ g) (hw : base ≤ w.heap.size) : Below base w (sortWorldK encI 2 w g 0 n d' os) := by
 refine ⟨rfl, rfl, rfl, ?_, ?_⟩
 · simp [sortWorldK, grow, putRowK, putRow, mapBlock]
 · intro k hk
   simp only [sortWorldK, grow, putRowK, putRow, mapBlock, heap_ahead]
   rw [Array.getElem?_append_left (by simp; omega), Array.getElem?_modify, if_neg (by omega)]
theorem sorted_cells {w : World} {g n m : Nat} {d d' : Array Iv} (os : Array Obj) (hH : HoldsK encI 2 w g 0 d) (hs : d'.size = d.size) (hg : g < w.heap.size) (hlt : ∀ s ∈ d'.toList, s.1 < 18446744073709551616 ∧ s.2 < 18446744073709551616) (hn : d.size = n) (hm : n ≤ 9223372036854775807) :
 Ivs (sortWorldK encI 2 w g 0 m d' os) (some ⟨g, 0, none⟩) n n d'.toList := by
 have h := holdsK_sortWorldK_c encI 2 w g 0 d d' m os hH hg hs
 refine ⟨by simp [hs, hn], hlt, Nat.le_refl _, hm, (by intro h; cases h), fun _ => ⟨g, 0, rfl, fun i hi => ?_⟩⟩
 have hi' : i < d'.size := by omega
 have e : nthI d'.toList i = d'[i]! := by rw [nthI_get (by simpa using hi')]; simp [getElem!_pos d' i hi']
 have c0 := (h.cell (i := i) (c := 0) hi' (by omega)).1
 have c1 := (h.cell (i := i) (c := 1) hi' (by omega)).1
 rw [e]
 exact ⟨c0, c1⟩
end
end Go.Proofs.YtkkdlgcfcbaibaaGreatDoor
section
namespace Go.Proofs
open Go.Shelf
def Tryz.pdqIv_ren : Go.Shelf.Ren := ⟨fun | 14 => 72 | 20 => 121 | 21 => 122 | 22 => 123 | 23 => 124 | 24 => 125 | 25 => 126 | 26 => 127 | 27 => 128 | 46 => 169 | 47 => 170 | 48 => 171 | 49 => 172 | 50 => 173 | 15 => 73 | 57 => 201 | 28 => 129 | 29 => 130 | n => n, fun | 24 => 73 | 22 => 27 | 3 => 3 | 25 => 78 | 4 => 4 | 0 => 0 | 46 => 170 | 45 => 169 | 50 => 174 | 66 => 224 | 39 => 124 | 55 => 24 | 70 => 91 | 76 => 257 | 77 => 64 | 53 => 177 | 5 => 5 | 9 => 9 | n => n, fun | n => n⟩
theorem Tryz.pdqIv : Go.Proofs.SlLaysF0.n14 Tryz.prog Tryz.pdqIv_ren := {
 mixed := by kernel_rfl
 f14 := ⟨Tryz.f72.name, by decide, Tryz.func72.trans (congrArg some (by kernel_rfl))⟩
 f15 := Tryz.func73.trans (congrArg some (by kernel_rfl))
 f20 := ⟨Tryz.f121.name, by decide, Tryz.func121.trans (congrArg some (by kernel_rfl))⟩
 f21 := ⟨Tryz.f122.name, by decide, Tryz.func122.trans (congrArg some (by kernel_rfl))⟩
 f22 := ⟨Tryz.f123.name, by decide, Tryz.func123.trans (congrArg some (by kernel_rfl))⟩
 f23 := ⟨Tryz.f124.name, by decide, Tryz.func124.trans (congrArg some (by kernel_rfl))⟩
 f24 := ⟨Tryz.f125.name, by decide, Tryz.func125.trans (congrArg some (by kernel_rfl))⟩
 f25 := ⟨Tryz.f126.name, by decide, Tryz.func126.trans (congrArg some (by kernel_rfl))⟩
 f26 := ⟨Tryz.f127.name, by decide, Tryz.func127.trans (congrArg some (by kernel_rfl))⟩
 f27 := ⟨Tryz.f128.name, by decide, Tryz.func128.trans (congrArg some (by kernel_rfl))⟩
 f28 := Tryz.func129.trans (congrArg some (by kernel_rfl))
 f29 := Tryz.func130.trans (congrArg some (by kernel_rfl))
 f46 := ⟨Tryz.f169.name, by decide, Tryz.func169.trans (congrArg some (by kernel_rfl))⟩
 f47 := Tryz.func170.trans (congrArg some (by kernel_rfl))
 f48 := Tryz.func171.trans (congrArg some (by kernel_rfl))
 f49 := ⟨Tryz.f172.name, by decide, Tryz.func172.trans (congrArg some (by kernel_rfl))⟩
 f50 := ⟨Tryz.f173.name, by decide, Tryz.func173.trans (congrArg some (by kernel_rfl))⟩
 f57 := ⟨Tryz.f201.name, by decide, Tryz.func201.trans (congrArg some (by kernel_rfl))⟩
 t0 := Tryz.underlying0
 a0 := Tryz.isAgg0
 z0 := Tryz.sizeOf0
 v0 := Tryz.zeroValue0
 t3 := Tryz.underlying3
 a3 := Tryz.isAgg3
 z3 := Tryz.sizeOf3
 v3 := Tryz.zeroValue3
 t4 := Tryz.underlying4
 a4 := Tryz.isAgg4
 z4 := Tryz.sizeOf4
 v4 := Tryz.zeroValue4
 t5 := Tryz.underlying5
 a5 := Tryz.isAgg5
 z5 := Tryz.sizeOf5
 v5 := Tryz.zeroValue5
 t9 := Tryz.underlying9
 a9 := Tryz.isAgg9
 z9 := Tryz.sizeOf9
 v9 := Tryz.zeroValue9
 t22 := Tryz.underlying27
 a22 := Tryz.isAgg27
 z22 := Tryz.sizeOf27
 v22 := Tryz.zeroValue27
 t25 := Tryz.underlying78
 a25 := Tryz.isAgg78
 z25 := Tryz.sizeOf78
 v25 := Tryz.zeroValue78
 t39 := Tryz.underlying124
 a39 := Tryz.isAgg124
 z39 := Tryz.sizeOf124
 v39 := Tryz.zeroValue124
 t45 := Tryz.underlying169
 a45 := Tryz.isAgg169
 z45 := Tryz.sizeOf169
 v45 := Tryz.zeroValue169
 t46 := Tryz.underlying170
 a46 := Tryz.isAgg170
 z46 := Tryz.sizeOf170
 v46 := Tryz.zeroValue170
 t50 := Tryz.underlying174
 a50 := Tryz.isAgg174
 z50 := Tryz.sizeOf174
 v50 := Tryz.zeroValue174
 t53 := Tryz.underlying177
 a53 := Tryz.isAgg177
 z53 := Tryz.sizeOf177
 v53 := Tryz.zeroValue177
 t55 := Tryz.underlying24
 a55 := Tryz.isAgg24
 z55 := Tryz.sizeOf24
 v55 := Tryz.zeroValue24
 t66 := Tryz.underlying224
 a66 := Tryz.isAgg224
 z66 := Tryz.sizeOf224
 v66 := Tryz.zeroValue224
 t70 := Tryz.underlying91
 a70 := Tryz.isAgg91
 z70 := Tryz.sizeOf91
 v70 := Tryz.zeroValue91
 t76 := Tryz.underlying257
 a76 := Tryz.isAgg257
 z76 := Tryz.sizeOf257
 v76 := Tryz.zeroValue257
 t77 := Tryz.underlying64
 a77 := Tryz.isAgg64
 z77 := Tryz.sizeOf64
 v77 := Tryz.zeroValue64 }
end Go.Proofs
end
namespace Go.Proofs.YtkkdlgcfcbaibaaGreatDoor
section
open Go.RowKit Go.Sort
set_option maxHeartbeats 1000000 in
theorem closure_any (x y : Iv) (W : World) : Calls Tryz.prog 40 #[.agg #[.int .u64 ((x.1 : Nat) : Int), .int .u64 ((x.2 : Nat) : Int)], .agg #[.int .u64 ((y.1 : Nat) : Int), .int .u64 ((y.2 : Nat) : Int)]] W fun e w' => e = .returned (.int .i64 (cfI x y)) ∧ ∃ q os', w' = grow (W.drewN q) os' := by
 have hcon := fun W' => cmp_any x.1 y.1 W'
 unfold cfI
 generalize Lib.compareInt (x.1 : Int) (y.1 : Int) = r at hcon ⊢
 obtain ⟨a, b⟩ := x
 obtain ⟨c, d⟩ := y
 go_enter Tryz.func40, Tryz.ntmps40
 go_wp2_with (go_at_call 41; refine (hcon _).mono ?_; rintro e w' ⟨rfl, rfl⟩)
 go_ret
 exact ⟨rfl, 0, _, by rw [alloc_eq_grow, alloc_eq_grow, grow_grow]; rfl⟩
theorem cmpLays_any (g size : Nat) (w : World) : CmpLays Tryz.prog 40 #[] encI 2 cfI g 0 size w :=
 fun _ _ _ _ x y => closure_any x y _
theorem Tryz.isAgg_iv (w : World) : (isAgg 73).run Tryz.prog w = .ok true w := by go_simp
theorem Tryz.sizeOf_iv (w : World) : (Go.sizeOf 73).run Tryz.prog w = .ok 2 w := by go_simp
set_option maxHeartbeats 2000000 in
set_option maxRecDepth 100000 in
theorem sortIv_any (g n cap : Nat) (l : List Iv) (w : World) (hl : l.length = n) (hH : HoldsK encI 2 w g 0 l.toArray) (hg : g < w.heap.size) (hn : n ≤ 100000) :
 Calls Tryz.prog 39 #[.slice (some ⟨g, 0, none⟩) n cap, .func (.func 40) #[] #[]] w fun e w' =>
  e = .returned (.tuple #[]) ∧ ∃ l' m os, l'.Perm l ∧ AscLo l' ∧ w' = sortWorldK encI 2 w g 0 m l'.toArray os := by
 have eg : ∀ args w, (callFunc 40 args).run Tryz.prog w = .ok (.enter 40 args) w := enters_of Tryz.func40 (by kernel_rfl) rfl
 have hsz : l.toArray.size = n := by simpa using hl
 have hb : Lib.bitLen n < 4611686018427387904 := Nat.lt_of_le_of_lt (Lib.bitLen_le n 62 (by omega) (by omega)) (by omega)
 have hp := AnyQ.pdqsortCmpFunc_all Tryz.pdqIv 2 Tryz.isAgg_iv Tryz.sizeOf_iv encI cfI 40 #[] swoI g 0 cap l.toArray w eg (cmpLays_any g l.toArray.size w) ⟨fun _ => rfl, fun x v hv => by simp [encI] at hv; rcases hv with rfl | rfl <;> rfl, hH, hg⟩ (l.toArray.size + 1) 0 l.toArray.size (Lib.bitLen n) l.toArray w (by omega) rfl (SWK.start hH) (Nat.zero_le _) (Nat.le_refl _) (by omega) hb (Or.inl rfl)
 have hs := pdq_sorts (ltOf cfI) swoI l.toArray 0 l.toArray.size (Lib.bitLen n) true true (Nat.zero_le _) (Nat.le_refl _) (Or.inl rfl)
 rw [hsz] at hp
 change Calls Tryz.prog 72 _ _ _ at hp
 have hq := perm_list hs.1
 have hsort := sorted_list hs.1.1 hs.2
 rw [hsz] at hq hsort
 generalize pdq (ltOf cfI) l.toArray 0 n (Lib.bitLen n) true true = r at hp hq hsort
 have Hl := Lib.hid (fun w => Tryz.bits_Len (n : Int) w (by omega) (by omega))
 rw [Int.toNat_natCast] at Hl
 generalize Lib.bitLen n = bl at *
 have Hp := Lib.hid hp
 have Hq := Lib.hid hq
 have Hs := Lib.hid hsort
 have wr : IntKind.u64.wrap (n : Int) = n := by rw [IntKind.wrap_u64]; omega
 clear hs hq hsort hp hH eg hsz hb hl
 go_enter Tryz.func39, Tryz.ntmps39
 go_wp2_with (first | (go_at_call 73; refine (Hl.out _).mono ?_; rintro e w' ⟨rfl, rfl⟩) | (go_at_call 72; refine Hp.out.mono ?_; rintro e w' ⟨rfl, n, os, rfl⟩))
 go_end0
 exact ⟨rfl, r.toList, _, _, by simpa using Hq.out, Hs.out, rfl⟩
end
section
open Go.RowKit
theorem insNil_any (f : Value) (w : World) : Calls Tryz.prog 121 #[.slice none 0 0, .int .i64 0, .int .i64 0, f] w fun e w' => e = .returned (.tuple #[]) ∧ w' = w := by
 go_enter Tryz.func121, Tryz.ntmps121
 go_wp2
 go_loopw [8, 9] (fun i _ wr => i = .int .i64 1 ∧ wr = w) (fun _ _ _ => 0)
 case atStart => exact ⟨rfl, rfl⟩
 case round =>
  obtain ⟨rfl, rfl⟩ := hrel
  go_wp2
  go_end0
  exact ⟨rfl, rfl⟩
theorem pdqNil_any (f l : Value) (w : World) : Calls Tryz.prog 72 #[.slice none 0 0, .int .i64 0, .int .i64 0, l, f] w fun e w' => e = .returned (.tuple #[]) ∧ w' = w := by
 go_enter Tryz.func72, Tryz.ntmps72
 go_wp2
 go_loopw [1, 2, 3, 10, 11, 12, 13, 14, 15, 16, 17, 18, 19, 20] (fun a b _ _ _ _ _ _ _ _ _ _ _ _ wr => a = .int .i64 0 ∧ b = .int .i64 0 ∧ wr = w) (fun _ _ _ _ _ _ _ _ _ _ _ _ _ _ _ => 0)
 case atStart => exact ⟨rfl, rfl, rfl⟩
 case round =>
  obtain ⟨rfl, rfl, rfl⟩ := hrel
  go_wp2_with (go_at_call 121; refine (insNil_any _ _).mono ?_; rintro e w' ⟨rfl, rfl⟩)
  exact bodyPost_ret (results_none rfl _ _ _) rfl ⟨rfl, rfl⟩
set_option maxHeartbeats 1000000 in
theorem sortNil_any (w : World) : Calls Tryz.prog 39 #[.slice none 0 0, .func (.func 40) #[] #[]] w fun e w' => e = .returned (.tuple #[]) ∧ w' = w := by
 have Hl := Lib.hid (fun w => Tryz.bits_Len (0 : Int) w (by omega) (by omega))
 have wr : IntKind.u64.wrap (0 : Int) = 0 := rfl
 go_enter Tryz.func39, Tryz.ntmps39
 go_wp2_with (first | (go_at_call 73; refine (Hl.out _).mono ?_; rintro e w' ⟨rfl, rfl⟩) | (go_at_call 72; refine (pdqNil_any _ _ _).mono ?_; rintro e w' ⟨rfl, rfl⟩))
 go_end0
 exact ⟨rfl, rfl⟩
theorem made_zero (n : Nat) : (madeCells (Value.int .i64 0).cells (n * 1)).toList = i64C (List.replicate n 0) := by
 apply List.ext_getElem?
 intro i
 by_cases h : i < n
 · simp [madeCells, i64C, Value.cells, h, Nat.mod_one]
 · simp [madeCells, i64C, h]
theorem run_make_int (w : World) (base n : Nat) (hn : n ≤ 1000000) (hb : base ≤ w.heap.size) :
 ∃ w', (Instr.makeSlice 29 (.int .i64 (n : Int)) (.int .i64 (n : Int))).run Tryz.prog w = .ok (.slice (some ⟨w.heap.size, 0, none⟩) n n) w' ∧ w'.ownsRow base 3 1 (.slice (some ⟨w.heap.size, 0, none⟩) n n) n (i64C (List.replicate n 0)) ∧ Below w.heap.size w w' := by
 obtain ⟨i, hi, hz⟩ := Option.map_eq_some_iff.1 Tryz.info_int
 simp only [Prod.mk.injEq] at hz
 obtain ⟨h1, h2, h3⟩ := hz
 obtain ⟨w', hr, ho, hg⟩ := run_make_full (P := Tryz.prog) w base 29 3 i _ 1 Tryz.underlying29 hi h1 h2 .i64 .i64 n (by rw [h3]; omega) (by unfold maxLen; omega) hb
 rw [made_zero] at ho
 exact ⟨w', hr, ho, (Below.refl _ _).grown hg (Nat.le_refl _) (by intro k h; cases h)⟩
theorem ivs_recap {w : World} {g n c : Nat} {l : List Iv} (h : Ivs w (some ⟨g, 0, none⟩) n n l) (h1 : n ≤ c) (h2 : c ≤ maxLen) : Ivs w (some ⟨g, 0, none⟩) n c l :=
 ⟨h.len, h.lt, h1, by unfold maxLen at h2; omega, (fun e => by cases e), h.cells⟩
theorem ivs_kept {w w' : World} {p : Nat → Prop} {g n c : Nat} {l : List Iv} (h : Ivs w (some ⟨g, 0, none⟩) n c l) (hk : Kept p w w') (hg : p g) : Ivs w' (some ⟨g, 0, none⟩) n c l := by
 refine ⟨h.len, h.lt, h.room, h.most, h.nilc, fun hn => ?_⟩
 obtain ⟨b, o, e, hc⟩ := h.cells hn
 cases e
 exact ⟨g, 0, rfl, fun i hi => ⟨hk.cell (hc i hi).1 hg, hk.cell (hc i hi).2 hg⟩⟩
def flatK (k : Kno) : List Iv := k.flatMap (·.1)
theorem flatK_succ {k : Kno} {d : Nat} (h : d < k.length) : flatK (k.take (d + 1)) = flatK (k.take d) ++ (nthF k d).1 := by
 unfold flatK
 rw [List.take_succ_eq_append_getElem h, List.flatMap_append, nthF_get h]
 simp
theorem flatK_len (k : Kno) : (flatK k).length = isum k := by
 induction k with
 | nil => rfl
 | cons f k ih => unfold flatK at ih ⊢; rw [List.flatMap_cons, List.length_append, ih, isum]
theorem flatK_take (k : Kno) (d : Nat) : (flatK (k.take d)).length ≤ isum k := by rw [flatK_len]; exact isum_take k d
theorem flatK_mem {k : Kno} {s : Iv} : s ∈ flatK k ↔ ∃ f ∈ k, s ∈ f.1 := by unfold flatK; exact List.mem_flatMap
def posK (k : Kno) (x : Nat) : Nat := (firstS (fun i => if mem (nthF k i).1 x = true then some i else none) k.length).getD 0
theorem posK_int {k : Kno} {x : Nat} (h : ∃ f ∈ k, mem f.1 x = true) : intO (firstS (fun i => if mem (nthF k i).1 x = true then some i else none) k.length) = ((posK k x : Nat) : Int) := by
 unfold posK
 cases hf : firstS (fun i => if mem (nthF k i).1 x = true then some i else none) k.length with
 | some i => rfl
 | none =>
  obtain ⟨f, hf', hm⟩ := h
  obtain ⟨i, hi, rfl⟩ := List.getElem_of_mem hf'
  have := firstS_of_none hf i hi
  rw [nthF_get hi, if_pos hm] at this
  cases this
end
end Go.Proofs.YtkkdlgcfcbaibaaGreatDoor
