/-
  Walk: frame.Header where no byte is left, and at every index.
-/
import Derived.Test.YtejcakbkldecmaaDoorFrmHead
namespace Go.Proofs.YtejcakbkldecmaaDoor
open Go.RowKit
set_option linter.unusedVariables false

set_option maxRecDepth 100000 in
set_option maxHeartbeats 4000000 in
theorem header_end (a : Option Addr) (n cap : Nat) (most : Int) (l : List Nat) (w : World) (hB : Byts w a n cap l) (hn : n ≤ 100000) :
    Calls Tryd.prog 12 #[.slice a n cap, .int .i64 n, .int .i64 most] w fun e w' =>
      e = .returned (.tuple #[.int .i64 ((headRes l n most).1 : Nat), .int .i64 ((headRes l n most).2.1 : Nat), errVal (headRes l n most).2.2]) ∧ Below w.heap.size w w' := by
  have HB := Lib.hid hB
  have hbad : headRes l n most = (0, 0, some (5, some (n : Int))) := headRes_bad (headBad_at (show 0 < 5 by omega) (fun j hj => by omega) (headAt_short (by rw [hB.len]; omega)))
  have Hbad := Lib.hid hbad; clear hbad
  obtain ⟨hl, hlt, hnc, hcm, hnil, hc⟩ := hB; clear hcm hl hlt hc
  have h0p : (0 : Int) ≤ (n : Int) := by omega
  have Hb0 := Lib.hid ((Below.refl w.heap.size w).alloc (Nat.le_refl _) (.cells #[.int .u8 0, .int .u8 0, .int .u8 0, .int .u8 0] 45))
  cases a with
  | none =>
    have hc0 := hnil rfl
    obtain rfl : n = 0 := by omega
    subst hc0
    clear hnil
    go_enter Tryd.func12, Tryd.ntmps12
    go_wp2_with fail
    go_region_law (refine step_copy_splice rfl (.tmp 20) (.tmp 23) 22 22 rfl 5 Tryd.underlying22 (by kernel_rfl) (some ⟨w.heap.size, 0, none⟩) _ 4 4 _ _ rfl rfl w.heap.size 0 [.int .u8 0, .int .u8 0, .int .u8 0, .int .u8 0] 45 (heap_alloc_new _ _) [] rfl (fun h => absurd h (Nat.lt_irrefl 0)) (Nat.zero_le _) (by intro v hv; cases hv) w.heap.size w Hb0.out.drew (Nat.le_refl _) ?_; intro w4 hg4 hb4)
    have Hg4 := Lib.hid hg4.out
    clear hg4
    go_wp2_with fail
    refine (magic_any _).mono ?_
    rintro e w5 ⟨rfl, hb5⟩
    have hgl4 : w.heap.size < w4.heap.size := (Array.getElem?_eq_some_iff.1 Hg4.out).1
    have hgl : w.heap.size < w5.heap.size := Nat.lt_of_lt_of_le hgl4 hb5.size
    have hg5 := (hb5.block w.heap.size hgl4).trans Hg4.out
    have c0 := cell_of_row w5 w.heap.size 0 _ _ _ hg5
    have c1 := cell_of_row w5 w.heap.size 1 _ _ _ hg5
    have c2 := cell_of_row w5 w.heap.size 2 _ _ _ hg5
    have c3 := cell_of_row w5 w.heap.size 3 _ _ _ hg5
    simp only [splice, List.take_zero, List.nil_append, List.length_nil, Nat.add_zero, List.drop_zero, List.getElem?_toArray, List.getElem?_cons_zero, List.getElem?_cons_succ] at c0 c1 c2 c3
    have hb := hb4.trans (hb5.mono hb4.size)
    clear hg5 hb4 hb5 Hg4 hgl4
    have he4 := eq_arr4
    go_wp2_with fail
    refine wp_loop_once ?_
    go_wp2_with fail
    refine (new_any 5 _ _).mono ?_
    rintro e w' ⟨rfl, rfl⟩
    go_wp2_with fail
    go_ret3
    refine ⟨?_, hb.alloc hb.size _⟩
    rw [Hbad.out]
    rfl
  | some x =>
    clear hnil
    by_cases hcn : cap = n
    · subst hcn
      go_enter Tryd.func12, Tryd.ntmps12
      go_wp2_with fail
      go_region_law (refine step_copy_splice rfl (.tmp 20) (.tmp 23) 22 22 rfl 5 Tryd.underlying22 (by kernel_rfl) (some ⟨w.heap.size, 0, none⟩) _ 4 4 _ _ rfl rfl w.heap.size 0 [.int .u8 0, .int .u8 0, .int .u8 0, .int .u8 0] 45 (heap_alloc_new _ _) [] (by simp) (fun h => absurd h (Nat.lt_irrefl 0)) (Nat.zero_le _) (by intro v hv; cases hv) w.heap.size w Hb0.out.drew (Nat.le_refl _) ?_; intro w4 hg4 hb4)
      have Hg4 := Lib.hid hg4.out
      clear hg4
      go_wp2_with fail
      refine (magic_any _).mono ?_
      rintro e w5 ⟨rfl, hb5⟩
      have hgl4 : w.heap.size < w4.heap.size := (Array.getElem?_eq_some_iff.1 Hg4.out).1
      have hgl : w.heap.size < w5.heap.size := Nat.lt_of_lt_of_le hgl4 hb5.size
      have hg5 := (hb5.block w.heap.size hgl4).trans Hg4.out
      have c0 := cell_of_row w5 w.heap.size 0 _ _ _ hg5
      have c1 := cell_of_row w5 w.heap.size 1 _ _ _ hg5
      have c2 := cell_of_row w5 w.heap.size 2 _ _ _ hg5
      have c3 := cell_of_row w5 w.heap.size 3 _ _ _ hg5
      simp only [splice, List.take_zero, List.nil_append, List.length_nil, Nat.add_zero, List.drop_zero, List.getElem?_toArray, List.getElem?_cons_zero, List.getElem?_cons_succ] at c0 c1 c2 c3
      have hb := hb4.trans (hb5.mono hb4.size)
      clear hg5 hb4 hb5 Hg4 hgl4
      have he4 := eq_arr4
      go_wp2_with fail
      refine wp_loop_once ?_
      go_wp2_with fail
      refine (new_any 5 _ _).mono ?_
      rintro e w' ⟨rfl, rfl⟩
      go_wp2_with fail
      go_ret3
      refine ⟨?_, hb.alloc hb.size _⟩
      rw [Hbad.out]
      rfl
    · have hcn' : ¬ cap = n := hcn
      go_enter Tryd.func12, Tryd.ntmps12
      go_wp2_with fail
      go_region_law (refine step_copy_splice rfl (.tmp 20) (.tmp 23) 22 22 rfl 5 Tryd.underlying22 (by kernel_rfl) (some ⟨w.heap.size, 0, none⟩) _ 4 4 _ _ rfl rfl w.heap.size 0 [.int .u8 0, .int .u8 0, .int .u8 0, .int .u8 0] 45 (heap_alloc_new _ _) [] (by simp) (fun h => absurd h (Nat.lt_irrefl 0)) (Nat.zero_le _) (by intro v hv; cases hv) w.heap.size w Hb0.out.drew (Nat.le_refl _) ?_; intro w4 hg4 hb4)
      have Hg4 := Lib.hid hg4.out
      clear hg4
      go_wp2_with fail
      refine (magic_any _).mono ?_
      rintro e w5 ⟨rfl, hb5⟩
      have hgl4 : w.heap.size < w4.heap.size := (Array.getElem?_eq_some_iff.1 Hg4.out).1
      have hgl : w.heap.size < w5.heap.size := Nat.lt_of_lt_of_le hgl4 hb5.size
      have hg5 := (hb5.block w.heap.size hgl4).trans Hg4.out
      have c0 := cell_of_row w5 w.heap.size 0 _ _ _ hg5
      have c1 := cell_of_row w5 w.heap.size 1 _ _ _ hg5
      have c2 := cell_of_row w5 w.heap.size 2 _ _ _ hg5
      have c3 := cell_of_row w5 w.heap.size 3 _ _ _ hg5
      simp only [splice, List.take_zero, List.nil_append, List.length_nil, Nat.add_zero, List.drop_zero, List.getElem?_toArray, List.getElem?_cons_zero, List.getElem?_cons_succ] at c0 c1 c2 c3
      have hb := hb4.trans (hb5.mono hb4.size)
      clear hg5 hb4 hb5 Hg4 hgl4
      have he4 := eq_arr4
      go_wp2_with fail
      refine wp_loop_once ?_
      go_wp2_with fail
      refine (new_any 5 _ _).mono ?_
      rintro e w' ⟨rfl, rfl⟩
      go_wp2_with fail
      go_ret3
      refine ⟨?_, hb.alloc hb.size _⟩
      rw [Hbad.out]
      rfl

theorem header_any (a : Option Addr) (n cap p : Nat) (most : Int) (l : List Nat) (w : World) (hD : Door w) (hB : Byts w a n cap l) (hp : p ≤ n) (hn : n ≤ 100000) (hm0 : -9223372036854775808 ≤ most) (hm1 : most ≤ 9223372036854775807) :
    Calls Tryd.prog 12 #[.slice a n cap, .int .i64 p, .int .i64 most] w fun e w' =>
      e = .returned (.tuple #[.int .i64 ((headRes l p most).1 : Nat), .int .i64 ((headRes l p most).2.1 : Nat), errVal (headRes l p most).2.2]) ∧ Below w.heap.size w w' := by
  by_cases h : p < n
  · exact header_some a n cap p most l w hD hB h hn hm0 hm1
  · obtain rfl : p = n := by omega
    exact header_end a p cap most l w hB hn

end Go.Proofs.YtejcakbkldecmaaDoor
