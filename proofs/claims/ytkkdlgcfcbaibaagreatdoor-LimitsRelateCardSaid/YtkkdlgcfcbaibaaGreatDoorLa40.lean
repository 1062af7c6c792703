/- Walks and laws, joined: La40. -/
import Derived.Test.YtkkdlgcfcbaibaaGreatDoorLa22
import Derived.Test.YtkkdlgcfcbaibaaGreatDoorLa39
set_option linter.unusedVariables false
namespace Go.Proofs.YtkkdlgcfcbaibaaGreatDoor
section
theorem limX_none {a b : Lim} : limX a b = none ↔ ∀ i, i < 5 → limAt a i ≤ limAt b i := by
 unfold limX
 constructor
 · intro h i hi
   have := List.findSome?_eq_none_iff.1 h i (List.mem_range.2 hi)
   split at this
   · cases this
   · omega
 · intro h
   exact firstS_none fun i hi => if_neg (by have := h i hi; omega)
theorem limAt_join (a b : Lim) (i : Nat) (h : i < 5) : limAt (limJ a b) i = max (limAt a i) (limAt b i) := by
 rcases (by omega : i = 0 ∨ i = 1 ∨ i = 2 ∨ i = 3 ∨ i = 4) with rfl | rfl | rfl | rfl | rfl <;> rfl
theorem within_left (a b : Lim) : limX a (limJ a b) = none := limX_none.2 fun i hi => by rw [limAt_join a b i hi]; omega
theorem within_right (a b : Lim) : limX b (limJ a b) = none := limX_none.2 fun i hi => by rw [limAt_join a b i hi]; omega
theorem within_join (a b c : Lim) : decide (limX (limJ a b) c = none) = (decide (limX a c = none) && decide (limX b c = none)) := by
 rw [Bool.eq_iff_iff, Bool.and_eq_true, decide_eq_true_iff, decide_eq_true_iff, decide_eq_true_iff, limX_none, limX_none, limX_none]
 constructor
 · intro h
   exact ⟨fun i hi => by have := h i hi; rw [limAt_join a b i hi] at this; omega, fun i hi => by have := h i hi; rw [limAt_join a b i hi] at this; omega⟩
 · rintro ⟨h1, h2⟩ i hi
   have := h1 i hi; have := h2 i hi
   rw [limAt_join a b i hi]
   omega
theorem limJ_comm (a b : Lim) : limJ b a = limJ a b := by
 unfold limJ
 simp only [Prod.mk.injEq]
 refine ⟨?_, ?_, ?_, ?_, ?_⟩ <;> omega
theorem limJ_self (a : Lim) : limJ a a = a := by
 obtain ⟨x, y, z, u, v⟩ := a
 unfold limJ
 simp only [Prod.mk.injEq]
 refine ⟨?_, ?_, ?_, ?_, ?_⟩ <;> omega
end
section
open Go.RowKit
set_option maxRecDepth 100000 in
set_option maxHeartbeats 8000000 in
theorem walkLimitsRelate (a b c : Lim) (w : World) (hD : Door w) :
 Calls Tryz.prog 5 #[limV a, limV b, limV c] w fun e w' => e = .returned (.bool true) ∧ Below w.heap.size w w' := by
 have hl1 : Below w.heap.size w (w.alloc (.cells #[.int .i64 a.1, .int .i64 a.2.1, .int .i64 a.2.2.1, .int .i64 a.2.2.2.1, .int .i64 a.2.2.2.2] 47)) := (Below.refl _ _).alloc (Nat.le_refl _) _
 have hl2 : Below (w.alloc (.cells #[.int .i64 a.1, .int .i64 a.2.1, .int .i64 a.2.2.1, .int .i64 a.2.2.2.1, .int .i64 a.2.2.2.2] 47)).heap.size (w.alloc (.cells #[.int .i64 a.1, .int .i64 a.2.1, .int .i64 a.2.2.1, .int .i64 a.2.2.2.1, .int .i64 a.2.2.2.2] 47)) ((w.alloc (.cells #[.int .i64 a.1, .int .i64 a.2.1, .int .i64 a.2.2.1, .int .i64 a.2.2.2.1, .int .i64 a.2.2.2.2] 47)).alloc (.cells #[.int .i64 b.1, .int .i64 b.2.1, .int .i64 b.2.2.1, .int .i64 b.2.2.2.1, .int .i64 b.2.2.2.2] 47)) := (Below.refl _ _).alloc (Nat.le_refl _) _
 have hl3 : Below ((w.alloc (.cells #[.int .i64 a.1, .int .i64 a.2.1, .int .i64 a.2.2.1, .int .i64 a.2.2.2.1, .int .i64 a.2.2.2.2] 47)).alloc (.cells #[.int .i64 b.1, .int .i64 b.2.1, .int .i64 b.2.2.1, .int .i64 b.2.2.2.1, .int .i64 b.2.2.2.2] 47)).heap.size ((w.alloc (.cells #[.int .i64 a.1, .int .i64 a.2.1, .int .i64 a.2.2.1, .int .i64 a.2.2.2.1, .int .i64 a.2.2.2.2] 47)).alloc (.cells #[.int .i64 b.1, .int .i64 b.2.1, .int .i64 b.2.2.1, .int .i64 b.2.2.2.1, .int .i64 b.2.2.2.2] 47)) (((w.alloc (.cells #[.int .i64 a.1, .int .i64 a.2.1, .int .i64 a.2.2.1, .int .i64 a.2.2.2.1, .int .i64 a.2.2.2.2] 47)).alloc (.cells #[.int .i64 b.1, .int .i64 b.2.1, .int .i64 b.2.2.1, .int .i64 b.2.2.2.1, .int .i64 b.2.2.2.2] 47)).alloc (.cells #[.int .i64 c.1, .int .i64 c.2.1, .int .i64 c.2.2.1, .int .i64 c.2.2.2.1, .int .i64 c.2.2.2.2] 47)) := (Below.refl _ _).alloc (Nat.le_refl _) _
 have h23 := hl2.trans (hl3.mono hl2.size)
 have Hal := Lib.hid (hl1.trans (h23.mono hl1.size))
 have HA0 := Lib.hid (fun w' (h : Below (((w.alloc (.cells #[.int .i64 a.1, .int .i64 a.2.1, .int .i64 a.2.2.1, .int .i64 a.2.2.2.1, .int .i64 a.2.2.2.2] 47)).alloc (.cells #[.int .i64 b.1, .int .i64 b.2.1, .int .i64 b.2.2.1, .int .i64 b.2.2.2.1, .int .i64 b.2.2.2.2] 47)).alloc (.cells #[.int .i64 c.1, .int .i64 c.2.1, .int .i64 c.2.2.1, .int .i64 c.2.2.2.1, .int .i64 c.2.2.2.2] 47)).heap.size (((w.alloc (.cells #[.int .i64 a.1, .int .i64 a.2.1, .int .i64 a.2.2.1, .int .i64 a.2.2.2.1, .int .i64 a.2.2.2.2] 47)).alloc (.cells #[.int .i64 b.1, .int .i64 b.2.1, .int .i64 b.2.2.1, .int .i64 b.2.2.2.1, .int .i64 b.2.2.2.2] 47)).alloc (.cells #[.int .i64 c.1, .int .i64 c.2.1, .int .i64 c.2.2.1, .int .i64 c.2.2.2.1, .int .i64 c.2.2.2.2] 47)) w') => box5 w (.int .i64 a.1) (.int .i64 a.2.1) (.int .i64 a.2.2.1) (.int .i64 a.2.2.2.1) (.int .i64 a.2.2.2.2) 47 w' (h23.trans (h.mono h23.size)))
 have HB0 := Lib.hid (fun w' (h : Below (((w.alloc (.cells #[.int .i64 a.1, .int .i64 a.2.1, .int .i64 a.2.2.1, .int .i64 a.2.2.2.1, .int .i64 a.2.2.2.2] 47)).alloc (.cells #[.int .i64 b.1, .int .i64 b.2.1, .int .i64 b.2.2.1, .int .i64 b.2.2.2.1, .int .i64 b.2.2.2.2] 47)).alloc (.cells #[.int .i64 c.1, .int .i64 c.2.1, .int .i64 c.2.2.1, .int .i64 c.2.2.2.1, .int .i64 c.2.2.2.2] 47)).heap.size (((w.alloc (.cells #[.int .i64 a.1, .int .i64 a.2.1, .int .i64 a.2.2.1, .int .i64 a.2.2.2.1, .int .i64 a.2.2.2.2] 47)).alloc (.cells #[.int .i64 b.1, .int .i64 b.2.1, .int .i64 b.2.2.1, .int .i64 b.2.2.2.1, .int .i64 b.2.2.2.2] 47)).alloc (.cells #[.int .i64 c.1, .int .i64 c.2.1, .int .i64 c.2.2.1, .int .i64 c.2.2.2.1, .int .i64 c.2.2.2.2] 47)) w') => show w'.cell? ⟨w.heap.size + 1, 0, none⟩ = some (.int .i64 b.1) ∧ w'.cell? ⟨w.heap.size + 1, 1, none⟩ = some (.int .i64 b.2.1) ∧ w'.cell? ⟨w.heap.size + 1, 2, none⟩ = some (.int .i64 b.2.2.1) ∧ w'.cell? ⟨w.heap.size + 1, 3, none⟩ = some (.int .i64 b.2.2.2.1) ∧ w'.cell? ⟨w.heap.size + 1, 4, none⟩ = some (.int .i64 b.2.2.2.2) from by
  have := box5 (w.alloc (.cells #[.int .i64 a.1, .int .i64 a.2.1, .int .i64 a.2.2.1, .int .i64 a.2.2.2.1, .int .i64 a.2.2.2.2] 47)) (.int .i64 b.1) (.int .i64 b.2.1) (.int .i64 b.2.2.1) (.int .i64 b.2.2.2.1) (.int .i64 b.2.2.2.2) 47 w' (hl3.trans (h.mono hl3.size))
  rwa [World.size_alloc] at this)
 have HC0 := Lib.hid (fun w' (h : Below (((w.alloc (.cells #[.int .i64 a.1, .int .i64 a.2.1, .int .i64 a.2.2.1, .int .i64 a.2.2.2.1, .int .i64 a.2.2.2.2] 47)).alloc (.cells #[.int .i64 b.1, .int .i64 b.2.1, .int .i64 b.2.2.1, .int .i64 b.2.2.2.1, .int .i64 b.2.2.2.2] 47)).alloc (.cells #[.int .i64 c.1, .int .i64 c.2.1, .int .i64 c.2.2.1, .int .i64 c.2.2.2.1, .int .i64 c.2.2.2.2] 47)).heap.size (((w.alloc (.cells #[.int .i64 a.1, .int .i64 a.2.1, .int .i64 a.2.2.1, .int .i64 a.2.2.2.1, .int .i64 a.2.2.2.2] 47)).alloc (.cells #[.int .i64 b.1, .int .i64 b.2.1, .int .i64 b.2.2.1, .int .i64 b.2.2.2.1, .int .i64 b.2.2.2.2] 47)).alloc (.cells #[.int .i64 c.1, .int .i64 c.2.1, .int .i64 c.2.2.1, .int .i64 c.2.2.2.1, .int .i64 c.2.2.2.2] 47)) w') => show w'.cell? ⟨w.heap.size + 2, 0, none⟩ = some (.int .i64 c.1) ∧ w'.cell? ⟨w.heap.size + 2, 1, none⟩ = some (.int .i64 c.2.1) ∧ w'.cell? ⟨w.heap.size + 2, 2, none⟩ = some (.int .i64 c.2.2.1) ∧ w'.cell? ⟨w.heap.size + 2, 3, none⟩ = some (.int .i64 c.2.2.2.1) ∧ w'.cell? ⟨w.heap.size + 2, 4, none⟩ = some (.int .i64 c.2.2.2.2) from by
  have := box5 ((w.alloc (.cells #[.int .i64 a.1, .int .i64 a.2.1, .int .i64 a.2.2.1, .int .i64 a.2.2.2.1, .int .i64 a.2.2.2.2] 47)).alloc (.cells #[.int .i64 b.1, .int .i64 b.2.1, .int .i64 b.2.2.1, .int .i64 b.2.2.2.1, .int .i64 b.2.2.2.2] 47)) (.int .i64 c.1) (.int .i64 c.2.1) (.int .i64 c.2.2.1) (.int .i64 c.2.2.2.1) (.int .i64 c.2.2.2.2) 47 w' h
  rwa [World.size_alloc, World.size_alloc] at this)
 have HD := Lib.hid (fun W (h : Below w.heap.size w W) => hD.below (Nat.le_refl _) h)
 have HJ := Lib.hid (fun W => limJoin_any a b W)
 have HJg := Lib.hid (fun (x y r : Lim) (h : limJ x y = r) W => show Calls Tryz.prog 25 #[limV x, limV y] W fun e w' => e = .returned (limV r) ∧ Below W.heap.size W w' from by subst h; exact limJoin_any x y W)
 have hJ2 := limJ_comm a b
 have hJ3 := limJ_self a
 have HWg := Lib.hid (fun (x y : Lim) (v : Bool) (h : decide (limX x y = none) = v) W => show Calls Tryz.prog 26 #[limV x, limV y] W fun e w' => e = .returned (.bool v) ∧ Below W.heap.size W w' from by subst h; exact within_any x y W)
 have hWaJ := decide_eq_true (within_left a b)
 have hWbJ := decide_eq_true (within_right a b)
 have hWJc := within_join a b c
 have HEx := Lib.hid (fun W => refExceeds_any a b W)
 unfold limV at HJ HJg HWg HEx ⊢
 clear hl1 hl2 hl3 h23 hD
 generalize limJ a b = J at *
 go_enter Tryz.func5, Tryz.ntmps5
 go_wp2_with fail
 generalize (((w.alloc (.cells #[.int .i64 a.1, .int .i64 a.2.1, .int .i64 a.2.2.1, .int .i64 a.2.2.2.1, .int .i64 a.2.2.2.2] 47)).alloc (.cells #[.int .i64 b.1, .int .i64 b.2.1, .int .i64 b.2.2.1, .int .i64 b.2.2.2.1, .int .i64 b.2.2.2.2] 47)).alloc (.cells #[.int .i64 c.1, .int .i64 c.2.1, .int .i64 c.2.2.1, .int .i64 c.2.2.2.1, .int .i64 c.2.2.2.2] 47)) = W at *
 refine (HJ.out W).mono ?_
 rintro e w1 ⟨rfl, hb1⟩
 have hl4 : Below w1.heap.size w1 (w1.alloc (.cells #[.int .i64 J.1, .int .i64 J.2.1, .int .i64 J.2.2.1, .int .i64 J.2.2.2.1, .int .i64 J.2.2.2.2] 47)) := (Below.refl _ _).alloc (Nat.le_refl _) _
 have h14 := hb1.trans (hl4.mono hb1.size)
 have HA := Lib.hid (fun w' (h : Below (w1.alloc (.cells #[.int .i64 J.1, .int .i64 J.2.1, .int .i64 J.2.2.1, .int .i64 J.2.2.2.1, .int .i64 J.2.2.2.2] 47)).heap.size (w1.alloc (.cells #[.int .i64 J.1, .int .i64 J.2.1, .int .i64 J.2.2.1, .int .i64 J.2.2.2.1, .int .i64 J.2.2.2.2] 47)) w') => HA0.out w' (h14.trans (h.mono h14.size)))
 have HB := Lib.hid (fun w' (h : Below (w1.alloc (.cells #[.int .i64 J.1, .int .i64 J.2.1, .int .i64 J.2.2.1, .int .i64 J.2.2.2.1, .int .i64 J.2.2.2.2] 47)).heap.size (w1.alloc (.cells #[.int .i64 J.1, .int .i64 J.2.1, .int .i64 J.2.2.1, .int .i64 J.2.2.2.1, .int .i64 J.2.2.2.2] 47)) w') => HB0.out w' (h14.trans (h.mono h14.size)))
 have HC := Lib.hid (fun w' (h : Below (w1.alloc (.cells #[.int .i64 J.1, .int .i64 J.2.1, .int .i64 J.2.2.1, .int .i64 J.2.2.2.1, .int .i64 J.2.2.2.2] 47)).heap.size (w1.alloc (.cells #[.int .i64 J.1, .int .i64 J.2.1, .int .i64 J.2.2.1, .int .i64 J.2.2.2.1, .int .i64 J.2.2.2.2] 47)) w') => HC0.out w' (h14.trans (h.mono h14.size)))
 have HJc := Lib.hid (box5 w1 (.int .i64 J.1) (.int .i64 J.2.1) (.int .i64 J.2.2.1) (.int .i64 J.2.2.2.1) (.int .i64 J.2.2.2.2) 47)
 have Hb2 := Lib.hid (Hal.out.trans (h14.mono Hal.out.size))
 clear hb1 hl4 h14 HA0 HB0 HC0 HJ
 go_wp2_with fail
 generalize w1.alloc (.cells #[.int .i64 J.1, .int .i64 J.2.1, .int .i64 J.2.2.1, .int .i64 J.2.2.2.1, .int .i64 J.2.2.2.2] 47) = w2 at *
 go_cut [30] (fun t wc => t = .bool false ∧ Hid (Below w2.heap.size w2 wc))
 case first =>
  cases h : limX a b with
  | none =>
   have hab : decide (limX a b = none) = true := decide_eq_true h
   rw [h] at HEx
   simp only [intO] at HEx
   clear h
   refine wp_region_below (by kernel_rfl) (by kernel_rfl) ?_
   repeat (go_big_quiet_step ((intro hw; first
    | rfl
    | (go_at_call 26; exact keep_below hw (HWg.out _ _ _ (by assumption) _))
    | (go_at_call 27; exact keep_below hw (HEx.out _))
    | (obtain ⟨a0, a1, a2, a3, a4⟩ := HA.out _ hw
       obtain ⟨b0, b1, b2, b3, b4⟩ := HB.out _ hw
       obtain ⟨j0, j1, j2, j3, j4⟩ := HJc.out _ hw
       go_simp
       first | rfl | exact ⟨rfl, hw⟩ | (trace_state; fail)))))
   refine wpQuiet_nil ?_
   intro w3 hb3
   go_wp2
   go_meet
   exact ⟨rfl, hb3⟩
  | some i =>
   have hab : decide (limX a b = none) = false := by rw [h]; rfl
   rw [h] at HEx
   simp only [intO] at HEx
   have hd : decide ((i : Int) < 0) = false := by rw [decide_eq_false_iff_not]; omega
   clear h
   refine wp_region_below (by kernel_rfl) (by kernel_rfl) ?_
   repeat (go_big_quiet_step ((intro hw; first
    | rfl
    | (go_at_call 26; exact keep_below hw (HWg.out _ _ _ (by assumption) _))
    | (go_at_call 27; exact keep_below hw (HEx.out _))
    | (obtain ⟨a0, a1, a2, a3, a4⟩ := HA.out _ hw
       obtain ⟨b0, b1, b2, b3, b4⟩ := HB.out _ hw
       obtain ⟨j0, j1, j2, j3, j4⟩ := HJc.out _ hw
       go_simp
       first | rfl | exact ⟨rfl, hw⟩ | (trace_state; fail)))))
   refine wpQuiet_nil ?_
   intro w3 hb3
   go_wp2
   go_meet
   exact ⟨rfl, hb3⟩
 case rest =>
  obtain ⟨rfl, hb3⟩ := hcut
  have Hb4 := Lib.hid (Hb2.out.trans (hb3.out.mono Hb2.out.size))
  have HAr := Lib.hid (fun w' h => HA.out w' (hb3.out.trans (Below.mono h hb3.out.size)))
  have HBr := Lib.hid (fun w' h => HB.out w' (hb3.out.trans (Below.mono h hb3.out.size)))
  have HCr := Lib.hid (fun w' h => HC.out w' (hb3.out.trans (Below.mono h hb3.out.size)))
  have HJr := Lib.hid (fun w' h => HJc.out w' (hb3.out.trans (Below.mono h hb3.out.size)))
  have HDr := Lib.hid (fun w' h => HD.out w' (Hb4.out.trans (Below.mono h Hb4.out.size)))
  clear hb3
  go_wp2_with fail
  cases h1 : decide (limX a c = none) with
  | false =>
   rw [h1, Bool.false_and] at hWJc
   refine wp_region_below (by kernel_rfl) (by kernel_rfl) ?_
   repeat (go_big_quiet_step ((intro hw; first
    | rfl
    | (go_at_call 22; exact keep_below hw (aliveL_any _ (HDr.out _ hw)))
    | (go_at_call 26; exact keep_below hw (HWg.out _ _ _ (by assumption) _))
    | (go_at_call 25; exact keep_below hw (HJg.out _ _ _ (by assumption) _))
    | (obtain ⟨a0, a1, a2, a3, a4⟩ := HAr.out _ hw
       obtain ⟨b0, b1, b2, b3, b4⟩ := HBr.out _ hw
       obtain ⟨c0, c1, c2, c3, c4⟩ := HCr.out _ hw
       obtain ⟨j0, j1, j2, j3, j4⟩ := HJr.out _ hw
       go_simp
       first | rfl | exact ⟨rfl, hw⟩ | (trace_state; fail)))))
   refine wpQuiet_nil ?_
   intro w5 hb5
   go_wp2
   go_ret
   exact ⟨rfl, Hb4.out.trans (hb5.mono Hb4.out.size)⟩
  | true =>
   rw [h1, Bool.true_and] at hWJc
   cases h2 : decide (limX b c = none) with
   | false =>
    rw [h2] at hWJc
    refine wp_region_below (by kernel_rfl) (by kernel_rfl) ?_
    repeat (go_big_quiet_step ((intro hw; first
     | rfl
     | (go_at_call 22; exact keep_below hw (aliveL_any _ (HDr.out _ hw)))
     | (go_at_call 26; exact keep_below hw (HWg.out _ _ _ (by assumption) _))
     | (go_at_call 25; exact keep_below hw (HJg.out _ _ _ (by assumption) _))
     | (obtain ⟨a0, a1, a2, a3, a4⟩ := HAr.out _ hw
        obtain ⟨b0, b1, b2, b3, b4⟩ := HBr.out _ hw
        obtain ⟨c0, c1, c2, c3, c4⟩ := HCr.out _ hw
        obtain ⟨j0, j1, j2, j3, j4⟩ := HJr.out _ hw
        go_simp
        first | rfl | exact ⟨rfl, hw⟩ | (trace_state; fail)))))
    refine wpQuiet_nil ?_
    intro w5 hb5
    go_wp2
    go_ret
    exact ⟨rfl, Hb4.out.trans (hb5.mono Hb4.out.size)⟩
   | true =>
    rw [h2] at hWJc
    refine wp_region_below (by kernel_rfl) (by kernel_rfl) ?_
    repeat (go_big_quiet_step ((intro hw; first
     | rfl
     | (go_at_call 22; exact keep_below hw (aliveL_any _ (HDr.out _ hw)))
     | (go_at_call 26; exact keep_below hw (HWg.out _ _ _ (by assumption) _))
     | (go_at_call 25; exact keep_below hw (HJg.out _ _ _ (by assumption) _))
     | (obtain ⟨a0, a1, a2, a3, a4⟩ := HAr.out _ hw
        obtain ⟨b0, b1, b2, b3, b4⟩ := HBr.out _ hw
        obtain ⟨c0, c1, c2, c3, c4⟩ := HCr.out _ hw
        obtain ⟨j0, j1, j2, j3, j4⟩ := HJr.out _ hw
        go_simp
        first | rfl | exact ⟨rfl, hw⟩ | (trace_state; fail)))))
    refine wpQuiet_nil ?_
    intro w5 hb5
    go_wp2
    go_ret
    exact ⟨rfl, Hb4.out.trans (hb5.mono Hb4.out.size)⟩
end
end Go.Proofs.YtkkdlgcfcbaibaaGreatDoor
