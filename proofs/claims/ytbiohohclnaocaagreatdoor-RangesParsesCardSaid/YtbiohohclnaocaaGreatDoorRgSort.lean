/-
  Walk: slices.SortFunc at intervals, with the comparison of ranges.Normal.
-/
import Derived.Test.YtbiohohclnaocaaGreatDoorRgSortP
import Derived.Test.YtbiohohclnaocaaGreatDoorSort
import Derived.Test.YtbiohohclnaocaaGreatDoorLib
namespace Go.Proofs.YtbiohohclnaocaaGreatDoor
open Go.RowKit Go.Sort
set_option linter.unusedVariables false

theorem isNaN_any (x : Nat) (w : World) : Calls Tryz.prog 56 #[.int .u64 x] w fun e w' => e = .returned (.bool false) ∧ w' = w := by
  go_enter Tryz.func56, Tryz.ntmps56
  go_wp2
  go_ret
  exact ⟨by simp, rfl⟩

theorem cmp_any (x y : Nat) (w : World) : Calls Tryz.prog 34 #[.int .u64 x, .int .u64 y] w fun e w' => e = .returned (.int .i64 (Lib.compareInt (x : Int) (y : Int))) ∧ w' = w := by
  unfold Lib.compareInt
  by_cases h1 : x < y
  · rw [if_pos (by omega)]
    go_enter Tryz.func34, Tryz.ntmps34
    go_wp2_with (go_at_call 56; refine (isNaN_any _ _).mono ?_; rintro e w1 ⟨rfl, rfl⟩)
    go_ret
    exact ⟨rfl, rfl⟩
  · rw [if_neg (by omega)]
    by_cases h2 : y < x
    · rw [if_pos (by omega)]
      go_enter Tryz.func34, Tryz.ntmps34
      go_wp2_with (go_at_call 56; refine (isNaN_any _ _).mono ?_; rintro e w1 ⟨rfl, rfl⟩)
      go_ret
      exact ⟨rfl, rfl⟩
    · rw [if_neg (by omega)]
      go_enter Tryz.func34, Tryz.ntmps34
      go_wp2_with (go_at_call 56; refine (isNaN_any _ _).mono ?_; rintro e w1 ⟨rfl, rfl⟩)
      go_ret
      exact ⟨rfl, rfl⟩

set_option maxHeartbeats 1000000 in
theorem closure_any (x y : Iv) (W : World) : Calls Tryz.prog 33 #[.agg #[.int .u64 ((x.1 : Nat) : Int), .int .u64 ((x.2 : Nat) : Int)], .agg #[.int .u64 ((y.1 : Nat) : Int), .int .u64 ((y.2 : Nat) : Int)]] W fun e w' => e = .returned (.int .i64 (cfI x y)) ∧ ∃ q os', w' = grow (W.drewN q) os' := by
  have hcon := fun W' => cmp_any x.1 y.1 W'
  unfold cfI
  generalize Lib.compareInt (x.1 : Int) (y.1 : Int) = r at hcon ⊢
  obtain ⟨a, b⟩ := x
  obtain ⟨c, d⟩ := y
  go_enter Tryz.func33, Tryz.ntmps33
  go_wp2_with (go_at_call 34; refine (hcon _).mono ?_; rintro e w' ⟨rfl, rfl⟩)
  go_ret
  exact ⟨rfl, 0, _, by rw [alloc_eq_grow, alloc_eq_grow, grow_grow]; rfl⟩

theorem cmpLays_any (g size : Nat) (w : World) : CmpLays Tryz.prog 33 #[] encI 2 cfI g 0 size w :=
  fun _ _ _ _ x y => closure_any x y _

theorem Tryz.isAgg_iv (w : World) : (isAgg 31).run Tryz.prog w = .ok true w := by go_simp
theorem Tryz.sizeOf_iv (w : World) : (Go.sizeOf 31).run Tryz.prog w = .ok 2 w := by go_simp

set_option maxHeartbeats 2000000 in
set_option maxRecDepth 100000 in
theorem sortIv_any (g n cap : Nat) (l : List Iv) (w : World) (hl : l.length = n) (hH : HoldsK encI 2 w g 0 l.toArray) (hg : g < w.heap.size) (hn : n ≤ 100000) :
    Calls Tryz.prog 32 #[.slice (some ⟨g, 0, none⟩) n cap, .func (.func 33) #[] #[]] w fun e w' =>
      e = .returned (.tuple #[]) ∧ ∃ l' m os, l'.Perm l ∧ AscLo l' ∧ w' = sortWorldK encI 2 w g 0 m l'.toArray os := by
  have eg : ∀ args w, (callFunc 33 args).run Tryz.prog w = .ok (.enter 33 args) w := enters_of Tryz.func33 (by kernel_rfl) rfl
  have hsz : l.toArray.size = n := by simpa using hl
  have hb : Lib.bitLen n < 4611686018427387904 := Nat.lt_of_le_of_lt (Lib.bitLen_le n 62 (by omega) (by omega)) (by omega)
  have hp := AnyQ.pdqsortCmpFunc_all Tryz.pdqIv 2 Tryz.isAgg_iv Tryz.sizeOf_iv encI cfI 33 #[] swoI g 0 cap l.toArray w eg (cmpLays_any g l.toArray.size w) ⟨fun _ => rfl, fun x v hv => by simp [encI] at hv; rcases hv with rfl | rfl <;> rfl, hH, hg⟩ (l.toArray.size + 1) 0 l.toArray.size (Lib.bitLen n) l.toArray w (by omega) rfl (SWK.start hH) (Nat.zero_le _) (Nat.le_refl _) (by omega) hb (Or.inl rfl)
  have hs := pdq_sorts (ltOf cfI) swoI l.toArray 0 l.toArray.size (Lib.bitLen n) true true (Nat.zero_le _) (Nat.le_refl _) (Or.inl rfl)
  rw [hsz] at hp
  change Calls Tryz.prog 54 _ _ _ at hp
  have hq := perm_list hs.1
  have hsort := sorted_list hs.1.1 hs.2
  rw [hsz] at hq hsort
  generalize pdq (ltOf cfI) l.toArray 0 n (Lib.bitLen n) true true = r at hp hq hsort
  have Hl := Lib.hid (fun w => Tryz.bits_Len (n : Int) w (by omega) (by omega))
  rw [Int.toNat_natCast] at Hl
  generalize Lib.bitLen n = bl at *
  have Hp := Lib.hid hp
  have Hq := Lib.hid hq
  have Hs := Lib.hid hsort
  have wr : IntKind.u64.wrap (n : Int) = n := by rw [IntKind.wrap_u64]; omega
  clear hs hq hsort hp hH eg hsz hb hl
  go_enter Tryz.func32, Tryz.ntmps32
  go_wp2_with (first | (go_at_call 55; refine (Hl.out _).mono ?_; rintro e w' ⟨rfl, rfl⟩) | (go_at_call 54; refine Hp.out.mono ?_; rintro e w' ⟨rfl, n, os, rfl⟩))
  go_end0
  exact ⟨rfl, r.toList, _, _, by simpa using Hq.out, Hs.out, rfl⟩

end Go.Proofs.YtbiohohclnaocaaGreatDoor
