/-
  Walks: slices.Equal at intervals, ranges.Same, kenningref04.Same.
-/
import Derived.Test.YtbiohohclnaocaaGreatDoorRgBase
import Derived.Laws.StructEq
import Derived.Deep.QuietTactic
namespace Go.Proofs.YtbiohohclnaocaaGreatDoor
open Go.RowKit
set_option linter.unusedVariables false

theorem eq_iv (x y z u : Nat) (w : World) : (Op.equalIn 10000 31 (.agg #[.int .u64 (x : Int), .int .u64 (y : Int)]) (.agg #[.int .u64 (z : Int), .int .u64 (u : Int)])).run Tryz.prog w = .ok (decide (x = z) && decide (y = u)) w := by
  have u3 := Tryz.underlying24
  have a3 : ∀ w, (isAgg 24).run Tryz.prog w = .ok false w := fun w => by simp [isAgg, run_underlying u3]
  have z3 : ∀ w, (sizeOf 24).run Tryz.prog w = .ok 1 w := fun w => by kernel_rfl
  have hS : Tryz.prog.underlying 31 = some (.struct (Tryz.prog.fieldsOf 31)) := by kernel_rfl
  have hp : Tryz.prog.stoodInHeld 31 = false := by kernel_rfl
  rw [show (10000 : Nat) = 9999 + 1 from rfl, run_equalIn_agg w 9999 31 _ _ hS hp]
  simp only [Program.fieldsOf, Tryz.underlying31]
  go_simp
  by_cases h1 : x = z <;> by_cases h2 : y = u <;> simp [h1, h2] <;> omega

theorem nthI_take {l l' : List Iv} {k : Nat} (h : l.take k = l'.take k) (hk : k < l.length) (hk' : k < l'.length) (e : nthI l k = nthI l' k) : l.take (k + 1) = l'.take (k + 1) := by
  rw [List.take_succ_eq_append_getElem hk, List.take_succ_eq_append_getElem hk', h, ← nthI_get hk, ← nthI_get hk', e]
theorem nthI_ne {l l' : List Iv} {k : Nat} (e : nthI l k ≠ nthI l' k) : l ≠ l' := fun h => e (by rw [h])

set_option maxHeartbeats 1000000 in
theorem equalIv_any (a a' : Option Addr) (n cap n' cap' : Nat) (l l' : List Iv) (w : World) (hI : Ivs w a n cap l) (hI' : Ivs w a' n' cap' l') :
    Calls Tryz.prog 39 #[.slice a n cap, .slice a' n' cap'] w fun e w' => e = .returned (.bool (decide (l = l'))) ∧ ∃ q, w' = w.drewN q := by
  have HI := Lib.hid hI; have HI' := Lib.hid hI'
  have Hl := Lib.hid hI.len; have Hl' := Lib.hid hI'.len
  have hm : n ≤ 9223372036854775807 := Nat.le_trans hI.room hI.most
  by_cases hnn : n = n'
  · subst hnn
    clear hI hI'
    have hnb : ((n : Int) != (n : Int)) = false := by simp
    go_enter Tryz.func39, Tryz.ntmps39
    go_wp2
    go_loopw [4, 5, 13] (fun _ _ i wr => ∃ k q : Nat, k ≤ n ∧ i = .int .i64 k ∧ wr = w.drewN q ∧ Hid (l.take k = l'.take k)) (fun _ _ i _ => n - (intOf i).toNat)
    case atStart => exact ⟨0, 0, by omega, rfl, rfl, rfl⟩
    case round =>
      obtain ⟨k, q, hk, rfl, rfl, ht⟩ := hrel
      by_cases hkn : k < n
      · obtain ⟨cb, co, rfl, hcell⟩ := HI.out.cells (by omega)
        obtain ⟨cb', co', rfl, hcell'⟩ := HI'.out.cells (by omega)
        obtain ⟨c1, c2⟩ := hcell k hkn
        obtain ⟨c1', c2'⟩ := hcell' k hkn
        clear hcell hcell'
        have h0 : (0 : Int) ≤ k := by omega
        have h04 : (k : Int) < (n : Int) := by omega
        have hkl : k < l.length := by rw [Hl.out]; exact hkn
        have hkl' : k < l'.length := by rw [Hl'.out]; exact hkn
        have He := Lib.hid (fun e => nthI_take ht.out hkl hkl' e)
        have Hn := Lib.hid (fun e => nthI_ne (l := l) (l' := l') (k := k) e)
        clear hkl hkl'
        generalize nthI l k = s at *
        generalize nthI l' k = t at *
        obtain ⟨x, y⟩ := s
        obtain ⟨z, u⟩ := t
        have heq := eq_iv x y z u
        simp only at c1 c2 c1' c2'
        by_cases e : x = z ∧ y = u
        · obtain ⟨rfl, rfl⟩ := e
          have Ht := Lib.hid (He.out rfl)
          simp only [decide_true, Bool.and_self] at heq
          clear He Hn
          go_wp2
          go_quiet (fail)
          go_wp2
          go_roundw
          case rel => exact ⟨k + 1, _, by omega, by go_num, rfl, Ht.out⟩
          case measure => simp [intOf]; omega
        · have Hne := Lib.hid (Hn.out (by intro h; cases h; exact e ⟨rfl, rfl⟩))
          have eb : (decide (x = z) && decide (y = u)) = false := by
            rw [Bool.eq_false_iff]
            intro h
            rw [Bool.and_eq_true, decide_eq_true_iff, decide_eq_true_iff] at h
            exact e h
          simp only [eb] at heq
          clear He Hn eb e
          go_wp2
          go_quiet (fail)
          go_wp2
          go_ret
          exact ⟨ret_bool (by rw [decide_eq_false Hne.out]), _, World.drewN_drewN _ _ _⟩
      · obtain rfl : k = n := by omega
        have h1 := ht.out
        rw [List.take_of_length_le (by rw [Hl.out]; omega), List.take_of_length_le (by rw [Hl'.out]; omega)] at h1
        have H1 := Lib.hid h1; clear h1
        go_wp2
        go_ret
        exact ⟨ret_bool (by rw [decide_eq_true H1.out]), _, rfl⟩
  · have hnb : ((n : Int) != (n' : Int)) = true := by rw [bne_iff_ne]; omega
    have hne := Lib.hid (show l ≠ l' from fun h => hnn (by rw [← hI.len, ← hI'.len, h]))
    clear hI hI' HI HI' Hl Hl'
    go_enter Tryz.func39, Tryz.ntmps39
    go_wp2
    go_ret
    exact ⟨ret_bool (by rw [decide_eq_false hne.out]), 0, rfl⟩

theorem same_any (a a' : Option Addr) (n cap n' cap' : Nat) (l l' : List Iv) (w : World) (hI : Ivs w a n cap l) (hI' : Ivs w a' n' cap' l') :
    Calls Tryz.prog 18 #[.slice a n cap, .slice a' n' cap'] w fun e w' => e = .returned (.bool (decide (l = l'))) ∧ Below w.heap.size w w' := by
  have hC := Lib.hid (equalIv_any a a' n cap n' cap' l l' w hI hI')
  clear hI hI'
  generalize decide (l = l') = r at *
  go_enter Tryz.func18, Tryz.ntmps18
  go_wp2_with fail
  refine hC.out.mono ?_
  rintro e w1 ⟨rfl, q, rfl⟩
  go_wp2
  go_ret
  exact ⟨rfl, below_drewN' (Below.refl _ _) q⟩

set_option maxHeartbeats 1000000 in
theorem refSame_any (a a' : Option Addr) (n cap n' cap' : Nat) (l l' : List Iv) (w : World) (hI : Ivs w a n cap l) (hI' : Ivs w a' n' cap' l') :
    Calls Tryz.prog 19 #[.slice a n cap, .slice a' n' cap'] w fun e w' => e = .returned (.bool (decide (l = l'))) ∧ Below w.heap.size w w' := by
  have HI := Lib.hid hI; have HI' := Lib.hid hI'
  have Hl := Lib.hid hI.len; have Hl' := Lib.hid hI'.len
  have hm : n ≤ 9223372036854775807 := Nat.le_trans hI.room hI.most
  by_cases hnn : n = n'
  · subst hnn
    clear hI hI'
    have hnb : ((n : Int) != (n : Int)) = false := by simp
    go_enter Tryz.func19, Tryz.ntmps19
    go_wp2
    go_loopw [5] (fun i wr => ∃ k q : Nat, k ≤ n ∧ i = .int .i64 k ∧ wr = w.drewN q ∧ Hid (l.take k = l'.take k)) (fun i _ => n - (intOf i).toNat)
    case atStart => exact ⟨0, 0, by omega, rfl, rfl, rfl⟩
    case round =>
      obtain ⟨k, q, hk, rfl, rfl, ht⟩ := hrel
      by_cases hkn : k < n
      · obtain ⟨cb, co, rfl, hcell⟩ := HI.out.cells (by omega)
        obtain ⟨cb', co', rfl, hcell'⟩ := HI'.out.cells (by omega)
        obtain ⟨c1, c2⟩ := hcell k hkn
        obtain ⟨c1', c2'⟩ := hcell' k hkn
        clear hcell hcell'
        have h0 : (0 : Int) ≤ k := by omega
        have h04 : (k : Int) < (n : Int) := by omega
        have hkl : k < l.length := by rw [Hl.out]; exact hkn
        have hkl' : k < l'.length := by rw [Hl'.out]; exact hkn
        have He := Lib.hid (fun e => nthI_take ht.out hkl hkl' e)
        have Hn := Lib.hid (fun e => nthI_ne (l := l) (l' := l') (k := k) e)
        clear hkl hkl'
        generalize nthI l k = s at *
        generalize nthI l' k = t at *
        obtain ⟨x, y⟩ := s
        obtain ⟨z, u⟩ := t
        have heq := eq_iv x y z u
        simp only at c1 c2 c1' c2'
        by_cases e : x = z ∧ y = u
        · obtain ⟨rfl, rfl⟩ := e
          have Ht := Lib.hid (He.out rfl)
          simp only [decide_true, Bool.and_self] at heq
          clear He Hn
          go_wp2
          go_quiet (fail)
          go_wp2
          go_roundw
          case rel => exact ⟨k + 1, _, by omega, by go_num, rfl, Ht.out⟩
          case measure => simp [intOf]; omega
        · have Hne := Lib.hid (Hn.out (by intro h; cases h; exact e ⟨rfl, rfl⟩))
          have eb : (decide (x = z) && decide (y = u)) = false := by
            rw [Bool.eq_false_iff]
            intro h
            rw [Bool.and_eq_true, decide_eq_true_iff, decide_eq_true_iff] at h
            exact e h
          simp only [eb] at heq
          clear He Hn eb e
          go_wp2
          go_quiet (fail)
          go_wp2
          go_ret
          exact ⟨ret_bool (by rw [decide_eq_false Hne.out]), by first | exact below_drewN' (Below.refl _ _) _ | exact below_drewN' (below_drewN' (Below.refl _ _) _) _⟩
      · obtain rfl : k = n := by omega
        have h1 := ht.out
        rw [List.take_of_length_le (by rw [Hl.out]; omega), List.take_of_length_le (by rw [Hl'.out]; omega)] at h1
        have H1 := Lib.hid h1; clear h1
        go_wp2
        go_ret
        exact ⟨ret_bool (by rw [decide_eq_true H1.out]), below_drewN' (Below.refl _ _) _⟩
  · have hnb : ((n : Int) != (n' : Int)) = true := by rw [bne_iff_ne]; omega
    have hne := Lib.hid (show l ≠ l' from fun h => hnn (by rw [← hI.len, ← hI'.len, h]))
    clear hI hI' HI HI' Hl Hl'
    go_enter Tryz.func19, Tryz.ntmps19
    go_wp2
    go_ret
    exact ⟨ret_bool (by rw [decide_eq_false hne.out]), Below.refl _ _⟩

end Go.Proofs.YtbiohohclnaocaaGreatDoor
