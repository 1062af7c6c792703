/-
  Walk: span.Join.
-/
import Derived.Test.YtbiohohclnaocaaGreatDoorRgGood
import Derived.WalkLawsBesides
namespace Go.Proofs.YtbiohohclnaocaaGreatDoor
open Go.RowKit
set_option linter.unusedVariables false

set_option maxHeartbeats 1000000 in
theorem join_yes (a b : Iv) (w : World) (ha : a.1 < 18446744073709551616 ∧ a.2 < 18446744073709551616) (hb : b.1 < 18446744073709551616 ∧ b.2 < 18446744073709551616) (h0 : relB a b ≠ 0) (h4 : relB a b ≠ 4) :
    Calls Tryz.prog 35 #[ivV a, ivV b] w fun e w' => e = .returned (.tuple #[ivV (min a.1 b.1, max a.2 b.2), .bool true]) ∧ Below w.heap.size w w' := by
  have hR := Lib.hid (fun w => relate_any a b w ha hb)
  have e0 : (((relB a b : Nat) : Int) == 0) = false := by rw [beq_eq_false_iff_ne]; omega
  have e4 : (((relB a b : Nat) : Int) == 4) = false := by rw [beq_eq_false_iff_ne]; omega
  clear ha hb h0 h4
  generalize relB a b = r at *
  obtain ⟨x, y⟩ := a
  obtain ⟨z, u⟩ := b
  have hmin : ((min x z : Nat) : Int) = min (x : Int) (z : Int) := by omega
  have hmax : ((max y u : Nat) : Int) = max (y : Int) (u : Int) := by omega
  have Hmin := Lib.hid hmin; have Hmax := Lib.hid hmax
  clear hmin hmax
  go_enter Tryz.func35, Tryz.ntmps35
  go_wp2_with fail
  refine (hR.out _).mono ?_
  rintro e w1 ⟨rfl, hb1⟩
  have hq1 := hb1.cell (p := ⟨w.heap.size, 0, none⟩) (by simp <;> omega)
  have hq2 := hb1.cell (p := ⟨w.heap.size, 1, none⟩) (by simp <;> omega)
  have hq3 := hb1.cell (p := ⟨w.heap.size + 1, 0, none⟩) (by simp <;> omega)
  have hq4 := hb1.cell (p := ⟨w.heap.size + 1, 1, none⟩) (by simp <;> omega)
  have hq5 := hb1.cell (p := ⟨w.heap.size + 2, 0, none⟩) (by simp <;> omega)
  have hq6 := hb1.cell (p := ⟨w.heap.size + 2, 1, none⟩) (by simp <;> omega)
  have hf5 := hb1.frozen (p := ⟨w.heap.size + 2, 0, none⟩) (by simp <;> omega)
  have hf6 := hb1.frozen (p := ⟨w.heap.size + 2, 1, none⟩) (by simp <;> omega)
  simp [go_sem] at hq1 hq2 hq3 hq4 hq5 hq6 hf5 hf6
  have Hb1 := Lib.hid hb1
  have hz := hb1.size
  simp at hz
  clear hb1
  go_wp2_with fail
  all_goals
    (first | rw [Nat.min_eq_left (show x ≤ z by omega)] | rw [Nat.min_eq_right (show z ≤ x by omega)])
    (first | rw [Nat.max_eq_left (show u ≤ y by omega)] | rw [Nat.max_eq_right (show y ≤ u by omega)])
    refine bodyPost_ret (v := .tuple #[ivV (_, _), .bool true]) (by simp [results, Tryz.results35, go_sem, hq5, hq6]) rfl ⟨rfl, ?_⟩
    refine Below.setCell (Below.setCell ?_ ?_ _) ?_ _
    · exact ((((Below.refl _ _).alloc (Nat.le_refl _) _).alloc (by simp) _).alloc (by simp <;> omega) _).trans (Hb1.out.mono (by simp <;> omega))
    · simp <;> omega
    · simp <;> omega

set_option maxHeartbeats 1000000 in
theorem join_no (a b : Iv) (w : World) (ha : a.1 < 18446744073709551616 ∧ a.2 < 18446744073709551616) (hb : b.1 < 18446744073709551616 ∧ b.2 < 18446744073709551616) (h04 : relB a b = 0 ∨ relB a b = 4) :
    Calls Tryz.prog 35 #[ivV a, ivV b] w fun e w' => e = .returned (.tuple #[ivV (0, 0), .bool false]) ∧ Below w.heap.size w w' := by
  have hR := Lib.hid (fun w => relate_any a b w ha hb)
  obtain ⟨x, y⟩ := a
  obtain ⟨z, u⟩ := b
  clear ha hb
  rcases h04 with h | h
  all_goals
    rw [h] at hR
    clear h
    go_enter Tryz.func35, Tryz.ntmps35
    go_wp2_with fail
    refine (hR.out _).mono ?_
    rintro e w1 ⟨rfl, hb1⟩
    have hq5 := hb1.cell (p := ⟨w.heap.size + 2, 0, none⟩) (by simp <;> omega)
    have hq6 := hb1.cell (p := ⟨w.heap.size + 2, 1, none⟩) (by simp <;> omega)
    have hf5 := hb1.frozen (p := ⟨w.heap.size + 2, 0, none⟩) (by simp <;> omega)
    have hf6 := hb1.frozen (p := ⟨w.heap.size + 2, 1, none⟩) (by simp <;> omega)
    simp [go_sem] at hq5 hq6 hf5 hf6
    have Hb1 := Lib.hid hb1
    have hz := hb1.size
    simp at hz
    clear hb1
    go_wp2_with fail
    refine bodyPost_ret (v := .tuple #[ivV (0, 0), .bool false]) (by simp [results, Tryz.results35, go_sem, hq5, hq6]) rfl ⟨rfl, ?_⟩
    refine Below.setCell (Below.setCell ?_ ?_ _) ?_ _
    · exact ((((Below.refl _ _).alloc (Nat.le_refl _) _).alloc (by simp) _).alloc (by simp <;> omega) _).trans (Hb1.out.mono (by simp <;> omega))
    · simp <;> omega
    · simp <;> omega

end Go.Proofs.YtbiohohclnaocaaGreatDoor
