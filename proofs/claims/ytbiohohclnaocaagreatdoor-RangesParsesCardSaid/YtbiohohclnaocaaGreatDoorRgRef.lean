/-
  Walks: kenningref03.Right, Has, Relate; kenningref04.Has, Check, Right.
-/
import Derived.Test.YtbiohohclnaocaaGreatDoorRgCheck
namespace Go.Proofs.YtbiohohclnaocaaGreatDoor
open Go.RowKit
set_option linter.unusedVariables false

theorem refRight3_any (s : Iv) (w : World) :
    Calls Tryz.prog 25 #[ivV s] w fun e w' => e = .returned (.bool (decide (s.1 ≤ s.2))) ∧ Below w.heap.size w w' := by
  obtain ⟨a, b⟩ := s
  have hd : decide ((a : Int) ≤ (b : Int)) = decide (a ≤ b) := by simp
  go_enter Tryz.func25, Tryz.ntmps25
  go_wp2
  go_ret
  exact ⟨ret_bool rfl, (Below.refl _ _).alloc (Nat.le_refl _) _⟩

theorem refHas3_any (s : Iv) (x : Nat) (w : World) :
    Calls Tryz.prog 14 #[ivV s, .int .u64 x] w fun e w' => e = .returned (.bool (decide (s.1 ≤ x) && decide (x ≤ s.2))) ∧ Below w.heap.size w w' := by
  obtain ⟨a, b⟩ := s
  have hb := (Below.refl w.heap.size w).alloc (Nat.le_refl _) (.cells #[.int .u64 a, .int .u64 b] 31)
  by_cases h1 : a ≤ x
  · by_cases h2 : x ≤ b
    · have Hr := Lib.hid (show (decide (a ≤ x) && decide (x ≤ b)) = true from by simp [h1, h2])
      go_enter Tryz.func14, Tryz.ntmps14
      go_wp2
      go_ret
      exact ⟨ret_bool Hr.out.symm, hb⟩
    · have Hr := Lib.hid (show (decide (a ≤ x) && decide (x ≤ b)) = false from by simp [h2])
      go_enter Tryz.func14, Tryz.ntmps14
      go_wp2
      go_ret
      exact ⟨ret_bool Hr.out.symm, hb⟩
  · have Hr := Lib.hid (show (decide (a ≤ x) && decide (x ≤ b)) = false from by simp [h1])
    go_enter Tryz.func14, Tryz.ntmps14
    go_wp2
    go_ret
    exact ⟨ret_bool Hr.out.symm, hb⟩

/-- How two intervals lie, in the reference's way. -/
def relR (a b : Iv) : Nat := if a.2 < b.1 then (if b.1 - a.2 = 1 then 1 else 0) else if b.2 < a.1 then (if a.1 - b.2 = 1 then 3 else 4) else 2

theorem relR_eq {a b : Iv} (ha : a.1 ≤ a.2) (hb : b.1 ≤ b.2) : relB a b = relR a b := by
  unfold relB relR
  repeat' split
  all_goals omega

theorem refRelate_any (a b : Iv) (w : World) (ha : a.1 < 18446744073709551616 ∧ a.2 < 18446744073709551616) (hb : b.1 < 18446744073709551616 ∧ b.2 < 18446744073709551616) :
    Calls Tryz.prog 45 #[ivV a, ivV b] w fun e w' => e = .returned (.int .i64 ((relR a b : Nat) : Int)) ∧ Below w.heap.size w w' := by
  obtain ⟨x, y⟩ := a
  obtain ⟨z, u⟩ := b
  have hz := hb.1
  have hx := ha.1
  clear ha hb
  simp only at hx hz
  have hw : Below w.heap.size w ((w.alloc (.cells #[.int .u64 x, .int .u64 y] 31)).alloc (.cells #[.int .u64 z, .int .u64 u] 31)) :=
    ((Below.refl _ _).alloc (Nat.le_refl _) _).alloc (by simp) _
  by_cases h1 : y < z
  · have e1 : IntKind.u64.wrap ((z : Int) - (y : Int)) = ((z - y : Nat) : Int) := by rw [IntKind.wrap_u64]; omega
    by_cases g : z - y = 1
    · have Hr := Lib.hid (show relR (x, y) (z, u) = 1 from by simp [relR, h1, g])
      rw [g] at e1
      clear g hx hz
      generalize relR (x, y) (z, u) = r at *
      go_enter Tryz.func45, Tryz.ntmps45
      go_wp2
      go_ret
      exact ⟨ret_int (by rw [Hr.out]; rfl), hw⟩
    · have Hr := Lib.hid (show relR (x, y) (z, u) = 0 from by simp [relR, h1, g])
      have hne : (((z - y : Nat) : Int) == 1) = false := by rw [beq_eq_false_iff_ne]; omega
      clear g hx hz
      generalize relR (x, y) (z, u) = r at *
      generalize z - y = d at *
      go_enter Tryz.func45, Tryz.ntmps45
      go_wp2
      go_ret
      exact ⟨ret_int (by rw [Hr.out]; rfl), hw⟩
  · by_cases h2 : u < x
    · have e1 : IntKind.u64.wrap ((x : Int) - (u : Int)) = ((x - u : Nat) : Int) := by rw [IntKind.wrap_u64]; omega
      by_cases g : x - u = 1
      · have Hr := Lib.hid (show relR (x, y) (z, u) = 3 from by simp [relR, h1, h2, g])
        rw [g] at e1
        clear g hx hz
        generalize relR (x, y) (z, u) = r at *
        go_enter Tryz.func45, Tryz.ntmps45
        go_wp2
        go_ret
        exact ⟨ret_int (by rw [Hr.out]; rfl), hw⟩
      · have Hr := Lib.hid (show relR (x, y) (z, u) = 4 from by simp [relR, h1, h2, g])
        have hne : (((x - u : Nat) : Int) == 1) = false := by rw [beq_eq_false_iff_ne]; omega
        clear g hx hz
        generalize relR (x, y) (z, u) = r at *
        generalize x - u = d at *
        go_enter Tryz.func45, Tryz.ntmps45
        go_wp2
        go_ret
        exact ⟨ret_int (by rw [Hr.out]; rfl), hw⟩
    · have Hr := Lib.hid (show relR (x, y) (z, u) = 2 from by simp [relR, h1, h2])
      clear hx hz
      generalize relR (x, y) (z, u) = r at *
      go_enter Tryz.func45, Tryz.ntmps45
      go_wp2
      go_ret
      exact ⟨ret_int (by rw [Hr.out]; rfl), hw⟩

set_option maxHeartbeats 1000000 in
theorem refHas_any (a : Option Addr) (n cap x : Nat) (l : List Iv) (w : World) (hI : Ivs w a n cap l) :
    Calls Tryz.prog 13 #[.slice a n cap, .int .u64 x] w fun e w' => e = .returned (.bool (mem l x)) ∧ Below w.heap.size w w' := by
  have HI := Lib.hid hI
  have Hl := Lib.hid hI.len
  have hm : n ≤ 9223372036854775807 := Nat.le_trans hI.room hI.most
  clear hI
  go_enter Tryz.func13, Tryz.ntmps13
  go_wp2
  go_loopw [5] (fun i wr => ∃ k : Nat, k ≤ n ∧ i = .int .i64 k ∧ Below w.heap.size w wr ∧ Hid (mem (l.take k) x = false)) (fun i _ => n - (intOf i).toNat)
  case atStart => exact ⟨0, by omega, rfl, Below.refl _ _, rfl⟩
  case round =>
    obtain ⟨k, hk, rfl, hb, ht⟩ := hrel
    have Hb := Lib.hid hb; clear hb
    by_cases hkn : k < n
    · obtain ⟨bb, oo, rfl, hcell⟩ := (HI.out.below Hb.out).cells (by omega)
      obtain ⟨hc1, hc2⟩ := hcell k hkn
      clear hcell
      have hkl : k < l.length := by rw [Hl.out]; exact hkn
      have Htk := Lib.hid (show l.take (k + 1) = l.take k ++ [nthI l k] from by rw [List.take_succ_eq_append_getElem hkl, nthI_get hkl])
      have Hsm := Lib.hid (nthI_mem hkl)
      clear hkl
      have hC := Lib.hid (fun w => refHas3_any (nthI l k) x w)
      generalize nthI l k = s at *
      cases hx : (decide (s.1 ≤ x) && decide (x ≤ s.2)) with
      | true =>
        have Hr := Lib.hid (show mem l x = true from mem_iff.2 ⟨s, Hsm.out, by simpa using hx⟩)
        rw [hx] at hC
        clear hx
        go_wp2_with fail
        refine (hC.out _).mono ?_
        rintro e w1 ⟨rfl, hb1⟩
        go_wp2_with fail
        go_ret
        exact ⟨ret_bool Hr.out.symm, Hb.out.trans (hb1.mono Hb.out.size)⟩
      | false =>
        have Hr := Lib.hid (show mem (l.take (k + 1)) x = false from by rw [Htk.out, mem_append, ht.out, mem_cons, hx]; rfl)
        rw [hx] at hC
        clear hx
        go_wp2_with fail
        refine (hC.out _).mono ?_
        rintro e w1 ⟨rfl, hb1⟩
        have Hb1 := Lib.hid (Hb.out.trans (hb1.mono Hb.out.size)); clear hb1
        go_wp2_with fail
        go_roundw
        case rel => exact ⟨k + 1, by omega, by go_num, Hb1.out, Hr.out⟩
        case measure => simp [intOf]; omega
    · obtain rfl : k = n := by omega
      have Hr := Lib.hid (show mem l x = false from by have := ht.out; rw [List.take_of_length_le (by rw [Hl.out]; exact Nat.le_refl _)] at this; exact this)
      go_wp2
      go_ret
      exact ⟨ret_bool Hr.out.symm, Hb.out⟩

end Go.Proofs.YtbiohohclnaocaaGreatDoor
