/-
  Walks: word.Between, span.Check, span.Relate.
-/
import Derived.Test.YtbiohohclnaocaaGreatDoorRgBase
import Derived.Laws.Bits64
namespace Go.Proofs.YtbiohohclnaocaaGreatDoor
open Go.RowKit
set_option linter.unusedVariables false

/-- How two intervals lie. -/
def relB (a b : Iv) : Nat :=
  if a.2 < b.1 then (if 0 < b.1 - a.2 - 1 then (if b.2 < a.1 then (if 0 < a.1 - b.2 - 1 then 2 else 1) else 0) else (if b.2 < a.1 then (if 0 < a.1 - b.2 - 1 then 3 else 2) else 1))
  else (if b.2 < a.1 then (if 0 < a.1 - b.2 - 1 then 4 else 3) else 2)

theorem ret2 {k : IntKind} {a b : Int} {x : Value} (h : a = b) : Ending.returned (.tuple #[.int k a, x]) = .returned (.tuple #[.int k b, x]) := by rw [h]

theorem between_lt (a b : Nat) (w : World) (h : a < b) (hb : b < 18446744073709551616) :
    Calls Tryz.prog 67 #[.int .u64 a, .int .u64 b] w fun e w' => e = .returned (.tuple #[.int .u64 ((b - a - 1 : Nat) : Int), .bool true]) ∧ w = w' := by
  have e1 := Lib.hid (show IntKind.u64.wrap ((b : Int) - (a : Int)) = ((b - a : Nat) : Int) from by rw [IntKind.wrap_u64]; omega)
  have e2 := Lib.hid (show IntKind.u64.wrap (((b - a : Nat) : Int) - 1) = ((b - a - 1 : Nat) : Int) from by rw [IntKind.wrap_u64]; omega)
  clear hb
  go_enter Tryz.func67, Tryz.ntmps67
  go_wp2
  go_ret2
  refine ⟨ret2 ?_, rfl⟩
  rw [e1.out, e2.out]

theorem between_ge (a b : Nat) (w : World) (h : ¬ a < b) :
    Calls Tryz.prog 67 #[.int .u64 a, .int .u64 b] w fun e w' => e = .returned (.tuple #[.int .u64 0, .bool false]) ∧ w = w' := by
  go_enter Tryz.func67, Tryz.ntmps67
  go_wp2
  go_ret2
  exact ⟨rfl, rfl⟩

theorem spanCheck_any (s : Iv) (w : World) :
    Calls Tryz.prog 30 #[ivV s] w fun e w' => e = .returned (errVal (if s.2 < s.1 then some (2, none) else none)) ∧ Below w.heap.size w w' := by
  obtain ⟨a, b⟩ := s
  by_cases h : b < a
  · rw [if_pos h]
    simp only [errVal]
    go_enter Tryz.func30, Tryz.ntmps30
    go_wp2
    go_ret
    exact ⟨rfl, (Below.refl _ _).alloc (Nat.le_refl _) _⟩
  · rw [if_neg h]
    simp only [errVal]
    go_enter Tryz.func30, Tryz.ntmps30
    go_wp2
    go_ret
    exact ⟨rfl, (Below.refl _ _).alloc (Nat.le_refl _) _⟩

theorem relate_any (a b : Iv) (w : World) (ha : a.1 < 18446744073709551616 ∧ a.2 < 18446744073709551616) (hb : b.1 < 18446744073709551616 ∧ b.2 < 18446744073709551616) :
    Calls Tryz.prog 44 #[ivV a, ivV b] w fun e w' => e = .returned (.int .i64 ((relB a b : Nat) : Int)) ∧ Below w.heap.size w w' := by
  obtain ⟨x, y⟩ := a
  obtain ⟨z, u⟩ := b
  have hz := hb.1
  have hx := ha.1
  clear ha hb
  simp only at hx hz
  have hw : Below w.heap.size w ((w.alloc (.cells #[.int .u64 x, .int .u64 y] 31)).alloc (.cells #[.int .u64 z, .int .u64 u] 31)) :=
    ((Below.refl _ _).alloc (Nat.le_refl _) _).alloc (by simp) _
  by_cases h1 : y < z
  · have C1 := Lib.hid (fun w => between_lt y z w h1 hz)
    by_cases g1 : 0 < z - y - 1
    · by_cases h2 : u < x
      · have C2 := Lib.hid (fun w => between_lt u x w h2 hx)
        by_cases g2 : 0 < x - u - 1
        · have hr := Lib.hid (show relB (x, y) (z, u) = 2 from by simp [relB, h1, h2, g1, g2])
          generalize relB (x, y) (z, u) = r at *
          generalize z - y - 1 = p at *
          generalize x - u - 1 = q at *
          clear hx hz h1 h2
          go_enter Tryz.func44, Tryz.ntmps44
          go_wp2_with fail
          refine (C1.out _).mono ?_
          rintro e w1 ⟨rfl, rfl⟩
          go_wp2_with fail
          refine (C2.out _).mono ?_
          rintro e w1 ⟨rfl, rfl⟩
          go_wp2_with fail
          go_ret
          exact ⟨ret_int (by rw [hr.out]; rfl), hw⟩
        · have hr := Lib.hid (show relB (x, y) (z, u) = 1 from by simp [relB, h1, h2, g1, g2])
          obtain e2 : x - u - 1 = 0 := by omega
          rw [e2] at C2
          clear e2 g2
          generalize relB (x, y) (z, u) = r at *
          generalize z - y - 1 = p at *
          clear hx hz h1 h2
          go_enter Tryz.func44, Tryz.ntmps44
          go_wp2_with fail
          refine (C1.out _).mono ?_
          rintro e w1 ⟨rfl, rfl⟩
          go_wp2_with fail
          refine (C2.out _).mono ?_
          rintro e w1 ⟨rfl, rfl⟩
          go_wp2_with fail
          go_ret
          exact ⟨ret_int (by rw [hr.out]; rfl), hw⟩
      · have C2 := Lib.hid (fun w => between_ge u x w h2)
        have hr := Lib.hid (show relB (x, y) (z, u) = 0 from by simp [relB, h1, h2, g1])
        generalize relB (x, y) (z, u) = r at *
        generalize z - y - 1 = p at *
        clear hx hz h1 h2
        go_enter Tryz.func44, Tryz.ntmps44
        go_wp2_with fail
        refine (C1.out _).mono ?_
        rintro e w1 ⟨rfl, rfl⟩
        go_wp2_with fail
        refine (C2.out _).mono ?_
        rintro e w1 ⟨rfl, rfl⟩
        go_wp2_with fail
        go_ret
        exact ⟨ret_int (by rw [hr.out]; rfl), hw⟩
    · have e1 : z - y - 1 = 0 := by omega
      rw [e1] at C1
      clear e1
      by_cases h2 : u < x
      · have C2 := Lib.hid (fun w => between_lt u x w h2 hx)
        by_cases g2 : 0 < x - u - 1
        · have hr := Lib.hid (show relB (x, y) (z, u) = 3 from by simp [relB, h1, h2, g1, g2])
          generalize relB (x, y) (z, u) = r at *
          generalize x - u - 1 = q at *
          clear hx hz h1 h2
          go_enter Tryz.func44, Tryz.ntmps44
          go_wp2_with fail
          refine (C1.out _).mono ?_
          rintro e w1 ⟨rfl, rfl⟩
          go_wp2_with fail
          refine (C2.out _).mono ?_
          rintro e w1 ⟨rfl, rfl⟩
          go_wp2_with fail
          go_ret
          exact ⟨ret_int (by rw [hr.out]; rfl), hw⟩
        · have hr := Lib.hid (show relB (x, y) (z, u) = 2 from by simp [relB, h1, h2, g1, g2])
          obtain e2 : x - u - 1 = 0 := by omega
          rw [e2] at C2
          clear e2 g2
          generalize relB (x, y) (z, u) = r at *
          clear hx hz h1 h2
          go_enter Tryz.func44, Tryz.ntmps44
          go_wp2_with fail
          refine (C1.out _).mono ?_
          rintro e w1 ⟨rfl, rfl⟩
          go_wp2_with fail
          refine (C2.out _).mono ?_
          rintro e w1 ⟨rfl, rfl⟩
          go_wp2_with fail
          go_ret
          exact ⟨ret_int (by rw [hr.out]; rfl), hw⟩
      · have C2 := Lib.hid (fun w => between_ge u x w h2)
        have hr := Lib.hid (show relB (x, y) (z, u) = 1 from by simp [relB, h1, h2, g1])
        generalize relB (x, y) (z, u) = r at *
        clear hx hz h1 h2
        go_enter Tryz.func44, Tryz.ntmps44
        go_wp2_with fail
        refine (C1.out _).mono ?_
        rintro e w1 ⟨rfl, rfl⟩
        go_wp2_with fail
        refine (C2.out _).mono ?_
        rintro e w1 ⟨rfl, rfl⟩
        go_wp2_with fail
        go_ret
        exact ⟨ret_int (by rw [hr.out]; rfl), hw⟩
  · have C1 := Lib.hid (fun w => between_ge y z w h1)
    by_cases h2 : u < x
    · have C2 := Lib.hid (fun w => between_lt u x w h2 hx)
      by_cases g2 : 0 < x - u - 1
      · have hr := Lib.hid (show relB (x, y) (z, u) = 4 from by simp [relB, h1, h2, g2])
        generalize relB (x, y) (z, u) = r at *
        generalize x - u - 1 = q at *
        clear hx hz h1 h2
        go_enter Tryz.func44, Tryz.ntmps44
        go_wp2_with fail
        refine (C1.out _).mono ?_
        rintro e w1 ⟨rfl, rfl⟩
        go_wp2_with fail
        refine (C2.out _).mono ?_
        rintro e w1 ⟨rfl, rfl⟩
        go_wp2_with fail
        go_ret
        exact ⟨ret_int (by rw [hr.out]; rfl), hw⟩
      · have hr := Lib.hid (show relB (x, y) (z, u) = 3 from by simp [relB, h1, h2, g2])
        obtain e2 : x - u - 1 = 0 := by omega
        rw [e2] at C2
        clear e2 g2
        generalize relB (x, y) (z, u) = r at *
        clear hx hz h1 h2
        go_enter Tryz.func44, Tryz.ntmps44
        go_wp2_with fail
        refine (C1.out _).mono ?_
        rintro e w1 ⟨rfl, rfl⟩
        go_wp2_with fail
        refine (C2.out _).mono ?_
        rintro e w1 ⟨rfl, rfl⟩
        go_wp2_with fail
        go_ret
        exact ⟨ret_int (by rw [hr.out]; rfl), hw⟩
    · have C2 := Lib.hid (fun w => between_ge u x w h2)
      have hr := Lib.hid (show relB (x, y) (z, u) = 2 from by simp [relB, h1, h2])
      generalize relB (x, y) (z, u) = r at *
      clear hx hz h1 h2
      go_enter Tryz.func44, Tryz.ntmps44
      go_wp2_with fail
      refine (C1.out _).mono ?_
      rintro e w1 ⟨rfl, rfl⟩
      go_wp2_with fail
      refine (C2.out _).mono ?_
      rintro e w1 ⟨rfl, rfl⟩
      go_wp2_with fail
      go_ret
      exact ⟨ret_int (by rw [hr.out]; rfl), hw⟩

end Go.Proofs.YtbiohohclnaocaaGreatDoor
