/-
  Walk: strconv.FormatUint at base 10, ranges.decimal.
-/
import Derived.Test.YtbiohohclnaocaaGreatDoorRgBase
import Derived.Test.YtbiohohclnaocaaGreatDoorRgTextP
import Derived.Test.YtbiohohclnaocaaGreatDoorLib
import Derived.Lib.AppendIntMem
import Derived.WalkKit
import Derived.Lib.Walk
import Derived.BigGuard
import Derived.BigCall
namespace Go.Proofs.YtbiohohclnaocaaGreatDoor
open Go.RowKit Go.Lib
set_option linter.unusedVariables false

abbrev strV (l : List UInt8) : Value := .string ⟨l.toArray⟩

/-- The table of the powers of ten lies there. -/
def Tens (w : World) : Prop := Lib.TabIs Tryz.prog w "internal/strconv.uint64pow10" .u64 Lib.pow10Tab
theorem Tens.below {w w' : World} (h : Tens w) (hb : Below w.heap.size w w') : Tens w' := ((Lib.tabBelow_of_tabIs h).on hb).here

set_option maxHeartbeats 6400000 in
set_option maxRecDepth 100000 in
theorem fmtU_any (u : Nat) (hu64 : u < 18446744073709551616) (w : World) (hT : Tens w) :
    Calls Tryz.prog 83 #[.int .u64 u, .int .i64 10] w fun e w' => e = .returned (strV (dec u)) ∧ Below w.heap.size w w' := by
  by_cases hs : u < 100
  · go_enter Tryz.func83, Tryz.ntmps83
    go_wp2_with (go_at_call 101; refine (Tryz.internal_strconv_small u hs _).mono ?_; rintro e w' ⟨rfl, rfl⟩)
    go_ret
    exact ⟨rfl, Below.refl _ _⟩
  · have hu1 : 1 ≤ u := by omega
    have hnd20 : Lib.nDigits u ≤ 20 := by have := Lib.numDigits_eq u hu1 hu64; split at this <;> omega
    have hal : Tryz.prog.arrayLen 154 = 24 := by simp [Program.arrayLen, Tryz.underlying154]
    have hsl : ∀ W, (Instr.sliceAt 154 (.pointer (some ⟨w.heap.size, 0, none⟩)) none (some (.int .i64 (Lib.nDigits u : Int))) none).run Tryz.prog W = .ok (.slice (some ⟨w.heap.size, 0, none⟩) (Lib.nDigits u) 24) W := fun W => by
      rw [run_sliceAt_array_h W 154 ⟨w.heap.size, 0, none⟩ (by simp [Program.arrayLen, Program.elem, Tryz.underlying154]) .i64 (Lib.nDigits u : Int) (by omega) (by rw [hal]; omega)]
      go_simp
    have hH0 := Lib.holds_zero0 w 154 (Lib.nDigits u) (by omega)
    have hfmt := Tryz.internal_strconv_formatBase10 w.heap.size 0 24 u (Array.replicate (Lib.nDigits u) 0) (w.alloc (.cells Lib.zeros24 154)) hH0 (by rw [Array.size_replicate]; exact Lib.lt_pow_nDigits u) hu64 (by rw [Array.size_replicate]; omega)
    rw [Array.size_replicate] at hfmt
    have HH0 := Lib.hid hH0
    have HT := Lib.hid hT
    have iu : (100 : Int) ≤ (u : Int) := by omega
    clear hH0 hal hT
    go_enter Tryz.func83, Tryz.ntmps83
    go_wp2_with (first
      | (go_at_call 102; refine (Tryz.internal_strconv_numDigits u hu1 hu64 _ (Lib.tabIs_alloc HT.out _)).mono ?_; rintro e w' ⟨rfl, rfl⟩))
    refine hfmt.mono ?_
    rintro e w' ⟨rfl, k, v', dk, rfl, hF⟩
    have hcv : (convert 89 9 (.slice (some ⟨w.heap.size, 0, none⟩) (Lib.nDigits u) 24)).run Tryz.prog ((Go.Sort.putRow (fun (b : UInt8) => Value.int .u8 (b.toNat : Int)) (w.alloc (.cells Lib.zeros24 154)) w.heap.size 0 dk).drewN k) = .ok (.string ⟨(Lib.decDigits u).toArray⟩) ((Go.Sort.putRow (fun (b : UInt8) => Value.int .u8 (b.toNat : Int)) (w.alloc (.cells Lib.zeros24 154)) w.heap.size 0 dk).drewN k) := by
      have h := run_convert_bytes_back (P := Tryz.prog) ((Go.Sort.putRow (fun (b : UInt8) => Value.int .u8 (b.toNat : Int)) (w.alloc (.cells Lib.zeros24 154)) w.heap.size 0 dk).drewN k) 89 9 5 ⟨w.heap.size, 0, none⟩ 24 (Lib.decDigits u) Tryz.underlying89 Tryz.underlying5 Tryz.underlying9 (fun j hj => by
        rw [Lib.row_is_numeral hF j hj, Lib.add_plain, World.cell?_drewN]
        exact Go.Sort.cell?_putRow (fun (b : UInt8) => Value.int .u8 (b.toNat : Int)) _ w.heap.size 0 _ dk HH0.out (by rw [hF.size, Array.size_replicate]) j (by rw [hF.size]; rw [Lib.decDigits_length] at hj; exact hj))
      rw [Lib.decDigits_length] at h
      exact h
    go_wp2
    go_ret
    obtain ⟨os, eo⟩ := Lib.fin_at w (.cells Lib.zeros24 154) dk k 0
    refine ⟨rfl, ?_⟩
    rw [eo]
    refine ⟨rfl, rfl, rfl, by simp [Go.Sort.grow], fun k hk => ?_⟩
    show (w.heap ++ os)[k]? = _
    rw [Array.getElem?_append_left hk]

theorem formatUint_any (u : Nat) (hu64 : u < 18446744073709551616) (w : World) (hT : Tens w) :
    Calls Tryz.prog 57 #[.int .u64 u, .int .i64 10] w fun e w' => e = .returned (strV (dec u)) ∧ Below w.heap.size w w' := by
  have hC := Lib.hid (fmtU_any u hu64 w hT)
  clear hT
  go_enter Tryz.func57, Tryz.ntmps57
  go_wp2_with fail
  refine hC.out.mono ?_
  rintro e w1 ⟨rfl, hb1⟩
  go_wp2
  go_ret
  exact ⟨rfl, hb1⟩

theorem decimal_any (u : Nat) (hu64 : u < 18446744073709551616) (w : World) (hT : Tens w) :
    Calls Tryz.prog 36 #[.int .u64 u] w fun e w' => e = .returned (strV (dec u)) ∧ Below w.heap.size w w' := by
  have hC := Lib.hid (formatUint_any u hu64 w hT)
  clear hT
  go_enter Tryz.func36, Tryz.ntmps36
  go_wp2_with fail
  refine hC.out.mono ?_
  rintro e w1 ⟨rfl, hb1⟩
  go_wp2
  go_ret
  exact ⟨rfl, hb1⟩

end Go.Proofs.YtbiohohclnaocaaGreatDoor
