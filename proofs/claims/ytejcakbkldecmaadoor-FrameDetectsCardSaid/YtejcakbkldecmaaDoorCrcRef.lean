/-
  Walks over package kenningref20: step, Sum; over package crc: State.Sum, State.Reset, Sum.
-/
import Derived.Test.YtejcakbkldecmaaDoorCrcPut
namespace Go.Proofs.YtejcakbkldecmaaDoor
open Go.RowKit
set_option linter.unusedVariables false

set_option maxHeartbeats 400000 in
theorem refstep_any (x b : Nat) (w : World) (hx : x < 4294967296) (hb : b < 2) :
   Calls Tryd.prog 31 #[.int .u32 x, .int .u32 b] w fun e w' => e = .returned (.int .u32 ((refStep x b : Nat) : Int)) ∧ w = w' := by
  by_cases h : x % 2 = b
  · have hb' : (((x : Int) % 2) != (b : Int)) = false := by rw [bne_eq_false_iff_eq]; omega
    have hf := Lib.hid (show refStep x b = x / 2 by simp [refStep, h])
    clear h
    go_enter Tryd.func31, Tryd.ntmps31
    go_wp2
    go_ret
    refine ⟨?_, rfl⟩
    rw [hf.out]
    simp
  · have hb' : (((x : Int) % 2) != (b : Int)) = true := by rw [bne_iff_ne]; omega
    have hf := Lib.hid (show refStep x b = x / 2 ^^^ 3988292384 by simp [refStep, h])
    have hg := Lib.hid (u32_xor_nat (x / 2) 3988292384 (by omega) (by omega))
    clear h
    go_enter Tryd.func31, Tryd.ntmps31
    go_wp2
    go_ret
    refine ⟨?_, rfl⟩
    rw [hf.out, ← hg.out]
    simp

theorem refhalf (c j : Nat) : ((c / 2 ^ j : Nat) : Int) / 2 = ((c / 2 ^ (j + 1) : Nat) : Int) := by
  rw [Nat.pow_succ, ← Nat.div_div_eq_div_mul]; simp

set_option maxHeartbeats 1000000 in
theorem refsum_any (a : Option Addr) (n cap : Nat) (l : List Nat) (w : World) (hB : Byts w a n cap l) :
   Calls Tryd.prog 17 #[.slice a n cap] w fun e w' => e = .returned (.int .u32 ((sum l : Nat) : Int)) ∧ w = w' := by
  obtain ⟨hn, hlt, hnc, hcm, hnil, hc⟩ := hB; clear hnil
  have hm : n ≤ 9223372036854775807 := by omega
  have Hn := Lib.hid hn; clear hn
  have Hlt := Lib.hid hlt; clear hlt
  have Hc := Lib.hid hc; clear hc
  go_enter Tryd.func17, Tryd.ntmps17
  go_wp2
  go_loop [3, 4, 5, 6] (fun x i _ _ => ∃ k : Nat, k ≤ n ∧ i = .int .i64 k ∧ x = .int .u32 ((reg 4294967295 (l.take k) : Nat) : Int)) (fun _ i _ _ => n - (intOf i).toNat)
  case atStart => exact ⟨0, by omega, rfl, rfl⟩
  case round =>
    obtain ⟨k, hk, rfl, rfl⟩ := hrel
    by_cases hkn : k < n
    · obtain ⟨cb, co, rfl, hcell⟩ := Hc.out (by omega)
      have hc := hcell k hkn
      clear hcell
      have hr : reg 4294967295 (l.take k) < 4294967296 := reg_lt (by omega) (fun c hc => Hlt.out c (List.mem_of_mem_take hc))
      have hnc : nth l k < 256 := nth_lt Hlt.out (by omega) k
      have Hs := Lib.hid (reg_snoc 4294967295 l k (by rw [Hn.out]; exact hkn))
      generalize hR : reg 4294967295 (l.take k) = R at *
      generalize hC : nth l k = c at *
      clear hR hC
      go_wp2
      go_loop [3, 5, 6] (fun x d j => ∃ i : Nat, i ≤ 8 ∧ j = .int .i64 i ∧ d = .int .u32 ((c / 2 ^ i : Nat) : Int) ∧ x = .int .u32 ((refSteps i R c : Nat) : Int)) (fun _ _ j => 8 - (intOf j).toNat)
      case atStart => exact ⟨0, by omega, rfl, by simp, rfl⟩
      case round =>
        obtain ⟨i, hi, rfl, rfl, rfl⟩ := hrel
        have hX := refSteps_lt i (c := c) hr
        have hD : c / 2 ^ i < 256 := Nat.lt_of_le_of_lt (Nat.div_le_self _ _) hnc
        by_cases hi8 : i < 8
        · have Hh := Lib.hid (refhalf c i)
          generalize hd : c / 2 ^ i = d at *
          have Hd := Lib.hid hd; clear hd
          go_wp2_with (go_at_call 31; refine (refstep_any (refSteps i R c) (d % 2) _ hX (by omega)).mono ?_; rintro e w' ⟨rfl, rfl⟩)
          go_round
          case rel => exact ⟨i + 1, by omega, by go_num, by rw [Hh.out], by rw [refSteps, Hd.out]⟩
          case measure => simp [intOf]; omega
        · obtain rfl : i = 8 := by omega
          go_wp2
          go_round
          case rel => exact ⟨k + 1, by omega, by go_num, by rw [Hs.out, ref_byte _ _ hnc]⟩
          case measure => simp [intOf]; omega
    · obtain rfl : k = n := by omega
      have hr : reg 4294967295 (l.take k) < 4294967296 := reg_lt (by omega) (fun c hc => Hlt.out c (List.mem_of_mem_take hc))
      have Hr := Lib.hid (show 4294967295 - ((reg 4294967295 (l.take k) : Nat) : Int) = ((sum l : Nat) : Int) from by
        have h := ref_not _ hr
        rw [List.take_of_length_le (by rw [Hn.out]; omega)] at h hr ⊢
        rw [sum, ← h, Int.ofNat_sub (by omega)]
        rfl)
      go_wp2
      go_ret
      exact ⟨ret_int Hr.out, rfl⟩

/-- State.Sum of an object. -/
theorem statesum_any (p : Addr) (s : Nat) (w : World) (hs : w.cell? p = some (.int .u32 s)) :
   Calls Tryd.prog 34 #[.pointer (some p)] w fun e w' => e = .returned (.int .u32 (s : Int)) ∧ w = w' := by
  obtain ⟨b, o, sp⟩ := p
  go_enter Tryd.func34, Tryd.ntmps34
  go_wp2
  go_ret
  exact ⟨rfl, rfl⟩

set_option maxHeartbeats 400000 in
theorem sum_any (a : Option Addr) (n cap : Nat) (l : List Nat) (w : World) (hB : Byts w a n cap l) :
   Calls Tryd.prog 21 #[.slice a n cap] w fun e w' => e = .returned (.int .u32 ((sum l : Nat) : Int)) ∧ Below w.heap.size w w' := by
  have hB' : ∀ o, Byts (w.alloc o) a n cap l := fun o => hB.below ((Below.refl _ _).alloc (Nat.le_refl _) _)
  have Hlt := Lib.hid hB.lt
  have HB := Lib.hid hB'; clear hB hB'
  go_enter Tryd.func21, Tryd.ntmps21
  go_wp2_with fail
  refine (put_any _ _ 0 a n cap l _ (HB.out _) (by omega) (by go_simp) (by go_simp)).mono ?_
  rintro e w' ⟨rfl, rfl⟩
  go_wp2_with fail
  refine (statesum_any _ (4294967295 ^^^ reg 4294967295 l) _ (by go_simp)).mono ?_
  rintro e w' ⟨rfl, rfl⟩
  go_wp2_with fail
  go_ret
  refine ⟨?_, ?_⟩
  · rfl
  · exact (Below.refl _ _).alloc (Nat.le_refl _) _

end Go.Proofs.YtejcakbkldecmaaDoor
