/-
  Walks over package crc: State.Put, State.Sum, State.Reset.
-/
import Derived.Test.YtejcakbkldecmaaDoorCrcPlain
import Derived.Test.YtejcakbkldecmaaDoorKBase
import Derived.WalkSpells
import Derived.WalkLawsBesides
namespace Go.Proofs.YtejcakbkldecmaaDoor
open Go.RowKit
set_option linter.unusedVariables false

set_option maxHeartbeats 1000000 in
theorem put_any (b o s : Nat) (a : Option Addr) (n cap : Nat) (l : List Nat) (w : World) (hB : Byts w a n cap l) (hs32 : s < 4294967296)
   (hs : w.cell? ⟨b, o, none⟩ = some (.int .u32 s)) (hf : w.frozen? ⟨b, o, none⟩ = false) :
   Calls Tryd.prog 33 #[.pointer (some ⟨b, o, none⟩), .slice a n cap] w fun e w' =>
     e = .returned (.tuple #[]) ∧ w' = w.setCell ⟨b, o, none⟩ (.int .u32 ((4294967295 ^^^ reg (4294967295 ^^^ s) l : Nat) : Int)) := by
  obtain ⟨hn, hlt, hnc, hcm, hnil, hc⟩ := hB; clear hnil
  have hm : n ≤ 9223372036854775807 := by omega
  have Hn := Lib.hid hn; clear hn
  have Hlt := Lib.hid hlt; clear hlt
  have Hc := Lib.hid hc; clear hc
  have Hx := Lib.hid (go_not s hs32)
  have hx32 := not_lt hs32
  have Hx32 := Lib.hid hx32; clear hx32
  go_enter Tryd.func33, Tryd.ntmps33
  go_wp2
  rw [Hx.out]
  go_loop [4, 16] (fun x i => ∃ k : Nat, k ≤ n ∧ i = .int .i64 k ∧ x = .int .u32 ((reg (4294967295 ^^^ s) (l.take k) : Nat) : Int)) (fun _ i => n - (intOf i).toNat)
  case atStart => exact ⟨0, by omega, rfl, rfl⟩
  case round =>
    obtain ⟨k, hk, rfl, rfl⟩ := hrel
    by_cases hkn : k < n
    · obtain ⟨cb, co, rfl, hcell⟩ := Hc.out (by omega)
      have hc := hcell k hkn
      clear hcell
      have hr : reg (4294967295 ^^^ s) (l.take k) < 4294967296 := reg_lt Hx32.out (fun c hc => Hlt.out c (List.mem_of_mem_take hc))
      have hnc : nth l k < 256 := nth_lt Hlt.out (by omega) k
      have Hs := Lib.hid (reg_snoc (4294967295 ^^^ s) l k (by rw [Hn.out]; exact hkn))
      generalize hR : reg (4294967295 ^^^ s) (l.take k) = R at *
      generalize hC : nth l k = c at *
      have Hb := Lib.hid (go_byte R c hr hnc)
      clear hR hC
      go_wp2
      rw [Hb.out]
      go_loop [4, 24] (fun x j => ∃ i : Nat, i ≤ 8 ∧ j = .int .i64 i ∧ x = .int .u32 ((steps i (R ^^^ c) : Nat) : Int)) (fun _ j => 8 - (intOf j).toNat)
      case atStart => exact ⟨0, by omega, rfl, rfl⟩
      case round =>
        obtain ⟨i, hi, rfl, rfl⟩ := hrel
        have hX := steps_lt i (xor_lt32 hr (Nat.lt_trans hnc (by omega)))
        by_cases hi8 : i < 8
        · have Hst := Lib.hid (go_step1 _ hX)
          go_wp2
          rw [Hst.out]
          go_round
          case rel => exact ⟨i + 1, by omega, by go_num, rfl⟩
          case measure => simp [intOf]; omega
        · obtain rfl : i = 8 := by omega
          go_wp2
          go_round
          case rel => exact ⟨k + 1, by omega, by go_num, by rw [Hs.out]; rfl⟩
          case measure => simp [intOf]; omega
    · obtain rfl : k = n := by omega
      have hr : reg (4294967295 ^^^ s) (l.take k) < 4294967296 := reg_lt Hx32.out (fun c hc => Hlt.out c (List.mem_of_mem_take hc))
      have Hr := Lib.hid (go_not _ hr)
      go_wp2
      rw [Hr.out]
      go_end0
      refine ⟨rfl, ?_⟩
      rw [List.take_of_length_le (by rw [Hn.out]; omega)]

end Go.Proofs.YtejcakbkldecmaaDoor
