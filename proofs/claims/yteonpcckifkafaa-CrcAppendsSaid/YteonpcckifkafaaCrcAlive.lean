/-
  Walk: the example of the chapter holds (kenninglaw20.alive).
-/
import Derived.Test.YteonpcckifkafaaCrcAppend
import Derived.Test.YteonpcckifkafaaKEqual
namespace Go.Proofs.Yteonpcckifkafaa
open Go.RowKit Go.Joins
set_option linter.unusedVariables false

theorem crc_ex1 : 4294967295 ^^^ reg (4294967295 ^^^ 0) [49, 50, 51, 52] = 2615402659 := by decide +kernel
theorem crc_ex2 : 4294967295 ^^^ reg (4294967295 ^^^ 2615402659) [53, 54, 55, 56, 57] = 3421780262 := by decide +kernel
theorem crc_ex3 : sum [49, 50, 51, 52, 53, 54, 55, 56, 57] = 3421780262 := by decide +kernel
theorem crc_ex4 : sum [] = 0 := by decide +kernel
theorem crc_ex5 : sumBytes 3421780262 = [38, 57, 244, 203] := by decide +kernel

set_option maxHeartbeats 2000000 in
theorem alive_any (w : World) : Calls Try.prog 9 #[] w fun e w' => e = .returned (.bool true) ∧ Below w.heap.size w w' := by
  have kc := fun (w : World) (C : Array Value) (n c : Nat) => Lib.run_convert_bytes_const (P := Try.prog) w 22 5 C n c Try.underlying22 Try.underlying5
  have kd := fun (w : World) (o1 : Obj) (C : Array Value) (n c : Nat) => run_convert_bytes_const_at (P := Try.prog) (w.alloc o1) 22 5 C n c (w.heap.size + 1) (by simp) Try.underlying22 Try.underlying5
  have ke := fun (w : World) (o1 o2 : Obj) (C : Array Value) (n c : Nat) => run_convert_bytes_const_at (P := Try.prog) ((w.alloc o1).alloc o2) 22 5 C n c (w.heap.size + 1 + 1) (by simp) Try.underlying22 Try.underlying5
  have kf := fun (w : World) (o1 o2 o3 : Obj) (C : Array Value) (n c : Nat) => run_convert_bytes_const_at (P := Try.prog) (((w.alloc o1).alloc o2).alloc o3) 22 5 C n c (w.heap.size + 1 + 1 + 1) (by simp) Try.underlying22 Try.underlying5
  go_enter Try.func9, Try.ntmps9
  go_wp2_with fail
  refine (put_any _ _ 0 _ _ _ [49, 50, 51, 52] _ ?_ (by omega) ?_ ?_).mono ?_
  · exact byts_lit _ _ _ _ [49, 50, 51, 52] _ _ (by simp) rfl rfl (by decide) (by decide)
  · go_simp
  · go_simp
  rintro e w' ⟨rfl, rfl⟩
  rw [crc_ex1]
  go_wp2_with fail
  refine (put_any _ _ 2615402659 _ _ _ [53, 54, 55, 56, 57] _ ?_ (by omega) ?_ ?_).mono ?_
  · exact byts_lit _ _ _ _ [53, 54, 55, 56, 57] _ _ (by simp) rfl rfl (by decide) (by decide)
  · go_simp
  · go_simp
  rintro e w' ⟨rfl, rfl⟩
  rw [crc_ex2]
  go_wp2_with fail
  refine (sum_any _ _ _ [49, 50, 51, 52, 53, 54, 55, 56, 57] _ ?_).mono ?_
  · exact byts_lit _ _ _ _ [49, 50, 51, 52, 53, 54, 55, 56, 57] _ _ (by simp) rfl rfl (by decide) (by decide)
  rintro e w1 ⟨rfl, hb1⟩
  rw [crc_ex3]
  go_wp2_with fail
  have hw1 : Below w.heap.size w w1 := ((((((Below.refl _ _).alloc (Nat.le_refl _) _).alloc (by simp only [World.size_alloc]; omega) _).alloc (by simp only [World.size_alloc]; omega) _).alloc (by simp only [World.size_alloc]; omega) _)).trans (hb1.mono (by simp only [World.size_alloc]; omega))
  have hc1 : w1.cell? ⟨w.heap.size, 0, none⟩ = some (.int .u32 3421780262) := by
    rw [hb1.cell (p := ⟨w.heap.size, 0, none⟩) (by simp only [World.size_alloc]; omega)]
    go_simp
  clear hb1
  refine (statesum_any _ 3421780262 _ hc1).mono ?_
  rintro e w' ⟨rfl, rfl⟩
  go_wp2_with fail
  refine (sum_any _ _ _ [] _ (byts_nil _)).mono ?_
  rintro e w2 ⟨rfl, hb2⟩
  rw [crc_ex4]
  have hw2 := hw1.trans (hb2.mono hw1.size)
  clear hb2 hc1 hw1
  go_wp2_with fail
  refine (append_any _ 0 w2.heap.size [] 3421780262 _ (by omega) (World.ownsRow_nil _ _ _ _) (Nat.le_refl _) (by omega)).mono ?_
  rintro e w3 ⟨v3, rfl, ho3, hg3⟩
  rw [crc_ex5] at ho3
  have hw3 := hw2.grown hg3 hw2.size (by simp [Value.ownBlock])
  obtain ⟨a3, c3, rfl, hB3⟩ := byts_own (l := [38, 57, 244, 203]) ho3 (by decide)
  clear hw2 hg3 ho3
  go_wp2_with fail
  refine (equal_any _ _ _ _ _ _ [38, 57, 244, 203] [38, 57, 244, 203] _ ?_ ?_ true (by simp)).mono ?_
  · exact hB3.below ((Below.refl _ _).alloc (Nat.le_refl _) _)
  · exact byts_lit _ _ _ _ [38, 57, 244, 203] _ _ (by simp) rfl rfl (by decide) (by decide)
  rintro e w4 ⟨rfl, q, rfl⟩
  go_wp2_with fail
  go_ret
  exact ⟨rfl, below_drewN (hw3.alloc hw3.size _) _⟩

end Go.Proofs.Yteonpcckifkafaa
