/-
  Walk: the example of the chapter holds (kenninglaw20.alive).
-/
import Derived.Test.YteonpcckifkafaaCrcAppend
import Derived.Test.YteonpcckifkafaaKEqual
import Derived.Lib.SmallJoins
import Derived.Lib.SlBytesConst
namespace Go.Proofs.Yteonpcckifkafaa
open Go.RowKit Go.Joins
set_option linter.unusedVariables false

theorem byts_lit (w : World) (b n : Nat) (C : Array Value) (l : List Nat) (T : TypeId) (fr : Nat × Nat) (hb : b = w.heap.size) (hn : l.length = n) (hC : C = (u8s l).toArray) (hl : ∀ x ∈ l, x < 256) (hm : n ≤ 9223372036854775807) :
    Byts (w.alloc (.cells C T fr)) (some ⟨b, 0, none⟩) n l := by
  subst hb hC
  refine ⟨hn, hl, hm, fun _ => ⟨_, _, rfl, fun i hi => ?_⟩⟩
  rw [World.cell?_alloc_mark]
  have hi' : i < l.length := by omega
  simp [u8s, nth, hi']

theorem byts_nil (w : World) (a : Option Addr) : Byts w a 0 [] := ⟨rfl, by simp, by omega, fun h => by omega⟩

theorem byts_own {w : World} {base n : Nat} {T : TypeId} {v : Value} {l : List Nat} (h : w.ownsRow base T 1 v n (u8s l)) (hl : ∀ x ∈ l, x < 256) : ∃ a cap, v = .slice a n cap ∧ Byts w a n l := by
  have hlen : l.length = n := by have := h.1; simpa [u8s] using this
  rcases h.2 with ⟨rfl, rfl⟩ | ⟨g, cap, cur, rfl, hg, hh, hnc, hcm, _⟩
  · exact ⟨none, 0, rfl, hlen, hl, by omega, fun h => by omega⟩
  · refine ⟨_, _, rfl, hlen, hl, by unfold maxLen at hcm; omega, fun hn => ⟨g, 0, rfl, fun i hi => ?_⟩⟩
    have hc := h.cells (g := g) rfl i (.int .u8 ((nth l i : Nat) : Int)) (by simp [u8s, nth, hlen, hi])
    have e : ((⟨g, 0, none⟩ : Addr).add i) = ⟨g, 0 + i, none⟩ := by
      unfold Addr.add; split
      · subst_vars; rfl
      · simp
    rw [e] at hc
    exact hc

theorem crc_ex1 : 4294967295 ^^^ reg (4294967295 ^^^ 0) [49, 50, 51, 52] = 2615402659 := by decide +kernel
theorem crc_ex2 : 4294967295 ^^^ reg (4294967295 ^^^ 2615402659) [53, 54, 55, 56, 57] = 3421780262 := by decide +kernel
theorem crc_ex3 : sum [49, 50, 51, 52, 53, 54, 55, 56, 57] = 3421780262 := by decide +kernel
theorem crc_ex4 : sum [] = 0 := by decide +kernel
theorem crc_ex5 : sumBytes 3421780262 = [38, 57, 244, 203] := by decide +kernel

set_option maxHeartbeats 2000000 in
theorem alive_any (w : World) : Calls Try.prog 9 #[] w fun e w' => e = .returned (.bool true) ∧ Below w.heap.size w w' := by
  have kc := fun (w : World) (C : Array Value) (n c : Nat) => Lib.run_convert_bytes_const (P := Try.prog) w 22 5 C n c Try.underlying22 Try.underlying5
  have kd := fun (w : World) (o1 : Obj) (C : Array Value) (n c : Nat) => run_convert_bytes_const_at (P := Try.prog) (w.alloc o1) 22 5 C n c (w.heap.size + 1) (by simp) Try.underlying22 Try.underlying5
  have ke := fun (w : World) (o1 o2 : Obj) (C : Array Value) (n c : Nat) => run_convert_bytes_const_at (P := Try.prog) ((w.alloc o1).alloc o2) 22 5 C n c (w.heap.size + 1 + 1) (by simp) Try.underlying22 Try.underlying5
  have kf := fun (w : World) (o1 o2 o3 : Obj) (C : Array Value) (n c : Nat) => run_convert_bytes_const_at (P := Try.prog) (((w.alloc o1).alloc o2).alloc o3) 22 5 C n c (w.heap.size + 1 + 1 + 1) (by simp) Try.underlying22 Try.underlying5
  go_enter Try.func9, Try.ntmps9
  go_wp2_with fail
  refine (put_any _ _ 0 _ _ _ [49, 50, 51, 52] _ ?_ (by omega) ?_ ?_).mono ?_
  · exact byts_lit _ _ _ _ [49, 50, 51, 52] _ _ (by simp) rfl rfl (by decide) (by decide)
  · go_simp
  · go_simp
  rintro e w' ⟨rfl, rfl⟩
  rw [crc_ex1]
  go_wp2_with fail
  refine (put_any _ _ 2615402659 _ _ _ [53, 54, 55, 56, 57] _ ?_ (by omega) ?_ ?_).mono ?_
  · exact byts_lit _ _ _ _ [53, 54, 55, 56, 57] _ _ (by simp) rfl rfl (by decide) (by decide)
  · go_simp
  · go_simp
  rintro e w' ⟨rfl, rfl⟩
  rw [crc_ex2]
  go_wp2_with fail
  refine (sum_any _ _ _ [49, 50, 51, 52, 53, 54, 55, 56, 57] _ ?_).mono ?_
  · exact byts_lit _ _ _ _ [49, 50, 51, 52, 53, 54, 55, 56, 57] _ _ (by simp) rfl rfl (by decide) (by decide)
  rintro e w1 ⟨rfl, hb1⟩
  rw [crc_ex3]
  go_wp2_with fail
  have hw1 : Below w.heap.size w w1 := ((((((Below.refl _ _).alloc (Nat.le_refl _) _).alloc (by simp only [World.size_alloc]; omega) _).alloc (by simp only [World.size_alloc]; omega) _).alloc (by simp only [World.size_alloc]; omega) _)).trans (hb1.mono (by simp only [World.size_alloc]; omega))
  have hc1 : w1.cell? ⟨w.heap.size, 0, none⟩ = some (.int .u32 3421780262) := by
    rw [hb1.cell (p := ⟨w.heap.size, 0, none⟩) (by simp only [World.size_alloc]; omega)]
    go_simp
  clear hb1
  refine (statesum_any _ 3421780262 _ hc1).mono ?_
  rintro e w' ⟨rfl, rfl⟩
  go_wp2_with fail
  refine (sum_any _ _ _ [] _ (byts_nil _ _)).mono ?_
  rintro e w2 ⟨rfl, hb2⟩
  rw [crc_ex4]
  have hw2 := hw1.trans (hb2.mono hw1.size)
  clear hb2 hc1 hw1
  go_wp2_with fail
  refine (append_any _ 0 w2.heap.size [] 3421780262 _ (by omega) (World.ownsRow_nil _ _ _ _) (Nat.le_refl _) (by omega)).mono ?_
  rintro e w3 ⟨v3, rfl, ho3, hg3⟩
  rw [crc_ex5] at ho3
  have hw3 := hw2.grown hg3 hw2.size (by simp [Value.ownBlock])
  obtain ⟨a3, c3, rfl, hB3⟩ := byts_own (l := [38, 57, 244, 203]) ho3 (by decide)
  clear hw2 hg3 ho3
  go_wp2_with fail
  refine (equal_any _ _ _ _ _ _ [38, 57, 244, 203] [38, 57, 244, 203] _ ?_ ?_ true (by simp)).mono ?_
  · exact hB3.below ((Below.refl _ _).alloc (Nat.le_refl _) _)
  · exact byts_lit _ _ _ _ [38, 57, 244, 203] _ _ (by simp) rfl rfl (by decide) (by decide)
  rintro e w4 ⟨rfl, q, rfl⟩
  go_wp2_with fail
  go_ret
  exact ⟨rfl, below_drewN (hw3.alloc hw3.size _) _⟩

end Go.Proofs.Yteonpcckifkafaa
