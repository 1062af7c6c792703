/-
  Walks: varint.Reader.Put, Value, Len of a reader that needs further bytes.
-/
import Derived.Test.YtejcakbkldecmaaDoorVarPlain
import Derived.Test.YtejcakbkldecmaaDoorKBase
import Derived.WalkSpells
import Derived.WalkLawsBesides
namespace Go.Proofs.YtejcakbkldecmaaDoor
open Go.RowKit
set_option linter.unusedVariables false

/-- A reader at block g: the number, the count of bytes, the state. -/
structure Rd (w0 w : World) (g x n st : Nat) : Prop where
  below : Below w0.heap.size w0 w
  base : w0.heap.size ≤ g
  lt : g < w.heap.size
  c0 : w.cell? ⟨g, 0, none⟩ = some (.int .u64 (x : Int))
  c1 : w.cell? ⟨g, 1, none⟩ = some (.int .i64 (n : Int))
  c2 : w.cell? ⟨g, 2, none⟩ = some (.int .i64 (st : Int))
  f0 : w.frozen? ⟨g, 0, none⟩ = false
  f1 : w.frozen? ⟨g, 1, none⟩ = false
  f2 : w.frozen? ⟨g, 2, none⟩ = false
  x64 : x < 18446744073709551616

theorem Rd.later {w0 w w' : World} {g x n st : Nat} (h : Rd w0 w g x n st) (hb : Below w.heap.size w w') : Rd w0 w' g x n st := by
  refine ⟨h.below.trans (hb.mono h.below.size), h.base, Nat.lt_of_lt_of_le h.lt hb.size, ?_, ?_, ?_, ?_, ?_, ?_, h.x64⟩
  · rw [hb.cell (p := ⟨g, 0, none⟩) h.lt]; exact h.c0
  · rw [hb.cell (p := ⟨g, 1, none⟩) h.lt]; exact h.c1
  · rw [hb.cell (p := ⟨g, 2, none⟩) h.lt]; exact h.c2
  · rw [hb.frozen (p := ⟨g, 0, none⟩) h.lt]; exact h.f0
  · rw [hb.frozen (p := ⟨g, 1, none⟩) h.lt]; exact h.f1
  · rw [hb.frozen (p := ⟨g, 2, none⟩) h.lt]; exact h.f2

theorem Rd.set {w0 w : World} {g x n st : Nat} (h : Rd w0 w g x n st) (x' n' st' : Nat) (hx : x' < 18446744073709551616) :
    Rd w0 (((w.setCell ⟨g, 1, none⟩ (.int .i64 (n' : Int))).setCell ⟨g, 0, none⟩ (.int .u64 (x' : Int))).setCell ⟨g, 2, none⟩ (.int .i64 (st' : Int))) g x' n' st' := by
  refine ⟨((h.below.setCell (p := ⟨g, 1, none⟩) h.base _).setCell (p := ⟨g, 0, none⟩) h.base _).setCell (p := ⟨g, 2, none⟩) h.base _, h.base, by have := h.lt; simpa [World.setCell] using this, ?_, ?_, ?_, ?_, ?_, ?_, hx⟩
  · rw [World.cell?_setCell_other _ _ _ _ (by simp)]
    exact World.cell?_setCell_same _ _ _ (by rw [World.cell?_setCell_other _ _ _ _ (by simp)]; exact h.c0)
  · rw [World.cell?_setCell_other _ _ _ _ (by simp), World.cell?_setCell_other _ _ _ _ (by simp)]
    exact World.cell?_setCell_same _ _ _ h.c1
  · exact World.cell?_setCell_same _ _ _ (by rw [World.cell?_setCell_other _ _ _ _ (by simp), World.cell?_setCell_other _ _ _ _ (by simp)]; exact h.c2)
  · simp only [World.frozen?_setCell]; exact h.f0
  · simp only [World.frozen?_setCell]; exact h.f1
  · simp only [World.frozen?_setCell]; exact h.f2

theorem andNot128_nat : ∀ c : Fin 256, c.val &&& (255 - 128) = c.val % 128 := by decide +kernel
theorem andNot128 (c : Nat) (hc : c < 256) : bits .andNot .u8 (c : Int) 128 = ((c % 128 : Nat) : Int) := by
  have h := u8_andNot_nat c 128 hc (by omega)
  rw [andNot128_nat ⟨c, hc⟩] at h
  exact h

theorem go_orAt (x n c : Nat) (hx : x < 18446744073709551616) : bits .or .u64 (x : Int) (IntKind.u64.wrap ((c : Int) % 128 * 2 ^ (7 * n))) = ((orAt x n c : Nat) : Int) := by
  rw [IntKind.wrap_u64, show (((c : Int) % 128 * 2 ^ (7 * n)) % 18446744073709551616) = ((c % 128 * 2 ^ (7 * n) % 18446744073709551616 : Nat) : Int) from by
    rw [Int.natCast_emod, Int.natCast_mul, Int.natCast_emod, Int.natCast_pow]; rfl]
  exact u64_or_nat x _ hx (Nat.mod_lt _ (by omega))

theorem Rd.drew {w0 w : World} {g x n st : Nat} (h : Rd w0 w g x n st) : Rd w0 w.drew g x n st := h.later ((Below.refl _ _).drew)

set_option maxHeartbeats 1000000 in
theorem rput_0 (w0 w : World) (g x n c : Nat) (h : Rd w0 w g x n 0) (hc : c < 256) (hn10 : n < 10) (h1 : c = 0) (h2 : n = 0) :
    Calls Tryd.prog 35 #[.pointer (some ⟨g, 0, none⟩), .int .u8 c] w fun e w' => e = .returned (.int .i64 (1 : Nat)) ∧ Rd w0 w' g (orAt x n c) (n + 1) 1 := by
  have H := Lib.hid (fun st => h.set (orAt x n c) (n + 1) st (orAt_lt n c h.x64))
  have Hx := Lib.hid (go_orAt x n c h.x64)
  obtain ⟨hb, hbase, hlt, hc0, hc1, hc2, hf0, hf1, hf2, hx64⟩ := h
  clear hb hbase hlt hx64
  have k1 : ((c : Int) == 0) = true := by rw [beq_iff_eq]; omega
  have k2 : decide (1 < (c : Int)) = false := by rw [decide_eq_false_iff_not]; omega
  have k3 : decide (1 < (n : Int) + 1) = false := by rw [decide_eq_false_iff_not]; omega
  have k5 : decide ((c : Int) < 128) = true := by rw [decide_eq_true_iff]; omega
  have ka := andNot128 c hc
  clear h1 h2
  go_enter Tryd.func35, Tryd.ntmps35
  go_wp2
  go_region
  go_wp2
  rw [Hx.out]
  go_ret
  exact ⟨rfl, (H.out 1).drew⟩

set_option maxHeartbeats 1000000 in
theorem rput_1 (w0 w : World) (g x n c : Nat) (h : Rd w0 w g x n 0) (hc : c < 256) (hn10 : n < 10) (h1 : c = 0) (h2 : 0 < n) :
    Calls Tryd.prog 35 #[.pointer (some ⟨g, 0, none⟩), .int .u8 c] w fun e w' => e = .returned (.int .i64 (2 : Nat)) ∧ Rd w0 w' g (orAt x n c) (n + 1) 2 := by
  have H := Lib.hid (fun st => h.set (orAt x n c) (n + 1) st (orAt_lt n c h.x64))
  have Hx := Lib.hid (go_orAt x n c h.x64)
  obtain ⟨hb, hbase, hlt, hc0, hc1, hc2, hf0, hf1, hf2, hx64⟩ := h
  clear hb hbase hlt hx64
  have k1 : ((c : Int) == 0) = true := by rw [beq_iff_eq]; omega
  have k2 : decide (1 < (c : Int)) = false := by rw [decide_eq_false_iff_not]; omega
  have k3 : decide (1 < (n : Int) + 1) = true := by rw [decide_eq_true_iff]; omega
  have k5 : decide ((c : Int) < 128) = true := by rw [decide_eq_true_iff]; omega
  have ka := andNot128 c hc
  clear h1 h2
  go_enter Tryd.func35, Tryd.ntmps35
  go_wp2
  go_region
  go_wp2
  rw [Hx.out]
  go_ret
  exact ⟨rfl, (H.out 2).drew⟩

set_option maxHeartbeats 1000000 in
theorem rput_2 (w0 w : World) (g x n c : Nat) (h : Rd w0 w g x n 0) (hc : c < 256) (hn10 : n < 10) (h1 : c = 1) (h2 : n < 10) :
    Calls Tryd.prog 35 #[.pointer (some ⟨g, 0, none⟩), .int .u8 c] w fun e w' => e = .returned (.int .i64 (1 : Nat)) ∧ Rd w0 w' g (orAt x n c) (n + 1) 1 := by
  have H := Lib.hid (fun st => h.set (orAt x n c) (n + 1) st (orAt_lt n c h.x64))
  have Hx := Lib.hid (go_orAt x n c h.x64)
  obtain ⟨hb, hbase, hlt, hc0, hc1, hc2, hf0, hf1, hf2, hx64⟩ := h
  clear hb hbase hlt hx64
  have k1 : ((c : Int) == 0) = false := by rw [beq_eq_false_iff_ne]; omega
  have k2 : decide (1 < (c : Int)) = false := by rw [decide_eq_false_iff_not]; omega
  have k5 : decide ((c : Int) < 128) = true := by rw [decide_eq_true_iff]; omega
  have ka := andNot128 c hc
  clear h1 h2
  go_enter Tryd.func35, Tryd.ntmps35
  go_wp2
  go_region
  go_wp2
  rw [Hx.out]
  go_ret
  exact ⟨rfl, (H.out 1).drew⟩

set_option maxHeartbeats 1000000 in
theorem rput_3 (w0 w : World) (g x n c : Nat) (h : Rd w0 w g x n 0) (hc : c < 256) (hn10 : n < 10) (h1 : 1 < c ∧ c < 128) (h2 : n = 9) :
    Calls Tryd.prog 35 #[.pointer (some ⟨g, 0, none⟩), .int .u8 c] w fun e w' => e = .returned (.int .i64 (2 : Nat)) ∧ Rd w0 w' g (orAt x n c) (n + 1) 2 := by
  have H := Lib.hid (fun st => h.set (orAt x n c) (n + 1) st (orAt_lt n c h.x64))
  have Hx := Lib.hid (go_orAt x n c h.x64)
  obtain ⟨hb, hbase, hlt, hc0, hc1, hc2, hf0, hf1, hf2, hx64⟩ := h
  clear hb hbase hlt hx64
  have k1 : ((c : Int) == 0) = false := by rw [beq_eq_false_iff_ne]; omega
  have k2 : decide (1 < (c : Int)) = true := by rw [decide_eq_true_iff]; omega
  have k4 : ((n : Int) + 1 == 10) = true := by rw [beq_iff_eq]; omega
  have k5 : decide ((c : Int) < 128) = true := by rw [decide_eq_true_iff]; omega
  have ka := andNot128 c hc
  clear h1 h2
  go_enter Tryd.func35, Tryd.ntmps35
  go_wp2
  go_region
  go_wp2
  rw [Hx.out]
  go_ret
  exact ⟨rfl, (H.out 2).drew⟩

set_option maxHeartbeats 1000000 in
theorem rput_4 (w0 w : World) (g x n c : Nat) (h : Rd w0 w g x n 0) (hc : c < 256) (hn10 : n < 10) (h1 : 1 < c ∧ c < 128) (h2 : n < 9) :
    Calls Tryd.prog 35 #[.pointer (some ⟨g, 0, none⟩), .int .u8 c] w fun e w' => e = .returned (.int .i64 (1 : Nat)) ∧ Rd w0 w' g (orAt x n c) (n + 1) 1 := by
  have H := Lib.hid (fun st => h.set (orAt x n c) (n + 1) st (orAt_lt n c h.x64))
  have Hx := Lib.hid (go_orAt x n c h.x64)
  obtain ⟨hb, hbase, hlt, hc0, hc1, hc2, hf0, hf1, hf2, hx64⟩ := h
  clear hb hbase hlt hx64
  have k1 : ((c : Int) == 0) = false := by rw [beq_eq_false_iff_ne]; omega
  have k2 : decide (1 < (c : Int)) = true := by rw [decide_eq_true_iff]; omega
  have k4 : ((n : Int) + 1 == 10) = false := by rw [beq_eq_false_iff_ne]; omega
  have k5 : decide ((c : Int) < 128) = true := by rw [decide_eq_true_iff]; omega
  have ka := andNot128 c hc
  clear h1 h2
  go_enter Tryd.func35, Tryd.ntmps35
  go_wp2
  go_region
  go_wp2
  rw [Hx.out]
  go_ret
  exact ⟨rfl, (H.out 1).drew⟩

set_option maxHeartbeats 1000000 in
theorem rput_5 (w0 w : World) (g x n c : Nat) (h : Rd w0 w g x n 0) (hc : c < 256) (hn10 : n < 10) (h1 : 128 ≤ c) (h2 : n = 9) :
    Calls Tryd.prog 35 #[.pointer (some ⟨g, 0, none⟩), .int .u8 c] w fun e w' => e = .returned (.int .i64 (2 : Nat)) ∧ Rd w0 w' g (orAt x n c) (n + 1) 2 := by
  have H := Lib.hid (fun st => h.set (orAt x n c) (n + 1) st (orAt_lt n c h.x64))
  have Hx := Lib.hid (go_orAt x n c h.x64)
  obtain ⟨hb, hbase, hlt, hc0, hc1, hc2, hf0, hf1, hf2, hx64⟩ := h
  clear hb hbase hlt hx64
  have k1 : ((c : Int) == 0) = false := by rw [beq_eq_false_iff_ne]; omega
  have k2 : decide (1 < (c : Int)) = true := by rw [decide_eq_true_iff]; omega
  have k4 : ((n : Int) + 1 == 10) = true := by rw [beq_iff_eq]; omega
  have k5 : decide ((c : Int) < 128) = false := by rw [decide_eq_false_iff_not]; omega
  have ka := andNot128 c hc
  clear h1 h2
  go_enter Tryd.func35, Tryd.ntmps35
  go_wp2
  go_region
  go_wp2
  rw [Hx.out]
  go_ret
  exact ⟨rfl, (H.out 2).drew⟩

set_option maxHeartbeats 1000000 in
theorem rput_6 (w0 w : World) (g x n c : Nat) (h : Rd w0 w g x n 0) (hc : c < 256) (hn10 : n < 10) (h1 : 128 ≤ c) (h2 : n < 9) :
    Calls Tryd.prog 35 #[.pointer (some ⟨g, 0, none⟩), .int .u8 c] w fun e w' => e = .returned (.int .i64 (0 : Nat)) ∧ Rd w0 w' g (orAt x n c) (n + 1) 0 := by
  have H := Lib.hid (fun st => h.set (orAt x n c) (n + 1) st (orAt_lt n c h.x64))
  have Hx := Lib.hid (go_orAt x n c h.x64)
  obtain ⟨hb, hbase, hlt, hc0, hc1, hc2, hf0, hf1, hf2, hx64⟩ := h
  clear hb hbase hlt hx64
  have k1 : ((c : Int) == 0) = false := by rw [beq_eq_false_iff_ne]; omega
  have k2 : decide (1 < (c : Int)) = true := by rw [decide_eq_true_iff]; omega
  have k4 : ((n : Int) + 1 == 10) = false := by rw [beq_eq_false_iff_ne]; omega
  have k5 : decide ((c : Int) < 128) = false := by rw [decide_eq_false_iff_not]; omega
  have ka := andNot128 c hc
  clear h1 h2
  go_enter Tryd.func35, Tryd.ntmps35
  go_wp2
  go_region
  go_wp2
  rw [Hx.out]
  go_ret
  exact ⟨rfl, (H.out 0).drew⟩

/-- Put of a byte: the state behind it. -/
theorem rput_any (w0 w : World) (g x n c : Nat) (h : Rd w0 w g x n 0) (hc : c < 256) (hn10 : n < 10) :
    Calls Tryd.prog 35 #[.pointer (some ⟨g, 0, none⟩), .int .u8 c] w fun e w' => e = .returned (.int .i64 (nextState n c : Nat)) ∧ Rd w0 w' g (orAt x n c) (n + 1) (nextState n c) := by
  by_cases c0 : c = 0
  · by_cases n0 : n = 0
    · rw [show nextState n c = 1 from by unfold nextState; rw [if_neg (by omega), if_pos (by omega)]]; exact rput_0 w0 w g x n c h hc hn10 c0 n0
    · rw [show nextState n c = 2 from by unfold nextState; rw [if_pos (by omega)]]; exact rput_1 w0 w g x n c h hc hn10 c0 (by omega)
  by_cases c1 : c = 1
  · rw [show nextState n c = 1 from by unfold nextState; rw [if_neg (by omega), if_pos (by omega)]]; exact rput_2 w0 w g x n c h hc hn10 c1 hn10
  by_cases c128 : c < 128
  · by_cases n9 : n = 9
    · rw [show nextState n c = 2 from by unfold nextState; rw [if_pos (by omega)]]; exact rput_3 w0 w g x n c h hc hn10 (by omega) n9
    · rw [show nextState n c = 1 from by unfold nextState; rw [if_neg (by omega), if_pos (by omega)]]; exact rput_4 w0 w g x n c h hc hn10 (by omega) (by omega)
  · by_cases n9 : n = 9
    · rw [show nextState n c = 2 from by unfold nextState; rw [if_pos (by omega)]]; exact rput_5 w0 w g x n c h hc hn10 (by omega) n9
    · rw [show nextState n c = 0 from by unfold nextState; rw [if_neg (by omega), if_neg (by omega)]]; exact rput_6 w0 w g x n c h hc hn10 (by omega) (by omega)

theorem rvalue_any (w0 w : World) (g x n : Nat) (h : Rd w0 w g x n 1) :
    Calls Tryd.prog 36 #[.pointer (some ⟨g, 0, none⟩)] w fun e w' => e = .returned (.int .u64 (x : Int)) ∧ w = w' := by
  obtain ⟨hb, hbase, hlt, hc0, hc1, hc2, hf0, hf1, hf2, hx64⟩ := h
  clear hb hbase hlt hx64
  go_enter Tryd.func36, Tryd.ntmps36
  go_wp2
  go_ret
  exact ⟨rfl, rfl⟩

theorem rlen_any (w0 w : World) (g x n st : Nat) (h : Rd w0 w g x n st) :
    Calls Tryd.prog 37 #[.pointer (some ⟨g, 0, none⟩)] w fun e w' => e = .returned (.int .i64 (n : Int)) ∧ w = w' := by
  obtain ⟨hb, hbase, hlt, hc0, hc1, hc2, hf0, hf1, hf2, hx64⟩ := h
  clear hb hbase hlt hx64
  go_enter Tryd.func37, Tryd.ntmps37
  go_wp2
  go_ret
  exact ⟨rfl, rfl⟩

end Go.Proofs.YtejcakbkldecmaaDoor
