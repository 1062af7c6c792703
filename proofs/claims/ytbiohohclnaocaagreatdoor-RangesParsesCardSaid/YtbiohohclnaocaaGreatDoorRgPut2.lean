/-
  Walk: kenningref04.Put, one contract.
-/
import Derived.Test.YtbiohohclnaocaaGreatDoorRgPut
namespace Go.Proofs.YtbiohohclnaocaaGreatDoor
open Go.RowKit
set_option linter.unusedVariables false

set_option maxHeartbeats 2000000 in
theorem refPut_nil (a : Option Addr) (cap : Nat) (s : Iv) (w0 w : World) (hb : Below w0.heap.size w0 w) (hown : w.ownsRow w0.heap.size 31 2 (.slice a 0 cap) 0 []) :
    Calls Tryz.prog 49 #[.slice a 0 cap, ivV s] w fun e w' => (∃ v', e = .returned v' ∧ w'.ownsRow w0.heap.size 31 2 v' 1 (ivC [s])) ∧ Below w0.heap.size w0 w' := by
  have Ho := Lib.hid hown; have Hb := Lib.hid hb
  clear hown hb
  obtain ⟨z, u⟩ := s
  go_enter Tryz.func49, Tryz.ntmps49
  go_wp2_with fail
  have hA : Below w.heap.size w (w.alloc (.cells #[.int .u64 z, .int .u64 u] 31)) := (Below.refl _ _).alloc (Nat.le_refl _) _
  have q3 : (w.alloc (.cells #[.int .u64 z, .int .u64 u] 31)).cell? ⟨w.heap.size, 0, none⟩ = some (.int .u64 z) := by simp [go_sem]
  have q4 : (w.alloc (.cells #[.int .u64 z, .int .u64 u] 31)).cell? ⟨w.heap.size, 1, none⟩ = some (.int .u64 u) := by simp [go_sem]
  have HA := Lib.hid hA
  clear hA
  generalize hW : w.alloc (.cells #[.int .u64 z, .int .u64 u] 31) = W at *
  have HW := Lib.hid hW; clear hW
  refine wp_region_below (by kernel_rfl) (by kernel_rfl) ?_
  repeat (go_big_quiet_step ((intro hw; rfl)))
  refine wpQuiet_nil ?_
  intro w3 hb3
  have q3 := (hb3.cell (p := ⟨w.heap.size, 0, none⟩) (cell_lt q3)).trans q3
  have q4 := (hb3.cell (p := ⟨w.heap.size, 1, none⟩) (cell_lt q4)).trans q4
  have Hw3 := Lib.hid (HA.out.trans (hb3.mono HA.out.size))
  clear hb3
  have Hz := Lib.hid (Nat.le_trans Hb.out.size Hw3.out.size)
  obtain ⟨v', w', hr, ho, hg⟩ := run_append_iv w0.heap.size (.slice a 0 cap) 0 [] ((own_below Ho.out Hw3.out).alloc (.cells #[.int .u64 z, .int .u64 u] 31)) (some ⟨w3.heap.size, 0, none⟩) 1 1 [(z, u)] (rd_block (heap_at_new _ _ _ rfl) rfl rfl) (by omega) (by have := Hz.out; simp; omega)
  have Ho' := Lib.hid ho; clear ho
  have Hb' := Lib.hid ((Hb.out.trans (Hw3.out.mono Hb.out.size)).alloc Hz.out (.cells #[.int .u64 z, .int .u64 u] 31) |>.grown hg (by have := Hz.out; simp; omega) (fun k hk => (Ho.out.lt k hk).1))
  clear hg
  go_wp2_with (at_builtin; refine wpList_append_hr _ _ 23 rfl rfl _ _ rfl rfl _ _ hr ?_)
  go_ret
  exact ⟨⟨v', rfl, by simpa using Ho'.out⟩, Hb'.out⟩

set_option maxRecDepth 20000 in
set_option maxHeartbeats 2000000 in
theorem refPut_apart (g n k cap : Nat) (l : List Iv) (t s : Iv) (w0 w : World) (hb : Below w0.heap.size w0 w) (hown : w.ownsRow w0.heap.size 31 2 (.slice (some ⟨g, 0, none⟩) n cap) n (ivC (l ++ [t]))) (hk : n = k + 1) (hn : n ≤ 100000)
    (ht : t.1 < 18446744073709551616 ∧ t.2 < 18446744073709551616) (hs : s.1 < 18446744073709551616 ∧ s.2 < 18446744073709551616) (hts : relR t s ≠ 1) :
    Calls Tryz.prog 49 #[.slice (some ⟨g, 0, none⟩) n cap, ivV s] w fun e w' => (∃ v', e = .returned v' ∧ w'.ownsRow w0.heap.size 31 2 v' (n + 1) (ivC (l ++ [t] ++ [s]))) ∧ Below w0.heap.size w0 w' := by
  have hl : l.length = k := by have := hown.1; rw [ivC_length] at this; simp at this; omega
  have hR := Lib.hid (fun w => refRelate_any t s w ht hs)
  have hne : (((relR t s : Nat) : Int) == 1) = false := by rw [beq_eq_false_iff_ne]; omega
  generalize relR t s = r at *
  obtain ⟨e1, e2⟩ := ivC_get (l ++ [t]) k (by simp; omega)
  have hnt : nthI (l ++ [t]) k = t := by rw [nthI_get (by simp; omega), List.getElem_append_right (by omega)]; simp
  rw [hnt] at e1 e2
  have hc1 := (hown.cellAt (k * 2) (by omega)).trans e1
  have hc2 := (hown.cellAt (k * 2 + 1) (by omega)).trans e2
  have Ho := Lib.hid hown; have Hb := Lib.hid hb; have Hl := Lib.hid hl
  have hsub : IntKind.i64.wrap ((n : Int) - 1) = (k : Int) := by rw [IntKind.wrap_i64]; omega
  have hg0 : decide (0 < (n : Int)) = true := by rw [decide_eq_true_iff]; omega
  have hn0 : 0 < n := by omega
  have h01 : (k : Int) < (n : Int) := by omega
  have Hk := Lib.hid hk
  have hgl := cell_lt hc1
  simp only at hgl
  clear ht hs hts hown hb hl hnt e1 e2 hk
  obtain ⟨x, y⟩ := t
  obtain ⟨z, u⟩ := s
  go_enter Tryz.func49, Tryz.ntmps49
  go_wp2_with fail
  have hA : Below w.heap.size w (w.alloc (.cells #[.int .u64 z, .int .u64 u] 31)) := (Below.refl _ _).alloc (Nat.le_refl _) _
  have q1 := (hA.cell (p := ⟨g, k * 2, none⟩) hgl).trans hc1
  have q2 := (hA.cell (p := ⟨g, k * 2 + 1, none⟩) hgl).trans hc2
  have q3 : (w.alloc (.cells #[.int .u64 z, .int .u64 u] 31)).cell? ⟨w.heap.size, 0, none⟩ = some (.int .u64 z) := by simp [go_sem]
  have q4 : (w.alloc (.cells #[.int .u64 z, .int .u64 u] 31)).cell? ⟨w.heap.size, 1, none⟩ = some (.int .u64 u) := by simp [go_sem]
  have HA := Lib.hid hA
  clear hA hc1 hc2
  generalize hW : w.alloc (.cells #[.int .u64 z, .int .u64 u] 31) = W at *
  have HW := Lib.hid hW; clear hW
  refine wp_region_below (by kernel_rfl) (by kernel_rfl) ?_
  repeat (go_big_quiet_step ((intro hw; first
    | rfl
    | (go_at_call 45; exact keep_below hw (hR.out _))
    | (have q1 := (hw.cell (p := ⟨g, k * 2, none⟩) (cell_lt q1)).trans q1
       have q2 := (hw.cell (p := ⟨g, k * 2 + 1, none⟩) (cell_lt q2)).trans q2
       have q3 := (hw.cell (p := ⟨w.heap.size, 0, none⟩) (cell_lt q3)).trans q3
       have q4 := (hw.cell (p := ⟨w.heap.size, 1, none⟩) (cell_lt q4)).trans q4
       go_simp
       first | rfl | exact ⟨rfl, hw⟩))))
  refine wpQuiet_nil ?_
  intro w3 hb3
  have q3 := (hb3.cell (p := ⟨w.heap.size, 0, none⟩) (cell_lt q3)).trans q3
  have q4 := (hb3.cell (p := ⟨w.heap.size, 1, none⟩) (cell_lt q4)).trans q4
  have Hw3 := Lib.hid (HA.out.trans (hb3.mono HA.out.size))
  clear hb3 q1 q2
  have Hz := Lib.hid (Nat.le_trans Hb.out.size Hw3.out.size)
  obtain ⟨v', w', hr, ho, hg⟩ := run_append_iv w0.heap.size (.slice (some ⟨g, 0, none⟩) n cap) n (l ++ [(x, y)]) ((own_below Ho.out Hw3.out).alloc (.cells #[.int .u64 z, .int .u64 u] 31)) (some ⟨w3.heap.size, 0, none⟩) 1 1 [(z, u)] (rd_block (heap_at_new _ _ _ rfl) rfl rfl) (by omega) (by have := Hz.out; simp; omega)
  have Ho' := Lib.hid ho; clear ho
  have Hb' := Lib.hid ((Hb.out.trans (Hw3.out.mono Hb.out.size)).alloc Hz.out (.cells #[.int .u64 z, .int .u64 u] 31) |>.grown hg (by have := Hz.out; simp; omega) (fun k hk => (Ho.out.lt k hk).1))
  clear hg
  go_wp2_with (at_builtin; refine wpList_append_hr _ _ 23 rfl rfl _ _ rfl rfl _ _ hr ?_)
  go_ret
  exact ⟨⟨v', rfl, Ho'.out⟩, Hb'.out⟩

theorem relR_one {a b : Iv} : relR a b = 1 ↔ a.2 + 1 = b.1 := by
  unfold relR
  repeat' split
  all_goals omega

theorem refPut_any (v : Value) (n : Nat) (l : List Iv) (s : Iv) (w0 w : World) (hb : Below w0.heap.size w0 w) (hown : w.ownsRow w0.heap.size 31 2 v n (ivC l)) (hn : n ≤ 100000)
    (hl : ∀ t ∈ l, t.1 < 18446744073709551616 ∧ t.2 < 18446744073709551616) (hs : s.1 < 18446744073709551616 ∧ s.2 < 18446744073709551616) :
    Calls Tryz.prog 49 #[v, ivV s] w fun e w' => (∃ v', e = .returned v' ∧ w'.ownsRow w0.heap.size 31 2 v' (putL l s).length (ivC (putL l s))) ∧ Below w0.heap.size w0 w' := by
  have hln : l.length = n := by have := hown.1; rw [ivC_length] at this; omega
  rcases nil_or_snoc l with rfl | ⟨l, t, rfl⟩
  · obtain rfl : n = 0 := by simpa using hln.symm
    obtain ⟨a, cap, rfl, -⟩ := ivs_own hown (by simp)
    exact refPut_nil a cap s w0 w hb hown
  · rw [List.length_append, List.length_singleton] at hln
    obtain ⟨g, cap, rfl, -⟩ := hown.form (by omega)
    rw [putL_snoc]
    by_cases h : t.2 + 1 = s.1
    · rw [if_pos h]
      refine (refPut_touch g n l.length cap l t s w0 w hb hown (by omega) hn (hl t (by simp)) hs (relR_one.2 h)).mono ?_
      rintro e w' ⟨⟨v', h1, h2⟩, h3⟩
      exact ⟨⟨v', h1, by rw [List.length_append, List.length_singleton, hln]; exact h2⟩, h3⟩
    · rw [if_neg h]
      refine (refPut_apart g n l.length cap l t s w0 w hb hown (by omega) hn (hl t (by simp)) hs (fun e => h (relR_one.1 e))).mono ?_
      rintro e w' ⟨⟨v', h1, h2⟩, h3⟩
      exact ⟨⟨v', h1, by rw [List.length_append, List.length_append, List.length_singleton, List.length_singleton, hln]; exact h2⟩, h3⟩

end Go.Proofs.YtbiohohclnaocaaGreatDoor
