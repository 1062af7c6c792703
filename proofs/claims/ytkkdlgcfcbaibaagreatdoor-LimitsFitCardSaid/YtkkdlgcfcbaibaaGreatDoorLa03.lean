/- Walks and laws, joined: La03. -/
import Derived.Test.YtkkdlgcfcbaibaaGreatDoorLa02
set_option linter.unusedVariables false
namespace Go.Proofs.YtkkdlgcfcbaibaaGreatDoor
section
open Go.RowKit
def firstS {α : Type} (f : Nat → Option α) (n : Nat) : Option α := (List.range n).findSome? f
theorem firstS_some {α : Type} {f : Nat → Option α} {n k : Nat} {x : α} (hk : k < n) (h : ∀ j, j < k → f j = none) (hx : f k = some x) : firstS f n = some x := by
 unfold firstS
 induction n with
 | zero => omega
 | succ n ih =>
  rw [List.range_succ, List.findSome?_append]
  by_cases e : k = n
  · subst e
    have h0 : (List.range k).findSome? f = none := by
     rw [List.findSome?_eq_none_iff]
     intro j hj
     exact h j (by simpa using hj)
    rw [h0]
    simp [hx]
  · rw [ih (by omega)]
    rfl
theorem firstS_none {α : Type} {f : Nat → Option α} {n : Nat} (h : ∀ j, j < n → f j = none) : firstS f n = none := by
 unfold firstS
 rw [List.findSome?_eq_none_iff]
 intro j hj
 exact h j (by simpa using hj)
theorem firstS_of_none {α : Type} {f : Nat → Option α} {n : Nat} (h : firstS f n = none) : ∀ j, j < n → f j = none := by
 unfold firstS at h
 rw [List.findSome?_eq_none_iff] at h
 intro j hj
 exact h j (by simpa using hj)
theorem firstS_of_some {α : Type} {f : Nat → Option α} {n : Nat} {x : α} (h : firstS f n = some x) : ∃ k, k < n ∧ (∀ j, j < k → f j = none) ∧ f k = some x := by
 induction n with
 | zero => cases h
 | succ n ih =>
  unfold firstS at h ih
  rw [List.range_succ, List.findSome?_append] at h
  cases e : (List.range n).findSome? f with
  | some y =>
   rw [e] at h ih
   obtain ⟨k, h1, h2, h3⟩ := ih h
   exact ⟨k, by omega, h2, h3⟩
  | none =>
   rw [e] at h
   refine ⟨n, by omega, firstS_of_none e, ?_⟩
   simpa using h
def ckAt (l : List Iv) (i : Nat) : Option (Nat × Nat) :=
 if (nthI l i).2 < (nthI l i).1 then some (2, i) else if 0 < i ∧ relB (nthI l (i - 1)) (nthI l i) ≠ 0 then some (3, i) else none
def ck (l : List Iv) : Option (Nat × Nat) := firstS (ckAt l) l.length
def errOf : Option (Nat × Nat) → Err
 | none => none
 | some (c, i) => some ((c : Int), some (i : Int))
set_option maxHeartbeats 1000000 in
theorem check_any (a : Option Addr) (n cap : Nat) (l : List Iv) (w : World) (hI : Ivs w a n cap l) (hD : Door w) :
 Calls Tryz.prog 93 #[.slice a n cap] w fun e w' => e = .returned (errVal (errOf (ck l))) ∧ Below w.heap.size w w' := by
 have HD := Lib.hid hD; clear hD
 have HI := Lib.hid hI
 have Hl := Lib.hid hI.len
 have hm : n ≤ 9223372036854775807 := Nat.le_trans hI.room hI.most
 clear hI
 go_enter Tryz.func93, Tryz.ntmps93
 go_wp2
 go_loopw [3, 4, 5, 8] (fun _ _ _ i wr => ∃ k : Nat, k ≤ n ∧ i = .int .i64 k ∧ Below w.heap.size w wr ∧ Hid (∀ j, j < k → ckAt l j = none)) (fun _ _ _ i _ => n - (intOf i).toNat)
 case atStart => exact ⟨0, by omega, rfl, Below.refl _ _, fun j h => by omega⟩
 case round =>
  obtain ⟨k, hk, rfl, hb, ht⟩ := hrel
  have Hb := Lib.hid hb; clear hb
  by_cases hkn : k < n
  · obtain ⟨bb, oo, rfl, hcell⟩ := (HI.out.below Hb.out).cells (by omega)
    obtain ⟨hc1, hc2⟩ := hcell k hkn
    have Hcell := Lib.hid hcell; clear hcell
    have Hlt := Lib.hid (HI.out.lt (nthI l k) (nthI_mem (by rw [Hl.out]; exact hkn)))
    have hin : ckAt l k = if (nthI l k).2 < (nthI l k).1 then some (2, k) else if 0 < k ∧ relB (nthI l (k - 1)) (nthI l k) ≠ 0 then some (3, k) else none := rfl
    generalize hs : nthI l k = s at *
    have Hs := Lib.hid hs; clear hs
    by_cases h2 : s.2 < s.1
    · rw [if_pos h2] at hin
      have Hr := Lib.hid (show ck l = some (2, k) from firstS_some (by rw [Hl.out]; exact hkn) ht.out hin)
      clear hin
      have hC := Lib.hid (fun w => spanCheck_any s w)
      rw [if_pos h2] at hC
      clear h2
      go_wp2_with fail
      refine (hC.out _).mono ?_
      rintro e w1 ⟨rfl, hb1⟩
      have Hb1 := Lib.hid ((Hb.out.alloc Hb.out.size _).trans (hb1.mono (Below.size (Hb.out.alloc Hb.out.size _)))); clear hb1
      simp only [errVal]
      go_wp2_with fail
      refine (code_any (some (2, none)) _ (HD.out.below (Nat.le_refl _) Hb1.out)).mono ?_
      rintro e w2 ⟨rfl, hb2⟩
      have Hb2 := Lib.hid (Hb1.out.trans (hb2.mono Hb1.out.size)); clear hb2
      simp only [errCode]
      go_wp2_with fail
      refine (new_any 2 k _).mono ?_
      rintro e w3 ⟨rfl, rfl⟩
      go_wp2_with fail
      go_ret
      exact ⟨by rw [Hr.out]; rfl, Hb2.out⟩
    · rw [if_neg h2] at hin
      have hC := Lib.hid (fun w => spanCheck_any s w)
      rw [if_neg h2] at hC
      clear h2
      by_cases hk0 : 0 < k
      · obtain ⟨hp1, hp2⟩ := Hcell.out (k - 1) (by omega)
        have Hpl := Lib.hid (HI.out.lt (nthI l (k - 1)) (nthI_mem (by rw [Hl.out]; omega)))
        generalize hp : nthI l (k - 1) = p at *
        have Hp := Lib.hid hp; clear hp
        have hR := Lib.hid (fun w => relate_any p s w Hpl.out Hlt.out)
        have hg : decide (0 < (k : Int)) = true := by rw [decide_eq_true_iff]; omega
        have hsub : IntKind.i64.wrap ((k : Int) - 1) = (k : Int) - 1 := by rw [IntKind.wrap_i64]; omega
        have h01 : 0 ≤ (k : Int) - 1 := by omega
        have h02 : ((k : Int) - 1).toNat = k - 1 := by omega
        have h03 : (k : Int) - 1 < (n : Int) := by omega
        have Hin := Lib.hid hin; clear hin
        go_wp2_with fail
        refine (hC.out _).mono ?_
        rintro e w1 ⟨rfl, hb1⟩
        have Hbb := Lib.hid ((Below.refl _ _).alloc (Nat.le_refl _) (.cells #[.int .u64 s.1, .int .u64 s.2] 73) |>.trans (hb1.mono (by simp)))
        have hz1 := hb1.size
        have hq1 := (Hbb.out.cell (p := ⟨bb, oo + (k - 1) * 2, none⟩) (cell_lt hp1)).trans hp1
        have hq2 := (Hbb.out.cell (p := ⟨bb, oo + (k - 1) * 2 + 1, none⟩) (cell_lt hp2)).trans hp2
        have hq3 := hb1.cell (p := ⟨wr.heap.size, 0, none⟩) (by simp)
        have hq4 := hb1.cell (p := ⟨wr.heap.size, 1, none⟩) (by simp)
        simp only [World.cell?_alloc_mark] at hq3 hq4
        simp at hq3 hq4
        have Hb1 := Lib.hid (Hb.out.trans (Hbb.out.mono Hb.out.size)); clear hb1
        simp only [errVal]
        clear hp1 hp2 hc1 hc2
        go_wp2_with fail
        refine wp_region_below (by kernel_rfl) (by kernel_rfl) ?_
        repeat (go_big_quiet_step ((intro hw; first
         | rfl
         | (go_at_call 80; exact keep_below hw (hR.out _))
         | (have q1 := (hw.cell (p := ⟨bb, oo + (k - 1) * 2, none⟩) (cell_lt hq1)).trans hq1
            have q2 := (hw.cell (p := ⟨bb, oo + (k - 1) * 2 + 1, none⟩) (cell_lt hq2)).trans hq2
            have q3 := (hw.cell (p := ⟨wr.heap.size, 0, none⟩) (cell_lt hq3)).trans hq3
            have q4 := (hw.cell (p := ⟨wr.heap.size, 1, none⟩) (cell_lt hq4)).trans hq4
            go_simp
            first | rfl | exact ⟨rfl, hw⟩ | (trace_state; fail)))))
        refine wpQuiet_nil ?_
        intro w3 hb3
        have Hb3 := Lib.hid (Hb1.out.trans (hb3.mono Hb1.out.size)); clear hb3
        clear hq1 hq2 hq3 hq4 h01 h02 h03 hsub hg hz1
        have Hkn := Lib.hid hkn
        by_cases hr0 : relB p s = 0
        · have Hr := Lib.hid (show ckAt l k = none from by rw [Hin.out, if_neg (by intro h; exact h.2 hr0)])
          rw [hr0]
          clear hr0
          go_wp2
          go_roundw
          case rel => exact ⟨k + 1, by omega, by go_num, Hb3.out, fun j hj => by
           rcases Nat.lt_or_ge j k with h | h
           · exact ht.out j h
           · rw [show j = k from (by omega)]; exact Hr.out⟩
          case measure => simp [intOf]; omega
        · have Hr := Lib.hid (show ck l = some (3, k) from firstS_some (by rw [Hl.out]; exact hkn) ht.out (by rw [Hin.out, if_pos ⟨hk0, hr0⟩]))
          have hne : (((relB p s : Nat) : Int) != 0) = true := by rw [bne_iff_ne]; omega
          generalize relB p s = r at *
          clear hr0
          go_wp2_with fail
          refine (new_any 3 k _).mono ?_
          rintro e w3 ⟨rfl, rfl⟩
          go_wp2_with fail
          go_ret
          exact ⟨by rw [Hr.out]; rfl, Hb3.out⟩
      · obtain rfl : k = 0 := by omega
        have Hr := Lib.hid (show ckAt l 0 = none from by rw [hin, if_neg (by omega)])
        clear hin hk0
        simp only [Nat.zero_mul, Nat.add_zero] at hc1 hc2
        rw [show ((0 : Nat) : Int) = 0 from rfl]
        go_wp2_with fail
        refine (hC.out _).mono ?_
        rintro e w1 ⟨rfl, hb1⟩
        have Hb1 := Lib.hid ((Hb.out.alloc Hb.out.size _).trans (hb1.mono (Below.size (Hb.out.alloc Hb.out.size _)))); clear hb1
        simp only [errVal]
        go_wp2_with fail
        refine wp_region_below (by kernel_rfl) (by kernel_rfl) ?_
        repeat (go_big_quiet_step ((intro hw; first | rfl | (trace_state; fail))))
        refine wpQuiet_nil ?_
        intro w3 hb3
        have Hb3 := Lib.hid (Hb1.out.trans (hb3.mono Hb1.out.size)); clear hb3
        go_wp2
        go_roundw
        case rel => exact ⟨1, by omega, by go_num, Hb3.out, fun j hj => by rw [show j = 0 from (by omega)]; exact Hr.out⟩
        case measure => simp [intOf]; omega
  · obtain rfl : k = n := by omega
    go_wp2
    go_ret
    exact ⟨by rw [show ck l = none from firstS_none (by rw [Hl.out]; exact ht.out)]; rfl, Hb.out⟩
theorem refRight3_any (s : Iv) (w : World) :
 Calls Tryz.prog 98 #[ivV s] w fun e w' => e = .returned (.bool (decide (s.1 ≤ s.2))) ∧ Below w.heap.size w w' := by
 obtain ⟨a, b⟩ := s
 have hd : decide ((a : Int) ≤ (b : Int)) = decide (a ≤ b) := by simp
 go_enter Tryz.func98, Tryz.ntmps98
 go_wp2
 go_ret
 exact ⟨ret_bool rfl, (Below.refl _ _).alloc (Nat.le_refl _) _⟩
theorem refHas3_any (s : Iv) (x : Nat) (w : World) :
 Calls Tryz.prog 76 #[ivV s, .int .u64 x] w fun e w' => e = .returned (.bool (decide (s.1 ≤ x) && decide (x ≤ s.2))) ∧ Below w.heap.size w w' := by
 obtain ⟨a, b⟩ := s
 have hb := (Below.refl w.heap.size w).alloc (Nat.le_refl _) (.cells #[.int .u64 a, .int .u64 b] 73)
 by_cases h1 : a ≤ x
 · by_cases h2 : x ≤ b
   · have Hr := Lib.hid (show (decide (a ≤ x) && decide (x ≤ b)) = true from by simp [h1, h2])
     go_enter Tryz.func76, Tryz.ntmps76
     go_wp2
     go_ret
     exact ⟨ret_bool Hr.out.symm, hb⟩
   · have Hr := Lib.hid (show (decide (a ≤ x) && decide (x ≤ b)) = false from by simp [h2])
     go_enter Tryz.func76, Tryz.ntmps76
     go_wp2
     go_ret
     exact ⟨ret_bool Hr.out.symm, hb⟩
 · have Hr := Lib.hid (show (decide (a ≤ x) && decide (x ≤ b)) = false from by simp [h1])
   go_enter Tryz.func76, Tryz.ntmps76
   go_wp2
   go_ret
   exact ⟨ret_bool Hr.out.symm, hb⟩
def relR (a b : Iv) : Nat := if a.2 < b.1 then (if b.1 - a.2 = 1 then 1 else 0) else if b.2 < a.1 then (if a.1 - b.2 = 1 then 3 else 4) else 2
theorem relR_eq {a b : Iv} (ha : a.1 ≤ a.2) (hb : b.1 ≤ b.2) : relB a b = relR a b := by
 unfold relB relR
 repeat' split
 all_goals omega
theorem refRelate_any (a b : Iv) (w : World) (ha : a.1 < 18446744073709551616 ∧ a.2 < 18446744073709551616) (hb : b.1 < 18446744073709551616 ∧ b.2 < 18446744073709551616) :
 Calls Tryz.prog 99 #[ivV a, ivV b] w fun e w' => e = .returned (.int .i64 ((relR a b : Nat) : Int)) ∧ Below w.heap.size w w' := by
 obtain ⟨x, y⟩ := a
 obtain ⟨z, u⟩ := b
 have hz := hb.1
 have hx := ha.1
 clear ha hb
 simp only at hx hz
 have hw : Below w.heap.size w ((w.alloc (.cells #[.int .u64 x, .int .u64 y] 73)).alloc (.cells #[.int .u64 z, .int .u64 u] 73)) :=
  ((Below.refl _ _).alloc (Nat.le_refl _) _).alloc (by simp) _
 by_cases h1 : y < z
 · have e1 : IntKind.u64.wrap ((z : Int) - (y : Int)) = ((z - y : Nat) : Int) := by rw [IntKind.wrap_u64]; omega
   by_cases g : z - y = 1
   · have Hr := Lib.hid (show relR (x, y) (z, u) = 1 from by simp [relR, h1, g])
     rw [g] at e1
     clear g hx hz
     generalize relR (x, y) (z, u) = r at *
     go_enter Tryz.func99, Tryz.ntmps99
     go_wp2
     go_ret
     exact ⟨ret_int (by rw [Hr.out]; rfl), hw⟩
   · have Hr := Lib.hid (show relR (x, y) (z, u) = 0 from by simp [relR, h1, g])
     have hne : (((z - y : Nat) : Int) == 1) = false := by rw [beq_eq_false_iff_ne]; omega
     clear g hx hz
     generalize relR (x, y) (z, u) = r at *
     generalize z - y = d at *
     go_enter Tryz.func99, Tryz.ntmps99
     go_wp2
     go_ret
     exact ⟨ret_int (by rw [Hr.out]; rfl), hw⟩
 · by_cases h2 : u < x
   · have e1 : IntKind.u64.wrap ((x : Int) - (u : Int)) = ((x - u : Nat) : Int) := by rw [IntKind.wrap_u64]; omega
     by_cases g : x - u = 1
     · have Hr := Lib.hid (show relR (x, y) (z, u) = 3 from by simp [relR, h1, h2, g])
       rw [g] at e1
       clear g hx hz
       generalize relR (x, y) (z, u) = r at *
       go_enter Tryz.func99, Tryz.ntmps99
       go_wp2
       go_ret
       exact ⟨ret_int (by rw [Hr.out]; rfl), hw⟩
     · have Hr := Lib.hid (show relR (x, y) (z, u) = 4 from by simp [relR, h1, h2, g])
       have hne : (((x - u : Nat) : Int) == 1) = false := by rw [beq_eq_false_iff_ne]; omega
       clear g hx hz
       generalize relR (x, y) (z, u) = r at *
       generalize x - u = d at *
       go_enter Tryz.func99, Tryz.ntmps99
       go_wp2
       go_ret
       exact ⟨ret_int (by rw [Hr.out]; rfl), hw⟩
   · have Hr := Lib.hid (show relR (x, y) (z, u) = 2 from by simp [relR, h1, h2])
     clear hx hz
     generalize relR (x, y) (z, u) = r at *
     go_enter Tryz.func99, Tryz.ntmps99
     go_wp2
     go_ret
     exact ⟨ret_int (by rw [Hr.out]; rfl), hw⟩
set_option maxHeartbeats 1000000 in
theorem refHas_any (a : Option Addr) (n cap x : Nat) (l : List Iv) (w : World) (hI : Ivs w a n cap l) :
 Calls Tryz.prog 45 #[.slice a n cap, .int .u64 x] w fun e w' => e = .returned (.bool (mem l x)) ∧ Below w.heap.size w w' := by
 have HI := Lib.hid hI
 have Hl := Lib.hid hI.len
 have hm : n ≤ 9223372036854775807 := Nat.le_trans hI.room hI.most
 clear hI
 go_enter Tryz.func45, Tryz.ntmps45
 go_wp2
 go_loopw [5] (fun i wr => ∃ k : Nat, k ≤ n ∧ i = .int .i64 k ∧ Below w.heap.size w wr ∧ Hid (mem (l.take k) x = false)) (fun i _ => n - (intOf i).toNat)
 case atStart => exact ⟨0, by omega, rfl, Below.refl _ _, rfl⟩
 case round =>
  obtain ⟨k, hk, rfl, hb, ht⟩ := hrel
  have Hb := Lib.hid hb; clear hb
  by_cases hkn : k < n
  · obtain ⟨bb, oo, rfl, hcell⟩ := (HI.out.below Hb.out).cells (by omega)
    obtain ⟨hc1, hc2⟩ := hcell k hkn
    clear hcell
    have hkl : k < l.length := by rw [Hl.out]; exact hkn
    have Htk := Lib.hid (show l.take (k + 1) = l.take k ++ [nthI l k] from by rw [List.take_succ_eq_append_getElem hkl, nthI_get hkl])
    have Hsm := Lib.hid (nthI_mem hkl)
    clear hkl
    have hC := Lib.hid (fun w => refHas3_any (nthI l k) x w)
    generalize nthI l k = s at *
    cases hx : (decide (s.1 ≤ x) && decide (x ≤ s.2)) with
    | true =>
     have Hr := Lib.hid (show mem l x = true from mem_iff.2 ⟨s, Hsm.out, by simpa using hx⟩)
     rw [hx] at hC
     clear hx
     go_wp2_with fail
     refine (hC.out _).mono ?_
     rintro e w1 ⟨rfl, hb1⟩
     go_wp2_with fail
     go_ret
     exact ⟨ret_bool Hr.out.symm, Hb.out.trans (hb1.mono Hb.out.size)⟩
    | false =>
     have Hr := Lib.hid (show mem (l.take (k + 1)) x = false from by rw [Htk.out, mem_append, ht.out, mem_cons, hx]; rfl)
     rw [hx] at hC
     clear hx
     go_wp2_with fail
     refine (hC.out _).mono ?_
     rintro e w1 ⟨rfl, hb1⟩
     have Hb1 := Lib.hid (Hb.out.trans (hb1.mono Hb.out.size)); clear hb1
     go_wp2_with fail
     go_roundw
     case rel => exact ⟨k + 1, by omega, by go_num, Hb1.out, Hr.out⟩
     case measure => simp [intOf]; omega
  · obtain rfl : k = n := by omega
    have Hr := Lib.hid (show mem l x = false from by have := ht.out; rw [List.take_of_length_le (by rw [Hl.out]; exact Nat.le_refl _)] at this; exact this)
    go_wp2
    go_ret
    exact ⟨ret_bool Hr.out.symm, Hb.out⟩
def ckRAt (l : List Iv) (i : Nat) : Option (Nat × Nat) :=
 if (nthI l i).2 < (nthI l i).1 then some (2, i) else if 0 < i ∧ relR (nthI l (i - 1)) (nthI l i) ≠ 0 then some (3, i) else none
theorem ckRAt_eq {l : List Iv} {i : Nat} (h : 0 < i → ckAt l (i - 1) = none) : ckRAt l i = ckAt l i := by
 unfold ckRAt ckAt
 by_cases h1 : (nthI l i).2 < (nthI l i).1
 · rw [if_pos h1, if_pos h1]
 · rw [if_neg h1, if_neg h1]
   by_cases h2 : 0 < i
   · have h3 := h h2
     unfold ckAt at h3
     have h4 : ¬ (nthI l (i - 1)).2 < (nthI l (i - 1)).1 := by intro h5; rw [if_pos h5] at h3; cases h3
     rw [relR_eq (by omega) (by omega)]
   · rw [if_neg (by omega), if_neg (by omega)]
theorem ck_some {l : List Iv} {k : Nat} {x : Nat × Nat} (hk : k < l.length) (h : ∀ j, j < k → ckRAt l j = none) (hx : ckRAt l k = some x) : ck l = some x := by
 have h' : ∀ j, j < k → ckAt l j = none := by
  intro j
  induction j with
  | zero => intro hj; rw [← ckRAt_eq (by omega)]; exact h 0 hj
  | succ j ih => intro hj; rw [← ckRAt_eq (fun _ => by simpa using ih (by omega))]; exact h (j + 1) hj
 refine firstS_some hk h' ?_
 rw [← hx]
 exact (ckRAt_eq fun hk => h' (k - 1) (by omega)).symm
theorem ck_none {l : List Iv} (h : ∀ j, j < l.length → ckRAt l j = none) : ck l = none := by
 refine firstS_none fun j => ?_
 induction j with
 | zero => intro hj; rw [← ckRAt_eq (by omega)]; exact h 0 hj
 | succ j ih => intro hj; rw [← ckRAt_eq (fun _ => by simpa using ih (by omega))]; exact h (j + 1) hj
set_option maxHeartbeats 1000000 in
theorem refCheck_any (a : Option Addr) (n cap : Nat) (l : List Iv) (w : World) (hI : Ivs w a n cap l) :
 Calls Tryz.prog 63 #[.slice a n cap] w fun e w' => e = .returned (.tuple #[.int .i64 (errCode (errOf (ck l))), .int .i64 (errAt (errOf (ck l)))]) ∧ Below w.heap.size w w' := by
 have HI := Lib.hid hI
 have Hl := Lib.hid hI.len
 have hm : n ≤ 9223372036854775807 := Nat.le_trans hI.room hI.most
 clear hI
 go_enter Tryz.func63, Tryz.ntmps63
 go_wp2
 go_loopw [4] (fun i wr => ∃ k : Nat, k ≤ n ∧ i = .int .i64 k ∧ Below w.heap.size w wr ∧ Hid (∀ j, j < k → ckRAt l j = none)) (fun i _ => n - (intOf i).toNat)
 case atStart => exact ⟨0, by omega, rfl, Below.refl _ _, fun j h => by omega⟩
 case round =>
  obtain ⟨k, hk, rfl, hb, ht⟩ := hrel
  have Hb := Lib.hid hb; clear hb
  by_cases hkn : k < n
  · obtain ⟨bb, oo, rfl, hcell⟩ := (HI.out.below Hb.out).cells (by omega)
    obtain ⟨hc1, hc2⟩ := hcell k hkn
    have Hcell := Lib.hid hcell; clear hcell
    have Hlt := Lib.hid (HI.out.lt (nthI l k) (nthI_mem (by rw [Hl.out]; exact hkn)))
    have hin : ckRAt l k = if (nthI l k).2 < (nthI l k).1 then some (2, k) else if 0 < k ∧ relR (nthI l (k - 1)) (nthI l k) ≠ 0 then some (3, k) else none := rfl
    generalize hs : nthI l k = s at *
    have Hs := Lib.hid hs; clear hs
    have hC := Lib.hid (fun w => refRight3_any s w)
    by_cases h2 : s.2 < s.1
    · rw [if_pos h2] at hin
      have Hr := Lib.hid (show ck l = some (2, k) from ck_some (by rw [Hl.out]; exact hkn) ht.out hin)
      clear hin
      rw [decide_eq_false (by omega : ¬ s.1 ≤ s.2)] at hC
      clear h2
      go_wp2_with fail
      refine (hC.out _).mono ?_
      rintro e w1 ⟨rfl, hb1⟩
      have Hb1 := Lib.hid (Hb.out.trans (hb1.mono Hb.out.size)); clear hb1
      go_wp2_with fail
      go_ret2
      exact ⟨by rw [Hr.out]; rfl, Hb1.out⟩
    · rw [if_neg h2] at hin
      rw [decide_eq_true (by omega : s.1 ≤ s.2)] at hC
      clear h2
      by_cases hk0 : 0 < k
      · obtain ⟨hp1, hp2⟩ := Hcell.out (k - 1) (by omega)
        have Hpl := Lib.hid (HI.out.lt (nthI l (k - 1)) (nthI_mem (by rw [Hl.out]; omega)))
        generalize hp : nthI l (k - 1) = p at *
        have Hp := Lib.hid hp; clear hp
        have hR := Lib.hid (fun w => refRelate_any p s w Hpl.out Hlt.out)
        have hg : decide (0 < (k : Int)) = true := by rw [decide_eq_true_iff]; omega
        have hsub : IntKind.i64.wrap ((k : Int) - 1) = (k : Int) - 1 := by rw [IntKind.wrap_i64]; omega
        have h01 : 0 ≤ (k : Int) - 1 := by omega
        have h02 : ((k : Int) - 1).toNat = k - 1 := by omega
        have h03 : (k : Int) - 1 < (n : Int) := by omega
        have h04 : (k : Int) < (n : Int) := by omega
        have Hin := Lib.hid hin; clear hin
        go_wp2_with fail
        refine (hC.out _).mono ?_
        rintro e w1 ⟨rfl, hb1⟩
        have hq1 := (hb1.cell (p := ⟨bb, oo + (k - 1) * 2, none⟩) (cell_lt hp1)).trans hp1
        have hq2 := (hb1.cell (p := ⟨bb, oo + (k - 1) * 2 + 1, none⟩) (cell_lt hp2)).trans hp2
        have hq3 := (hb1.cell (p := ⟨bb, oo + k * 2, none⟩) (cell_lt hc1)).trans hc1
        have hq4 := (hb1.cell (p := ⟨bb, oo + k * 2 + 1, none⟩) (cell_lt hc2)).trans hc2
        have Hb1 := Lib.hid (Hb.out.trans (hb1.mono Hb.out.size)); clear hb1
        clear hp1 hp2 hc1 hc2
        go_wp2_with fail
        refine wp_region_below (by kernel_rfl) (by kernel_rfl) ?_
        repeat (go_big_quiet_step ((intro hw; first
         | rfl
         | (go_at_call 99; exact keep_below hw (hR.out _))
         | (have q1 := (hw.cell (p := ⟨bb, oo + (k - 1) * 2, none⟩) (cell_lt hq1)).trans hq1
            have q2 := (hw.cell (p := ⟨bb, oo + (k - 1) * 2 + 1, none⟩) (cell_lt hq2)).trans hq2
            have q3 := (hw.cell (p := ⟨bb, oo + k * 2, none⟩) (cell_lt hq3)).trans hq3
            have q4 := (hw.cell (p := ⟨bb, oo + k * 2 + 1, none⟩) (cell_lt hq4)).trans hq4
            go_simp
            first | rfl | exact ⟨rfl, hw⟩))))
        refine wpQuiet_nil ?_
        intro w3 hb3
        have Hb3 := Lib.hid (Hb1.out.trans (hb3.mono Hb1.out.size)); clear hb3
        clear hq1 hq2 hq3 hq4 h01 h02 h03 h04 hsub hg
        have Hkn := Lib.hid hkn
        by_cases hr0 : relR p s = 0
        · have Hr := Lib.hid (show ckRAt l k = none from by rw [Hin.out, if_neg (by intro h; exact h.2 hr0)])
          rw [hr0]
          clear hr0
          go_wp2
          go_roundw
          case rel => exact ⟨k + 1, by omega, by go_num, Hb3.out, fun j hj => by
           rcases Nat.lt_or_ge j k with h | h
           · exact ht.out j h
           · rw [show j = k from (by omega)]; exact Hr.out⟩
          case measure => simp [intOf]; omega
        · have Hr := Lib.hid (show ck l = some (3, k) from ck_some (by rw [Hl.out]; exact hkn) ht.out (by rw [Hin.out, if_pos ⟨hk0, hr0⟩]))
          have hne : (((relR p s : Nat) : Int) != 0) = true := by rw [bne_iff_ne]; omega
          generalize relR p s = r at *
          clear hr0
          go_wp2_with fail
          go_ret2
          exact ⟨by rw [Hr.out]; rfl, Hb3.out⟩
      · obtain rfl : k = 0 := by omega
        have Hr := Lib.hid (show ckRAt l 0 = none from by rw [hin, if_neg (by omega)])
        clear hin hk0
        simp only [Nat.zero_mul, Nat.add_zero] at hc1 hc2
        rw [show ((0 : Nat) : Int) = 0 from rfl]
        go_wp2_with fail
        refine (hC.out _).mono ?_
        rintro e w1 ⟨rfl, hb1⟩
        have Hb1 := Lib.hid (Hb.out.trans (hb1.mono Hb.out.size)); clear hb1
        go_wp2_with fail
        refine wp_region_below (by kernel_rfl) (by kernel_rfl) ?_
        repeat (go_big_quiet_step ((intro hw; rfl)))
        refine wpQuiet_nil ?_
        intro w3 hb3
        have Hb3 := Lib.hid (Hb1.out.trans (hb3.mono Hb1.out.size)); clear hb3
        go_wp2
        go_roundw
        case rel => exact ⟨1, by omega, by go_num, Hb3.out, fun j hj => by rw [show j = 0 from (by omega)]; exact Hr.out⟩
        case measure => simp [intOf]; omega
  · obtain rfl : k = n := by omega
    go_wp2
    go_ret2
    exact ⟨by rw [show ck l = none from ck_none (by rw [Hl.out]; exact ht.out)]; rfl, Hb.out⟩
end
section
theorem good_of_idx : ∀ {l : List Iv}, (∀ i, i < l.length → (nthI l i).1 ≤ (nthI l i).2 ∧ (0 < i → (nthI l (i - 1)).2 + 1 < (nthI l i).1)) → Good l
 | [], _ => trivial
 | [s], h => (h 0 (by simp)).1
 | s :: t :: l, h => by
   have h0 := (h 0 (by simp)).1
   have h1 := (h 1 (by simp)).2 (by omega)
   refine ⟨h0, h1, good_of_idx fun i hi => ?_⟩
   have := h (i + 1) (by simpa using hi)
   refine ⟨this.1, fun hi0 => ?_⟩
   obtain ⟨j, rfl⟩ : ∃ j, i = j + 1 := ⟨i - 1, by omega⟩
   exact this.2 (by omega)
theorem good_idx : ∀ {l : List Iv}, Good l → ∀ i, i < l.length → (nthI l i).1 ≤ (nthI l i).2 ∧ (0 < i → (nthI l (i - 1)).2 + 1 < (nthI l i).1)
 | [], _, i, hi => by simp at hi
 | [s], h, i, hi => by
   obtain rfl : i = 0 := by simpa using hi
   exact ⟨h, by omega⟩
 | s :: t :: l, h, i, hi => by
   obtain ⟨h1, h2, h3⟩ := h
   cases i with
   | zero => exact ⟨h1, by omega⟩
   | succ i =>
    have := good_idx h3 i (by simpa using hi)
    refine ⟨this.1, fun _ => ?_⟩
    cases i with
    | zero => exact h2
    | succ i => exact this.2 (by omega)
theorem relB_zero {a b : Iv} (ha : a.1 ≤ a.2) (hb : b.1 ≤ b.2) : relB a b = 0 ↔ a.2 + 1 < b.1 := by
 rw [relR_eq ha hb]
 unfold relR
 repeat' split
 all_goals omega
theorem ck_good {l : List Iv} : ck l = none ↔ Good l := by
 constructor
 · intro h
   have h' := firstS_of_none h
   have ok : ∀ i, i < l.length → (nthI l i).1 ≤ (nthI l i).2 := by
    intro i hi
    have := h' i hi
    unfold ckAt at this
    split at this
    · cases this
    · omega
   refine good_of_idx fun i hi => ⟨ok i hi, fun h0 => ?_⟩
   have := h' i hi
   unfold ckAt at this
   rw [if_neg (by have := ok i hi; omega)] at this
   split at this
   · cases this
   · rename_i h1
     have e : relB (nthI l (i - 1)) (nthI l i) = 0 := by
      refine Classical.byContradiction fun h2 => h1 ⟨h0, h2⟩
     exact (relB_zero (ok (i - 1) (by omega)) (ok i hi)).1 e
 · intro h
   have h' := good_idx h
   refine firstS_none fun i hi => ?_
   unfold ckAt
   rw [if_neg (by have := (h' i hi).1; omega), if_neg]
   rintro ⟨h1, h2⟩
   exact h2 ((relB_zero (h' (i - 1) (by omega)).1 (h' i hi).1).2 ((h' i hi).2 h1))
def bnd (s : Iv) : List Nat := s.1 :: (if s.2 < 18446744073709551615 then [s.2 + 1] else [])
def bnds (l : List Iv) : List Nat := l.flatMap bnd
def allL (ls : List (List Iv)) : List Nat := 0 :: ls.flatMap bnds
theorem bnds_append (a b : List Iv) : bnds (a ++ b) = bnds a ++ bnds b := by simp [bnds]
theorem bnds_len (l : List Iv) : (bnds l).length ≤ l.length * 2 := by
 induction l with
 | nil => simp [bnds]
 | cons s l ih =>
  have : bnds (s :: l) = bnd s ++ bnds l := rfl
  rw [this, List.length_append, List.length_cons]
  have : (bnd s).length ≤ 2 := by unfold bnd; split <;> simp
  omega
def Asc : List Nat → Prop
 | [] => True
 | [_] => True
 | a :: b :: l => a < b ∧ Asc (b :: l)
theorem Asc.tail {a : Nat} {l : List Nat} (h : Asc (a :: l)) : Asc l := by
 cases l with
 | nil => trivial
 | cons b l => exact h.2
theorem Asc.lower : ∀ {a : Nat} {l : List Nat}, Asc (a :: l) → ∀ x ∈ l, a < x
 | a, [], _, x, hx => by simp at hx
 | a, b :: l, h, x, hx => by
   rcases List.mem_cons.1 hx with rfl | hx
   · exact h.1
   · have := Asc.lower h.2 x hx
     have := h.1
     omega
theorem asc_cons {a : Nat} {l : List Nat} (h : ∀ x ∈ l, a < x) (hl : Asc l) : Asc (a :: l) := by
 cases l with
 | nil => trivial
 | cons b l => exact ⟨h b (List.mem_cons_self ..), hl⟩
theorem asc_append : ∀ {a b : List Nat}, Asc a → Asc b → (∀ x ∈ a, ∀ y ∈ b, x < y) → Asc (a ++ b)
 | [], b, _, hb, _ => hb
 | x :: a, b, ha, hb, h => asc_cons (fun y hy => by
     rcases List.mem_append.1 hy with hy | hy
     · exact ha.lower y hy
     · exact h x (List.mem_cons_self ..) y hy) (asc_append ha.tail hb fun z hz y hy => h z (List.mem_cons_of_mem _ hz) y hy)
theorem asc_split : ∀ {a b : List Nat}, Asc (a ++ b) → Asc a ∧ Asc b ∧ ∀ x ∈ a, ∀ y ∈ b, x < y
 | [], b, h => ⟨trivial, h, by simp⟩
 | x :: a, b, h => by
   obtain ⟨h1, h2, h3⟩ := asc_split (a := a) (b := b) h.tail
   refine ⟨asc_cons (fun y hy => h.lower y (by simp [hy])) h1, h2, ?_⟩
   intro z hz y hy
   rcases List.mem_cons.1 hz with rfl | hz
   · exact h.lower y (by simp [hy])
   · exact h3 z hz y hy
theorem asc_get {l : List Nat} (h : Asc l) {i j : Nat} (hij : i < j) (hj : j < l.length) : nth l i < nth l j := by
 have e : l = l.take j ++ l.drop j := (List.take_append_drop j l).symm
 rw [e] at h
 obtain ⟨_, _, h3⟩ := asc_split h
 refine h3 _ ?_ _ ?_
 · have hi : i < l.length := by omega
   have : nth l i = (l.take j)[i]'(by simp; omega) := by simp [nth, hi]
   rw [this]; exact List.getElem_mem _
 · have : nth l j = (l.drop j)[0]'(by simp; omega) := by simp [nth, hj]
   rw [this]; exact List.getElem_mem _
theorem nth_mem {l : List Nat} {i : Nat} (h : i < l.length) : nth l i ∈ l := by
 have : nth l i = l[i] := by simp [nth, h]
 rw [this]; exact List.getElem_mem h
theorem mem_nth {l : List Nat} {x : Nat} (h : x ∈ l) : ∃ i, i < l.length ∧ nth l i = x := by
 obtain ⟨i, hi, rfl⟩ := List.getElem_of_mem h
 exact ⟨i, hi, by simp [nth, hi]⟩
theorem asc_ins {l : List Nat} (h : Asc l) {x k : Nat} (hk : k ≤ l.length) (h1 : 0 < k → nth l (k - 1) < x) (h2 : ∀ t, k ≤ t → t < l.length → x < nth l t) :
 Asc (l.take k ++ x :: l.drop k) ∧ ∀ y, y ∈ l.take k ++ x :: l.drop k ↔ y ∈ l ∨ y = x := by
 have e : l = l.take k ++ l.drop k := (List.take_append_drop k l).symm
 have h' := h
 rw [e] at h'
 obtain ⟨a1, a2, a3⟩ := asc_split h'
 have lo : ∀ y ∈ l.take k, y < x := by
  intro y hy
  obtain ⟨i, hi, rfl⟩ := List.getElem_of_mem hy
  simp at hi
  have hi2 : i < l.length := by omega
  have : (l.take k)[i]'(by simp; omega) = nth l i := by simp [nth, hi2]
  rw [this]
  have h3 := h1 (by omega)
  by_cases e : i = k - 1
  · subst e; exact h3
  · have := asc_get h (i := i) (j := k - 1) (by omega) (by omega)
    omega
 have hi : ∀ y ∈ l.drop k, x < y := by
  intro y hy
  obtain ⟨i, hi, rfl⟩ := List.getElem_of_mem hy
  simp at hi
  have : (l.drop k)[i]'(by simp; omega) = nth l (k + i) := by simp [nth, show k + i < l.length by omega]
  rw [this]
  exact h2 _ (by omega) (by omega)
 refine ⟨asc_append a1 (asc_cons hi a2) ?_, ?_⟩
 · intro y hy z hz
   rcases List.mem_cons.1 hz with rfl | hz
   · exact lo y hy
   · exact a3 y hy z hz
 · intro y
   rw [List.mem_append, List.mem_cons]
   constructor
   · rintro (h | rfl | h)
     · exact .inl (List.mem_of_mem_take h)
     · exact .inr rfl
     · exact .inl (List.mem_of_mem_drop h)
   · rintro (h | rfl)
     · rw [e] at h
       rcases List.mem_append.1 h with h | h
       · exact .inl h
       · exact .inr (.inr h)
     · exact .inr (.inl rfl)
theorem asc_ext : ∀ {l l' : List Nat}, Asc l → Asc l' → (∀ x, x ∈ l ↔ x ∈ l') → l = l'
 | [], [], _, _, _ => rfl
 | [], b :: l', _, _, h => by have := (h b).2 (List.mem_cons_self ..); simp at this
 | a :: l, [], _, _, h => by have := (h a).1 (List.mem_cons_self ..); simp at this
 | a :: l, b :: l', h1, h2, h => by
   have e : a = b := by
    have ha := (h a).1 (List.mem_cons_self ..)
    have hb := (h b).2 (List.mem_cons_self ..)
    rcases List.mem_cons.1 ha with e | ha
    · exact e
    · rcases List.mem_cons.1 hb with e | hb
      · exact e.symm
      · have := h2.lower a ha
        have := h1.lower b hb
        omega
   subst e
   congr 1
   refine asc_ext h1.tail h2.tail fun x => ?_
   constructor
   · intro hx
     have hlt := h1.lower x hx
     rcases List.mem_cons.1 ((h x).1 (List.mem_cons_of_mem _ hx)) with e | h'
     · omega
     · exact h'
   · intro hx
     have hlt := h2.lower x hx
     rcases List.mem_cons.1 ((h x).2 (List.mem_cons_of_mem _ hx)) with e | h'
     · omega
     · exact h'
theorem asc_len : ∀ {L M : List Nat}, Asc L → (∀ y ∈ L, y ∈ M) → L.length ≤ M.length
 | [], M, _, _ => Nat.zero_le _
 | a :: L, M, h, hm => by
   have h1 := asc_len (L := L) (M := M.erase a) h.tail (fun y hy => by
    have := h.lower y hy
    rw [List.mem_erase_of_ne (by omega)]
    exact hm y (List.mem_cons_of_mem _ hy))
   have h2 := List.length_erase_of_mem (hm a (List.mem_cons_self ..))
   have h3 : 0 < M.length := List.length_pos_of_mem (hm a (List.mem_cons_self ..))
   simp only [List.length_cons]
   omega
end
end Go.Proofs.YtkkdlgcfcbaibaaGreatDoor
