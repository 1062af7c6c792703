/-
  Walk: ranges.Check.
-/
import Derived.Test.YtbiohohclnaocaaGreatDoorRgSpan
namespace Go.Proofs.YtbiohohclnaocaaGreatDoor
open Go.RowKit
set_option linter.unusedVariables false

/-- The first place at which a function has something. -/
def firstS {α : Type} (f : Nat → Option α) (n : Nat) : Option α := (List.range n).findSome? f
theorem firstS_zero {α : Type} (f : Nat → Option α) : firstS f 0 = none := rfl
theorem firstS_some {α : Type} {f : Nat → Option α} {n k : Nat} {x : α} (hk : k < n) (h : ∀ j, j < k → f j = none) (hx : f k = some x) : firstS f n = some x := by
  unfold firstS
  induction n with
  | zero => omega
  | succ n ih =>
    rw [List.range_succ, List.findSome?_append]
    by_cases e : k = n
    · subst e
      have h0 : (List.range k).findSome? f = none := by
        rw [List.findSome?_eq_none_iff]
        intro j hj
        exact h j (by simpa using hj)
      rw [h0]
      simp [hx]
    · rw [ih (by omega)]
      rfl
theorem firstS_none {α : Type} {f : Nat → Option α} {n : Nat} (h : ∀ j, j < n → f j = none) : firstS f n = none := by
  unfold firstS
  rw [List.findSome?_eq_none_iff]
  intro j hj
  exact h j (by simpa using hj)
theorem firstS_of_none {α : Type} {f : Nat → Option α} {n : Nat} (h : firstS f n = none) : ∀ j, j < n → f j = none := by
  unfold firstS at h
  rw [List.findSome?_eq_none_iff] at h
  intro j hj
  exact h j (by simpa using hj)
theorem firstS_of_some {α : Type} {f : Nat → Option α} {n : Nat} {x : α} (h : firstS f n = some x) : ∃ k, k < n ∧ (∀ j, j < k → f j = none) ∧ f k = some x := by
  induction n with
  | zero => cases h
  | succ n ih =>
    unfold firstS at h ih
    rw [List.range_succ, List.findSome?_append] at h
    cases e : (List.range n).findSome? f with
    | some y =>
      rw [e] at h ih
      obtain ⟨k, h1, h2, h3⟩ := ih h
      exact ⟨k, by omega, h2, h3⟩
    | none =>
      rw [e] at h
      refine ⟨n, by omega, firstS_of_none e, ?_⟩
      simpa using h

/-- The error of the interval at a place, if any: its code, the place. -/
def ckAt (l : List Iv) (i : Nat) : Option (Nat × Nat) :=
  if (nthI l i).2 < (nthI l i).1 then some (2, i) else if 0 < i ∧ relB (nthI l (i - 1)) (nthI l i) ≠ 0 then some (3, i) else none

def ck (l : List Iv) : Option (Nat × Nat) := firstS (ckAt l) l.length

def errOf : Option (Nat × Nat) → Err
  | none => none
  | some (c, i) => some ((c : Int), some (i : Int))

set_option maxHeartbeats 1000000 in
theorem check_any (a : Option Addr) (n cap : Nat) (l : List Iv) (w : World) (hI : Ivs w a n cap l) (hD : Door w) :
    Calls Tryz.prog 21 #[.slice a n cap] w fun e w' => e = .returned (errVal (errOf (ck l))) ∧ Below w.heap.size w w' := by
  have HD := Lib.hid hD; clear hD
  have HI := Lib.hid hI
  have Hl := Lib.hid hI.len
  have hm : n ≤ 9223372036854775807 := Nat.le_trans hI.room hI.most
  clear hI
  go_enter Tryz.func21, Tryz.ntmps21
  go_wp2
  go_loopw [3, 4, 5, 8] (fun _ _ _ i wr => ∃ k : Nat, k ≤ n ∧ i = .int .i64 k ∧ Below w.heap.size w wr ∧ Hid (∀ j, j < k → ckAt l j = none)) (fun _ _ _ i _ => n - (intOf i).toNat)
  case atStart => exact ⟨0, by omega, rfl, Below.refl _ _, fun j h => by omega⟩
  case round =>
    obtain ⟨k, hk, rfl, hb, ht⟩ := hrel
    have Hb := Lib.hid hb; clear hb
    by_cases hkn : k < n
    · obtain ⟨bb, oo, rfl, hcell⟩ := (HI.out.below Hb.out).cells (by omega)
      obtain ⟨hc1, hc2⟩ := hcell k hkn
      have Hcell := Lib.hid hcell; clear hcell
      have Hlt := Lib.hid (HI.out.lt (nthI l k) (nthI_mem (by rw [Hl.out]; exact hkn)))
      have hin : ckAt l k = if (nthI l k).2 < (nthI l k).1 then some (2, k) else if 0 < k ∧ relB (nthI l (k - 1)) (nthI l k) ≠ 0 then some (3, k) else none := rfl
      generalize hs : nthI l k = s at *
      have Hs := Lib.hid hs; clear hs
      by_cases h2 : s.2 < s.1
      · rw [if_pos h2] at hin
        have Hr := Lib.hid (show ck l = some (2, k) from firstS_some (by rw [Hl.out]; exact hkn) ht.out hin)
        clear hin
        have hC := Lib.hid (fun w => spanCheck_any s w)
        rw [if_pos h2] at hC
        clear h2
        go_wp2_with fail
        refine (hC.out _).mono ?_
        rintro e w1 ⟨rfl, hb1⟩
        have Hb1 := Lib.hid ((Hb.out.alloc Hb.out.size _).trans (hb1.mono (Below.size (Hb.out.alloc Hb.out.size _)))); clear hb1
        simp only [errVal]
        go_wp2_with fail
        refine (code_any (some (2, none)) _ (HD.out.below (Nat.le_refl _) Hb1.out)).mono ?_
        rintro e w2 ⟨rfl, hb2⟩
        have Hb2 := Lib.hid (Hb1.out.trans (hb2.mono Hb1.out.size)); clear hb2
        simp only [errCode]
        go_wp2_with fail
        refine (new_any 2 k _).mono ?_
        rintro e w3 ⟨rfl, rfl⟩
        go_wp2_with fail
        go_ret
        exact ⟨by rw [Hr.out]; rfl, Hb2.out⟩
      · rw [if_neg h2] at hin
        have hC := Lib.hid (fun w => spanCheck_any s w)
        rw [if_neg h2] at hC
        clear h2
        by_cases hk0 : 0 < k
        · obtain ⟨hp1, hp2⟩ := Hcell.out (k - 1) (by omega)
          have Hpl := Lib.hid (HI.out.lt (nthI l (k - 1)) (nthI_mem (by rw [Hl.out]; omega)))
          generalize hp : nthI l (k - 1) = p at *
          have Hp := Lib.hid hp; clear hp
          have hR := Lib.hid (fun w => relate_any p s w Hpl.out Hlt.out)
          have hg : decide (0 < (k : Int)) = true := by rw [decide_eq_true_iff]; omega
          have hsub : IntKind.i64.wrap ((k : Int) - 1) = (k : Int) - 1 := by rw [IntKind.wrap_i64]; omega
          have h01 : 0 ≤ (k : Int) - 1 := by omega
          have h02 : ((k : Int) - 1).toNat = k - 1 := by omega
          have h03 : (k : Int) - 1 < (n : Int) := by omega
          have Hin := Lib.hid hin; clear hin
          go_wp2_with fail
          refine (hC.out _).mono ?_
          rintro e w1 ⟨rfl, hb1⟩
          have Hbb := Lib.hid ((Below.refl _ _).alloc (Nat.le_refl _) (.cells #[.int .u64 s.1, .int .u64 s.2] 31) |>.trans (hb1.mono (by simp)))
          have hz1 := hb1.size
          have hq1 := (Hbb.out.cell (p := ⟨bb, oo + (k - 1) * 2, none⟩) (cell_lt hp1)).trans hp1
          have hq2 := (Hbb.out.cell (p := ⟨bb, oo + (k - 1) * 2 + 1, none⟩) (cell_lt hp2)).trans hp2
          have hq3 := hb1.cell (p := ⟨wr.heap.size, 0, none⟩) (by simp)
          have hq4 := hb1.cell (p := ⟨wr.heap.size, 1, none⟩) (by simp)
          simp only [World.cell?_alloc_mark] at hq3 hq4
          simp at hq3 hq4
          have Hb1 := Lib.hid (Hb.out.trans (Hbb.out.mono Hb.out.size)); clear hb1
          simp only [errVal]
          clear hp1 hp2 hc1 hc2
          go_wp2_with fail
          refine wp_region_below (by kernel_rfl) (by kernel_rfl) ?_
          repeat (go_big_quiet_step ((intro hw; first
            | rfl
            | (go_at_call 44; exact keep_below hw (hR.out _))
            | (have q1 := (hw.cell (p := ⟨bb, oo + (k - 1) * 2, none⟩) (cell_lt hq1)).trans hq1
               have q2 := (hw.cell (p := ⟨bb, oo + (k - 1) * 2 + 1, none⟩) (cell_lt hq2)).trans hq2
               have q3 := (hw.cell (p := ⟨wr.heap.size, 0, none⟩) (cell_lt hq3)).trans hq3
               have q4 := (hw.cell (p := ⟨wr.heap.size, 1, none⟩) (cell_lt hq4)).trans hq4
               go_simp
               first | rfl | exact ⟨rfl, hw⟩ | (trace_state; fail)))))
          refine wpQuiet_nil ?_
          intro w3 hb3
          have Hb3 := Lib.hid (Hb1.out.trans (hb3.mono Hb1.out.size)); clear hb3
          clear hq1 hq2 hq3 hq4 h01 h02 h03 hsub hg hz1
          have Hkn := Lib.hid hkn
          by_cases hr0 : relB p s = 0
          · have Hr := Lib.hid (show ckAt l k = none from by rw [Hin.out, if_neg (by intro h; exact h.2 hr0)])
            rw [hr0]
            clear hr0
            go_wp2
            go_roundw
            case rel => exact ⟨k + 1, by omega, by go_num, Hb3.out, fun j hj => by
              rcases Nat.lt_or_ge j k with h | h
              · exact ht.out j h
              · rw [show j = k from (by omega)]; exact Hr.out⟩
            case measure => simp [intOf]; omega
          · have Hr := Lib.hid (show ck l = some (3, k) from firstS_some (by rw [Hl.out]; exact hkn) ht.out (by rw [Hin.out, if_pos ⟨hk0, hr0⟩]))
            have hne : (((relB p s : Nat) : Int) != 0) = true := by rw [bne_iff_ne]; omega
            generalize relB p s = r at *
            clear hr0
            go_wp2_with fail
            refine (new_any 3 k _).mono ?_
            rintro e w3 ⟨rfl, rfl⟩
            go_wp2_with fail
            go_ret
            exact ⟨by rw [Hr.out]; rfl, Hb3.out⟩
        · obtain rfl : k = 0 := by omega
          have Hr := Lib.hid (show ckAt l 0 = none from by rw [hin, if_neg (by omega)])
          clear hin hk0
          simp only [Nat.zero_mul, Nat.add_zero] at hc1 hc2
          rw [show ((0 : Nat) : Int) = 0 from rfl]
          go_wp2_with fail
          refine (hC.out _).mono ?_
          rintro e w1 ⟨rfl, hb1⟩
          have Hb1 := Lib.hid ((Hb.out.alloc Hb.out.size _).trans (hb1.mono (Below.size (Hb.out.alloc Hb.out.size _)))); clear hb1
          simp only [errVal]
          go_wp2_with fail
          refine wp_region_below (by kernel_rfl) (by kernel_rfl) ?_
          repeat (go_big_quiet_step ((intro hw; first | rfl | (trace_state; fail))))
          refine wpQuiet_nil ?_
          intro w3 hb3
          have Hb3 := Lib.hid (Hb1.out.trans (hb3.mono Hb1.out.size)); clear hb3
          go_wp2
          go_roundw
          case rel => exact ⟨1, by omega, by go_num, Hb3.out, fun j hj => by rw [show j = 0 from (by omega)]; exact Hr.out⟩
          case measure => simp [intOf]; omega
    · obtain rfl : k = n := by omega
      go_wp2
      go_ret
      exact ⟨by rw [show ck l = none from firstS_none (by rw [Hl.out]; exact ht.out)]; rfl, Hb.out⟩

end Go.Proofs.YtbiohohclnaocaaGreatDoor
