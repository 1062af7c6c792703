/-
  Walks: kenningref04.Check, Right, Same.
-/
import Derived.Test.YtbiohohclnaocaaGreatDoorRgRef
namespace Go.Proofs.YtbiohohclnaocaaGreatDoor
open Go.RowKit
set_option linter.unusedVariables false

def ckRAt (l : List Iv) (i : Nat) : Option (Nat × Nat) :=
  if (nthI l i).2 < (nthI l i).1 then some (2, i) else if 0 < i ∧ relR (nthI l (i - 1)) (nthI l i) ≠ 0 then some (3, i) else none

theorem ckRAt_eq {l : List Iv} {i : Nat} (h : 0 < i → ckAt l (i - 1) = none) : ckRAt l i = ckAt l i := by
  unfold ckRAt ckAt
  by_cases h1 : (nthI l i).2 < (nthI l i).1
  · rw [if_pos h1, if_pos h1]
  · rw [if_neg h1, if_neg h1]
    by_cases h2 : 0 < i
    · have h3 := h h2
      unfold ckAt at h3
      have h4 : ¬ (nthI l (i - 1)).2 < (nthI l (i - 1)).1 := by intro h5; rw [if_pos h5] at h3; cases h3
      rw [relR_eq (by omega) (by omega)]
    · rw [if_neg (by omega), if_neg (by omega)]

theorem ck_some {l : List Iv} {k : Nat} {x : Nat × Nat} (hk : k < l.length) (h : ∀ j, j < k → ckRAt l j = none) (hx : ckRAt l k = some x) : ck l = some x := by
  have h' : ∀ j, j < k → ckAt l j = none := by
    intro j
    induction j with
    | zero => intro hj; rw [← ckRAt_eq (by omega)]; exact h 0 hj
    | succ j ih => intro hj; rw [← ckRAt_eq (fun _ => by simpa using ih (by omega))]; exact h (j + 1) hj
  refine firstS_some hk h' ?_
  rw [← hx]
  exact (ckRAt_eq fun hk => h' (k - 1) (by omega)).symm

theorem ck_none {l : List Iv} (h : ∀ j, j < l.length → ckRAt l j = none) : ck l = none := by
  refine firstS_none fun j => ?_
  induction j with
  | zero => intro hj; rw [← ckRAt_eq (by omega)]; exact h 0 hj
  | succ j ih => intro hj; rw [← ckRAt_eq (fun _ => by simpa using ih (by omega))]; exact h (j + 1) hj

set_option maxHeartbeats 1000000 in
theorem refCheck_any (a : Option Addr) (n cap : Nat) (l : List Iv) (w : World) (hI : Ivs w a n cap l) :
    Calls Tryz.prog 22 #[.slice a n cap] w fun e w' => e = .returned (.tuple #[.int .i64 (errCode (errOf (ck l))), .int .i64 (errAt (errOf (ck l)))]) ∧ Below w.heap.size w w' := by
  have HI := Lib.hid hI
  have Hl := Lib.hid hI.len
  have hm : n ≤ 9223372036854775807 := Nat.le_trans hI.room hI.most
  clear hI
  go_enter Tryz.func22, Tryz.ntmps22
  go_wp2
  go_loopw [4] (fun i wr => ∃ k : Nat, k ≤ n ∧ i = .int .i64 k ∧ Below w.heap.size w wr ∧ Hid (∀ j, j < k → ckRAt l j = none)) (fun i _ => n - (intOf i).toNat)
  case atStart => exact ⟨0, by omega, rfl, Below.refl _ _, fun j h => by omega⟩
  case round =>
    obtain ⟨k, hk, rfl, hb, ht⟩ := hrel
    have Hb := Lib.hid hb; clear hb
    by_cases hkn : k < n
    · obtain ⟨bb, oo, rfl, hcell⟩ := (HI.out.below Hb.out).cells (by omega)
      obtain ⟨hc1, hc2⟩ := hcell k hkn
      have Hcell := Lib.hid hcell; clear hcell
      have Hlt := Lib.hid (HI.out.lt (nthI l k) (nthI_mem (by rw [Hl.out]; exact hkn)))
      have hin : ckRAt l k = if (nthI l k).2 < (nthI l k).1 then some (2, k) else if 0 < k ∧ relR (nthI l (k - 1)) (nthI l k) ≠ 0 then some (3, k) else none := rfl
      generalize hs : nthI l k = s at *
      have Hs := Lib.hid hs; clear hs
      have hC := Lib.hid (fun w => refRight3_any s w)
      by_cases h2 : s.2 < s.1
      · rw [if_pos h2] at hin
        have Hr := Lib.hid (show ck l = some (2, k) from ck_some (by rw [Hl.out]; exact hkn) ht.out hin)
        clear hin
        rw [decide_eq_false (by omega : ¬ s.1 ≤ s.2)] at hC
        clear h2
        go_wp2_with fail
        refine (hC.out _).mono ?_
        rintro e w1 ⟨rfl, hb1⟩
        have Hb1 := Lib.hid (Hb.out.trans (hb1.mono Hb.out.size)); clear hb1
        go_wp2_with fail
        go_ret2
        exact ⟨by rw [Hr.out]; rfl, Hb1.out⟩
      · rw [if_neg h2] at hin
        rw [decide_eq_true (by omega : s.1 ≤ s.2)] at hC
        clear h2
        by_cases hk0 : 0 < k
        · obtain ⟨hp1, hp2⟩ := Hcell.out (k - 1) (by omega)
          have Hpl := Lib.hid (HI.out.lt (nthI l (k - 1)) (nthI_mem (by rw [Hl.out]; omega)))
          generalize hp : nthI l (k - 1) = p at *
          have Hp := Lib.hid hp; clear hp
          have hR := Lib.hid (fun w => refRelate_any p s w Hpl.out Hlt.out)
          have hg : decide (0 < (k : Int)) = true := by rw [decide_eq_true_iff]; omega
          have hsub : IntKind.i64.wrap ((k : Int) - 1) = (k : Int) - 1 := by rw [IntKind.wrap_i64]; omega
          have h01 : 0 ≤ (k : Int) - 1 := by omega
          have h02 : ((k : Int) - 1).toNat = k - 1 := by omega
          have h03 : (k : Int) - 1 < (n : Int) := by omega
          have h04 : (k : Int) < (n : Int) := by omega
          have Hin := Lib.hid hin; clear hin
          go_wp2_with fail
          refine (hC.out _).mono ?_
          rintro e w1 ⟨rfl, hb1⟩
          have hq1 := (hb1.cell (p := ⟨bb, oo + (k - 1) * 2, none⟩) (cell_lt hp1)).trans hp1
          have hq2 := (hb1.cell (p := ⟨bb, oo + (k - 1) * 2 + 1, none⟩) (cell_lt hp2)).trans hp2
          have hq3 := (hb1.cell (p := ⟨bb, oo + k * 2, none⟩) (cell_lt hc1)).trans hc1
          have hq4 := (hb1.cell (p := ⟨bb, oo + k * 2 + 1, none⟩) (cell_lt hc2)).trans hc2
          have Hb1 := Lib.hid (Hb.out.trans (hb1.mono Hb.out.size)); clear hb1
          clear hp1 hp2 hc1 hc2
          go_wp2_with fail
          refine wp_region_below (by kernel_rfl) (by kernel_rfl) ?_
          repeat (go_big_quiet_step ((intro hw; first
            | rfl
            | (go_at_call 45; exact keep_below hw (hR.out _))
            | (have q1 := (hw.cell (p := ⟨bb, oo + (k - 1) * 2, none⟩) (cell_lt hq1)).trans hq1
               have q2 := (hw.cell (p := ⟨bb, oo + (k - 1) * 2 + 1, none⟩) (cell_lt hq2)).trans hq2
               have q3 := (hw.cell (p := ⟨bb, oo + k * 2, none⟩) (cell_lt hq3)).trans hq3
               have q4 := (hw.cell (p := ⟨bb, oo + k * 2 + 1, none⟩) (cell_lt hq4)).trans hq4
               go_simp
               first | rfl | exact ⟨rfl, hw⟩))))
          refine wpQuiet_nil ?_
          intro w3 hb3
          have Hb3 := Lib.hid (Hb1.out.trans (hb3.mono Hb1.out.size)); clear hb3
          clear hq1 hq2 hq3 hq4 h01 h02 h03 h04 hsub hg
          have Hkn := Lib.hid hkn
          by_cases hr0 : relR p s = 0
          · have Hr := Lib.hid (show ckRAt l k = none from by rw [Hin.out, if_neg (by intro h; exact h.2 hr0)])
            rw [hr0]
            clear hr0
            go_wp2
            go_roundw
            case rel => exact ⟨k + 1, by omega, by go_num, Hb3.out, fun j hj => by
              rcases Nat.lt_or_ge j k with h | h
              · exact ht.out j h
              · rw [show j = k from (by omega)]; exact Hr.out⟩
            case measure => simp [intOf]; omega
          · have Hr := Lib.hid (show ck l = some (3, k) from ck_some (by rw [Hl.out]; exact hkn) ht.out (by rw [Hin.out, if_pos ⟨hk0, hr0⟩]))
            have hne : (((relR p s : Nat) : Int) != 0) = true := by rw [bne_iff_ne]; omega
            generalize relR p s = r at *
            clear hr0
            go_wp2_with fail
            go_ret2
            exact ⟨by rw [Hr.out]; rfl, Hb3.out⟩
        · obtain rfl : k = 0 := by omega
          have Hr := Lib.hid (show ckRAt l 0 = none from by rw [hin, if_neg (by omega)])
          clear hin hk0
          simp only [Nat.zero_mul, Nat.add_zero] at hc1 hc2
          rw [show ((0 : Nat) : Int) = 0 from rfl]
          go_wp2_with fail
          refine (hC.out _).mono ?_
          rintro e w1 ⟨rfl, hb1⟩
          have Hb1 := Lib.hid (Hb.out.trans (hb1.mono Hb.out.size)); clear hb1
          go_wp2_with fail
          refine wp_region_below (by kernel_rfl) (by kernel_rfl) ?_
          repeat (go_big_quiet_step ((intro hw; rfl)))
          refine wpQuiet_nil ?_
          intro w3 hb3
          have Hb3 := Lib.hid (Hb1.out.trans (hb3.mono Hb1.out.size)); clear hb3
          go_wp2
          go_roundw
          case rel => exact ⟨1, by omega, by go_num, Hb3.out, fun j hj => by rw [show j = 0 from (by omega)]; exact Hr.out⟩
          case measure => simp [intOf]; omega
    · obtain rfl : k = n := by omega
      go_wp2
      go_ret2
      exact ⟨by rw [show ck l = none from ck_none (by rw [Hl.out]; exact ht.out)]; rfl, Hb.out⟩

theorem refRight_any (a : Option Addr) (n cap : Nat) (l : List Iv) (w : World) (hI : Ivs w a n cap l) :
    Calls Tryz.prog 9 #[.slice a n cap] w fun e w' => e = .returned (.bool (decide (ck l = none))) ∧ Below w.heap.size w w' := by
  have hC := Lib.hid (refCheck_any a n cap l w hI)
  clear hI
  cases h : ck l with
  | none =>
    rw [h] at hC
    simp only [errOf, errCode, errAt] at hC
    clear h
    go_enter Tryz.func9, Tryz.ntmps9
    go_wp2_with fail
    refine hC.out.mono ?_
    rintro e w1 ⟨rfl, hb1⟩
    go_wp2
    go_ret
    exact ⟨ret_bool (by simp), hb1⟩
  | some x =>
    obtain ⟨c, i⟩ := x
    have hc : c ≠ 0 := by
      obtain ⟨k, -, -, h3⟩ := firstS_of_some h
      unfold ckAt at h3
      split at h3
      · cases h3; omega
      · split at h3 <;> cases h3; omega
    rw [h] at hC
    simp only [errOf, errCode, errAt] at hC
    have hne : ((c : Int) == 0) = false := by rw [beq_eq_false_iff_ne]; omega
    clear h hc
    go_enter Tryz.func9, Tryz.ntmps9
    go_wp2_with fail
    refine hC.out.mono ?_
    rintro e w1 ⟨rfl, hb1⟩
    go_wp2
    go_ret
    exact ⟨ret_bool (by simp), hb1⟩

end Go.Proofs.YtbiohohclnaocaaGreatDoor
