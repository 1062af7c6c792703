/-
  Walks: RangesCheck, RangesFinds, RangesDenotes.
-/
import Derived.Test.YtbiohohclnaocaaGreatDoorRgAlive
import Derived.Test.YtbiohohclnaocaaGreatDoorRgRef2
import Derived.Test.YtbiohohclnaocaaGreatDoorRgRefNorm
namespace Go.Proofs.YtbiohohclnaocaaGreatDoor
open Go.RowKit
set_option linter.unusedVariables false

theorem fnd_has {l : List Iv} (h : Good l) {x : Nat} (hm : mem l x = true) : fnd l x < l.length ∧ (nthI l (fnd l x)).1 ≤ x ∧ x ≤ (nthI l (fnd l x)).2 := by
  obtain ⟨s, hs, k1, k2⟩ := mem_iff.1 hm
  obtain ⟨i, hi, rfl⟩ := List.getElem_of_mem hs
  rw [← nthI_get hi] at k1 k2
  have e : fnd l x = i := fnd_eq (by omega) (fun t ht => by
    have := good_mono h (i := t) (j := i) ht hi
    omega) (fun t ht htl => by
    by_cases e : i = t
    · subst e; omega
    · have h1 := good_mono h (i := i) (j := t) (by omega) htl
      have h2 := (good_idx h t htl).1
      omega)
  rw [e]
  exact ⟨hi, k1, k2⟩

set_option maxRecDepth 20000 in
set_option maxHeartbeats 2000000 in
theorem walkRangesCheck (a : Option Addr) (n cap : Nat) (l : List Iv) (w : World) (hI : Ivs w a n cap l) (hR : Ready w) :
    Calls Tryz.prog 6 #[.slice a n cap] w fun e w' => e = .returned (.bool true) ∧ Below w.heap.size w w' := by
  have HR := Lib.hid (fun W (h : Below w.heap.size w W) => hR.below h)
  have HI := Lib.hid hI
  clear hR hI
  by_cases hn : 60 < n
  · go_enter Tryz.func6, Tryz.ntmps6
    go_wp2_with fail
    refine (alive_any _ (HR.out _ (Below.refl _ _))).mono ?_
    rintro e w1 ⟨rfl, hb1⟩
    go_wp2_with fail
    go_ret
    exact ⟨rfl, hb1⟩
  · go_enter Tryz.func6, Tryz.ntmps6
    go_wp2_with fail
    refine (check_any a n cap l _ HI.out (HR.out _ (Below.refl _ _)).door).mono ?_
    rintro e w1 ⟨rfl, hb1⟩
    have Hb1 := Lib.hid hb1
    have HI1 := Lib.hid (HI.out.below hb1)
    clear hb1
    have HC := Lib.hid (refCheck_any a n cap l w1 HI1.out)
    generalize errOf (ck l) = er at *
    go_wp2_with fail
    refine HC.out.mono ?_
    rintro e w2 ⟨rfl, hb2⟩
    have Hb2 := Lib.hid (Hb1.out.trans (hb2.mono Hb1.out.size))
    clear hb2 HC
    go_wp2_with fail
    refine (alive_any _ (HR.out _ Hb2.out)).mono ?_
    rintro e w3 ⟨rfl, hb3⟩
    have Hb3 := Lib.hid (Hb2.out.trans (hb3.mono Hb2.out.size)); clear hb3
    go_wp2_with fail
    refine (code_any er _ (HR.out _ Hb3.out).door).mono ?_
    rintro e w4 ⟨rfl, hb4⟩
    have Hb4 := Lib.hid (Hb3.out.trans (hb4.mono Hb3.out.size)); clear hb4
    go_wp2_with fail
    refine (at_any er _ (HR.out _ Hb4.out).door).mono ?_
    rintro e w5 ⟨rfl, hb5⟩
    have Hb5 := Lib.hid (Hb4.out.trans (hb5.mono Hb4.out.size)); clear hb5
    go_wp2_with fail
    go_ret
    exact ⟨by simp, Hb5.out⟩

set_option maxRecDepth 20000 in
set_option maxHeartbeats 4000000 in
theorem walkRangesFinds (a : Option Addr) (n cap x : Nat) (l : List Iv) (w : World) (hI : Ivs w a n cap l) (hR : Ready w) (hx : x < 18446744073709551616) :
    Calls Tryz.prog 3 #[.slice a n cap, .int .u64 x] w fun e w' => e = .returned (.bool true) ∧ Below w.heap.size w w' := by
  have HR := Lib.hid (fun W (h : Below w.heap.size w W) => hR.below h)
  have HI := Lib.hid (fun W (h : Below w.heap.size w W) => hI.below h)
  have Hl := Lib.hid hI.len
  clear hR
  by_cases hn : 60 < n
  · clear hI
    go_enter Tryz.func3, Tryz.ntmps3
    go_wp2_with fail
    refine (alive_any _ (HR.out _ (Below.refl _ _))).mono ?_
    rintro e w1 ⟨rfl, hb1⟩
    go_wp2_with fail
    go_ret
    exact ⟨rfl, hb1⟩
  · have hRt := Lib.hid (refRight_any a n cap l w hI)
    by_cases hck : ck l = none
    · have hG := ck_good.1 hck
      rw [decide_eq_true hck] at hRt
      have HF := Lib.hid (fun W (h : Below w.heap.size w W) => find_any a n cap x l W (HI.out W h) hG (by omega))
      have HH := Lib.hid (fun W (h : Below w.heap.size w W) => has_any a n cap x l W (HI.out W h) hG (by omega))
      have HK := Lib.hid (fun W (h : Below w.heap.size w W) => refHas_any a n cap x l W (HI.out W h))
      by_cases hm : mem l x = true
      · obtain ⟨k1, k2, k3⟩ := fnd_has hG hm
        have hfi : findI l x = ((fnd l x : Nat) : Int) := by unfold findI; rw [if_pos hm]
        rw [hfi] at HF
        rw [hm] at HH HK
        rw [Hl.out] at k1
        obtain ⟨bb, oo, rfl, hcell⟩ := hI.cells (by omega)
        obtain ⟨hc1, hc2⟩ := hcell _ k1
        have Hc1 := Lib.hid (fun W (h : Below w.heap.size w W) => (h.cell (p := ⟨bb, oo + fnd l x * 2, none⟩) (cell_lt hc1)).trans hc1)
        have Hc2 := Lib.hid (fun W (h : Below w.heap.size w W) => (h.cell (p := ⟨bb, oo + fnd l x * 2 + 1, none⟩) (cell_lt hc2)).trans hc2)
        have H3 := Lib.hid (fun W => refHas3_any (nthI l (fnd l x)) x W)
        rw [decide_eq_true k2, decide_eq_true k3, Bool.and_self] at H3
        clear hc1 hc2 hcell k2 k3 hfi hm hG hck hI
        generalize fnd l x = i at *
        generalize nthI l i = s at *
        obtain ⟨y, z⟩ := s
        dsimp only at Hc1 Hc2
        go_enter Tryz.func3, Tryz.ntmps3
        go_wp2_with fail
        refine hRt.out.mono ?_
        rintro e w1 ⟨rfl, hb1⟩
        have Hb1 := Lib.hid hb1; clear hb1
        go_wp2_with fail
        refine (HF.out _ Hb1.out).mono ?_
        rintro e w2 ⟨rfl, hb2⟩
        have Hb2 := Lib.hid (Hb1.out.trans (hb2.mono Hb1.out.size)); clear hb2
        go_wp2_with fail
        refine (HH.out _ Hb2.out).mono ?_
        rintro e w3 ⟨rfl, hb3⟩
        have Hb3 := Lib.hid (Hb2.out.trans (hb3.mono Hb2.out.size)); clear hb3
        go_wp2_with fail
        refine (HK.out _ Hb3.out).mono ?_
        rintro e w4 ⟨rfl, hb4⟩
        have Hb4 := Lib.hid (Hb3.out.trans (hb4.mono Hb3.out.size)); clear hb4
        go_wp2_with fail
        refine (HK.out _ Hb4.out).mono ?_
        rintro e w5 ⟨rfl, hb5⟩
        have Hb5 := Lib.hid (Hb4.out.trans (hb5.mono Hb4.out.size)); clear hb5
        go_wp2_with fail
        refine (alive_any _ (HR.out _ Hb5.out)).mono ?_
        rintro e w6 ⟨rfl, hb6⟩
        have Hb6 := Lib.hid (Hb5.out.trans (hb6.mono Hb5.out.size)); clear hb6
        have c1 := Hc1.out _ Hb6.out
        have c2 := Hc2.out _ Hb6.out
        go_wp2_with fail
        refine (H3.out _).mono ?_
        rintro e w7 ⟨rfl, hb7⟩
        have Hb7 := Lib.hid (Hb6.out.trans (hb7.mono Hb6.out.size)); clear hb7
        go_wp2_with fail
        go_ret
        exact ⟨rfl, Hb7.out⟩
      · have hm' : mem l x = false := by simpa using hm
        have hfi : findI l x = -1 := by unfold findI; rw [if_neg hm]
        rw [hfi] at HF
        rw [hm'] at HH HK
        clear hfi hm hm' hG hck hI
        go_enter Tryz.func3, Tryz.ntmps3
        go_wp2_with fail
        refine hRt.out.mono ?_
        rintro e w1 ⟨rfl, hb1⟩
        have Hb1 := Lib.hid hb1; clear hb1
        go_wp2_with fail
        refine (HF.out _ Hb1.out).mono ?_
        rintro e w2 ⟨rfl, hb2⟩
        have Hb2 := Lib.hid (Hb1.out.trans (hb2.mono Hb1.out.size)); clear hb2
        go_wp2_with fail
        refine (HH.out _ Hb2.out).mono ?_
        rintro e w3 ⟨rfl, hb3⟩
        have Hb3 := Lib.hid (Hb2.out.trans (hb3.mono Hb2.out.size)); clear hb3
        go_wp2_with fail
        refine (HK.out _ Hb3.out).mono ?_
        rintro e w4 ⟨rfl, hb4⟩
        have Hb4 := Lib.hid (Hb3.out.trans (hb4.mono Hb3.out.size)); clear hb4
        go_wp2_with fail
        refine (HK.out _ Hb4.out).mono ?_
        rintro e w5 ⟨rfl, hb5⟩
        have Hb5 := Lib.hid (Hb4.out.trans (hb5.mono Hb4.out.size)); clear hb5
        go_wp2_with fail
        refine (alive_any _ (HR.out _ Hb5.out)).mono ?_
        rintro e w6 ⟨rfl, hb6⟩
        have Hb6 := Lib.hid (Hb5.out.trans (hb6.mono Hb5.out.size)); clear hb6
        go_wp2_with fail
        go_ret
        exact ⟨rfl, Hb6.out⟩
    · rw [decide_eq_false hck] at hRt
      clear hI
      go_enter Tryz.func3, Tryz.ntmps3
      go_wp2_with fail
      refine hRt.out.mono ?_
      rintro e w1 ⟨rfl, hb1⟩
      have Hb1 := Lib.hid hb1; clear hb1
      go_wp2_with fail
      refine (alive_any _ (HR.out _ Hb1.out)).mono ?_
      rintro e w2 ⟨rfl, hb2⟩
      have Hb2 := Lib.hid (Hb1.out.trans (hb2.mono Hb1.out.size)); clear hb2
      go_wp2_with fail
      go_ret
      exact ⟨rfl, Hb2.out⟩

end Go.Proofs.YtbiohohclnaocaaGreatDoor
