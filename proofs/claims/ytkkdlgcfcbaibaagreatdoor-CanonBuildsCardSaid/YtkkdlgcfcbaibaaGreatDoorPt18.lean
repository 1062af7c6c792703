/- Walks and laws, merged: part 18. -/
import Derived.Test.YtkkdlgcfcbaibaaGreatDoorPt17
import Derived.Test.YtkkdlgcfcbaibaaGreatDoorPt09
section
namespace Go.Proofs.YtkkdlgcfcbaibaaGreatDoor
open Go.RowKit
set_option linter.unusedVariables false

theorem Ents.at {w : World} {b o n cap : Nat} {v : Vec} (h : Ents w (some ⟨b, o, none⟩) n cap v) {k : Nat} (hk : k < n) : ∀ w', Below w.heap.size w w' →
    w'.cell? ⟨b, o + k * 3, none⟩ = some (.int .u64 (((nthE v k).1 : Nat) : Int)) ∧ w'.cell? ⟨b, o + k * 3 + 1, none⟩ = some (.int .u64 (((nthE v k).2.1 : Nat) : Int)) ∧
      ∃ x m c, w'.cell? ⟨b, o + k * 3 + 2, none⟩ = some (.slice x m c) ∧ Ivs w' x m c (nthE v k).2.2 := by
  intro w' hb
  obtain ⟨b', o', hs, hc⟩ := h.cells (by omega)
  cases hs
  obtain ⟨h1, h2, x, m, c, h3, h4⟩ := hc k hk
  exact ⟨(hb.cell (p := ⟨b, o + k * 3, none⟩) (cell_lt h1)).trans h1, (hb.cell (p := ⟨b, o + k * 3 + 1, none⟩) (cell_lt h2)).trans h2, x, m, c, (hb.cell (p := ⟨b, o + k * 3 + 2, none⟩) (cell_lt h3)).trans h3, h4.below hb⟩
/-- The cells of an entry, with one slice for good. -/
theorem Ents.fix {w : World} {b o n cap : Nat} {v : Vec} (h : Ents w (some ⟨b, o, none⟩) n cap v) {k : Nat} (hk : k < n) : ∃ x m c, ∀ w', Below w.heap.size w w' →
    w'.cell? ⟨b, o + k * 3, none⟩ = some (.int .u64 (((nthE v k).1 : Nat) : Int)) ∧ w'.cell? ⟨b, o + k * 3 + 1, none⟩ = some (.int .u64 (((nthE v k).2.1 : Nat) : Int)) ∧
      w'.cell? ⟨b, o + k * 3 + 2, none⟩ = some (.slice x m c) ∧ Ivs w' x m c (nthE v k).2.2 := by
  obtain ⟨b', o', hs, hc⟩ := h.cells (by omega)
  cases hs
  obtain ⟨h1, h2, x, m, c, h3, h4⟩ := hc k hk
  exact ⟨x, m, c, fun w' hb => ⟨(hb.cell (p := ⟨b, o + k * 3, none⟩) (cell_lt h1)).trans h1, (hb.cell (p := ⟨b, o + k * 3 + 1, none⟩) (cell_lt h2)).trans h2, (hb.cell (p := ⟨b, o + k * 3 + 2, none⟩) (cell_lt h3)).trans h3, h4.below hb⟩⟩
theorem Ents.some {w : World} {a : Option Addr} {n cap : Nat} {v : Vec} (h : Ents w a n cap v) (hn : 0 < n) : ∃ b o, a = some ⟨b, o, none⟩ := by
  obtain ⟨b, o, ha, -⟩ := h.cells hn
  exact ⟨b, o, ha⟩

set_option maxRecDepth 20000 in
set_option maxHeartbeats 2000000 in
theorem refCheck9_any (a : Option Addr) (n cap : Nat) (v : Vec) (w : World) (hE : Ents w a n cap v) :
    Calls Tryz.prog 64 #[.slice a n cap] w fun x w' => x = .returned (.tuple #[.int .i64 (errCode (errOf (ckV v))), .int .i64 (errAt (errOf (ckV v)))]) ∧ Below w.heap.size w w' := by
  have HE := Lib.hid hE
  have Hl := Lib.hid hE.len
  have hm : n ≤ 9223372036854775807 := Nat.le_trans hE.room hE.most
  have Hck := Lib.hid (show ckV v = firstS (ckVAt v) v.length from rfl)
  clear hE
  go_enter Tryz.func64, Tryz.ntmps64
  go_wp2
  go_loopw [4, 5, 6] (fun i _ _ wr => ∃ k : Nat, k ≤ n ∧ i = .int .i64 k ∧ Below w.heap.size w wr ∧ Hid (∀ j, j < k → ckVAt v j = none)) (fun i _ _ _ => n - (intOf i).toNat)
  case atStart => exact ⟨0, by omega, rfl, Below.refl _ _, fun j h => by omega⟩
  case round =>
    obtain ⟨k, hk, rfl, hb, ht⟩ := hrel
    have Hb := Lib.hid hb; clear hb
    by_cases hkn : k < n
    · have hkv : k < v.length := by rw [Hl.out]; exact hkn
      have HEr := Lib.hid (HE.out.below Hb.out)
      obtain ⟨bb, oo, rfl⟩ := HEr.out.some (by omega)
      have Hlt := Lib.hid (HE.out.lt (nthE v k) (nthE_mem hkv))
      obtain ⟨x, m, c, hq⟩ := HEr.out.fix hkn
      have Hq := Lib.hid hq; clear hq
      have Hat := Lib.hid (show ckVAt v k = match ckE (nthE v k) with | some x => some (x.1, k) | none => if 0 < k ∧ (nthE v k).1 ≤ (nthE v (k - 1)).1 then some (3, k) else none from rfl)
      have Hp := Lib.hid (show 0 < k → ∀ w', Below wr.heap.size wr w' → w'.cell? ⟨bb, oo + (k - 1) * 3, none⟩ = some (.int .u64 (((nthE v (k - 1)).1 : Nat) : Int)) from fun h0 w' h => (HEr.out.at (k := k - 1) (by omega) w' h).1)
      generalize nthE v k = e at *
      generalize nthE v (k - 1) = p at *
      have h0 : (0 : Int) ≤ k := by omega
      have h04 : (k : Int) < (n : Int) := by omega
      obtain ⟨q1, q2, q3, q4⟩ := Hq.out _ (Below.refl _ _)
      have hC := Lib.hid (refCheck7_any e x m c wr q4 Hlt.out.max)
      obtain ⟨er, em, eh⟩ := e
      obtain ⟨pr, pm, ph⟩ := p
      simp only at q1 q2 q3 q4 Hp Hat
      clear q4
      cases h : ckE (er, em, eh) with
      | some y =>
        have hc0 := ckE_code h
        obtain ⟨cd, ci⟩ := y
        rw [h] at Hat hC
        simp only [errOf, errCode, errAt] at Hat hC
        have hne : ((cd : Int) != 0) = true := by rw [bne_iff_ne]; simp at hc0; omega
        have Hr := Lib.hid (firstS_some hkv ht.out Hat.out)
        clear h hc0
        go_wp2_with fail
        refine hC.out.mono ?_
        rintro z w1 ⟨rfl, hb1⟩
        have Hb1 := Lib.hid hb1; clear hb1
        go_wp2
        go_ret2
        exact ⟨by rw [Hck.out, Hr.out]; rfl, Hb.out.trans (Hb1.out.mono Hb.out.size)⟩
      | none =>
        rw [h] at Hat hC
        simp only [errOf, errCode, errAt] at Hat hC
        clear h
        by_cases hk0 : 0 < k
        · have hg : decide (0 < (k : Int)) = true := by rw [decide_eq_true_iff]; omega
          have hsub : IntKind.i64.wrap ((k : Int) - 1) = ((k - 1 : Nat) : Int) := by rw [IntKind.wrap_i64]; omega
          have h01 : (0 : Int) ≤ ((k - 1 : Nat) : Int) := by omega
          have h03 : ((k - 1 : Nat) : Int) < (n : Int) := by omega
          go_wp2_with fail
          refine hC.out.mono ?_
          rintro z w1 ⟨rfl, hb1⟩
          have Hb1 := Lib.hid hb1; clear hb1 q1 q2 q3
          obtain ⟨q1, q2, q3, -⟩ := Hq.out _ Hb1.out
          have q5 := Hp.out hk0 _ Hb1.out
          have Hw1 := Lib.hid (Hb.out.trans (Hb1.out.mono Hb.out.size))
          by_cases hle : er ≤ pr
          · have hd1 : decide ((er : Int) ≤ (pr : Int)) = true := by rw [decide_eq_true_iff]; omega
            have hd2 : decide (er ≤ pr) = true := by rw [decide_eq_true_iff]; omega
            have Hr := Lib.hid (firstS_some hkv ht.out (Hat.out.trans (if_pos ⟨hk0, hle⟩)))
            clear hle
            go_wp2
            go_quiet (fail)
            go_wp2
            go_ret2
            exact ⟨by rw [Hck.out, Hr.out]; rfl, by first | exact Hw1.out | exact below_drewN' Hw1.out _⟩
          · have hd1 : decide ((er : Int) ≤ (pr : Int)) = false := by rw [decide_eq_false_iff_not]; omega
            have hd2 : decide (er ≤ pr) = false := by rw [decide_eq_false_iff_not]; omega
            have Hr := Lib.hid (firstS_step ht.out (Hat.out.trans (if_neg (fun h => hle h.2))))
            clear hle
            go_wp2
            go_quiet (fail)
            go_wp2
            go_roundw
            case rel => exact ⟨k + 1, by omega, by go_num, by first | exact Hw1.out | exact below_drewN' Hw1.out _, Hr.out⟩
            case measure => simp [intOf]; omega
        · have hg : decide (0 < (k : Int)) = false := by rw [decide_eq_false_iff_not]; omega
          have Hr := Lib.hid (firstS_step ht.out (Hat.out.trans (if_neg (fun h => hk0 h.1))))
          go_wp2_with fail
          refine hC.out.mono ?_
          rintro z w1 ⟨rfl, hb1⟩
          have Hb1 := Lib.hid hb1; clear hb1
          have Hw1 := Lib.hid (Hb.out.trans (Hb1.out.mono Hb.out.size))
          go_wp2
          go_quiet (fail)
          go_wp2
          go_roundw
          case rel => exact ⟨k + 1, by omega, by go_num, by first | exact Hw1.out | exact below_drewN' Hw1.out _, Hr.out⟩
          case measure => simp [intOf]; omega
    · obtain rfl : k = n := by omega
      have Hr := Lib.hid (firstS_none (n := v.length) (fun j hj => ht.out j (by rw [← Hl.out]; exact hj)))
      go_wp2
      go_ret2
      exact ⟨by rw [Hck.out, Hr.out]; rfl, by first | exact Hb.out | exact below_drewN' Hb.out _⟩

theorem refRight9_any (a : Option Addr) (n cap : Nat) (v : Vec) (w : World) (hE : Ents w a n cap v) :
    Calls Tryz.prog 149 #[.slice a n cap] w fun x w' => x = .returned (.bool (decide (ckV v = none))) ∧ Below w.heap.size w w' := by
  have hC := Lib.hid (refCheck9_any a n cap v w hE)
  clear hE
  cases h : ckV v with
  | none =>
    rw [h] at hC
    simp only [errOf, errCode, errAt] at hC
    clear h
    go_enter Tryz.func149, Tryz.ntmps149
    go_wp2_with fail
    refine hC.out.mono ?_
    rintro e w1 ⟨rfl, hb1⟩
    have Hb1 := Lib.hid hb1; clear hb1
    go_wp2
    go_ret
    exact ⟨by simp, Hb1.out⟩
  | some x =>
    have hc0 := ckV_code h
    obtain ⟨cd, i⟩ := x
    rw [h] at hC
    simp only [errOf, errCode, errAt] at hC
    have hne : ((cd : Int) == 0) = false := by rw [beq_eq_false_iff_ne]; simp at hc0; omega
    clear h hc0
    go_enter Tryz.func149, Tryz.ntmps149
    go_wp2_with fail
    refine hC.out.mono ?_
    rintro e w1 ⟨rfl, hb1⟩
    have Hb1 := Lib.hid hb1; clear hb1
    go_wp2
    go_ret
    exact ⟨by simp, Hb1.out⟩

/-- The first entry of a replica. -/
def posE (v : Vec) (r : Nat) : Option Nat := firstS (fun i => if (nthE v i).1 = r then some i else none) v.length
def intO (o : Option Nat) : Int := match o with | some i => (i : Int) | none => -1

theorem posE_some {v : Vec} {r i : Nat} (h : posE v r = some i) : i < v.length ∧ (nthE v i).1 = r := by
  obtain ⟨k, h1, -, h3⟩ := firstS_of_some h
  split at h3
  · rename_i h4; cases h3; exact ⟨h1, h4⟩
  · cases h3
theorem posE_none {v : Vec} {r : Nat} (h : posE v r = none) : ∀ e ∈ v, e.1 ≠ r := by
  intro e he hr
  obtain ⟨i, hi, rfl⟩ := List.getElem_of_mem he
  have := firstS_of_none h i hi
  rw [nthE_get hi, if_pos hr] at this
  cases this

set_option maxRecDepth 20000 in
set_option maxHeartbeats 1000000 in
theorem refCanonical9_any (a : Option Addr) (n cap : Nat) (v : Vec) (w : World) (hE : Ents w a n cap v) :
    Calls Tryz.prog 105 #[.slice a n cap] w fun x w' => x = .returned (.bool (canVB v)) ∧ Below w.heap.size w w' := by
  have HE := Lib.hid hE
  have Hl := Lib.hid hE.len
  have hm : n ≤ 9223372036854775807 := Nat.le_trans hE.room hE.most
  have Hcv := Lib.hid (show canVB v = (decide (ckV v = none) && v.all canEB) from rfl)
  clear hE
  go_enter Tryz.func105, Tryz.ntmps105
  go_wp2
  go_loopw [3] (fun i wr => ∃ k : Nat, k ≤ n ∧ i = .int .i64 k ∧ Below w.heap.size w wr ∧ Hid (∀ j, j < k → canEB (nthE v j) = true)) (fun i _ => n - (intOf i).toNat)
  case atStart => exact ⟨0, by omega, rfl, Below.refl _ _, fun j h => by omega⟩
  case round =>
    obtain ⟨k, hk, rfl, hb, ht⟩ := hrel
    have Hb := Lib.hid hb; clear hb
    by_cases hkn : k < n
    · have hkv : k < v.length := by rw [Hl.out]; exact hkn
      have HEr := Lib.hid (HE.out.below Hb.out)
      obtain ⟨bb, oo, rfl⟩ := HEr.out.some (by omega)
      have Hlt := Lib.hid (HE.out.lt (nthE v k) (nthE_mem hkv))
      have Hmem := Lib.hid (nthE_mem hkv)
      obtain ⟨x, m, c, hq⟩ := HEr.out.fix hkn
      obtain ⟨q1, q2, q3, q4⟩ := hq _ (Below.refl _ _)
      have hC := Lib.hid (refCanonical7_any (nthE v k) x m c wr q4 Hlt.out.max)
      have Hst := Lib.hid (show canEB (nthE v k) = true → ∀ j, j < k + 1 → canEB (nthE v j) = true from fun h j hj => by
        by_cases e : j = k
        · rw [e]; exact h
        · exact ht.out j (by omega))
      generalize nthE v k = e at *
      have h0 : (0 : Int) ≤ k := by omega
      have h04 : (k : Int) < (n : Int) := by omega
      obtain ⟨er, em, eh⟩ := e
      simp only at q1 q2 q3
      clear q4 hq
      cases h : canEB (er, em, eh) with
      | false =>
        rw [h] at hC
        have Hf := Lib.hid (show v.all canEB = false from by rw [Bool.eq_false_iff]; intro h2; rw [List.all_eq_true] at h2; rw [h2 _ Hmem.out] at h; cases h)
        clear h
        go_wp2_with fail
        refine hC.out.mono ?_
        rintro z w1 ⟨rfl, hb1⟩
        have Hb1 := Lib.hid hb1; clear hb1
        go_wp2
        go_ret
        exact ⟨by rw [Hcv.out, Hf.out, Bool.and_false]; rfl, Hb.out.trans (Hb1.out.mono Hb.out.size)⟩
      | true =>
        rw [h] at hC
        have Hs := Lib.hid (Hst.out h)
        clear h
        go_wp2_with fail
        refine hC.out.mono ?_
        rintro z w1 ⟨rfl, hb1⟩
        have Hb1 := Lib.hid hb1; clear hb1
        go_wp2
        go_roundw
        case rel => exact ⟨k + 1, by omega, by go_num, Hb.out.trans (Hb1.out.mono Hb.out.size), Hs.out⟩
        case measure => simp [intOf]; omega
    · obtain rfl : k = n := by omega
      have Hr := Lib.hid (show v.all canEB = true from by
        rw [List.all_eq_true]
        intro e he
        obtain ⟨i, hi, rfl⟩ := List.getElem_of_mem he
        have := ht.out i (by rw [← Hl.out]; exact hi)
        rwa [nthE_get hi] at this)
      have hC := Lib.hid (refRight9_any a k cap v wr (HE.out.below Hb.out))
      go_wp2_with fail
      refine hC.out.mono ?_
      rintro z w1 ⟨rfl, hb1⟩
      have Hb1 := Lib.hid hb1; clear hb1
      go_wp2
      go_ret
      exact ⟨by rw [Hcv.out, Hr.out, Bool.and_true]; rfl, Hb.out.trans (Hb1.out.mono Hb.out.size)⟩

def fewV (v : Vec) : Bool := v.all (fun e => decide (e.2.2.length ≤ 30)) && decide (v.length ≤ 20)

set_option maxRecDepth 20000 in
set_option maxHeartbeats 1000000 in
theorem refFew9_any (a : Option Addr) (n cap : Nat) (v : Vec) (w : World) (hE : Ents w a n cap v) :
    Calls Tryz.prog 28 #[.slice a n cap] w fun x w' => x = .returned (.bool (fewV v)) ∧ Below w.heap.size w w' := by
  have HE := Lib.hid hE
  have Hl := Lib.hid hE.len
  have hm : n ≤ 9223372036854775807 := Nat.le_trans hE.room hE.most
  have Hcv := Lib.hid (show fewV v = (v.all (fun e => decide (e.2.2.length ≤ 30)) && decide (v.length ≤ 20)) from rfl)
  clear hE
  go_enter Tryz.func28, Tryz.ntmps28
  go_wp2
  go_loopw [3] (fun i wr => ∃ k : Nat, k ≤ n ∧ i = .int .i64 k ∧ Below w.heap.size w wr ∧ Hid (∀ j, j < k → (nthE v j).2.2.length ≤ 30)) (fun i _ => n - (intOf i).toNat)
  case atStart => exact ⟨0, by omega, rfl, Below.refl _ _, fun j h => by omega⟩
  case round =>
    obtain ⟨k, hk, rfl, hb, ht⟩ := hrel
    have Hb := Lib.hid hb; clear hb
    by_cases hkn : k < n
    · have hkv : k < v.length := by rw [Hl.out]; exact hkn
      have HEr := Lib.hid (HE.out.below Hb.out)
      obtain ⟨bb, oo, rfl⟩ := HEr.out.some (by omega)
      have Hmem := Lib.hid (nthE_mem hkv)
      obtain ⟨x, m, c, hq⟩ := HEr.out.fix hkn
      obtain ⟨-, -, q3, q4⟩ := hq _ (Below.refl _ _)
      have Hlen := Lib.hid q4.len
      have Hst := Lib.hid (show (nthE v k).2.2.length ≤ 30 → ∀ j, j < k + 1 → (nthE v j).2.2.length ≤ 30 from fun h j hj => by
        by_cases e : j = k
        · rw [e]; exact h
        · exact ht.out j (by omega))
      generalize nthE v k = e at *
      have h0 : (0 : Int) ≤ k := by omega
      have h04 : (k : Int) < (n : Int) := by omega
      clear q4 hq
      by_cases h : 30 < m
      · have hd : decide (30 < (m : Int)) = true := by rw [decide_eq_true_iff]; omega
        have Hf := Lib.hid (show v.all (fun e => decide (e.2.2.length ≤ 30)) = false from by
          rw [Bool.eq_false_iff]; intro h2; rw [List.all_eq_true] at h2
          have := h2 _ Hmem.out
          rw [decide_eq_true_iff, Hlen.out] at this
          omega)
        clear h
        go_wp2
        go_ret
        exact ⟨by rw [Hcv.out, Hf.out, Bool.false_and]; rfl, Hb.out⟩
      · have hd : decide (30 < (m : Int)) = false := by rw [decide_eq_false_iff_not]; omega
        have Hs := Lib.hid (Hst.out (by rw [Hlen.out]; omega))
        clear h
        go_wp2
        go_roundw
        case rel => exact ⟨k + 1, by omega, by go_num, Hb.out, Hs.out⟩
        case measure => simp [intOf]; omega
    · obtain rfl : k = n := by omega
      have Hr := Lib.hid (show v.all (fun e => decide (e.2.2.length ≤ 30)) = true from by
        rw [List.all_eq_true]
        intro e he
        obtain ⟨i, hi, rfl⟩ := List.getElem_of_mem he
        have := ht.out i (by rw [← Hl.out]; exact hi)
        rw [nthE_get hi] at this
        rw [decide_eq_true_iff]; exact this)
      have hd1 : decide ((k : Int) ≤ 20) = decide (v.length ≤ 20) := by rw [Hl.out]; exact decide_eq_decide.2 (by omega)
      have Hd1 := Lib.hid hd1; clear hd1
      go_wp2
      go_ret
      exact ⟨by rw [Hcv.out, Hr.out, Bool.true_and, ← Hd1.out]; rfl, Hb.out⟩

set_option maxRecDepth 20000 in
set_option maxHeartbeats 2000000 in
theorem refSame9_any (a d : Option Addr) (n c n' c' : Nat) (v u : Vec) (w : World) (hE : Ents w a n c v) (hF : Ents w d n' c' u) :
    Calls Tryz.prog 48 #[.slice a n c, .slice d n' c'] w fun x w' => x = .returned (.bool (decide (v = u))) ∧ Below w.heap.size w w' := by
  have HE := Lib.hid hE; have HF := Lib.hid hF
  have Hl := Lib.hid hE.len; have Hl' := Lib.hid hF.len
  have hm : n ≤ 9223372036854775807 := Nat.le_trans hE.room hE.most
  have hm' : n' ≤ 9223372036854775807 := Nat.le_trans hF.room hF.most
  clear hE hF
  by_cases hne : n = n'
  · subst hne
    have hz : ((n : Int) != (n : Int)) = false := by simp
    go_enter Tryz.func48, Tryz.ntmps48
    go_wp2
    go_loopw [5] (fun i wr => ∃ k : Nat, k ≤ n ∧ i = .int .i64 k ∧ Below w.heap.size w wr ∧ Hid (∀ j, j < k → nthE v j = nthE u j)) (fun i _ => n - (intOf i).toNat)
    case atStart => exact ⟨0, by omega, rfl, Below.refl _ _, fun j h => by omega⟩
    case round =>
      obtain ⟨k, hk, rfl, hb, ht⟩ := hrel
      have Hb := Lib.hid hb; clear hb
      by_cases hkn : k < n
      · have HEr := Lib.hid (HE.out.below Hb.out); have HFr := Lib.hid (HF.out.below Hb.out)
        obtain ⟨bb, oo, rfl⟩ := HEr.out.some (by omega)
        obtain ⟨bd, od, rfl⟩ := HFr.out.some (by omega)
        obtain ⟨x, m, e, hq⟩ := HEr.out.fix hkn
        obtain ⟨y, m', e', hp⟩ := HFr.out.fix hkn
        have Hq := Lib.hid hq; have Hp := Lib.hid hp
        have hC := Lib.hid (fun w' (h : Below wr.heap.size wr w') => refSame7_any (nthE v k) (nthE u k) x y m e m' e' w' (hq w' h).2.2.2 (hp w' h).2.2.2)
        have Hst := Lib.hid (show decide (nthE v k = nthE u k) = true → ∀ j, j < k + 1 → nthE v j = nthE u j from fun h j hj => by
          by_cases e : j = k
          · rw [e]; exact of_decide_eq_true h
          · exact ht.out j (by omega))
        have Hno := Lib.hid (show decide (nthE v k = nthE u k) = false → v ≠ u from fun h h2 => by rw [h2] at h; simp at h)
        have h0 : (0 : Int) ≤ k := by omega
        have h04 : (k : Int) < (n : Int) := by omega
        clear hq hp
        generalize decide (nthE v k = nthE u k) = dd at *
        generalize nthE v k = f at *
        generalize nthE u k = g at *
        obtain ⟨fr, fm, fh⟩ := f
        obtain ⟨gr, gm, gh⟩ := g
        simp only at Hq Hp
        go_wp2_with fail
        go_cut [26] (fun t wc => t = .bool (!dd) ∧ Hid (Below wr.heap.size wr wc))
        case first =>
          refine wp_region_below (by kernel_rfl) (by kernel_rfl) ?_
          repeat (go_big_quiet_step ((intro hw; first
            | rfl
            | (have q0 := Hq.out _ hw
               have q1 := q0.1; have q2 := q0.2.1; have q3 := q0.2.2.1
               have p0 := Hp.out _ hw
               have p1 := p0.1; have p2 := p0.2.1; have p3 := p0.2.2.1
               clear q0 p0
               go_at_call 83; exact keep_below hw (hC.out _ hw))
            | (have q0 := Hq.out _ hw
               have q1 := q0.1; have q2 := q0.2.1; have q3 := q0.2.2.1
               have p0 := Hp.out _ hw
               have p1 := p0.1; have p2 := p0.2.1; have p3 := p0.2.2.1
               clear q0 p0
               go_simp
               first | rfl | exact ⟨rfl, hw⟩ | (trace_state; fail)))))
          refine wpQuiet_nil ?_
          intro w3 hb3
          go_wp2
          go_meet
          exact ⟨rfl, hb3⟩
        case rest =>
          obtain ⟨rfl, hb2⟩ := hcut
          have Hb2 := Lib.hid (Hb.out.trans (hb2.out.mono Hb.out.size))
          clear hb2
          cases dd with
          | true =>
            have Hs := Lib.hid (Hst.out rfl)
            rw [Bool.not_true]
            go_wp2
            go_roundw
            case rel => exact ⟨k + 1, by omega, by go_num, Hb2.out, Hs.out⟩
            case measure => simp [intOf]; omega
          | false =>
            have Hs := Lib.hid (show decide (v = u) = false from by rw [decide_eq_false_iff_not]; exact Hno.out rfl)
            rw [Bool.not_false]
            go_wp2
            go_ret
            exact ⟨by rw [Hs.out]; rfl, Hb2.out⟩
      · obtain rfl : k = n := by omega
        have Hs := Lib.hid (show decide (v = u) = true from by
          rw [decide_eq_true_iff]
          refine List.ext_getElem (by rw [Hl.out, Hl'.out]) fun i h1 h2 => ?_
          have := ht.out i (by rw [← Hl.out]; exact h1)
          rwa [nthE_get h1, nthE_get h2] at this)
        go_wp2
        go_ret
        exact ⟨by rw [Hs.out]; rfl, Hb.out⟩
  · have hz : ((n : Int) != (n' : Int)) = true := by rw [bne_iff_ne]; omega
    have Hs := Lib.hid (show decide (v = u) = false from by
      rw [decide_eq_false_iff_not]
      intro h
      apply hne
      rw [← Hl.out, ← Hl'.out, h])
    clear hne
    go_enter Tryz.func48, Tryz.ntmps48
    go_wp2
    go_ret
    exact ⟨by rw [Hs.out]; rfl, Below.refl _ _⟩

end Go.Proofs.YtkkdlgcfcbaibaaGreatDoor
end

section
namespace Go.Proofs.YtkkdlgcfcbaibaaGreatDoor
open Go.RowKit
set_option linter.unusedVariables false

theorem knownL_len {e : Ent} (h : Lt64 e.2.2) (hm : e.2.1 < 18446744073709551616) : (knownL e).length ≤ 1 + e.2.2.length := by
  have := opL_len_sub (a := [(0, e.2.1)]) (b := e.2.2) (lt64_one (by omega) hm) h
  simpa [knownL] using this
theorem ofE_len {r : Nat} {L : List Iv} {f : Ent} (h : Lt64 L) (hf : ofE r L = some f) : f.2.2.length ≤ 1 + L.length := by
  unfold ofE at hf
  split at hf
  · cases hf
  · cases hf
    have := opL_len_sub (a := [(0, topL L)]) (b := L) (lt64_one (by omega) (topL_lt h)) h
    simpa using this
theorem own_slice {w : World} {base sz n : Nat} {e : TypeId} {v : Value} {xs : List Value} (ho : w.ownsRow base e sz v n xs) : ∃ a c, v = .slice a n c := by
  rcases ho.2 with ⟨rfl, rfl⟩ | ⟨g, cap, cur, rfl, _⟩
  · exact ⟨_, _, rfl⟩
  · exact ⟨_, _, rfl⟩

end Go.Proofs.YtkkdlgcfcbaibaaGreatDoor
end
