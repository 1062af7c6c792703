/-
  Walks: ranges.Find, Has: the binary search.
-/
import Derived.Test.YtbiohohclnaocaaGreatDoorRgGood
namespace Go.Proofs.YtbiohohclnaocaaGreatDoor
open Go.RowKit
set_option linter.unusedVariables false

/-- What the search compares. -/
def cmpv (s : Iv) (x : Nat) : Int := if s.2 < x then -1 else if x < s.1 then 1 else 0

theorem findCmp_any (s : Iv) (x : Nat) (w : World) :
    Calls Tryz.prog 29 #[ivV s, .int .u64 x] w fun e w' => e = .returned (.int .i64 (cmpv s x)) ∧ Below w.heap.size w w' := by
  obtain ⟨a, b⟩ := s
  have hb := (Below.refl w.heap.size w).alloc (Nat.le_refl _) (.cells #[.int .u64 a, .int .u64 b] 31)
  by_cases h1 : b < x
  · have Hr := Lib.hid (show cmpv (a, b) x = -1 from by simp [cmpv, h1])
    generalize cmpv (a, b) x = r at *
    go_enter Tryz.func29, Tryz.ntmps29
    go_wp2
    go_ret
    exact ⟨ret_int Hr.out.symm, hb⟩
  · by_cases h2 : x < a
    · have Hr := Lib.hid (show cmpv (a, b) x = 1 from by simp [cmpv, h1, h2])
      generalize cmpv (a, b) x = r at *
      go_enter Tryz.func29, Tryz.ntmps29
      go_wp2
      go_ret
      exact ⟨ret_int Hr.out.symm, hb⟩
    · have Hr := Lib.hid (show cmpv (a, b) x = 0 from by simp [cmpv, h1, h2])
      generalize cmpv (a, b) x = r at *
      go_enter Tryz.func29, Tryz.ntmps29
      go_wp2
      go_ret
      exact ⟨ret_int Hr.out.symm, hb⟩

/-- How many intervals end before a number. -/
def fnd (l : List Iv) (x : Nat) : Nat := (l.takeWhile fun s => decide (s.2 < x)).length

theorem fnd_le (l : List Iv) (x : Nat) : fnd l x ≤ l.length := (List.takeWhile_prefix _).length_le

theorem fnd_eq : ∀ {l : List Iv} {x i : Nat}, i ≤ l.length → (∀ t, t < i → (nthI l t).2 < x) → (∀ t, i ≤ t → t < l.length → ¬ (nthI l t).2 < x) → fnd l x = i
  | [], x, i, hi, _, _ => by simp at hi; subst hi; rfl
  | s :: l, x, i, hi, h1, h2 => by
    cases i with
    | zero =>
      have := h2 0 (by omega) (by simp)
      have e : ¬ s.2 < x := this
      simp [fnd, e]
    | succ i =>
      have e : s.2 < x := h1 0 (by omega)
      have := fnd_eq (l := l) (x := x) (i := i) (by simpa using hi) (fun t ht => h1 (t + 1) (by omega)) (fun t ht htl => h2 (t + 1) (by omega) (by simpa using htl))
      unfold fnd at this ⊢
      rw [List.takeWhile_cons, if_pos (by simpa using e)]
      simpa using this

theorem good_mono {l : List Iv} (h : Good l) {i j : Nat} (hij : i < j) (hj : j < l.length) : (nthI l i).2 + 1 < (nthI l j).1 := by
  induction j with
  | zero => omega
  | succ j ih =>
    have h1 := (good_idx h (j + 1) hj).2 (by omega)
    rw [Nat.add_sub_cancel] at h1
    by_cases e : i = j
    · subst e; exact h1
    · have := ih (by omega) (by omega)
      have := (good_idx h j (by omega)).1
      omega

/-- In a correct list, a number is found at that place, or not at all. -/
theorem mem_fnd {l : List Iv} (h : Good l) {x i : Nat} (hi : i ≤ l.length) (h1 : ∀ t, t < i → (nthI l t).2 < x) (h2 : ∀ t, i ≤ t → t < l.length → ¬ (nthI l t).2 < x) :
    mem l x = (decide (i < l.length) && decide ((nthI l i).1 ≤ x)) := by
  rw [Bool.eq_iff_iff, mem_iff]
  simp only [Bool.and_eq_true, decide_eq_true_iff]
  constructor
  · rintro ⟨s, hs, k1, k2⟩
    obtain ⟨t, ht, rfl⟩ := List.getElem_of_mem hs
    rw [← nthI_get ht] at k1 k2
    have : i ≤ t := by
      refine Nat.le_of_not_lt fun hlt => ?_
      have := h1 t hlt
      omega
    refine ⟨by omega, ?_⟩
    by_cases e : i = t
    · subst e; exact k1
    · have := good_mono h (i := i) (j := t) (by omega) ht
      have := (good_idx h i (by omega)).1
      omega
  · rintro ⟨k1, k2⟩
    exact ⟨nthI l i, nthI_mem k1, k2, by have := h2 i (Nat.le_refl _) k1; omega⟩

set_option maxHeartbeats 1000000 in
set_option maxRecDepth 20000 in
theorem bsearch_any (a : Option Addr) (n cap x : Nat) (l : List Iv) (w : World) (hI : Ivs w a n cap l) (hG : Good l) (hn : n ≤ 1000000) :
    Calls Tryz.prog 28 #[.slice a n cap, .int .u64 x, .func (.func 29) #[] #[]] w fun e w' =>
      e = .returned (.tuple #[.int .i64 ((fnd l x : Nat) : Int), .bool (mem l x)]) ∧ Below w.heap.size w w' := by
  have HI := Lib.hid hI; have HG := Lib.hid hG
  have Hl := Lib.hid hI.len
  clear hI hG
  go_enter Tryz.func28, Tryz.ntmps28
  go_wp2
  go_loopw [9, 10, 11] (fun i j _ wr => ∃ p q : Nat, p ≤ q ∧ q ≤ n ∧ i = .int .i64 p ∧ j = .int .i64 q ∧ Below w.heap.size w wr ∧ Hid ((∀ t, t < p → (nthI l t).2 < x) ∧ ∀ t, q ≤ t → t < n → ¬ (nthI l t).2 < x)) (fun i j _ _ => (intOf j).toNat - (intOf i).toNat)
  case atStart => exact ⟨0, n, by omega, by omega, rfl, rfl, Below.refl _ _, fun t ht => by omega, fun t h1 h2 => by omega⟩
  case round =>
    obtain ⟨p, q, hpq, hqn, rfl, rfl, hb, ht⟩ := hrel
    have Hb := Lib.hid hb; clear hb
    by_cases hlt : p < q
    · obtain ⟨bb, oo, rfl, hcell⟩ := (HI.out.below Hb.out).cells (by omega)
      obtain ⟨h, hh, hph, hhq⟩ : ∃ h : Nat, ((p : Int) + (q : Int)) / 2 = (h : Int) ∧ p ≤ h ∧ h < q := ⟨(p + q) / 2, by omega, by omega, by omega⟩
      have hhn : h < n := by omega
      obtain ⟨hc1, hc2⟩ := hcell h hhn
      clear hcell
      have hC := Lib.hid (fun w => findCmp_any (nthI l h) x w)
      have Hms := Lib.hid (fun t (ht : t < h) => good_mono HG.out ht (by rw [Hl.out]; exact hhn))
      have Hms2 := Lib.hid (fun t (ht : h < t) (htl : t < n) => good_mono HG.out ht (by rw [Hl.out]; exact htl))
      have Hok := Lib.hid (fun t (ht : t < n) => (good_idx HG.out t (by rw [Hl.out]; exact ht)).1)
      by_cases hlx : (nthI l h).2 < x
      · have Hlx := Lib.hid hlx
        rw [show cmpv (nthI l h) x = -1 from by simp [cmpv, hlx]] at hC
        clear hlx
        have Hr := Lib.hid (show ∀ t, t < h + 1 → (nthI l t).2 < x from by
          intro t htt
          by_cases e : t = h
          · subst e; exact Hlx.out
          · have h1 := Hms.out t (by omega)
            have h2 := Hok.out h hhn
            have h3 := Hlx.out
            omega)
        generalize nthI l h = s at *
        go_wp2_with fail
        refine (hC.out _).mono ?_
        rintro e w1 ⟨rfl, hb1⟩
        have Hb1 := Lib.hid (Hb.out.trans (hb1.mono Hb.out.size)); clear hb1
        clear hc1 hc2 hh
        go_wp2_with fail
        go_roundw
        case rel => exact ⟨h + 1, q, by omega, by omega, by go_num, rfl, Hb1.out, Hr.out, ht.out.2⟩
        case measure => simp [intOf]; omega
      · have Hr := Lib.hid (show ∀ t, h ≤ t → t < n → ¬ (nthI l t).2 < x from by
          intro t htt htn
          by_cases e : t = h
          · subst e; exact hlx
          · have h1 := Hms2.out t (by omega) htn
            have h2 := Hok.out t htn
            omega)
        have hcv : 0 ≤ cmpv (nthI l h) x := by unfold cmpv; rw [if_neg hlx]; split <;> omega
        generalize cmpv (nthI l h) x = cv at *
        generalize nthI l h = s at *
        clear hlx
        go_wp2_with fail
        refine (hC.out _).mono ?_
        rintro e w1 ⟨rfl, hb1⟩
        have Hb1 := Lib.hid (Hb.out.trans (hb1.mono Hb.out.size)); clear hb1
        clear hc1 hc2 hh
        go_wp2_with fail
        go_roundw
        case rel => exact ⟨p, h, by omega, by omega, rfl, rfl, Hb1.out, ht.out.1, Hr.out⟩
        case measure => simp [intOf]; omega
    · obtain rfl : p = q := by omega
      have Hf := Lib.hid (fnd_eq (l := l) (x := x) (i := p) (by rw [Hl.out]; exact hqn) ht.out.1 (fun t h1 h2 => ht.out.2 t h1 (by rw [← Hl.out]; exact h2)))
      have Hm := Lib.hid (mem_fnd HG.out (x := x) (i := p) (by rw [Hl.out]; exact hqn) ht.out.1 (fun t h1 h2 => ht.out.2 t h1 (by rw [← Hl.out]; exact h2)))
      rw [Hl.out] at Hm
      by_cases hpn : p < n
      · obtain ⟨bb, oo, rfl, hcell⟩ := (HI.out.below Hb.out).cells (by omega)
        obtain ⟨hc1, hc2⟩ := hcell p hpn
        clear hcell
        have hC := Lib.hid (fun w => findCmp_any (nthI l p) x w)
        have hnl := ht.out.2 p (Nat.le_refl _) hpn
        rw [decide_eq_true hpn, Bool.true_and] at Hm
        by_cases hxs : (nthI l p).1 ≤ x
        · rw [decide_eq_true hxs] at Hm
          rw [show cmpv (nthI l p) x = 0 from by unfold cmpv; rw [if_neg hnl, if_neg (by omega)]] at hC
          generalize nthI l p = s at *
          clear hnl hxs
          go_wp2_with fail
          refine (hC.out _).mono ?_
          rintro e w1 ⟨rfl, hb1⟩
          have Hb1 := Lib.hid (Hb.out.trans (hb1.mono Hb.out.size)); clear hb1
          clear hc1 hc2
          go_wp2_with fail
          go_ret2
          exact ⟨by rw [Hf.out, Hm.out]; rfl, Hb1.out⟩
        · rw [decide_eq_false hxs] at Hm
          rw [show cmpv (nthI l p) x = 1 from by unfold cmpv; rw [if_neg hnl, if_pos (by omega)]] at hC
          generalize nthI l p = s at *
          clear hnl hxs
          go_wp2_with fail
          refine (hC.out _).mono ?_
          rintro e w1 ⟨rfl, hb1⟩
          have Hb1 := Lib.hid (Hb.out.trans (hb1.mono Hb.out.size)); clear hb1
          clear hc1 hc2
          go_wp2_with fail
          go_ret2
          exact ⟨by rw [Hf.out, Hm.out]; rfl, Hb1.out⟩
      · obtain rfl : p = n := by omega
        rw [decide_eq_false hpn, Bool.false_and] at Hm
        have hd : decide ((p : Int) < (p : Int)) = false := by simp
        go_wp2_with fail
        go_ret2
        exact ⟨by rw [Hf.out, Hm.out]; rfl, Hb.out⟩

/-- The index that ranges.Find returns. -/
def findI (l : List Iv) (x : Nat) : Int := if mem l x = true then ((fnd l x : Nat) : Int) else -1

theorem find_any (a : Option Addr) (n cap x : Nat) (l : List Iv) (w : World) (hI : Ivs w a n cap l) (hG : Good l) (hn : n ≤ 1000000) :
    Calls Tryz.prog 11 #[.slice a n cap, .int .u64 x] w fun e w' => e = .returned (.int .i64 (findI l x)) ∧ Below w.heap.size w w' := by
  have hC := Lib.hid (bsearch_any a n cap x l w hI hG hn)
  clear hI hG
  unfold findI
  cases hm : mem l x with
  | true =>
    rw [hm] at hC
    rw [if_pos rfl]
    clear hm
    generalize fnd l x = f at *
    go_enter Tryz.func11, Tryz.ntmps11
    go_wp2_with fail
    refine hC.out.mono ?_
    rintro e w1 ⟨rfl, hb1⟩
    go_wp2
    go_ret
    exact ⟨rfl, hb1⟩
  | false =>
    rw [hm] at hC
    rw [if_neg (by simp)]
    clear hm
    generalize fnd l x = f at *
    go_enter Tryz.func11, Tryz.ntmps11
    go_wp2_with fail
    refine hC.out.mono ?_
    rintro e w1 ⟨rfl, hb1⟩
    go_wp2
    go_ret
    exact ⟨rfl, hb1⟩

theorem has_any (a : Option Addr) (n cap x : Nat) (l : List Iv) (w : World) (hI : Ivs w a n cap l) (hG : Good l) (hn : n ≤ 1000000) :
    Calls Tryz.prog 12 #[.slice a n cap, .int .u64 x] w fun e w' => e = .returned (.bool (mem l x)) ∧ Below w.heap.size w w' := by
  have hC := Lib.hid (find_any a n cap x l w hI hG hn)
  clear hI hG
  cases h : mem l x with
  | true =>
    have hd : findI l x = ((fnd l x : Nat) : Int) := by unfold findI; rw [if_pos h]
    rw [hd] at hC
    clear h hd
    generalize fnd l x = f at *
    have hd : decide (0 ≤ (f : Int)) = true := by rw [decide_eq_true_iff]; omega
    go_enter Tryz.func12, Tryz.ntmps12
    go_wp2_with fail
    refine hC.out.mono ?_
    rintro e w1 ⟨rfl, hb1⟩
    go_wp2
    go_ret
    exact ⟨ret_bool (by simp), hb1⟩
  | false =>
    have hd : findI l x = -1 := by unfold findI; rw [if_neg (by rw [h]; simp)]
    rw [hd] at hC
    clear h hd
    go_enter Tryz.func12, Tryz.ntmps12
    go_wp2_with fail
    refine hC.out.mono ?_
    rintro e w1 ⟨rfl, hb1⟩
    go_wp2
    go_ret
    exact ⟨ret_bool (by simp), hb1⟩

end Go.Proofs.YtbiohohclnaocaaGreatDoor
