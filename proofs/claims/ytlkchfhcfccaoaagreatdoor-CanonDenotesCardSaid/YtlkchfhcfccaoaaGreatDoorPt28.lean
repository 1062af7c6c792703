/- Walks and laws, merged: part 28. -/
import Derived.Test.YtlkchfhcfccaoaaGreatDoorPt05
import Derived.Test.YtlkchfhcfccaoaaGreatDoorPt17
section
namespace Go.Proofs.YtlkchfhcfccaoaaGreatDoor
open Go.RowKit
set_option linter.unusedVariables false

/-- What the search compares. -/
def cmpv (s : Iv) (x : Nat) : Int := if s.2 < x then -1 else if x < s.1 then 1 else 0

theorem findCmp_any (s : Iv) (x : Nat) (w : World) :
    Calls Tryz.prog 152 #[ivV s, .int .u64 x] w fun e w' => e = .returned (.int .i64 (cmpv s x)) ∧ Below w.heap.size w w' := by
  obtain ⟨a, b⟩ := s
  have hb := (Below.refl w.heap.size w).alloc (Nat.le_refl _) (.cells #[.int .u64 a, .int .u64 b] 65)
  by_cases h1 : b < x
  · have Hr := Lib.hid (show cmpv (a, b) x = -1 from by simp [cmpv, h1])
    generalize cmpv (a, b) x = r at *
    go_enter Tryz.func152, Tryz.ntmps152
    go_wp2
    go_ret
    exact ⟨ret_int Hr.out.symm, hb⟩
  · by_cases h2 : x < a
    · have Hr := Lib.hid (show cmpv (a, b) x = 1 from by simp [cmpv, h1, h2])
      generalize cmpv (a, b) x = r at *
      go_enter Tryz.func152, Tryz.ntmps152
      go_wp2
      go_ret
      exact ⟨ret_int Hr.out.symm, hb⟩
    · have Hr := Lib.hid (show cmpv (a, b) x = 0 from by simp [cmpv, h1, h2])
      generalize cmpv (a, b) x = r at *
      go_enter Tryz.func152, Tryz.ntmps152
      go_wp2
      go_ret
      exact ⟨ret_int Hr.out.symm, hb⟩

/-- How many intervals end before a number. -/
def fnd (l : List Iv) (x : Nat) : Nat := (l.takeWhile fun s => decide (s.2 < x)).length

theorem fnd_le (l : List Iv) (x : Nat) : fnd l x ≤ l.length := (List.takeWhile_prefix _).length_le

theorem fnd_eq : ∀ {l : List Iv} {x i : Nat}, i ≤ l.length → (∀ t, t < i → (nthI l t).2 < x) → (∀ t, i ≤ t → t < l.length → ¬ (nthI l t).2 < x) → fnd l x = i
  | [], x, i, hi, _, _ => by simp at hi; subst hi; rfl
  | s :: l, x, i, hi, h1, h2 => by
    cases i with
    | zero =>
      have := h2 0 (by omega) (by simp)
      have e : ¬ s.2 < x := this
      simp [fnd, e]
    | succ i =>
      have e : s.2 < x := h1 0 (by omega)
      have := fnd_eq (l := l) (x := x) (i := i) (by simpa using hi) (fun t ht => h1 (t + 1) (by omega)) (fun t ht htl => h2 (t + 1) (by omega) (by simpa using htl))
      unfold fnd at this ⊢
      rw [List.takeWhile_cons, if_pos (by simpa using e)]
      simpa using this

theorem good_mono {l : List Iv} (h : Good l) {i j : Nat} (hij : i < j) (hj : j < l.length) : (nthI l i).2 + 1 < (nthI l j).1 := by
  induction j with
  | zero => omega
  | succ j ih =>
    have h1 := (good_idx h (j + 1) hj).2 (by omega)
    rw [Nat.add_sub_cancel] at h1
    by_cases e : i = j
    · subst e; exact h1
    · have := ih (by omega) (by omega)
      have := (good_idx h j (by omega)).1
      omega

/-- In a correct list, a number is found at that place, or not at all. -/
theorem mem_fnd {l : List Iv} (h : Good l) {x i : Nat} (hi : i ≤ l.length) (h1 : ∀ t, t < i → (nthI l t).2 < x) (h2 : ∀ t, i ≤ t → t < l.length → ¬ (nthI l t).2 < x) :
    mem l x = (decide (i < l.length) && decide ((nthI l i).1 ≤ x)) := by
  rw [Bool.eq_iff_iff, mem_iff]
  simp only [Bool.and_eq_true, decide_eq_true_iff]
  constructor
  · rintro ⟨s, hs, k1, k2⟩
    obtain ⟨t, ht, rfl⟩ := List.getElem_of_mem hs
    rw [← nthI_get ht] at k1 k2
    have : i ≤ t := by
      refine Nat.le_of_not_lt fun hlt => ?_
      have := h1 t hlt
      omega
    refine ⟨by omega, ?_⟩
    by_cases e : i = t
    · subst e; exact k1
    · have := good_mono h (i := i) (j := t) (by omega) ht
      have := (good_idx h i (by omega)).1
      omega
  · rintro ⟨k1, k2⟩
    exact ⟨nthI l i, nthI_mem k1, k2, by have := h2 i (Nat.le_refl _) k1; omega⟩

set_option maxHeartbeats 1000000 in
set_option maxRecDepth 20000 in
theorem bsearch_any (a : Option Addr) (n cap x : Nat) (l : List Iv) (w : World) (hI : Ivs w a n cap l) (hG : Good l) (hn : n ≤ 1000000) :
    Calls Tryz.prog 151 #[.slice a n cap, .int .u64 x, .func (.func 152) #[] #[]] w fun e w' =>
      e = .returned (.tuple #[.int .i64 ((fnd l x : Nat) : Int), .bool (mem l x)]) ∧ Below w.heap.size w w' := by
  have HI := Lib.hid hI; have HG := Lib.hid hG
  have Hl := Lib.hid hI.len
  clear hI hG
  go_enter Tryz.func151, Tryz.ntmps151
  go_wp2
  go_loopw [9, 10, 11] (fun i j _ wr => ∃ p q : Nat, p ≤ q ∧ q ≤ n ∧ i = .int .i64 p ∧ j = .int .i64 q ∧ Below w.heap.size w wr ∧ Hid ((∀ t, t < p → (nthI l t).2 < x) ∧ ∀ t, q ≤ t → t < n → ¬ (nthI l t).2 < x)) (fun i j _ _ => (intOf j).toNat - (intOf i).toNat)
  case atStart => exact ⟨0, n, by omega, by omega, rfl, rfl, Below.refl _ _, fun t ht => by omega, fun t h1 h2 => by omega⟩
  case round =>
    obtain ⟨p, q, hpq, hqn, rfl, rfl, hb, ht⟩ := hrel
    have Hb := Lib.hid hb; clear hb
    by_cases hlt : p < q
    · obtain ⟨bb, oo, rfl, hcell⟩ := (HI.out.below Hb.out).cells (by omega)
      obtain ⟨h, hh, hph, hhq⟩ : ∃ h : Nat, ((p : Int) + (q : Int)) / 2 = (h : Int) ∧ p ≤ h ∧ h < q := ⟨(p + q) / 2, by omega, by omega, by omega⟩
      have hhn : h < n := by omega
      obtain ⟨hc1, hc2⟩ := hcell h hhn
      clear hcell
      have hC := Lib.hid (fun w => findCmp_any (nthI l h) x w)
      have Hms := Lib.hid (fun t (ht : t < h) => good_mono HG.out ht (by rw [Hl.out]; exact hhn))
      have Hms2 := Lib.hid (fun t (ht : h < t) (htl : t < n) => good_mono HG.out ht (by rw [Hl.out]; exact htl))
      have Hok := Lib.hid (fun t (ht : t < n) => (good_idx HG.out t (by rw [Hl.out]; exact ht)).1)
      by_cases hlx : (nthI l h).2 < x
      · have Hlx := Lib.hid hlx
        rw [show cmpv (nthI l h) x = -1 from by simp [cmpv, hlx]] at hC
        clear hlx
        have Hr := Lib.hid (show ∀ t, t < h + 1 → (nthI l t).2 < x from by
          intro t htt
          by_cases e : t = h
          · subst e; exact Hlx.out
          · have h1 := Hms.out t (by omega)
            have h2 := Hok.out h hhn
            have h3 := Hlx.out
            omega)
        generalize nthI l h = s at *
        go_wp2_with fail
        refine (hC.out _).mono ?_
        rintro e w1 ⟨rfl, hb1⟩
        have Hb1 := Lib.hid (Hb.out.trans (hb1.mono Hb.out.size)); clear hb1
        clear hc1 hc2 hh
        go_wp2_with fail
        go_roundw
        case rel => exact ⟨h + 1, q, by omega, by omega, by go_num, rfl, Hb1.out, Hr.out, ht.out.2⟩
        case measure => simp [intOf]; omega
      · have Hr := Lib.hid (show ∀ t, h ≤ t → t < n → ¬ (nthI l t).2 < x from by
          intro t htt htn
          by_cases e : t = h
          · subst e; exact hlx
          · have h1 := Hms2.out t (by omega) htn
            have h2 := Hok.out t htn
            omega)
        have hcv : 0 ≤ cmpv (nthI l h) x := by unfold cmpv; rw [if_neg hlx]; split <;> omega
        generalize cmpv (nthI l h) x = cv at *
        generalize nthI l h = s at *
        clear hlx
        go_wp2_with fail
        refine (hC.out _).mono ?_
        rintro e w1 ⟨rfl, hb1⟩
        have Hb1 := Lib.hid (Hb.out.trans (hb1.mono Hb.out.size)); clear hb1
        clear hc1 hc2 hh
        go_wp2_with fail
        go_roundw
        case rel => exact ⟨p, h, by omega, by omega, rfl, rfl, Hb1.out, ht.out.1, Hr.out⟩
        case measure => simp [intOf]; omega
    · obtain rfl : p = q := by omega
      have Hf := Lib.hid (fnd_eq (l := l) (x := x) (i := p) (by rw [Hl.out]; exact hqn) ht.out.1 (fun t h1 h2 => ht.out.2 t h1 (by rw [← Hl.out]; exact h2)))
      have Hm := Lib.hid (mem_fnd HG.out (x := x) (i := p) (by rw [Hl.out]; exact hqn) ht.out.1 (fun t h1 h2 => ht.out.2 t h1 (by rw [← Hl.out]; exact h2)))
      rw [Hl.out] at Hm
      by_cases hpn : p < n
      · obtain ⟨bb, oo, rfl, hcell⟩ := (HI.out.below Hb.out).cells (by omega)
        obtain ⟨hc1, hc2⟩ := hcell p hpn
        clear hcell
        have hC := Lib.hid (fun w => findCmp_any (nthI l p) x w)
        have hnl := ht.out.2 p (Nat.le_refl _) hpn
        rw [decide_eq_true hpn, Bool.true_and] at Hm
        by_cases hxs : (nthI l p).1 ≤ x
        · rw [decide_eq_true hxs] at Hm
          rw [show cmpv (nthI l p) x = 0 from by unfold cmpv; rw [if_neg hnl, if_neg (by omega)]] at hC
          generalize nthI l p = s at *
          clear hnl hxs
          go_wp2_with fail
          refine (hC.out _).mono ?_
          rintro e w1 ⟨rfl, hb1⟩
          have Hb1 := Lib.hid (Hb.out.trans (hb1.mono Hb.out.size)); clear hb1
          clear hc1 hc2
          go_wp2_with fail
          go_ret2
          exact ⟨by rw [Hf.out, Hm.out]; rfl, Hb1.out⟩
        · rw [decide_eq_false hxs] at Hm
          rw [show cmpv (nthI l p) x = 1 from by unfold cmpv; rw [if_neg hnl, if_pos (by omega)]] at hC
          generalize nthI l p = s at *
          clear hnl hxs
          go_wp2_with fail
          refine (hC.out _).mono ?_
          rintro e w1 ⟨rfl, hb1⟩
          have Hb1 := Lib.hid (Hb.out.trans (hb1.mono Hb.out.size)); clear hb1
          clear hc1 hc2
          go_wp2_with fail
          go_ret2
          exact ⟨by rw [Hf.out, Hm.out]; rfl, Hb1.out⟩
      · obtain rfl : p = n := by omega
        rw [decide_eq_false hpn, Bool.false_and] at Hm
        have hd : decide ((p : Int) < (p : Int)) = false := by simp
        go_wp2_with fail
        go_ret2
        exact ⟨by rw [Hf.out, Hm.out]; rfl, Hb.out⟩

/-- The index that ranges.Find returns. -/
def findI (l : List Iv) (x : Nat) : Int := if mem l x = true then ((fnd l x : Nat) : Int) else -1

theorem find_any (a : Option Addr) (n cap x : Nat) (l : List Iv) (w : World) (hI : Ivs w a n cap l) (hG : Good l) (hn : n ≤ 1000000) :
    Calls Tryz.prog 100 #[.slice a n cap, .int .u64 x] w fun e w' => e = .returned (.int .i64 (findI l x)) ∧ Below w.heap.size w w' := by
  have hC := Lib.hid (bsearch_any a n cap x l w hI hG hn)
  clear hI hG
  unfold findI
  cases hm : mem l x with
  | true =>
    rw [hm] at hC
    rw [if_pos rfl]
    clear hm
    generalize fnd l x = f at *
    go_enter Tryz.func100, Tryz.ntmps100
    go_wp2_with fail
    refine hC.out.mono ?_
    rintro e w1 ⟨rfl, hb1⟩
    go_wp2
    go_ret
    exact ⟨rfl, hb1⟩
  | false =>
    rw [hm] at hC
    rw [if_neg (by simp)]
    clear hm
    generalize fnd l x = f at *
    go_enter Tryz.func100, Tryz.ntmps100
    go_wp2_with fail
    refine hC.out.mono ?_
    rintro e w1 ⟨rfl, hb1⟩
    go_wp2
    go_ret
    exact ⟨rfl, hb1⟩

theorem has_any (a : Option Addr) (n cap x : Nat) (l : List Iv) (w : World) (hI : Ivs w a n cap l) (hG : Good l) (hn : n ≤ 1000000) :
    Calls Tryz.prog 57 #[.slice a n cap, .int .u64 x] w fun e w' => e = .returned (.bool (mem l x)) ∧ Below w.heap.size w w' := by
  have hC := Lib.hid (find_any a n cap x l w hI hG hn)
  clear hI hG
  cases h : mem l x with
  | true =>
    have hd : findI l x = ((fnd l x : Nat) : Int) := by unfold findI; rw [if_pos h]
    rw [hd] at hC
    clear h hd
    generalize fnd l x = f at *
    have hd : decide (0 ≤ (f : Int)) = true := by rw [decide_eq_true_iff]; omega
    go_enter Tryz.func57, Tryz.ntmps57
    go_wp2_with fail
    refine hC.out.mono ?_
    rintro e w1 ⟨rfl, hb1⟩
    go_wp2
    go_ret
    exact ⟨ret_bool (by simp), hb1⟩
  | false =>
    have hd : findI l x = -1 := by unfold findI; rw [if_neg (by rw [h]; simp)]
    rw [hd] at hC
    clear h hd
    go_enter Tryz.func57, Tryz.ntmps57
    go_wp2_with fail
    refine hC.out.mono ?_
    rintro e w1 ⟨rfl, hb1⟩
    go_wp2
    go_ret
    exact ⟨ret_bool (by simp), hb1⟩

end Go.Proofs.YtlkchfhcfccaoaaGreatDoor
end

section
namespace Go.Proofs.YtlkchfhcfccaoaaGreatDoor
open Go.RowKit
set_option linter.unusedVariables false

theorem entCheck2_any (a : Option Addr) (n c p : Nat) (hs : List Iv) (w : World) (hI : Ivs w a n c hs) (hD : Door w) (hp : w.cell? ⟨p, 2, none⟩ = some (.slice a n c)) :
    Calls Tryz.prog 138 #[.pointer (some ⟨p, 0, none⟩)] w fun e w' => e = .returned (errVal (errOf (ck hs))) ∧ Below w.heap.size w w' := by
  have hC := Lib.hid (check_any a n c hs w hI hD)
  clear hI hD
  go_enter Tryz.func138, Tryz.ntmps138
  go_wp2_with fail
  refine hC.out.mono ?_
  rintro e w1 ⟨rfl, hb1⟩
  have Hb1 := Lib.hid hb1; clear hb1
  go_wp2
  go_ret
  exact ⟨rfl, Hb1.out⟩

set_option maxRecDepth 20000 in
set_option maxHeartbeats 2000000 in
theorem entCheck1_any (a : Option Addr) (n c p r m : Nat) (hs : List Iv) (w : World) (hI : Ivs w a n c hs) (hp : w.cell? ⟨p, 2, none⟩ = some (.slice a n c)) (hq : w.cell? ⟨p, 1, none⟩ = some (.int .u64 m)) :
    Calls Tryz.prog 137 #[.pointer (some ⟨p, 0, none⟩)] w fun e w' => e = .returned (errVal (errOf (firstS (ckHole (r, m, hs)) hs.length))) ∧ Below w.heap.size w w' := by
  have HI := Lib.hid hI
  have Hl := Lib.hid hI.len
  have hnm : n ≤ 9223372036854775807 := Nat.le_trans hI.room hI.most
  have Hq2 := Lib.hid (fun w' (h : Below w.heap.size w w') => (h.cell (p := ⟨p, 1, none⟩) (cell_lt hq)).trans hq)
  clear hI
  go_enter Tryz.func137, Tryz.ntmps137
  go_wp2
  clear hp hq
  go_loopw [2, 3, 7] (fun _ _ i wr => ∃ k : Nat, k ≤ n ∧ i = .int .i64 k ∧ Below w.heap.size w wr ∧ Hid (∀ j, j < k → ckHole (r, m, hs) j = none)) (fun _ _ i _ => n - (intOf i).toNat)
  case atStart => exact ⟨0, by omega, rfl, Below.refl _ _, fun j h => by omega⟩
  case round =>
    obtain ⟨k, hk, rfl, hb, ht⟩ := hrel
    have Hb := Lib.hid hb; clear hb
    by_cases hkn : k < n
    · obtain ⟨cb, co, rfl, hcell⟩ := (HI.out.below Hb.out).cells (by omega)
      obtain ⟨c1, c2⟩ := hcell k hkn
      have hq := Hq2.out _ Hb.out
      clear hcell
      have h0 : (0 : Int) ≤ k := by omega
      have h04 : (k : Int) < (n : Int) := by omega
      have Hh := Lib.hid (show ckHole (r, m, hs) k = if m < (nthI hs k).2 then some (4, k) else none from rfl)
      have hkl : k < hs.length := by rw [Hl.out]; exact hkn
      generalize nthI hs k = s at *
      obtain ⟨x, u⟩ := s
      simp only at c1 c2 Hh
      have hal : Below wr.heap.size wr (wr.alloc (.cells #[.int .u64 x, .int .u64 u] 65)) := (Below.refl _ _).alloc (Nat.le_refl _) _
      have hq2 := (hal.cell (p := ⟨p, 1, none⟩) (cell_lt hq)).trans hq
      have Hal := Lib.hid (Hb.out.trans (hal.mono Hb.out.size))
      clear hal
      by_cases hu : m < u
      · have hd1 : decide ((m : Int) < (u : Int)) = true := by rw [decide_eq_true_iff]; omega
        have hd2 : decide (m < u) = true := by rw [decide_eq_true_iff]; omega
        have Hr := Lib.hid (firstS_some hkl ht.out (Hh.out.trans (if_pos hu)))
        clear hu
        go_wp2_with fail
        refine (new_any 4 k _).mono ?_
        rintro e w3 ⟨rfl, rfl⟩
        go_wp2
        go_ret
        exact ⟨by rw [Hr.out]; rfl, by first | exact Hal.out | exact below_drewN' Hal.out _⟩
      · have hd1 : decide ((m : Int) < (u : Int)) = false := by rw [decide_eq_false_iff_not]; omega
        have hd2 : decide (m < u) = false := by rw [decide_eq_false_iff_not]; omega
        have Hr := Lib.hid (firstS_step ht.out (Hh.out.trans (if_neg hu)))
        clear hu
        go_wp2
        go_roundw
        case rel => exact ⟨k + 1, by omega, by go_num, by first | exact Hal.out | exact below_drewN' Hal.out _, Hr.out⟩
        case measure => simp [intOf]; omega
    · obtain rfl : k = n := by omega
      have Hr := Lib.hid (firstS_none (n := hs.length) (fun j hj => ht.out j (by rw [← Hl.out]; exact hj)))
      go_wp2
      go_ret
      exact ⟨by rw [Hr.out]; rfl, Hb.out⟩

theorem entHas_any (e : Ent) (a : Option Addr) (n c x : Nat) (w : World) (hI : Ivs w a n c e.2.2) (hG : Good e.2.2) (hn : n ≤ 1000000) :
    Calls Tryz.prog 93 #[entV e (.slice a n c), .int .u64 x] w fun y w' => y = .returned (.bool (knownE e x)) ∧ Below w.heap.size w w' := by
  obtain ⟨r, m, hs⟩ := e
  simp only at hI hG
  have Hal := Lib.hid ((Below.refl w.heap.size w).alloc (Nat.le_refl _) (.cells #[.int .u64 r, .int .u64 m, .slice a n c] 63))
  have hC := Lib.hid (has_any a n c x hs _ (hI.below Hal.out) hG hn)
  have HkE := Lib.hid (show knownE (r, m, hs) x = (decide (x ≤ m) && !mem hs x) from rfl)
  obtain ⟨q0, q1, q2⟩ := box3 w (.int .u64 r) (.int .u64 m) (.slice a n c) 63 _ (Below.refl _ _)
  clear hI hG
  generalize mem hs x = b at *
  by_cases h : x ≤ m
  · have hd1 : decide ((x : Int) ≤ (m : Int)) = true := by rw [decide_eq_true_iff]; omega
    have hd2 : decide (x ≤ m) = true := by rw [decide_eq_true_iff]; omega
    rw [hd2] at HkE
    clear h
    go_enter Tryz.func93, Tryz.ntmps93
    go_wp2_with fail
    refine hC.out.mono ?_
    rintro e w1 ⟨rfl, hb1⟩
    have Hb1 := Lib.hid hb1; clear hb1
    go_wp2
    go_ret
    exact ⟨by rw [HkE.out]; rfl, Hal.out.trans (Hb1.out.mono Hal.out.size)⟩
  · have hd1 : decide ((x : Int) ≤ (m : Int)) = false := by rw [decide_eq_false_iff_not]; omega
    have hd2 : decide (x ≤ m) = false := by rw [decide_eq_false_iff_not]; omega
    rw [hd2] at HkE
    clear h hC
    go_enter Tryz.func93, Tryz.ntmps93
    go_wp2
    go_ret
    exact ⟨by rw [HkE.out]; rfl, Hal.out⟩

theorem errOf_none {o : Option (Nat × Nat)} (h : errVal (errOf o) = .nilIface) : o = none := by
  cases o with
  | none => rfl
  | some x => obtain ⟨c, i⟩ := x; simp [errOf, errVal] at h

set_option maxRecDepth 20000 in
set_option maxHeartbeats 2000000 in
theorem entCheck_any (e : Ent) (a : Option Addr) (n c : Nat) (w : World) (hI : Ivs w a n c e.2.2) (hD : Door w) :
    Calls Tryz.prog 89 #[entV e (.slice a n c)] w fun y w' => y = .returned (errVal (errOf (ckE e))) ∧ Below w.heap.size w w' := by
  obtain ⟨r, m, hs⟩ := e
  simp only at hI
  have hal : Below w.heap.size w (w.alloc (.cells #[.int .u64 r, .int .u64 m, .slice a n c] 63)) := (Below.refl w.heap.size w).alloc (Nat.le_refl _) _
  have hq := box3 w (.int .u64 r) (.int .u64 m) (.slice a n c) 63
  have hC2 := Lib.hid (fun w' (h : Below (w.alloc (.cells #[.int .u64 r, .int .u64 m, .slice a n c] 63)).heap.size (w.alloc (.cells #[.int .u64 r, .int .u64 m, .slice a n c] 63)) w') =>
    entCheck2_any a n c w.heap.size hs w' (hI.below (hal.trans (h.mono hal.size))) (hD.below (Nat.le_refl _) (hal.trans (h.mono hal.size))) (hq w' h).2.2)
  have hC1 := Lib.hid (fun w' (h : Below (w.alloc (.cells #[.int .u64 r, .int .u64 m, .slice a n c] 63)).heap.size (w.alloc (.cells #[.int .u64 r, .int .u64 m, .slice a n c] 63)) w') =>
    entCheck1_any a n c w.heap.size r m hs w' (hI.below (hal.trans (h.mono hal.size))) (hq w' h).2.2 (hq w' h).2.1)
  have Hal := Lib.hid hal
  have Hck := Lib.hid (show ckE (r, m, hs) = match ck hs with | some x => some x | none => firstS (ckHole (r, m, hs)) hs.length from rfl)
  clear hI hD hal hq
  go_enter Tryz.func89, Tryz.ntmps89
  go_wp2
  obtain ⟨fs, hfs⟩ : ∃ fs : Obj, fs = .cells #[.func (.func 138) #[] #[.pointer (some ⟨w.heap.size, 0, none⟩)], .func (.func 137) #[] #[.pointer (some ⟨w.heap.size, 0, none⟩)]] 175 := ⟨_, rfl⟩
  have hb0 : Below (w.alloc (.cells #[.int .u64 r, .int .u64 m, .slice a n c] 63)).heap.size (w.alloc (.cells #[.int .u64 r, .int .u64 m, .slice a n c] 63)) ((w.alloc (.cells #[.int .u64 r, .int .u64 m, .slice a n c] 63)).alloc fs) := (Below.refl _ _).alloc (Nat.le_refl _) _
  have hrow : ((w.alloc (.cells #[.int .u64 r, .int .u64 m, .slice a n c] 63)).alloc fs).heap[w.heap.size + 1]? = some fs := row_new (by simp)
  have hsz : ((w.alloc (.cells #[.int .u64 r, .int .u64 m, .slice a n c] 63)).alloc fs).heap.size = w.heap.size + 2 := by simp
  rw [← hfs]
  generalize (w.alloc (.cells #[.int .u64 r, .int .u64 m, .slice a n c] 63)).alloc fs = W2 at *
  have Hb0 := Lib.hid hb0
  have Hz := Lib.hid hb0.size
  have Hfn := Lib.hid (show ∀ w', Below W2.heap.size W2 w' → w'.cell? ⟨w.heap.size + 1, 0, none⟩ = some (.func (.func 138) #[] #[.pointer (some ⟨w.heap.size, 0, none⟩)]) ∧ w'.cell? ⟨w.heap.size + 1, 1, none⟩ = some (.func (.func 137) #[] #[.pointer (some ⟨w.heap.size, 0, none⟩)]) from fun w' h => by
    have hr : w'.heap[w.heap.size + 1]? = some fs := (h.block _ (by omega)).trans hrow
    rw [hfs] at hr
    exact ⟨cells_cell (i := 0) hr rfl, cells_cell (i := 1) hr rfl⟩)
  clear hb0 hrow hsz hfs
  go_loopw [5, 6, 12] (fun _ _ i wr => Below W2.heap.size W2 wr ∧ Hid (i = .int .i64 0 ∨ (i = .int .i64 1 ∧ ck hs = none) ∨ (i = .int .i64 2 ∧ ck hs = none ∧ firstS (ckHole (r, m, hs)) hs.length = none))) (fun _ _ i _ => 2 - (intOf i).toNat)
  case atStart => exact ⟨Below.refl _ _, .inl rfl⟩
  case round =>
    obtain ⟨hb, hi⟩ := hrel
    have Hb := Lib.hid hb; clear hb
    have Hbw := Lib.hid (Hb0.out.trans (Hb.out.mono Hz.out))
    have Hbz := Lib.hid (Hal.out.trans (Hbw.out.mono Hal.out.size))
    obtain ⟨f1, f2⟩ := Hfn.out _ Hb.out
    rcases hi.out with rfl | ⟨rfl, h1⟩ | ⟨rfl, h1, h2⟩
    · have hC := Lib.hid (hC2.out wr Hbw.out)
      cases h : ck hs with
      | none =>
        rw [h] at hC
        simp only [errOf, errVal] at hC
        have Hn := Lib.hid h
        clear h hi
        go_wp2_with fail
        refine hC.out.mono ?_
        rintro e w1 ⟨rfl, hb1⟩
        have Hb1 := Lib.hid (Hb.out.trans (hb1.mono Hb.out.size)); clear hb1
        go_wp2
        go_roundw
        case rel => exact ⟨Hb1.out, .inr (.inl ⟨by go_num, trivial⟩)⟩
        case measure => simp [intOf]
      | some x =>
        obtain ⟨cd, ci⟩ := x
        rw [h] at hC Hck
        simp only [errOf, errVal] at hC Hck
        clear h hi
        go_wp2_with fail
        refine hC.out.mono ?_
        rintro e w1 ⟨rfl, hb1⟩
        have Hb1 := Lib.hid (Hbz.out.trans (hb1.mono Hbz.out.size)); clear hb1
        go_wp2
        go_ret
        exact ⟨by rw [Hck.out]; rfl, Hb1.out⟩
    · have hC := Lib.hid (hC1.out wr Hbw.out)
      rw [h1] at Hck
      simp only at Hck
      cases h : firstS (ckHole (r, m, hs)) hs.length with
      | none =>
        rw [h] at hC
        simp only [errOf, errVal] at hC
        have Hn := Lib.hid (And.intro h1 h)
        clear h hi h1
        go_wp2_with fail
        refine hC.out.mono ?_
        rintro e w1 ⟨rfl, hb1⟩
        have Hb1 := Lib.hid (Hb.out.trans (hb1.mono Hb.out.size)); clear hb1
        go_wp2
        go_roundw
        case rel => exact ⟨Hb1.out, .inr (.inr ⟨by go_num, Hn.out.1, trivial⟩)⟩
        case measure => simp [intOf]
      | some x =>
        obtain ⟨cd, ci⟩ := x
        rw [h] at hC Hck
        simp only [errOf, errVal] at hC
        clear h hi h1
        go_wp2_with fail
        refine hC.out.mono ?_
        rintro e w1 ⟨rfl, hb1⟩
        have Hb1 := Lib.hid (Hbz.out.trans (hb1.mono Hbz.out.size)); clear hb1
        go_wp2
        go_ret
        exact ⟨by rw [Hck.out]; rfl, Hb1.out⟩
    · rw [h1] at Hck
      simp only at Hck
      rw [h2] at Hck
      clear h1 h2 hi
      go_wp2
      go_ret
      exact ⟨by rw [Hck.out]; rfl, Hbz.out⟩

theorem entCanonical_any (e : Ent) (a : Option Addr) (n c : Nat) (w : World) (hI : Ivs w a n c e.2.2) (hD : Door w) (hm : e.2.1 < 18446744073709551616) (hn : n ≤ 1000000) :
    Calls Tryz.prog 123 #[entV e (.slice a n c)] w fun y w' => y = .returned (.bool (canEB e)) ∧ Below w.heap.size w w' := by
  obtain ⟨r, m, hs⟩ := e
  simp only at hI hm
  have hal : Below w.heap.size w (w.alloc (.cells #[.int .u64 r, .int .u64 m, .slice a n c] 63)) := (Below.refl _ _).alloc (Nat.le_refl _) _
  have HX := Lib.hid (box3 w (.int .u64 r) (.int .u64 m) (.slice a n c) 63)
  have HI := Lib.hid (hI.below hal)
  have hC := Lib.hid (entCheck_any (r, m, hs) a n c _ (hI.below hal) (hD.below (Nat.le_refl _) hal))
  have Hal := Lib.hid hal
  have hH := Lib.hid (fun w' (h : Below (w.alloc (.cells #[.int .u64 r, .int .u64 m, .slice a n c] 63)).heap.size (w.alloc (.cells #[.int .u64 r, .int .u64 m, .slice a n c] 63)) w') (hG : Good hs) => entHas_any (r, m, hs) a n c m w' (HI.out.below h) hG hn)
  obtain ⟨q0, q1, q2⟩ := HX.out _ (Below.refl _ _)
  clear hI hm hal hD
  cases h : ckE (r, m, hs) with
  | some x =>
    obtain ⟨cd, ci⟩ := x
    have Hcan := Lib.hid (show canEB (r, m, hs) = false from by unfold canEB; rw [h]; rfl)
    rw [h] at hC
    simp only [errOf, errVal] at hC
    clear h
    go_enter Tryz.func123, Tryz.ntmps123
    go_wp2_with fail
    refine hC.out.mono ?_
    rintro e w1 ⟨rfl, hb1⟩
    have Hb1 := Lib.hid hb1; clear hb1
    go_wp2
    go_ret
    exact ⟨by rw [Hcan.out]; rfl, Hal.out.trans (Hb1.out.mono Hal.out.size)⟩
  | none =>
    have Hcan := Lib.hid (show canEB (r, m, hs) = knownE (r, m, hs) m from by unfold canEB knownE; rw [h]; simp)
    have hG := (ckE_none.1 h).1
    simp only at hG
    rw [h] at hC
    simp only [errOf, errVal] at hC
    have hH := Lib.hid (fun w' h => hH.out w' h hG)
    clear h hG
    generalize knownE (r, m, hs) m = b at *
    go_enter Tryz.func123, Tryz.ntmps123
    go_wp2_with fail
    refine hC.out.mono ?_
    rintro e w1 ⟨rfl, hb1⟩
    have Hb1 := Lib.hid hb1; clear hb1 q0 q1 q2
    obtain ⟨q0, q1, q2⟩ := HX.out _ Hb1.out
    go_wp2_with fail
    refine (hH.out _ Hb1.out).mono ?_
    rintro e w2 ⟨rfl, hb2⟩
    have Hb2 := Lib.hid hb2; clear hb2
    go_wp2
    go_ret
    exact ⟨by rw [Hcan.out]; rfl, (Hal.out.trans (Hb1.out.mono Hal.out.size)).trans (Hb2.out.mono (Nat.le_trans Hal.out.size Hb1.out.size))⟩

end Go.Proofs.YtlkchfhcfccaoaaGreatDoor
end
