/- Walks and laws, merged: part 5. -/
import Derived.Test.YtlkchfhcfccaoaaGreatDoorPt04
section
namespace Go.Proofs.YtlkchfhcfccaoaaGreatDoor
open Go.RowKit
set_option linter.unusedVariables false

def ckRAt (l : List Iv) (i : Nat) : Option (Nat × Nat) :=
  if (nthI l i).2 < (nthI l i).1 then some (2, i) else if 0 < i ∧ relR (nthI l (i - 1)) (nthI l i) ≠ 0 then some (3, i) else none

theorem ckRAt_eq {l : List Iv} {i : Nat} (h : 0 < i → ckAt l (i - 1) = none) : ckRAt l i = ckAt l i := by
  unfold ckRAt ckAt
  by_cases h1 : (nthI l i).2 < (nthI l i).1
  · rw [if_pos h1, if_pos h1]
  · rw [if_neg h1, if_neg h1]
    by_cases h2 : 0 < i
    · have h3 := h h2
      unfold ckAt at h3
      have h4 : ¬ (nthI l (i - 1)).2 < (nthI l (i - 1)).1 := by intro h5; rw [if_pos h5] at h3; cases h3
      rw [relR_eq (by omega) (by omega)]
    · rw [if_neg (by omega), if_neg (by omega)]

theorem ck_some {l : List Iv} {k : Nat} {x : Nat × Nat} (hk : k < l.length) (h : ∀ j, j < k → ckRAt l j = none) (hx : ckRAt l k = some x) : ck l = some x := by
  have h' : ∀ j, j < k → ckAt l j = none := by
    intro j
    induction j with
    | zero => intro hj; rw [← ckRAt_eq (by omega)]; exact h 0 hj
    | succ j ih => intro hj; rw [← ckRAt_eq (fun _ => by simpa using ih (by omega))]; exact h (j + 1) hj
  refine firstS_some hk h' ?_
  rw [← hx]
  exact (ckRAt_eq fun hk => h' (k - 1) (by omega)).symm

theorem ck_none {l : List Iv} (h : ∀ j, j < l.length → ckRAt l j = none) : ck l = none := by
  refine firstS_none fun j => ?_
  induction j with
  | zero => intro hj; rw [← ckRAt_eq (by omega)]; exact h 0 hj
  | succ j ih => intro hj; rw [← ckRAt_eq (fun _ => by simpa using ih (by omega))]; exact h (j + 1) hj

set_option maxHeartbeats 1000000 in
theorem refCheck_any (a : Option Addr) (n cap : Nat) (l : List Iv) (w : World) (hI : Ivs w a n cap l) :
    Calls Tryz.prog 79 #[.slice a n cap] w fun e w' => e = .returned (.tuple #[.int .i64 (errCode (errOf (ck l))), .int .i64 (errAt (errOf (ck l)))]) ∧ Below w.heap.size w w' := by
  have HI := Lib.hid hI
  have Hl := Lib.hid hI.len
  have hm : n ≤ 9223372036854775807 := Nat.le_trans hI.room hI.most
  clear hI
  go_enter Tryz.func79, Tryz.ntmps79
  go_wp2
  go_loopw [4] (fun i wr => ∃ k : Nat, k ≤ n ∧ i = .int .i64 k ∧ Below w.heap.size w wr ∧ Hid (∀ j, j < k → ckRAt l j = none)) (fun i _ => n - (intOf i).toNat)
  case atStart => exact ⟨0, by omega, rfl, Below.refl _ _, fun j h => by omega⟩
  case round =>
    obtain ⟨k, hk, rfl, hb, ht⟩ := hrel
    have Hb := Lib.hid hb; clear hb
    by_cases hkn : k < n
    · obtain ⟨bb, oo, rfl, hcell⟩ := (HI.out.below Hb.out).cells (by omega)
      obtain ⟨hc1, hc2⟩ := hcell k hkn
      have Hcell := Lib.hid hcell; clear hcell
      have Hlt := Lib.hid (HI.out.lt (nthI l k) (nthI_mem (by rw [Hl.out]; exact hkn)))
      have hin : ckRAt l k = if (nthI l k).2 < (nthI l k).1 then some (2, k) else if 0 < k ∧ relR (nthI l (k - 1)) (nthI l k) ≠ 0 then some (3, k) else none := rfl
      generalize hs : nthI l k = s at *
      have Hs := Lib.hid hs; clear hs
      have hC := Lib.hid (fun w => refRight3_any s w)
      by_cases h2 : s.2 < s.1
      · rw [if_pos h2] at hin
        have Hr := Lib.hid (show ck l = some (2, k) from ck_some (by rw [Hl.out]; exact hkn) ht.out hin)
        clear hin
        rw [decide_eq_false (by omega : ¬ s.1 ≤ s.2)] at hC
        clear h2
        go_wp2_with fail
        refine (hC.out _).mono ?_
        rintro e w1 ⟨rfl, hb1⟩
        have Hb1 := Lib.hid (Hb.out.trans (hb1.mono Hb.out.size)); clear hb1
        go_wp2_with fail
        go_ret2
        exact ⟨by rw [Hr.out]; rfl, Hb1.out⟩
      · rw [if_neg h2] at hin
        rw [decide_eq_true (by omega : s.1 ≤ s.2)] at hC
        clear h2
        by_cases hk0 : 0 < k
        · obtain ⟨hp1, hp2⟩ := Hcell.out (k - 1) (by omega)
          have Hpl := Lib.hid (HI.out.lt (nthI l (k - 1)) (nthI_mem (by rw [Hl.out]; omega)))
          generalize hp : nthI l (k - 1) = p at *
          have Hp := Lib.hid hp; clear hp
          have hR := Lib.hid (fun w => refRelate_any p s w Hpl.out Hlt.out)
          have hg : decide (0 < (k : Int)) = true := by rw [decide_eq_true_iff]; omega
          have hsub : IntKind.i64.wrap ((k : Int) - 1) = (k : Int) - 1 := by rw [IntKind.wrap_i64]; omega
          have h01 : 0 ≤ (k : Int) - 1 := by omega
          have h02 : ((k : Int) - 1).toNat = k - 1 := by omega
          have h03 : (k : Int) - 1 < (n : Int) := by omega
          have h04 : (k : Int) < (n : Int) := by omega
          have Hin := Lib.hid hin; clear hin
          go_wp2_with fail
          refine (hC.out _).mono ?_
          rintro e w1 ⟨rfl, hb1⟩
          have hq1 := (hb1.cell (p := ⟨bb, oo + (k - 1) * 2, none⟩) (cell_lt hp1)).trans hp1
          have hq2 := (hb1.cell (p := ⟨bb, oo + (k - 1) * 2 + 1, none⟩) (cell_lt hp2)).trans hp2
          have hq3 := (hb1.cell (p := ⟨bb, oo + k * 2, none⟩) (cell_lt hc1)).trans hc1
          have hq4 := (hb1.cell (p := ⟨bb, oo + k * 2 + 1, none⟩) (cell_lt hc2)).trans hc2
          have Hb1 := Lib.hid (Hb.out.trans (hb1.mono Hb.out.size)); clear hb1
          clear hp1 hp2 hc1 hc2
          go_wp2_with fail
          refine wp_region_below (by kernel_rfl) (by kernel_rfl) ?_
          repeat (go_big_quiet_step ((intro hw; first
            | rfl
            | (go_at_call 129; exact keep_below hw (hR.out _))
            | (have q1 := (hw.cell (p := ⟨bb, oo + (k - 1) * 2, none⟩) (cell_lt hq1)).trans hq1
               have q2 := (hw.cell (p := ⟨bb, oo + (k - 1) * 2 + 1, none⟩) (cell_lt hq2)).trans hq2
               have q3 := (hw.cell (p := ⟨bb, oo + k * 2, none⟩) (cell_lt hq3)).trans hq3
               have q4 := (hw.cell (p := ⟨bb, oo + k * 2 + 1, none⟩) (cell_lt hq4)).trans hq4
               go_simp
               first | rfl | exact ⟨rfl, hw⟩))))
          refine wpQuiet_nil ?_
          intro w3 hb3
          have Hb3 := Lib.hid (Hb1.out.trans (hb3.mono Hb1.out.size)); clear hb3
          clear hq1 hq2 hq3 hq4 h01 h02 h03 h04 hsub hg
          have Hkn := Lib.hid hkn
          by_cases hr0 : relR p s = 0
          · have Hr := Lib.hid (show ckRAt l k = none from by rw [Hin.out, if_neg (by intro h; exact h.2 hr0)])
            rw [hr0]
            clear hr0
            go_wp2
            go_roundw
            case rel => exact ⟨k + 1, by omega, by go_num, Hb3.out, fun j hj => by
              rcases Nat.lt_or_ge j k with h | h
              · exact ht.out j h
              · rw [show j = k from (by omega)]; exact Hr.out⟩
            case measure => simp [intOf]; omega
          · have Hr := Lib.hid (show ck l = some (3, k) from ck_some (by rw [Hl.out]; exact hkn) ht.out (by rw [Hin.out, if_pos ⟨hk0, hr0⟩]))
            have hne : (((relR p s : Nat) : Int) != 0) = true := by rw [bne_iff_ne]; omega
            generalize relR p s = r at *
            clear hr0
            go_wp2_with fail
            go_ret2
            exact ⟨by rw [Hr.out]; rfl, Hb3.out⟩
        · obtain rfl : k = 0 := by omega
          have Hr := Lib.hid (show ckRAt l 0 = none from by rw [hin, if_neg (by omega)])
          clear hin hk0
          simp only [Nat.zero_mul, Nat.add_zero] at hc1 hc2
          rw [show ((0 : Nat) : Int) = 0 from rfl]
          go_wp2_with fail
          refine (hC.out _).mono ?_
          rintro e w1 ⟨rfl, hb1⟩
          have Hb1 := Lib.hid (Hb.out.trans (hb1.mono Hb.out.size)); clear hb1
          go_wp2_with fail
          refine wp_region_below (by kernel_rfl) (by kernel_rfl) ?_
          repeat (go_big_quiet_step ((intro hw; rfl)))
          refine wpQuiet_nil ?_
          intro w3 hb3
          have Hb3 := Lib.hid (Hb1.out.trans (hb3.mono Hb1.out.size)); clear hb3
          go_wp2
          go_roundw
          case rel => exact ⟨1, by omega, by go_num, Hb3.out, fun j hj => by rw [show j = 0 from (by omega)]; exact Hr.out⟩
          case measure => simp [intOf]; omega
    · obtain rfl : k = n := by omega
      go_wp2
      go_ret2
      exact ⟨by rw [show ck l = none from ck_none (by rw [Hl.out]; exact ht.out)]; rfl, Hb.out⟩

end Go.Proofs.YtlkchfhcfccaoaaGreatDoor
end

section
namespace Go.Proofs.YtlkchfhcfccaoaaGreatDoor
set_option linter.unusedVariables false

theorem good_of_idx : ∀ {l : List Iv}, (∀ i, i < l.length → (nthI l i).1 ≤ (nthI l i).2 ∧ (0 < i → (nthI l (i - 1)).2 + 1 < (nthI l i).1)) → Good l
  | [], _ => trivial
  | [s], h => (h 0 (by simp)).1
  | s :: t :: l, h => by
    have h0 := (h 0 (by simp)).1
    have h1 := (h 1 (by simp)).2 (by omega)
    refine ⟨h0, h1, good_of_idx fun i hi => ?_⟩
    have := h (i + 1) (by simpa using hi)
    refine ⟨this.1, fun hi0 => ?_⟩
    obtain ⟨j, rfl⟩ : ∃ j, i = j + 1 := ⟨i - 1, by omega⟩
    exact this.2 (by omega)

theorem good_idx : ∀ {l : List Iv}, Good l → ∀ i, i < l.length → (nthI l i).1 ≤ (nthI l i).2 ∧ (0 < i → (nthI l (i - 1)).2 + 1 < (nthI l i).1)
  | [], _, i, hi => by simp at hi
  | [s], h, i, hi => by
    obtain rfl : i = 0 := by simpa using hi
    exact ⟨h, by omega⟩
  | s :: t :: l, h, i, hi => by
    obtain ⟨h1, h2, h3⟩ := h
    cases i with
    | zero => exact ⟨h1, by omega⟩
    | succ i =>
      have := good_idx h3 i (by simpa using hi)
      refine ⟨this.1, fun _ => ?_⟩
      cases i with
      | zero => exact h2
      | succ i => exact this.2 (by omega)

theorem relB_zero {a b : Iv} (ha : a.1 ≤ a.2) (hb : b.1 ≤ b.2) : relB a b = 0 ↔ a.2 + 1 < b.1 := by
  rw [relR_eq ha hb]
  unfold relR
  repeat' split
  all_goals omega

theorem ck_good {l : List Iv} : ck l = none ↔ Good l := by
  constructor
  · intro h
    have h' := firstS_of_none h
    have ok : ∀ i, i < l.length → (nthI l i).1 ≤ (nthI l i).2 := by
      intro i hi
      have := h' i hi
      unfold ckAt at this
      split at this
      · cases this
      · omega
    refine good_of_idx fun i hi => ⟨ok i hi, fun h0 => ?_⟩
    have := h' i hi
    unfold ckAt at this
    rw [if_neg (by have := ok i hi; omega)] at this
    split at this
    · cases this
    · rename_i h1
      have e : relB (nthI l (i - 1)) (nthI l i) = 0 := by
        refine Classical.byContradiction fun h2 => h1 ⟨h0, h2⟩
      exact (relB_zero (ok (i - 1) (by omega)) (ok i hi)).1 e
  · intro h
    have h' := good_idx h
    refine firstS_none fun i hi => ?_
    unfold ckAt
    rw [if_neg (by have := (h' i hi).1; omega), if_neg]
    rintro ⟨h1, h2⟩
    exact h2 ((relB_zero (h' (i - 1) (by omega)).1 (h' i hi).1).2 ((h' i hi).2 h1))

end Go.Proofs.YtlkchfhcfccaoaaGreatDoor
end

section
namespace Go.Proofs.YtlkchfhcfccaoaaGreatDoor
set_option linter.unusedVariables false

def bnd (s : Iv) : List Nat := s.1 :: (if s.2 < 18446744073709551615 then [s.2 + 1] else [])
def bnds (l : List Iv) : List Nat := l.flatMap bnd
def allL (ls : List (List Iv)) : List Nat := 0 :: ls.flatMap bnds

theorem bnds_append (a b : List Iv) : bnds (a ++ b) = bnds a ++ bnds b := by simp [bnds]
theorem bnds_len (l : List Iv) : (bnds l).length ≤ l.length * 2 := by
  induction l with
  | nil => simp [bnds]
  | cons s l ih =>
    have : bnds (s :: l) = bnd s ++ bnds l := rfl
    rw [this, List.length_append, List.length_cons]
    have : (bnd s).length ≤ 2 := by unfold bnd; split <;> simp
    omega

/-- Strictly ascending. -/
def Asc : List Nat → Prop
  | [] => True
  | [_] => True
  | a :: b :: l => a < b ∧ Asc (b :: l)

theorem Asc.tail {a : Nat} {l : List Nat} (h : Asc (a :: l)) : Asc l := by
  cases l with
  | nil => trivial
  | cons b l => exact h.2
theorem Asc.lower : ∀ {a : Nat} {l : List Nat}, Asc (a :: l) → ∀ x ∈ l, a < x
  | a, [], _, x, hx => by simp at hx
  | a, b :: l, h, x, hx => by
    rcases List.mem_cons.1 hx with rfl | hx
    · exact h.1
    · have := Asc.lower h.2 x hx
      have := h.1
      omega
theorem asc_cons {a : Nat} {l : List Nat} (h : ∀ x ∈ l, a < x) (hl : Asc l) : Asc (a :: l) := by
  cases l with
  | nil => trivial
  | cons b l => exact ⟨h b (List.mem_cons_self ..), hl⟩

theorem asc_append : ∀ {a b : List Nat}, Asc a → Asc b → (∀ x ∈ a, ∀ y ∈ b, x < y) → Asc (a ++ b)
  | [], b, _, hb, _ => hb
  | x :: a, b, ha, hb, h => asc_cons (fun y hy => by
      rcases List.mem_append.1 hy with hy | hy
      · exact ha.lower y hy
      · exact h x (List.mem_cons_self ..) y hy) (asc_append ha.tail hb fun z hz y hy => h z (List.mem_cons_of_mem _ hz) y hy)

theorem asc_split : ∀ {a b : List Nat}, Asc (a ++ b) → Asc a ∧ Asc b ∧ ∀ x ∈ a, ∀ y ∈ b, x < y
  | [], b, h => ⟨trivial, h, by simp⟩
  | x :: a, b, h => by
    obtain ⟨h1, h2, h3⟩ := asc_split (a := a) (b := b) h.tail
    refine ⟨asc_cons (fun y hy => h.lower y (by simp [hy])) h1, h2, ?_⟩
    intro z hz y hy
    rcases List.mem_cons.1 hz with rfl | hz
    · exact h.lower y (by simp [hy])
    · exact h3 z hz y hy

theorem asc_get {l : List Nat} (h : Asc l) {i j : Nat} (hij : i < j) (hj : j < l.length) : nth l i < nth l j := by
  have e : l = l.take j ++ l.drop j := (List.take_append_drop j l).symm
  rw [e] at h
  obtain ⟨_, _, h3⟩ := asc_split h
  refine h3 _ ?_ _ ?_
  · have hi : i < l.length := by omega
    have : nth l i = (l.take j)[i]'(by simp; omega) := by simp [nth, hi]
    rw [this]; exact List.getElem_mem _
  · have : nth l j = (l.drop j)[0]'(by simp; omega) := by simp [nth, hj]
    rw [this]; exact List.getElem_mem _

theorem nth_mem {l : List Nat} {i : Nat} (h : i < l.length) : nth l i ∈ l := by
  have : nth l i = l[i] := by simp [nth, h]
  rw [this]; exact List.getElem_mem h

theorem mem_nth {l : List Nat} {x : Nat} (h : x ∈ l) : ∃ i, i < l.length ∧ nth l i = x := by
  obtain ⟨i, hi, rfl⟩ := List.getElem_of_mem h
  exact ⟨i, hi, by simp [nth, hi]⟩

/-- A number is put in at its place. -/
theorem asc_ins {l : List Nat} (h : Asc l) {x k : Nat} (hk : k ≤ l.length) (h1 : 0 < k → nth l (k - 1) < x) (h2 : ∀ t, k ≤ t → t < l.length → x < nth l t) :
    Asc (l.take k ++ x :: l.drop k) ∧ ∀ y, y ∈ l.take k ++ x :: l.drop k ↔ y ∈ l ∨ y = x := by
  have e : l = l.take k ++ l.drop k := (List.take_append_drop k l).symm
  have h' := h
  rw [e] at h'
  obtain ⟨a1, a2, a3⟩ := asc_split h'
  have lo : ∀ y ∈ l.take k, y < x := by
    intro y hy
    obtain ⟨i, hi, rfl⟩ := List.getElem_of_mem hy
    simp at hi
    have hi2 : i < l.length := by omega
    have : (l.take k)[i]'(by simp; omega) = nth l i := by simp [nth, hi2]
    rw [this]
    have h3 := h1 (by omega)
    by_cases e : i = k - 1
    · subst e; exact h3
    · have := asc_get h (i := i) (j := k - 1) (by omega) (by omega)
      omega
  have hi : ∀ y ∈ l.drop k, x < y := by
    intro y hy
    obtain ⟨i, hi, rfl⟩ := List.getElem_of_mem hy
    simp at hi
    have : (l.drop k)[i]'(by simp; omega) = nth l (k + i) := by simp [nth, show k + i < l.length by omega]
    rw [this]
    exact h2 _ (by omega) (by omega)
  refine ⟨asc_append a1 (asc_cons hi a2) ?_, ?_⟩
  · intro y hy z hz
    rcases List.mem_cons.1 hz with rfl | hz
    · exact lo y hy
    · exact a3 y hy z hz
  · intro y
    rw [List.mem_append, List.mem_cons]
    constructor
    · rintro (h | rfl | h)
      · exact .inl (List.mem_of_mem_take h)
      · exact .inr rfl
      · exact .inl (List.mem_of_mem_drop h)
    · rintro (h | rfl)
      · rw [e] at h
        rcases List.mem_append.1 h with h | h
        · exact .inl h
        · exact .inr (.inr h)
      · exact .inr (.inl rfl)

theorem asc_ext : ∀ {l l' : List Nat}, Asc l → Asc l' → (∀ x, x ∈ l ↔ x ∈ l') → l = l'
  | [], [], _, _, _ => rfl
  | [], b :: l', _, _, h => by have := (h b).2 (List.mem_cons_self ..); simp at this
  | a :: l, [], _, _, h => by have := (h a).1 (List.mem_cons_self ..); simp at this
  | a :: l, b :: l', h1, h2, h => by
    have e : a = b := by
      have ha := (h a).1 (List.mem_cons_self ..)
      have hb := (h b).2 (List.mem_cons_self ..)
      rcases List.mem_cons.1 ha with e | ha
      · exact e
      · rcases List.mem_cons.1 hb with e | hb
        · exact e.symm
        · have := h2.lower a ha
          have := h1.lower b hb
          omega
    subst e
    congr 1
    refine asc_ext h1.tail h2.tail fun x => ?_
    constructor
    · intro hx
      have hlt := h1.lower x hx
      rcases List.mem_cons.1 ((h x).1 (List.mem_cons_of_mem _ hx)) with e | h'
      · omega
      · exact h'
    · intro hx
      have hlt := h2.lower x hx
      rcases List.mem_cons.1 ((h x).2 (List.mem_cons_of_mem _ hx)) with e | h'
      · omega
      · exact h'

theorem asc_len : ∀ {L M : List Nat}, Asc L → (∀ y ∈ L, y ∈ M) → L.length ≤ M.length
  | [], M, _, _ => Nat.zero_le _
  | a :: L, M, h, hm => by
    have h1 := asc_len (L := L) (M := M.erase a) h.tail (fun y hy => by
      have := h.lower y hy
      rw [List.mem_erase_of_ne (by omega)]
      exact hm y (List.mem_cons_of_mem _ hy))
    have h2 := List.length_erase_of_mem (hm a (List.mem_cons_self ..))
    have h3 : 0 < M.length := List.length_pos_of_mem (hm a (List.mem_cons_self ..))
    simp only [List.length_cons]
    omega

end Go.Proofs.YtlkchfhcfccaoaaGreatDoor
end

section
namespace Go.Proofs.YtlkchfhcfccaoaaGreatDoor
set_option linter.unusedVariables false

/-- The pieces from start to start, with what is asked at each start. -/
def pcsL (f : Nat → Bool) : List Nat → List (Iv × Bool)
  | [] => []
  | [a] => [((a, 18446744073709551615), f a)]
  | a :: b :: r => ((a, b - 1), f a) :: pcsL f (b :: r)

theorem pcsL_len (f : Nat → Bool) : ∀ (l : List Nat), (pcsL f l).length = l.length
  | [] => rfl
  | [a] => rfl
  | a :: b :: r => by rw [pcsL, List.length_cons, pcsL_len f (b :: r)]; rfl

theorem pcsL_cover (f : Nat → Bool) : ∀ {a : Nat} {r : List Nat}, Asc (a :: r) → (∀ x ∈ a :: r, x < 18446744073709551616) → Cover 18446744073709551615 a (pcsL f (a :: r))
  | a, [], h, hl => ⟨rfl, by have := hl a (by simp); show a ≤ 18446744073709551615; omega, rfl⟩
  | a, [b], h, hl => by
    have h1 := h.1
    have h2 := hl b (by simp)
    refine ⟨rfl, ?_, ?_, ?_⟩
    · show a ≤ b - 1; omega
    · show b - 1 < 18446744073709551615; omega
    · show Cover _ (b - 1 + 1) (pcsL f [b])
      rw [show b - 1 + 1 = b by omega]
      exact pcsL_cover f (r := []) h.tail fun x hx => hl x (List.mem_cons_of_mem _ hx)
  | a, b :: c :: r, h, hl => by
    have h1 := h.1
    have h2 := hl b (by simp)
    refine ⟨rfl, ?_, ?_, ?_⟩
    · show a ≤ b - 1; omega
    · show b - 1 < 18446744073709551615; omega
    · show Cover _ (b - 1 + 1) (pcsL f (b :: c :: r))
      rw [show b - 1 + 1 = b by omega]
      exact pcsL_cover f (r := c :: r) h.tail fun x hx => hl x (List.mem_cons_of_mem _ hx)

theorem pcsL_any (f : Nat → Bool) : ∀ {a : Nat} {r : List Nat}, Asc (a :: r) → (∀ x ∈ a :: r, x < 18446744073709551616) →
    (∀ c x, a ≤ c → c ≤ x → x < 18446744073709551616 → (∀ y ∈ a :: r, ¬ (c < y ∧ y ≤ x)) → f x = f c) →
    ∀ x, a ≤ x → x < 18446744073709551616 → ((pcsL f (a :: r)).any fun p => p.2 && (decide (p.1.1 ≤ x) && decide (x ≤ p.1.2))) = f x
  | a, [], h, hl, hc, x, h1, h2 => by
    have := hc a x (Nat.le_refl _) h1 h2 (by intro y hy; simp at hy; subst hy; omega)
    simp [pcsL, this, h1, show x ≤ 18446744073709551615 by omega]
  | a, b :: r, h, hl, hc, x, h1, h2 => by
    have hab := h.1
    rw [pcsL, List.any_cons]
    by_cases hx : x < b
    · have e := hc a x (Nat.le_refl _) h1 h2 (by
        intro y hy
        rcases List.mem_cons.1 hy with rfl | hy
        · omega
        · rcases List.mem_cons.1 hy with rfl | hy
          · omega
          · have := h.tail.lower y hy; omega)
      have rest : ((pcsL f (b :: r)).any fun p => p.2 && (decide (p.1.1 ≤ x) && decide (x ≤ p.1.2))) = false := by
        have lo : ∀ {b : Nat} {r : List Nat}, Asc (b :: r) → ∀ p ∈ pcsL f (b :: r), b ≤ p.1.1 := by
          intro b r
          induction r generalizing b with
          | nil => intro _ p hp; simp [pcsL] at hp; subst hp; exact Nat.le_refl _
          | cons c r ih =>
            intro hA p hp
            rw [pcsL] at hp
            rcases List.mem_cons.1 hp with rfl | hp
            · exact Nat.le_refl _
            · have := ih hA.tail p hp
              have := hA.1
              omega
        rw [List.any_eq_false]
        intro p hp
        have := lo h.tail p hp
        simp
        omega
      rw [rest, Bool.or_false, e]
      simp [h1, show x ≤ b - 1 by omega]
    · have ih := pcsL_any f h.tail (fun y hy => hl y (List.mem_cons_of_mem _ hy)) (by
        intro c z hc1 hc2 hc3 hc4
        refine hc c z (by omega) hc2 hc3 ?_
        intro y hy
        rcases List.mem_cons.1 hy with rfl | hy
        · omega
        · exact hc4 y hy) x (by omega) h2
      rw [ih]
      have : decide (x ≤ b - 1) = false := by rw [decide_eq_false_iff_not]; omega
      simp [this]

theorem pcsL_top (f : Nat → Bool) : ∀ {l : List Nat}, (∀ x ∈ l, x < 18446744073709551616) → ∀ p ∈ pcsL f l, p.1.2 < 18446744073709551616
  | [], _, p, hp => by simp [pcsL] at hp
  | [a], _, p, hp => by simp [pcsL] at hp; subst hp; simp
  | a :: b :: r, h, p, hp => by
    rw [pcsL] at hp
    rcases List.mem_cons.1 hp with rfl | hp
    · have := h b (by simp); simp only; omega
    · exact pcsL_top f (fun x hx => h x (List.mem_cons_of_mem _ hx)) p hp

/-- What is asked piece by piece gives the correct list of the set. -/
theorem do_good {f : Nat → Bool} {L : List Nat} (h : Asc L) (hl : ∀ x ∈ L, x < 18446744073709551616) (h0 : 0 ∈ L)
    (hc : ∀ c x, c ≤ x → x < 18446744073709551616 → (∀ y ∈ L, ¬ (c < y ∧ y ≤ x)) → f x = f c) (ht : ∀ x, 18446744073709551616 ≤ x → f x = false) :
    Good (takeL (pcsL f L) []) ∧ ∀ x, mem (takeL (pcsL f L) []) x = f x := by
  cases L with
  | nil => simp at h0
  | cons a r =>
    have ha : a = 0 := by
      rcases List.mem_cons.1 h0 with e | e
      · exact e.symm
      · have := h.lower 0 e; omega
    subst ha
    obtain ⟨g1, g2⟩ := takeL_good (out := []) (pcsL_cover f h hl) trivial (by simp)
    refine ⟨g1, fun x => ?_⟩
    rw [g2, mem_nil, Bool.false_or]
    by_cases hx : x < 18446744073709551616
    · exact pcsL_any f h hl (fun c z _ => hc c z) x (Nat.zero_le _) hx
    · rw [ht x (by omega), List.any_eq_false]
      intro p hp
      have := pcsL_top f hl p hp
      simp
      omega

/-- Between the numbers where a list may change, it does not. -/
theorem mem_const {l : List Iv} (hl : ∀ t ∈ l, t.1 < 18446744073709551616 ∧ t.2 < 18446744073709551616) {c x : Nat} (hcx : c ≤ x) (hx : x < 18446744073709551616) (h : ∀ y ∈ bnds l, ¬ (c < y ∧ y ≤ x)) : mem l x = mem l c := by
  have hb : ∀ s ∈ l, ∀ y ∈ bnd s, y ∈ bnds l := fun s hs y hy => List.mem_flatMap.2 ⟨s, hs, hy⟩
  rw [Bool.eq_iff_iff, mem_iff, mem_iff]
  constructor
  · rintro ⟨s, hs, h1, h2⟩
    refine ⟨s, hs, ?_, by omega⟩
    have := h s.1 (hb s hs s.1 (by simp [bnd]))
    omega
  · rintro ⟨s, hs, h1, h2⟩
    refine ⟨s, hs, by omega, ?_⟩
    refine Nat.le_of_not_lt fun hlt => ?_
    have := h (s.2 + 1) (hb s hs _ (by unfold bnd; rw [if_pos (by omega)]; simp))
    omega

theorem mem_top {l : List Iv} (hl : ∀ t ∈ l, t.1 < 18446744073709551616 ∧ t.2 < 18446744073709551616) {x : Nat} (hx : 18446744073709551616 ≤ x) : mem l x = false := by
  rw [mem_false]
  intro s hs
  have := hl s hs
  omega

theorem bnds_lt {l : List Iv} (hl : ∀ t ∈ l, t.1 < 18446744073709551616 ∧ t.2 < 18446744073709551616) : ∀ y ∈ bnds l, y < 18446744073709551616 := by
  intro y hy
  obtain ⟨s, hs, hy⟩ := List.mem_flatMap.1 hy
  have := hl s hs
  unfold bnd at hy
  split at hy <;> simp at hy <;> omega

theorem takeL_append : ∀ (a b : List (Iv × Bool)) (out : List Iv), takeL (a ++ b) out = takeL b (takeL a out)
  | [], b, out => rfl
  | (s, t) :: a, b, out => by rw [List.cons_append, takeL, takeL, takeL_append a b]

theorem pcsL_get (f : Nat → Bool) : ∀ {l : List Nat} {i : Nat}, i < l.length → (pcsL f l)[i]? = some ((if i + 1 < l.length then (nth l i, nth l (i + 1) - 1) else (nth l i, 18446744073709551615)), f (nth l i))
  | [], i, h => by simp at h
  | [a], i, h => by
    have : i = 0 := by simpa using h
    subst this
    simp [pcsL, nth]
  | a :: b :: r, 0, h => by simp [pcsL, nth]
  | a :: b :: r, i + 1, h => by
    have := pcsL_get f (l := b :: r) (i := i) (by simpa using h)
    rw [pcsL, List.getElem?_cons_succ, this]
    have e1 : nth (a :: b :: r) (i + 1) = nth (b :: r) i := rfl
    have e2 : nth (a :: b :: r) (i + 1 + 1) = nth (b :: r) (i + 1) := rfl
    rw [e1, e2]
    simp only [List.length_cons, Nat.add_lt_add_iff_right]

theorem takeL_lt : ∀ {ps : List (Iv × Bool)} {out : List Iv}, (∀ p ∈ ps, p.1.1 < 18446744073709551616 ∧ p.1.2 < 18446744073709551616) → (∀ t ∈ out, t.1 < 18446744073709551616 ∧ t.2 < 18446744073709551616) → ∀ t ∈ takeL ps out, t.1 < 18446744073709551616 ∧ t.2 < 18446744073709551616
  | [], out, _, ho, t, ht => ho t ht
  | (s, b) :: ps, out, h, ho, t, ht => by
    rw [takeL] at ht
    refine takeL_lt (fun p hp => h p (List.mem_cons_of_mem _ hp)) ?_ t ht
    have hs := h _ (List.mem_cons_self ..)
    simp only at hs
    cases b with
    | false => exact ho
    | true =>
      intro u hu
      rw [if_pos rfl] at hu
      rcases nil_or_snoc out with rfl | ⟨a, v, rfl⟩
      · simp [putL_nil] at hu; subst hu; exact hs
      · have hv := ho v (by simp)
        rw [putL_snoc] at hu
        split at hu
        · rcases List.mem_append.1 hu with hu | hu
          · exact ho u (by simp [hu])
          · simp at hu; subst hu; exact ⟨hv.1, hs.2⟩
        · rcases List.mem_append.1 hu with hu | hu
          · exact ho u hu
          · simp at hu; subst hu; exact hs

theorem takeL_len : ∀ (ps : List (Iv × Bool)) (out : List Iv), (takeL ps out).length ≤ out.length + ps.length
  | [], out => Nat.le_refl _
  | (s, b) :: ps, out => by
    rw [takeL]
    refine Nat.le_trans (takeL_len ps _) ?_
    rw [List.length_cons]
    have : (putL out s).length ≤ out.length + 1 := by
      rcases nil_or_snoc out with rfl | ⟨a, v, rfl⟩
      · simp [putL_nil]
      · rw [putL_snoc]; split <;> simp
    split <;> omega

/-! Intervals in the order of their beginnings, joined one by one. -/
def normStep (out : List Iv) (s : Iv) : List Iv :=
  match out.getLast? with
  | none => [s]
  | some t => if t.2 + 1 < s.1 then out ++ [s] else out.dropLast ++ [(t.1, max t.2 s.2)]

theorem normStep_nil (s : Iv) : normStep [] s = [s] := rfl
theorem normStep_snoc (l : List Iv) (t s : Iv) : normStep (l ++ [t]) s = if t.2 + 1 < s.1 then l ++ [t] ++ [s] else l ++ [(t.1, max t.2 s.2)] := by
  unfold normStep
  simp

theorem normStep_good {out : List Iv} {s : Iv} (h : Good out) (hs : s.1 ≤ s.2) (hl : ∀ t ∈ out, t.1 ≤ s.1) :
    Good (normStep out s) ∧ (∀ x, mem (normStep out s) x = (mem out x || (decide (s.1 ≤ x) && decide (x ≤ s.2)))) ∧ ∀ t ∈ normStep out s, t.1 ≤ s.1 := by
  rcases nil_or_snoc out with rfl | ⟨a, t, rfl⟩
  · refine ⟨hs, fun x => by rw [normStep_nil, mem_cons]; simp [mem_nil], ?_⟩
    intro t ht; simp [normStep_nil] at ht; subst ht; exact Nat.le_refl _
  · obtain ⟨h1, h2, h3⟩ := good_init h
    have ht := hl t (by simp)
    rw [normStep_snoc]
    by_cases e : t.2 + 1 < s.1
    · rw [if_pos e]
      refine ⟨good_snoc h hs ?_, fun x => by simp only [mem_append, mem_cons, mem_nil, Bool.or_false], ?_⟩
      · intro u hu
        rcases List.mem_append.1 hu with hu | hu
        · have := h3 u hu; omega
        · simp at hu; subst hu; exact e
      · intro u hu
        rcases List.mem_append.1 hu with hu | hu
        · exact hl u hu
        · simp at hu; subst hu; exact Nat.le_refl _
    · rw [if_neg e]
      refine ⟨good_widen h (by omega), fun x => ?_, ?_⟩
      · simp only [mem_append, mem_cons, mem_nil, Bool.or_false]
        rw [Bool.or_assoc]
        congr 1
        rw [Bool.eq_iff_iff]
        simp
        omega
      · intro u hu
        rcases List.mem_append.1 hu with hu | hu
        · exact hl u (by simp [hu])
        · simp at hu; subst hu; exact ht

def normL (l : List Iv) : List Iv := l.foldl normStep []

/-- In ascending order of the beginnings. -/
def AscLo (l : List Iv) : Prop := ∀ i j, i < j → j < l.length → (nthI l i).1 ≤ (nthI l j).1

theorem ascLo_tail {s : Iv} {l : List Iv} (h : AscLo (s :: l)) : AscLo l := fun i j hij hj => h (i + 1) (j + 1) (by omega) (by simpa using hj)
theorem ascLo_head {s : Iv} {l : List Iv} (h : AscLo (s :: l)) : ∀ t ∈ l, s.1 ≤ t.1 := by
  intro t ht
  obtain ⟨i, hi, rfl⟩ := List.getElem_of_mem ht
  have := h 0 (i + 1) (by omega) (by simpa using hi)
  rw [← nthI_get hi]
  exact this

theorem norm_fold : ∀ {l out : List Iv}, AscLo l → (∀ s ∈ l, s.1 ≤ s.2) → Good out → (∀ t ∈ out, ∀ s ∈ l, t.1 ≤ s.1) →
    Good (l.foldl normStep out) ∧ ∀ x, mem (l.foldl normStep out) x = (mem out x || mem l x)
  | [], out, _, _, hg, _ => ⟨hg, fun x => by simp [mem_nil]⟩
  | s :: l, out, ha, hs, hg, hl => by
    obtain ⟨g1, g2, g3⟩ := normStep_good hg (hs s (by simp)) (fun t ht => hl t ht s (by simp))
    obtain ⟨k1, k2⟩ := norm_fold (l := l) (out := normStep out s) (ascLo_tail ha) (fun u hu => hs u (List.mem_cons_of_mem _ hu)) g1 (fun t ht u hu => by
      have := g3 t ht; have := ascLo_head ha u hu; omega)
    refine ⟨k1, fun x => ?_⟩
    rw [List.foldl_cons, k2, g2, mem_cons, Bool.or_assoc]

theorem norm_good {l : List Iv} (ha : AscLo l) (hs : ∀ s ∈ l, s.1 ≤ s.2) : Good (normL l) ∧ ∀ x, mem (normL l) x = mem l x := by
  obtain ⟨h1, h2⟩ := norm_fold (out := []) ha hs trivial (by simp)
  exact ⟨h1, fun x => by rw [normL, h2, mem_nil, Bool.false_or]⟩

theorem mem_perm {l l' : List Iv} (h : l.Perm l') (x : Nat) : mem l x = mem l' x := by
  rw [Bool.eq_iff_iff, mem_iff, mem_iff]
  exact ⟨fun ⟨s, hs, h1⟩ => ⟨s, h.mem_iff.1 hs, h1⟩, fun ⟨s, hs, h1⟩ => ⟨s, h.mem_iff.2 hs, h1⟩⟩

theorem normStep_lt {out : List Iv} {s : Iv} (ho : ∀ t ∈ out, t.1 < 18446744073709551616 ∧ t.2 < 18446744073709551616) (hs : s.1 < 18446744073709551616 ∧ s.2 < 18446744073709551616) : ∀ t ∈ normStep out s, t.1 < 18446744073709551616 ∧ t.2 < 18446744073709551616 := by
  intro u hu
  rcases nil_or_snoc out with rfl | ⟨a, t, rfl⟩
  · simp [normStep_nil] at hu; subst hu; exact hs
  · have ht := ho t (by simp)
    rw [normStep_snoc] at hu
    split at hu
    · rcases List.mem_append.1 hu with hu | hu
      · exact ho u hu
      · simp at hu; subst hu; exact hs
    · rcases List.mem_append.1 hu with hu | hu
      · exact ho u (by simp [hu])
      · simp at hu; subst hu; exact ⟨ht.1, by simp only; omega⟩

end Go.Proofs.YtlkchfhcfccaoaaGreatDoor
end
