/-
  Plain law: the check of a list finds nothing exactly if the list is correct. No program in sight.
-/
import Derived.Test.YtbiohohclnaocaaGreatDoorRgRef2
namespace Go.Proofs.YtbiohohclnaocaaGreatDoor
set_option linter.unusedVariables false

theorem good_of_idx : ∀ {l : List Iv}, (∀ i, i < l.length → (nthI l i).1 ≤ (nthI l i).2 ∧ (0 < i → (nthI l (i - 1)).2 + 1 < (nthI l i).1)) → Good l
  | [], _ => trivial
  | [s], h => (h 0 (by simp)).1
  | s :: t :: l, h => by
    have h0 := (h 0 (by simp)).1
    have h1 := (h 1 (by simp)).2 (by omega)
    refine ⟨h0, h1, good_of_idx fun i hi => ?_⟩
    have := h (i + 1) (by simpa using hi)
    refine ⟨this.1, fun hi0 => ?_⟩
    obtain ⟨j, rfl⟩ : ∃ j, i = j + 1 := ⟨i - 1, by omega⟩
    exact this.2 (by omega)

theorem good_idx : ∀ {l : List Iv}, Good l → ∀ i, i < l.length → (nthI l i).1 ≤ (nthI l i).2 ∧ (0 < i → (nthI l (i - 1)).2 + 1 < (nthI l i).1)
  | [], _, i, hi => by simp at hi
  | [s], h, i, hi => by
    obtain rfl : i = 0 := by simpa using hi
    exact ⟨h, by omega⟩
  | s :: t :: l, h, i, hi => by
    obtain ⟨h1, h2, h3⟩ := h
    cases i with
    | zero => exact ⟨h1, by omega⟩
    | succ i =>
      have := good_idx h3 i (by simpa using hi)
      refine ⟨this.1, fun _ => ?_⟩
      cases i with
      | zero => exact h2
      | succ i => exact this.2 (by omega)

theorem relB_zero {a b : Iv} (ha : a.1 ≤ a.2) (hb : b.1 ≤ b.2) : relB a b = 0 ↔ a.2 + 1 < b.1 := by
  rw [relR_eq ha hb]
  unfold relR
  repeat' split
  all_goals omega

theorem ck_good {l : List Iv} : ck l = none ↔ Good l := by
  constructor
  · intro h
    have h' := firstS_of_none h
    have ok : ∀ i, i < l.length → (nthI l i).1 ≤ (nthI l i).2 := by
      intro i hi
      have := h' i hi
      unfold ckAt at this
      split at this
      · cases this
      · omega
    refine good_of_idx fun i hi => ⟨ok i hi, fun h0 => ?_⟩
    have := h' i hi
    unfold ckAt at this
    rw [if_neg (by have := ok i hi; omega)] at this
    split at this
    · cases this
    · rename_i h1
      have e : relB (nthI l (i - 1)) (nthI l i) = 0 := by
        refine Classical.byContradiction fun h2 => h1 ⟨h0, h2⟩
      exact (relB_zero (ok (i - 1) (by omega)) (ok i hi)).1 e
  · intro h
    have h' := good_idx h
    refine firstS_none fun i hi => ?_
    unfold ckAt
    rw [if_neg (by have := (h' i hi).1; omega), if_neg]
    rintro ⟨h1, h2⟩
    exact h2 ((relB_zero (h' (i - 1) (by omega)).1 (h' i hi).1).2 ((h' i hi).2 h1))

end Go.Proofs.YtbiohohclnaocaaGreatDoor
