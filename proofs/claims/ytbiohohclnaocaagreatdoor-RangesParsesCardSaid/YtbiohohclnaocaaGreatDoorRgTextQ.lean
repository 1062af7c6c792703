/-
  Plain law: a list of intervals and its text. No program in sight.
-/
import Derived.Test.YtbiohohclnaocaaGreatDoorRgTextP
import Derived.Test.YtbiohohclnaocaaGreatDoorRgGood
namespace Go.Proofs.YtbiohohclnaocaaGreatDoor
open Go
set_option linter.unusedVariables false

/-- What a part spells: the code of its error, or 0 and an interval. -/
def partR (s : Txt) : Nat × Iv :=
  if digT (Lib.cut s [45]).1 && digT (if (Lib.cut s [45]).2.2 then (Lib.cut s [45]).2.1 else (Lib.cut s [45]).1) then
    match numT 0 (Lib.cut s [45]).1, numT 0 (if (Lib.cut s [45]).2.2 then (Lib.cut s [45]).2.1 else (Lib.cut s [45]).1) with
    | some x, some y => (0, (x, y))
    | _, _ => (8, (0, 0))
  else (15, (0, 0))

/-- The same in the reference's way. -/
def partS (s : Txt) : Nat × Iv :=
  if 2 < (pcs 45 s).length ∨ digT ((pcs 45 s).getD 0 []) = false ∨ digT ((pcs 45 s).getD ((pcs 45 s).length - 1) []) = false then (15, (0, 0))
  else match numT 0 ((pcs 45 s).getD 0 []), numT 0 ((pcs 45 s).getD ((pcs 45 s).length - 1) []) with
    | some x, some y => (0, (x, y))
    | _, _ => (8, (0, 0))

theorem digT_no45 {l : Txt} (h : digT l = true) : ∀ b ∈ l, b ≠ 45 := by
  intro b hb e
  subst e
  unfold digT at h
  simp only [Bool.and_eq_true] at h
  have := List.all_eq_true.1 h.1.2 _ hb
  exact absurd this (by decide)

theorem partS_eq (s : Txt) : partS s = partR s := by
  unfold partS partR
  rcases split_at 45 s with h | ⟨a, b, rfl, ha⟩
  · rw [pcs_none h, cut_none h]
    simp only [List.length_cons, List.length_nil, List.getD_cons_zero, Bool.false_eq_true, if_false, Bool.and_self, Nat.zero_add, Nat.sub_self]
    by_cases hd : digT s = true
    · rw [if_neg (by simp [hd]), if_pos hd]
    · have : digT s = false := by simpa using hd
      rw [if_pos (.inr (.inl this)), if_neg (by rw [this]; simp)]
  · rw [pcs_cut b ha, cut_some b ha]
    simp only [if_true]
    rcases split_at 45 b with h | ⟨p, q, rfl, hp⟩
    · rw [pcs_none h]
      simp only [List.length_cons, List.length_nil, List.getD_cons_zero, Nat.zero_add, List.getD_cons_succ, Nat.add_one_sub_one]
      by_cases h1 : digT a = true
      · by_cases h2 : digT b = true
        · rw [if_neg (by rw [h1, h2]; simp), if_pos (by rw [h1, h2]; rfl)]
        · have h2' : digT b = false := by simpa using h2
          rw [if_pos (.inr (.inr h2')), if_neg (by rw [h2']; simp)]
      · have h1' : digT a = false := by simpa using h1
        rw [if_pos (.inr (.inl h1')), if_neg (by rw [h1']; simp)]
    · have hq : 0 < (pcs 45 q).length := List.length_pos_iff.2 (pcs_ne _ _)
      rw [if_pos (.inl (by rw [pcs_cut q hp]; simp; omega)), if_neg]
      intro e
      rw [Bool.and_eq_true] at e
      exact digT_no45 e.2 45 (by simp) rfl

theorem partR_lt {s : Txt} : (partR s).2.1 < 18446744073709551616 ∧ (partR s).2.2 < 18446744073709551616 := by
  unfold partR
  generalize (if (Lib.cut s [45]).2.2 then (Lib.cut s [45]).2.1 else (Lib.cut s [45]).1) = b
  generalize (Lib.cut s [45]).1 = a
  split
  · split
    · rename_i x y h1 h2
      exact ⟨numT_lt _ 0 x (by omega) h1, numT_lt _ 0 y (by omega) h2⟩
    · exact ⟨by decide, by decide⟩
  · exact ⟨by decide, by decide⟩

def nthT (l : List Txt) (i : Nat) : Txt := l.getD i []
theorem nthT_get {l : List Txt} {k : Nat} (h : k < l.length) : nthT l k = l[k] := by simp [nthT, h]

def partAt (l : List Txt) (i : Nat) : Option (Nat × Nat) := if (partR (nthT l i)).1 = 0 then none else some ((partR (nthT l i)).1, i)
def partsE (l : List Txt) : Option (Nat × Nat) := firstS (partAt l) l.length
def dblAt (l : List Txt) (i : Nat) : Option (Nat × Nat) := if (partR (nthT l i)).2.1 = (partR (nthT l i)).2.2 ∧ Lib.contains (nthT l i) [45] = true then some (15, i) else none
def dblE (l : List Txt) : Option (Nat × Nat) := firstS (dblAt l) l.length
def partsL (l : List Txt) : List Iv := l.map fun p => (partR p).2

def noneT : Txt := [110, 111, 110, 101]

/-- The list of a text, or its error. -/
def parseL (s : Txt) : List Iv × Option (Nat × Nat) :=
  if s = noneT then ([], none) else
  match partsE (pcs 44 s) with
  | some x => ([], some x)
  | none => match ck (partsL (pcs 44 s)) with
    | some x => ([], some x)
    | none => match dblE (pcs 44 s) with
      | some x => ([], some x)
      | none => (partsL (pcs 44 s), none)

theorem parseL_lt (s : Txt) : ∀ t ∈ (parseL s).1, t.1 < 18446744073709551616 ∧ t.2 < 18446744073709551616 := by
  intro t ht
  unfold parseL at ht
  repeat' split at ht
  all_goals first | (simp at ht; done) | skip
  unfold partsL at ht
  simp only [List.mem_map] at ht
  obtain ⟨p, _, rfl⟩ := ht
  exact partR_lt

/-- The text of an interval. -/
def ivT (s : Iv) : Txt := if s.2 = s.1 then dec s.1 else dec s.1 ++ 45 :: dec s.2
/-- The text of a list. -/
def textL (l : List Iv) : Txt := if l = [] then noneT else Lib.join (l.map ivT) [44]

theorem dec_no (n : Nat) (c : UInt8) (hc : isD c = false) : ∀ b ∈ dec n, b ≠ c := by
  intro b hb e
  subst e
  rw [dec_isD n b hb] at hc
  cases hc

theorem ivT_no44 (s : Iv) : ∀ b ∈ ivT s, b ≠ 44 := by
  intro b hb
  unfold ivT at hb
  split at hb
  · exact dec_no _ _ (by decide) b hb
  · rcases List.mem_append.1 hb with hb | hb
    · exact dec_no _ _ (by decide) b hb
    · rcases List.mem_cons.1 hb with rfl | hb
      · decide
      · exact dec_no _ _ (by decide) b hb

theorem pcs_join : ∀ (l : List Iv), l ≠ [] → pcs 44 (Lib.join (l.map ivT) [44]) = l.map ivT
  | [], h => absurd rfl h
  | [s], _ => by rw [List.map_cons, List.map_nil, Lib.join_one, pcs_none (ivT_no44 s)]
  | s :: t :: l, _ => by
    have ih := pcs_join (t :: l) (by simp)
    have e : Lib.join ((s :: t :: l).map ivT) [44] = ivT s ++ 44 :: Lib.join ((t :: l).map ivT) [44] := by
      rw [List.map_cons, List.map_cons, Lib.join_cons, Lib.join_cons]
      simp [Lib.joinTail]
    rw [e, pcs_cut _ (ivT_no44 s), ih]
    rfl

theorem partR_ivT {s : Iv} (h : s.1 < 18446744073709551616 ∧ s.2 < 18446744073709551616) : partR (ivT s) = (0, s) := by
  obtain ⟨x, y⟩ := s
  unfold partR ivT
  simp only at h ⊢
  by_cases e : y = x
  · subst e
    rw [if_pos rfl, cut_none (dec_no _ _ (by decide))]
    simp only [Bool.false_eq_true, if_false, digT_dec, numT_dec _ h.1, Bool.and_self, if_true]
  · rw [if_neg e, cut_some _ (dec_no _ _ (by decide))]
    simp only [digT_dec, numT_dec _ h.1, numT_dec _ h.2, Bool.and_self, if_true]

theorem ivT_has {s : Iv} (h : s.1 = s.2) : Lib.contains (ivT s) [45] = false := by
  unfold ivT
  rw [if_pos h.symm]
  exact contains_none (dec_no _ _ (by decide))

theorem partsL_map {l : List Iv} (h : ∀ s ∈ l, s.1 < 18446744073709551616 ∧ s.2 < 18446744073709551616) : partsL (l.map ivT) = l := by
  unfold partsL
  rw [List.map_map]
  conv => rhs; rw [← List.map_id l]
  refine List.map_congr_left fun s hs => ?_
  simp [partR_ivT (h s hs)]

theorem textL_ne {l : List Iv} (h : l ≠ []) : textL l ≠ noneT := by
  unfold textL
  rw [if_neg h]
  intro e
  have := pcs_join l h
  rw [e] at this
  cases l with
  | nil => exact h rfl
  | cons s l =>
    rw [show pcs 44 noneT = [noneT] from rfl, List.map_cons] at this
    have e1 : noneT = ivT s := by injection this
    have hd : (ivT s).all (fun b => isD b || b == 45) = true := by
      unfold ivT
      split
      · rw [List.all_eq_true]; intro b hb; rw [dec_isD _ b hb]; rfl
      · rw [List.all_eq_true]
        intro b hb
        rcases List.mem_append.1 hb with hb | hb
        · rw [dec_isD _ b hb]; rfl
        · rcases List.mem_cons.1 hb with rfl | hb
          · rfl
          · rw [dec_isD _ b hb]; rfl
    rw [← e1] at hd
    exact absurd hd (by decide)

/-- Parse inverts Text. -/
theorem parse_text {l : List Iv} (h : ∀ s ∈ l, s.1 < 18446744073709551616 ∧ s.2 < 18446744073709551616) : parseL (textL l) = match ck l with | some x => ([], some x) | none => (l, none) := by
  by_cases hn : l = []
  · subst hn; rfl
  unfold parseL
  rw [if_neg (textL_ne hn)]
  unfold textL
  rw [if_neg hn, pcs_join l hn]
  have hg : ∀ i, i < l.length → nthT (l.map ivT) i = ivT (nthI l i) := fun i hi => by rw [nthT_get (by simpa using hi), nthI_get hi]; simp
  have h1 : partsE (l.map ivT) = none := firstS_none fun i hi => by
    have hi' : i < l.length := by simpa using hi
    unfold partAt
    rw [hg i hi', partR_ivT (h _ (nthI_mem hi')), if_pos rfl]
  have h2 : dblE (l.map ivT) = none := firstS_none fun i hi => by
    have hi' : i < l.length := by simpa using hi
    unfold dblAt
    rw [hg i hi', partR_ivT (h _ (nthI_mem hi'))]
    rw [if_neg]
    rintro ⟨a, b⟩
    rw [ivT_has a] at b
    cases b
  rw [h1, partsL_map h, h2]

end Go.Proofs.YtbiohohclnaocaaGreatDoor
