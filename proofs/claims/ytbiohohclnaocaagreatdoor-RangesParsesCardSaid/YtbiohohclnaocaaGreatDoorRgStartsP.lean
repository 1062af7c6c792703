/-
  Plain law: the numbers at which something may change. No program in sight.
-/
import Derived.Test.YtbiohohclnaocaaGreatDoorRgGood
namespace Go.Proofs.YtbiohohclnaocaaGreatDoor
set_option linter.unusedVariables false

def bnd (s : Iv) : List Nat := s.1 :: (if s.2 < 18446744073709551615 then [s.2 + 1] else [])
def bnds (l : List Iv) : List Nat := l.flatMap bnd
def allL (ls : List (List Iv)) : List Nat := 0 :: ls.flatMap bnds

theorem bnds_append (a b : List Iv) : bnds (a ++ b) = bnds a ++ bnds b := by simp [bnds]
theorem bnds_len (l : List Iv) : (bnds l).length ≤ l.length * 2 := by
  induction l with
  | nil => simp [bnds]
  | cons s l ih =>
    have : bnds (s :: l) = bnd s ++ bnds l := rfl
    rw [this, List.length_append, List.length_cons]
    have : (bnd s).length ≤ 2 := by unfold bnd; split <;> simp
    omega

/-- Strictly ascending. -/
def Asc : List Nat → Prop
  | [] => True
  | [_] => True
  | a :: b :: l => a < b ∧ Asc (b :: l)

theorem Asc.tail {a : Nat} {l : List Nat} (h : Asc (a :: l)) : Asc l := by
  cases l with
  | nil => trivial
  | cons b l => exact h.2
theorem Asc.lower : ∀ {a : Nat} {l : List Nat}, Asc (a :: l) → ∀ x ∈ l, a < x
  | a, [], _, x, hx => by simp at hx
  | a, b :: l, h, x, hx => by
    rcases List.mem_cons.1 hx with rfl | hx
    · exact h.1
    · have := Asc.lower h.2 x hx
      have := h.1
      omega
theorem asc_cons {a : Nat} {l : List Nat} (h : ∀ x ∈ l, a < x) (hl : Asc l) : Asc (a :: l) := by
  cases l with
  | nil => trivial
  | cons b l => exact ⟨h b (List.mem_cons_self ..), hl⟩

theorem asc_append : ∀ {a b : List Nat}, Asc a → Asc b → (∀ x ∈ a, ∀ y ∈ b, x < y) → Asc (a ++ b)
  | [], b, _, hb, _ => hb
  | x :: a, b, ha, hb, h => asc_cons (fun y hy => by
      rcases List.mem_append.1 hy with hy | hy
      · exact ha.lower y hy
      · exact h x (List.mem_cons_self ..) y hy) (asc_append ha.tail hb fun z hz y hy => h z (List.mem_cons_of_mem _ hz) y hy)

theorem asc_split : ∀ {a b : List Nat}, Asc (a ++ b) → Asc a ∧ Asc b ∧ ∀ x ∈ a, ∀ y ∈ b, x < y
  | [], b, h => ⟨trivial, h, by simp⟩
  | x :: a, b, h => by
    obtain ⟨h1, h2, h3⟩ := asc_split (a := a) (b := b) h.tail
    refine ⟨asc_cons (fun y hy => h.lower y (by simp [hy])) h1, h2, ?_⟩
    intro z hz y hy
    rcases List.mem_cons.1 hz with rfl | hz
    · exact h.lower y (by simp [hy])
    · exact h3 z hz y hy

theorem asc_get {l : List Nat} (h : Asc l) {i j : Nat} (hij : i < j) (hj : j < l.length) : nth l i < nth l j := by
  have e : l = l.take j ++ l.drop j := (List.take_append_drop j l).symm
  rw [e] at h
  obtain ⟨_, _, h3⟩ := asc_split h
  refine h3 _ ?_ _ ?_
  · have hi : i < l.length := by omega
    have : nth l i = (l.take j)[i]'(by simp; omega) := by simp [nth, hi]
    rw [this]; exact List.getElem_mem _
  · have : nth l j = (l.drop j)[0]'(by simp; omega) := by simp [nth, hj]
    rw [this]; exact List.getElem_mem _

theorem nth_mem {l : List Nat} {i : Nat} (h : i < l.length) : nth l i ∈ l := by
  have : nth l i = l[i] := by simp [nth, h]
  rw [this]; exact List.getElem_mem h

theorem mem_nth {l : List Nat} {x : Nat} (h : x ∈ l) : ∃ i, i < l.length ∧ nth l i = x := by
  obtain ⟨i, hi, rfl⟩ := List.getElem_of_mem h
  exact ⟨i, hi, by simp [nth, hi]⟩

/-- A number is put in at its place. -/
theorem asc_ins {l : List Nat} (h : Asc l) {x k : Nat} (hk : k ≤ l.length) (h1 : 0 < k → nth l (k - 1) < x) (h2 : ∀ t, k ≤ t → t < l.length → x < nth l t) :
    Asc (l.take k ++ x :: l.drop k) ∧ ∀ y, y ∈ l.take k ++ x :: l.drop k ↔ y ∈ l ∨ y = x := by
  have e : l = l.take k ++ l.drop k := (List.take_append_drop k l).symm
  have h' := h
  rw [e] at h'
  obtain ⟨a1, a2, a3⟩ := asc_split h'
  have lo : ∀ y ∈ l.take k, y < x := by
    intro y hy
    obtain ⟨i, hi, rfl⟩ := List.getElem_of_mem hy
    simp at hi
    have hi2 : i < l.length := by omega
    have : (l.take k)[i]'(by simp; omega) = nth l i := by simp [nth, hi2]
    rw [this]
    have h3 := h1 (by omega)
    by_cases e : i = k - 1
    · subst e; exact h3
    · have := asc_get h (i := i) (j := k - 1) (by omega) (by omega)
      omega
  have hi : ∀ y ∈ l.drop k, x < y := by
    intro y hy
    obtain ⟨i, hi, rfl⟩ := List.getElem_of_mem hy
    simp at hi
    have : (l.drop k)[i]'(by simp; omega) = nth l (k + i) := by simp [nth, show k + i < l.length by omega]
    rw [this]
    exact h2 _ (by omega) (by omega)
  refine ⟨asc_append a1 (asc_cons hi a2) ?_, ?_⟩
  · intro y hy z hz
    rcases List.mem_cons.1 hz with rfl | hz
    · exact lo y hy
    · exact a3 y hy z hz
  · intro y
    rw [List.mem_append, List.mem_cons]
    constructor
    · rintro (h | rfl | h)
      · exact .inl (List.mem_of_mem_take h)
      · exact .inr rfl
      · exact .inl (List.mem_of_mem_drop h)
    · rintro (h | rfl)
      · rw [e] at h
        rcases List.mem_append.1 h with h | h
        · exact .inl h
        · exact .inr (.inr h)
      · exact .inr (.inl rfl)

theorem asc_ext : ∀ {l l' : List Nat}, Asc l → Asc l' → (∀ x, x ∈ l ↔ x ∈ l') → l = l'
  | [], [], _, _, _ => rfl
  | [], b :: l', _, _, h => by have := (h b).2 (List.mem_cons_self ..); simp at this
  | a :: l, [], _, _, h => by have := (h a).1 (List.mem_cons_self ..); simp at this
  | a :: l, b :: l', h1, h2, h => by
    have e : a = b := by
      have ha := (h a).1 (List.mem_cons_self ..)
      have hb := (h b).2 (List.mem_cons_self ..)
      rcases List.mem_cons.1 ha with e | ha
      · exact e
      · rcases List.mem_cons.1 hb with e | hb
        · exact e.symm
        · have := h2.lower a ha
          have := h1.lower b hb
          omega
    subst e
    congr 1
    refine asc_ext h1.tail h2.tail fun x => ?_
    constructor
    · intro hx
      have hlt := h1.lower x hx
      rcases List.mem_cons.1 ((h x).1 (List.mem_cons_of_mem _ hx)) with e | h'
      · omega
      · exact h'
    · intro hx
      have hlt := h2.lower x hx
      rcases List.mem_cons.1 ((h x).2 (List.mem_cons_of_mem _ hx)) with e | h'
      · omega
      · exact h'

end Go.Proofs.YtbiohohclnaocaaGreatDoor
