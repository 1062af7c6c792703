/-
  Plain law: lists of intervals of numbers, their sets, and the one normal form of a set. No program in sight.
-/
import Derived.Test.YtbiohohclnaocaaGreatDoorKList
namespace Go.Proofs.YtbiohohclnaocaaGreatDoor
set_option linter.unusedVariables false

abbrev Iv := Nat × Nat

/-- Is the number in one of the intervals? -/
def mem (l : List Iv) (x : Nat) : Bool := l.any fun s => decide (s.1 ≤ x) && decide (x ≤ s.2)

theorem mem_iff {l : List Iv} {x : Nat} : mem l x = true ↔ ∃ s ∈ l, s.1 ≤ x ∧ x ≤ s.2 := by simp [mem]
theorem mem_nil (x : Nat) : mem [] x = false := rfl
theorem mem_cons (s : Iv) (l : List Iv) (x : Nat) : mem (s :: l) x = (decide (s.1 ≤ x) && decide (x ≤ s.2) || mem l x) := rfl
theorem mem_append (a b : List Iv) (x : Nat) : mem (a ++ b) x = (mem a x || mem b x) := by simp [mem]
theorem mem_false {l : List Iv} {x : Nat} : mem l x = false ↔ ∀ s ∈ l, ¬ (s.1 ≤ x ∧ x ≤ s.2) := by
  rw [← Bool.not_eq_true, mem_iff]
  simp

/-- Correct: each interval is, and numbers lie between any two neighbours. -/
def Good : List Iv → Prop
  | [] => True
  | [s] => s.1 ≤ s.2
  | s :: t :: l => s.1 ≤ s.2 ∧ s.2 + 1 < t.1 ∧ Good (t :: l)

theorem Good.tail {s : Iv} {l : List Iv} (h : Good (s :: l)) : Good l := by
  cases l with
  | nil => trivial
  | cons t l => exact h.2.2

theorem Good.head {s : Iv} {l : List Iv} (h : Good (s :: l)) : s.1 ≤ s.2 := by
  cases l with
  | nil => exact h
  | cons t l => exact h.1

theorem Good.lower : ∀ {s : Iv} {l : List Iv}, Good (s :: l) → ∀ t ∈ l, s.2 + 1 < t.1
  | s, [], _, t, ht => by simp at ht
  | s, u :: l, h, t, ht => by
    rcases List.mem_cons.1 ht with rfl | ht
    · exact h.2.1
    · have h1 := Good.lower h.2.2 t ht
      have h2 := h.2.2.head
      have h3 := h.2.1
      omega

theorem Good.ok : ∀ {l : List Iv}, Good l → ∀ t ∈ l, t.1 ≤ t.2
  | [], _, t, ht => by simp at ht
  | s :: l, h, t, ht => by
    rcases List.mem_cons.1 ht with rfl | ht
    · exact h.head
    · exact Good.ok h.tail t ht

theorem good_cons {s : Iv} {l : List Iv} (h1 : s.1 ≤ s.2) (h2 : ∀ t ∈ l, s.2 + 1 < t.1) (h : Good l) : Good (s :: l) := by
  cases l with
  | nil => exact h1
  | cons t l => exact ⟨h1, h2 t (List.mem_cons_self ..), h⟩

theorem Good.mem_lower {s : Iv} {l : List Iv} (h : Good (s :: l)) {x : Nat} (hx : mem l x = true) : s.2 + 1 < x := by
  obtain ⟨t, ht, h1, h2⟩ := mem_iff.1 hx
  have := h.lower t ht
  omega

theorem Good.mem_least {s : Iv} {l : List Iv} (h : Good (s :: l)) {x : Nat} (hx : mem (s :: l) x = true) : s.1 ≤ x := by
  obtain ⟨t, ht, h1, h2⟩ := mem_iff.1 hx
  rcases List.mem_cons.1 ht with rfl | ht
  · exact h1
  · have := h.lower t ht
    have := h.head
    omega

theorem mem_head {s : Iv} {l : List Iv} {x : Nat} (h1 : s.1 ≤ x) (h2 : x ≤ s.2) : mem (s :: l) x = true :=
  mem_iff.2 ⟨s, List.mem_cons_self .., h1, h2⟩

theorem mem_tail {s : Iv} {l : List Iv} {x : Nat} (h : mem l x = true) : mem (s :: l) x = true := by
  rw [mem_cons, h, Bool.or_true]

theorem mem_tail_of {s : Iv} {l : List Iv} {x : Nat} (h : mem (s :: l) x = true) (hs : s.2 < x) : mem l x = true := by
  rw [mem_cons] at h
  have : decide (x ≤ s.2) = false := by rw [decide_eq_false_iff_not]; omega
  rw [this, Bool.and_false, Bool.false_or] at h
  exact h

/-- A set has one correct list. -/
theorem good_ext : ∀ {l l' : List Iv}, Good l → Good l' → (∀ x, mem l x = mem l' x) → l = l'
  | [], [], _, _, _ => rfl
  | [], t :: l', _, h', e => by
    have := (e t.1).symm.trans rfl
    rw [mem_nil, mem_head (Nat.le_refl _) h'.head] at this
    cases this
  | s :: l, [], h, _, e => by
    have := e s.1
    rw [mem_nil, mem_head (Nat.le_refl _) h.head] at this
    cases this
  | s :: l, t :: l', h, h', e => by
    have e1 : s.1 = t.1 := by
      have a := h'.mem_least (x := s.1) (by rw [← e]; exact mem_head (Nat.le_refl _) h.head)
      have b := h.mem_least (x := t.1) (by rw [e]; exact mem_head (Nat.le_refl _) h'.head)
      omega
    have k1 := h.head
    have k2 := h'.head
    have le1 : s.2 ≤ t.2 := by
      refine Nat.le_of_not_lt fun hlt => ?_
      have m : mem (t :: l') (t.2 + 1) = true := by rw [← e]; exact mem_head (by omega) (by omega)
      have := h'.mem_lower (mem_tail_of m (by omega))
      omega
    have le2 : t.2 ≤ s.2 := by
      refine Nat.le_of_not_lt fun hlt => ?_
      have m : mem (s :: l) (s.2 + 1) = true := by rw [e]; exact mem_head (by omega) (by omega)
      have := h.mem_lower (mem_tail_of m (by omega))
      omega
    have e2 : s.2 = t.2 := by omega
    have es : s = t := Prod.ext e1 e2
    subst es
    congr 1
    refine good_ext h.tail h'.tail fun x => ?_
    rw [Bool.eq_iff_iff]
    constructor
    · intro hm
      have := h.mem_lower hm
      exact mem_tail_of (by rw [← e]; exact mem_tail hm) (by omega)
    · intro hm
      have := h'.mem_lower hm
      exact mem_tail_of (by rw [e]; exact mem_tail hm) (by omega)

/-! At the end of a list. -/
theorem good_snoc : ∀ {l : List Iv} {s : Iv}, Good l → s.1 ≤ s.2 → (∀ t ∈ l, t.2 + 1 < s.1) → Good (l ++ [s])
  | [], s, _, hs, _ => hs
  | t :: l, s, h, hs, hl => by
    refine good_cons h.head ?_ (good_snoc h.tail hs fun u hu => hl u (List.mem_cons_of_mem _ hu))
    intro u hu
    rcases List.mem_append.1 hu with hu | hu
    · exact h.lower u hu
    · simp at hu; subst hu; exact hl t (List.mem_cons_self ..)

theorem good_init : ∀ {l : List Iv} {s : Iv}, Good (l ++ [s]) → Good l ∧ s.1 ≤ s.2 ∧ ∀ t ∈ l, t.2 + 1 < s.1
  | [], s, h => ⟨trivial, h, by simp⟩
  | t :: l, s, h => by
    obtain ⟨h1, h2, h3⟩ := good_init (l := l) h.tail
    refine ⟨good_cons h.head (fun u hu => h.lower u (by simp [hu])) h1, h2, ?_⟩
    intro u hu
    rcases List.mem_cons.1 hu with rfl | hu
    · exact h.lower s (by simp)
    · exact h3 u hu

/-- The last interval reaches further. -/
theorem good_widen {l : List Iv} {s : Iv} {x : Nat} (h : Good (l ++ [s])) (hx : s.2 ≤ x) : Good (l ++ [(s.1, x)]) := by
  obtain ⟨h1, h2, h3⟩ := good_init h
  exact good_snoc h1 (Nat.le_trans h2 hx) h3

/-- Put an interval that begins behind all others at the end, and join it to the last one if they touch. -/
def putL (l : List Iv) (s : Iv) : List Iv :=
  match l.getLast? with
  | none => [s]
  | some t => if t.2 + 1 = s.1 then l.dropLast ++ [(t.1, s.2)] else l ++ [s]

theorem putL_nil (s : Iv) : putL [] s = [s] := rfl
theorem putL_snoc (l : List Iv) (t s : Iv) : putL (l ++ [t]) s = if t.2 + 1 = s.1 then l ++ [(t.1, s.2)] else l ++ [t] ++ [s] := by
  unfold putL
  simp

theorem nil_or_snoc {α : Type} (l : List α) : l = [] ∨ ∃ a t, l = a ++ [t] := by
  rcases List.eq_nil_or_concat l with h | ⟨a, t, h⟩
  · exact .inl h
  · exact .inr ⟨a, t, by simpa using h⟩

theorem putL_good {l : List Iv} {s : Iv} (h : Good l) (hs : s.1 ≤ s.2) (hl : ∀ t ∈ l, t.2 < s.1) : Good (putL l s) ∧ (∀ x, mem (putL l s) x = (mem l x || (decide (s.1 ≤ x) && decide (x ≤ s.2)))) ∧ ∀ t ∈ putL l s, t.2 ≤ s.2 := by
  rcases nil_or_snoc l with rfl | ⟨a, t, rfl⟩
  · refine ⟨hs, fun x => ?_, ?_⟩
    · rw [putL_nil, mem_cons]; simp [mem_nil]
    · intro t ht; simp [putL_nil] at ht; subst ht; exact Nat.le_refl _
  · obtain ⟨h1, h2, h3⟩ := good_init h
    have ht := hl t (by simp)
    rw [putL_snoc]
    by_cases e : t.2 + 1 = s.1
    · rw [if_pos e]
      refine ⟨good_widen h (by omega), fun x => ?_, ?_⟩
      · simp only [mem_append, mem_cons, mem_nil, Bool.or_false]
        rw [Bool.or_assoc]
        congr 1
        rw [Bool.eq_iff_iff]
        simp
        omega
      · intro u hu
        rcases List.mem_append.1 hu with hu | hu
        · have := hl u (by simp [hu]); omega
        · simp at hu; subst hu; exact Nat.le_refl _
    · rw [if_neg e]
      refine ⟨good_snoc h hs ?_, fun x => ?_, ?_⟩
      · intro u hu
        rcases List.mem_append.1 hu with hu | hu
        · have := h3 u hu; omega
        · simp at hu; subst hu; omega
      · simp only [mem_append, mem_cons, mem_nil, Bool.or_false]
      · intro u hu
        rcases List.mem_append.1 hu with hu | hu
        · have := hl u hu; omega
        · simp at hu; subst hu; exact Nat.le_refl _

/-- Pieces, some of them taken. -/
def takeL : List (Iv × Bool) → List Iv → List Iv
  | [], out => out
  | (s, b) :: ps, out => takeL ps (if b then putL out s else out)

/-- Pieces that follow each other from a number on, up to the greatest one. -/
def Cover (top : Nat) : Nat → List (Iv × Bool) → Prop
  | _, [] => False
  | a, [(s, _)] => s.1 = a ∧ s.1 ≤ s.2 ∧ s.2 = top
  | a, (s, _) :: p :: ps => s.1 = a ∧ s.1 ≤ s.2 ∧ s.2 < top ∧ Cover top (s.2 + 1) (p :: ps)

theorem takeL_good {top : Nat} : ∀ {ps : List (Iv × Bool)} {a : Nat} {out : List Iv}, Cover top a ps → Good out → (∀ t ∈ out, t.2 < a) →
    Good (takeL ps out) ∧ ∀ x, mem (takeL ps out) x = (mem out x || ps.any fun p => p.2 && (decide (p.1.1 ≤ x) && decide (x ≤ p.1.2)))
  | [], a, out, hc, _, _ => hc.elim
  | [(s, b)], a, out, hc, h, hl => by
    obtain ⟨h1, h2, h3⟩ := hc
    cases b with
    | false => exact ⟨h, fun x => by simp [takeL]⟩
    | true =>
      obtain ⟨g1, g2, -⟩ := putL_good h h2 (by rw [h1]; exact hl)
      exact ⟨g1, fun x => by simp [takeL, g2]⟩
  | (s, b) :: p :: ps, a, out, hc, h, hl => by
    obtain ⟨h1, h2, h3, h4⟩ := hc
    cases b with
    | false =>
      obtain ⟨g1, g2⟩ := takeL_good (out := out) h4 h (fun t ht => by have := hl t ht; omega)
      refine ⟨g1, fun x => ?_⟩
      have := g2 x
      rw [takeL]
      simp only [Bool.false_eq_true, if_false]
      rw [this]
      simp
    | true =>
      obtain ⟨k1, k2, k3⟩ := putL_good h h2 (by rw [h1]; exact hl)
      obtain ⟨g1, g2⟩ := takeL_good (out := putL out s) h4 k1 (fun t ht => by have := k3 t ht; omega)
      refine ⟨g1, fun x => ?_⟩
      have := g2 x
      rw [takeL]
      simp only [if_true]
      rw [this, k2]
      simp [Bool.or_assoc]

end Go.Proofs.YtbiohohclnaocaaGreatDoor
