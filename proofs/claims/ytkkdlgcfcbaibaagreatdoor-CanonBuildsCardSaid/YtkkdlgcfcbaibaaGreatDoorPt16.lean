/- Walks and laws, merged: part 16. -/
import Derived.Test.YtkkdlgcfcbaibaaGreatDoorPt14
import Derived.Test.YtkkdlgcfcbaibaaGreatDoorPt15
import Derived.Test.YtkkdlgcfcbaibaaGreatDoorPt04
section
namespace Go.Proofs.YtkkdlgcfcbaibaaGreatDoor
set_option linter.unusedVariables false

def nthF (k : Kno) (i : Nat) : Frg := k.getD i ([], [])
theorem nthF_get {k : Kno} {i : Nat} (h : i < k.length) : nthF k i = k[i] := by simp [nthF, h]
theorem nthF_mem {k : Kno} {i : Nat} (h : i < k.length) : nthF k i ∈ k := by rw [nthF_get h]; exact List.getElem_mem h

def membersK (k : Kno) (x : Nat) : List Nat := (List.range k.length).filter fun i => mem (nthF k i).1 x

theorem members_mem {k : Kno} {x i : Nat} : i ∈ membersK k x ↔ i < k.length ∧ mem (nthF k i).1 x = true := by
  unfold membersK
  rw [List.mem_filter, List.mem_range]

theorem members_congr {k : Kno} {x y : Nat} (h : ∀ f ∈ k, mem f.1 x = mem f.1 y) : membersK k x = membersK k y := by
  unfold membersK
  refine List.filter_congr fun i hi => ?_
  exact h _ (nthF_mem (List.mem_range.1 hi))

theorem members_eq {k : Kno} {x y : Nat} (h : membersK k x = membersK k y) : ∀ f ∈ k, mem f.1 x = mem f.1 y := by
  intro f hf
  obtain ⟨i, hi, rfl⟩ := List.getElem_of_mem hf
  rw [← nthF_get hi, Bool.eq_iff_iff]
  have e : i ∈ membersK k x ↔ i ∈ membersK k y := by rw [h]
  rw [members_mem, members_mem] at e
  exact ⟨fun hx => (e.1 ⟨hi, hx⟩).2, fun hx => (e.2 ⟨hi, hx⟩).2⟩

theorem members_none {k : Kno} {x : Nat} : membersK k x = [] ↔ ∀ f ∈ k, mem f.1 x = false := by
  constructor
  · intro h f hf
    obtain ⟨i, hi, rfl⟩ := List.getElem_of_mem hf
    rw [← nthF_get hi, ← Bool.not_eq_true]
    intro hx
    have : i ∈ membersK k x := members_mem.2 ⟨hi, hx⟩
    rw [h] at this; cases this
  · intro h
    rw [List.eq_nil_iff_forall_not_mem]
    intro i hi
    obtain ⟨h1, h2⟩ := members_mem.1 hi
    rw [h _ (nthF_mem h1)] at h2; cases h2

/-- All places where an interval begins, or directly behind which one ends. -/
def allK (k : Kno) : List Nat := sortA (allL (k.map (·.1)))
def startsK (k : Kno) : List Nat := (allK k).filter fun x => decide (x = 0) || decide (membersK k (x - 1) ≠ membersK k x)

theorem allK_asc (k : Kno) : Asc (allK k) := sortA_asc _
theorem allK_mem {k : Kno} {y : Nat} : y ∈ allK k ↔ y = 0 ∨ ∃ f ∈ k, y ∈ bnds f.1 := by
  unfold allK
  rw [sortA_mem]
  simp [allL]

theorem allK_lt {k : Kno} (hk : LtK k) : ∀ y ∈ allK k, y < 18446744073709551616 := by
  intro y hy
  rcases allK_mem.1 hy with rfl | ⟨f, hf, h⟩
  · omega
  · exact bnds_lt (hk f hf).items y h

theorem asc_filter {l : List Nat} (p : Nat → Bool) (h : Asc l) : Asc (l.filter p) := by
  induction l with
  | nil => trivial
  | cons a l ih =>
    rw [List.filter_cons]
    split
    · exact asc_cons (fun x hx => h.lower x (List.mem_filter.1 hx).1) (ih h.tail)
    · exact ih h.tail

theorem startsK_asc (k : Kno) : Asc (startsK k) := asc_filter _ (allK_asc k)
theorem startsK_mem {k : Kno} {y : Nat} : y ∈ startsK k ↔ y ∈ allK k ∧ (y = 0 ∨ membersK k (y - 1) ≠ membersK k y) := by
  unfold startsK
  rw [List.mem_filter, Bool.or_eq_true, decide_eq_true_iff, decide_eq_true_iff]
theorem startsK_zero (k : Kno) : 0 ∈ startsK k := startsK_mem.2 ⟨allK_mem.2 (.inl rfl), .inl rfl⟩
theorem startsK_lt {k : Kno} (hk : LtK k) : ∀ y ∈ startsK k, y < 18446744073709551616 := fun y hy => allK_lt hk y (startsK_mem.1 hy).1

theorem members_step {k : Kno} (hk : LtK k) {x : Nat} (h0 : 0 < x) (hx : x < 18446744073709551616) (h : x ∉ startsK k) : membersK k x = membersK k (x - 1) := by
  by_cases ha : x ∈ allK k
  · refine Decidable.by_contra fun hne => h (startsK_mem.2 ⟨ha, .inr fun e => hne e.symm⟩)
  · refine members_congr fun f hf => mem_const (hk f hf).items (by omega) hx fun y hy hyx => ?_
    have : y = x := by omega
    subst this
    exact ha (allK_mem.2 (.inr ⟨f, hf, hy⟩))

/-- Between two places where the fragments change, they do not. -/
theorem members_const {k : Kno} (hk : LtK k) {c : Nat} : ∀ (x : Nat), c ≤ x → x < 18446744073709551616 → (∀ y ∈ startsK k, ¬ (c < y ∧ y ≤ x)) → membersK k x = membersK k c
  | 0, hc, _, _ => by have : c = 0 := by omega
                      subst this; rfl
  | x + 1, hc, hx, h => by
    by_cases e : c = x + 1
    · subst e; rfl
    · rw [members_step hk (by omega) hx (fun hm => h _ hm ⟨by omega, Nat.le_refl _⟩), Nat.add_sub_cancel]
      exact members_const hk x (by omega) (by omega) fun y hy hyx => h y hy ⟨hyx.1, by omega⟩

def inK (k : Kno) (x : Nat) : Bool := decide (membersK k x ≠ [])
def piecesK (k : Kno) : List Iv := (pcsL (inK k) (startsK k)).filterMap fun p => if p.2 = true then some p.1 else none
def refineK (k : Kno) : Kno := (piecesK k).map fun s => ([s], atK k s.1)

/-- A piece: where it lies, and what holds on it. -/
theorem pieces_mem {k : Kno} (hk : LtK k) {s : Iv} (hs : s ∈ piecesK k) : s.1 ≤ s.2 ∧ s.2 < 18446744073709551616 ∧ ∀ x, s.1 ≤ x → x ≤ s.2 → membersK k x = membersK k s.1 := by
  obtain ⟨p, hp, he⟩ := List.mem_filterMap.1 hs
  obtain ⟨i, hi, rfl⟩ := List.getElem_of_mem hp
  rw [pcsL_len] at hi
  have e := pcsL_get (inK k) hi
  rw [List.getElem?_eq_getElem (by rw [pcsL_len]; exact hi)] at e
  have e' := Option.some.inj e
  rw [e'] at he
  have hA := startsK_asc k
  have hL := startsK_lt hk
  have h0 := hL _ (nth_mem hi)
  by_cases h1 : i + 1 < (startsK k).length
  · rw [if_pos h1] at he
    by_cases hin : inK k (nth (startsK k) i) = true
    · have he3 := Option.some.inj ((if_pos hin).symm.trans he)
      clear he
      subst he3
      have h2 := asc_get hA (i := i) (j := i + 1) (by omega) h1
      have h3 := hL _ (nth_mem h1)
      refine ⟨by simp only; omega, by simp only; omega, fun x hx1 hx2 => ?_⟩
      simp only at hx1 hx2 ⊢
      refine members_const hk x hx1 (by omega) fun y hy hyx => ?_
      obtain ⟨j, hj, rfl⟩ := mem_nth hy
      rcases Nat.lt_trichotomy j i with h | h | h
      · have := asc_get hA h hi; omega
      · subst h; omega
      · by_cases ej : j = i + 1
        · subst ej; omega
        · have := asc_get hA (i := i + 1) (j := j) (by omega) hj; omega
    · exact absurd ((if_neg hin).symm.trans he) (by simp)
  · rw [if_neg h1] at he
    by_cases hin : inK k (nth (startsK k) i) = true
    · have he3 := Option.some.inj ((if_pos hin).symm.trans he)
      clear he
      subst he3
      refine ⟨by simp only; omega, by simp only; omega, fun x hx1 hx2 => ?_⟩
      simp only at hx1 hx2 ⊢
      refine members_const hk x hx1 (by omega) fun y hy hyx => ?_
      obtain ⟨j, hj, rfl⟩ := mem_nth hy
      rcases Nat.lt_trichotomy j i with h | h | h
      · have := asc_get hA h hi; omega
      · subst h; omega
      · omega
    · exact absurd ((if_neg hin).symm.trans he) (by simp)

/-- Pieces lie behind one another. -/
theorem pcs_sorted (f : Nat → Bool) : ∀ {l : List Nat}, Asc l → (l.Pairwise (· < ·)) → (pcsL f l).Pairwise fun p q => p.1.2 < q.1.1
  | [], _, _ => List.Pairwise.nil
  | [a], _, _ => by simp [pcsL]
  | a :: b :: r, h, hp => by
    rw [pcsL]
    obtain ⟨p1, p2⟩ := List.pairwise_cons.1 hp
    refine List.pairwise_cons.2 ⟨fun q hq => ?_, pcs_sorted f h.tail p2⟩
    obtain ⟨i, hi, rfl⟩ := List.getElem_of_mem hq
    rw [pcsL_len] at hi
    have e := pcsL_get f hi
    rw [List.getElem?_eq_getElem (by rw [pcsL_len]; exact hi)] at e
    have e' := Option.some.inj e
    rw [e']
    have hm := nth_mem hi
    have hb : b ≤ nth (b :: r) i := by
      rcases List.mem_cons.1 hm with e | hm
      · omega
      · have := h.tail.lower _ hm; omega
    have hab := p1 b (List.mem_cons_self ..)
    split <;> (simp only; omega)

theorem asc_pw : ∀ {l : List Nat}, Asc l → l.Pairwise (· < ·)
  | [], _ => List.Pairwise.nil
  | a :: l, h => List.pairwise_cons.2 ⟨h.lower, asc_pw h.tail⟩

theorem pieces_sorted (k : Kno) : (piecesK k).Pairwise fun s t => s.2 < t.1 := by
  have h := pcs_sorted (inK k) (startsK_asc k) (asc_pw (startsK_asc k))
  unfold piecesK
  refine List.Pairwise.filterMap _ (fun p q hpq s hs t ht => ?_) h
  split at hs
  · split at ht
    · cases hs; cases ht; exact hpq
    · cases ht
  · cases hs

/-- Every item of a fragment lies in a piece. -/
theorem pcs_find (f : Nat → Bool) : ∀ {l : List Nat} {x : Nat}, Asc l → (∀ a, l.head? = some a → a ≤ x) → l ≠ [] → x < 18446744073709551616 → ∃ p ∈ pcsL f l, p.1.1 ≤ x ∧ x ≤ p.1.2 ∧ p.2 = f p.1.1
  | [], x, _, _, h, _ => absurd rfl h
  | [a], x, _, h, _, hx => ⟨((a, 18446744073709551615), f a), by simp [pcsL], h a rfl, by simp only; omega, rfl⟩
  | a :: b :: r, x, hA, h, _, hx => by
    rw [pcsL]
    by_cases hb : b ≤ x
    · obtain ⟨p, hp, h1⟩ := pcs_find f (l := b :: r) (x := x) hA.tail (fun c hc => by cases hc; exact hb) (by simp) hx
      exact ⟨p, List.mem_cons_of_mem _ hp, h1⟩
    · have ha := h a rfl
      exact ⟨((a, b - 1), f a), List.mem_cons_self .., ha, by simp only; omega, rfl⟩

theorem starts_head (k : Kno) : ∀ a, (startsK k).head? = some a → a = 0 := by
  intro a ha
  have h0 := startsK_zero k
  have hA := startsK_asc k
  cases hs : startsK k with
  | nil => rw [hs] at h0; cases h0
  | cons b l =>
    rw [hs] at ha h0 hA
    cases ha
    rcases List.mem_cons.1 h0 with e | e
    · exact e.symm
    · have := hA.lower 0 e; omega

theorem pieces_find {k : Kno} (hk : LtK k) {x : Nat} (h : membersK k x ≠ []) : ∃ s ∈ piecesK k, s.1 ≤ x ∧ x ≤ s.2 := by
  have hx : x < 18446744073709551616 := by
    refine Nat.lt_of_not_le fun hge => h (members_none.2 fun f hf => mem_top (hk f hf).items hge)
  obtain ⟨p, hp, h1, h2, h3⟩ := pcs_find (inK k) (l := startsK k) (x := x) (startsK_asc k) (fun a ha => by rw [starts_head k a ha]; exact Nat.zero_le _) (List.ne_nil_of_mem (startsK_zero k)) hx
  have hc : inK k p.1.1 = true := by
    -- the piece's members are those of x
    obtain ⟨i, hi, rfl⟩ := List.getElem_of_mem hp
    have hi' := hi
    rw [pcsL_len] at hi'
    have e := pcsL_get (inK k) hi'
    rw [List.getElem?_eq_getElem hi] at e
    have e' := Option.some.inj e
    rw [e'] at h1 h2 ⊢
    have hcx : membersK k x = membersK k (nth (startsK k) i) := by
      have hA := startsK_asc k
      refine members_const hk x (by split at h1 <;> exact h1) hx fun y hy hyx => ?_
      obtain ⟨j, hj, rfl⟩ := mem_nth hy
      rcases Nat.lt_trichotomy j i with g | g | g
      · have := asc_get hA g hi'; omega
      · subst g; omega
      · split at h2
        · rename_i g1
          simp only at h2
          have g2 := asc_get hA (i := i) (j := i + 1) (by omega) g1
          by_cases ej : j = i + 1
          · subst ej; omega
          · have := asc_get hA (i := i + 1) (j := j) (by omega) hj; omega
        · omega
    have hne : membersK k (nth (startsK k) i) ≠ [] := by rw [← hcx]; exact h
    unfold inK
    split <;> exact decide_eq_true hne
  exact ⟨p.1, List.mem_filterMap.2 ⟨p, hp, by rw [if_pos (h3.trans hc)]⟩, h1, h2⟩

theorem known_members {k : Kno} {x y : Nat} (h : membersK k x = membersK k y) (r c : Nat) : knownK k x r c = knownK k y r c := by
  rw [Bool.eq_iff_iff, knownK_iff, knownK_iff]
  have e := members_eq h
  constructor
  · rintro ⟨f, hf, h1, h2⟩; exact ⟨f, hf, by rw [← e f hf]; exact h1, h2⟩
  · rintro ⟨f, hf, h1, h2⟩; exact ⟨f, hf, by rw [e f hf]; exact h1, h2⟩

/-- What is refined: pieces that lie apart, each with the versions known there. -/
theorem refine_can {k : Kno} (hk : LtK k) :
    (∀ f ∈ refineK k, ∃ s : Iv, f.1 = [s] ∧ s.1 ≤ s.2 ∧ s.2 < 18446744073709551616 ∧ CanV f.2 ∧ LtV f.2) ∧
    (refineK k).Pairwise (fun f g => ∀ x, mem f.1 x = true → mem g.1 x = true → False) ∧
    ∀ x r c, knownK (refineK k) x r c = knownK k x r c := by
  refine ⟨fun f hf => ?_, ?_, fun x r c => ?_⟩
  · obtain ⟨s, hs, rfl⟩ := List.mem_map.1 hf
    obtain ⟨h1, h2, _⟩ := pieces_mem hk hs
    exact ⟨s, rfl, h1, h2, (atK_can hk s.1).1, (atK_can hk s.1).2.1⟩
  · unfold refineK
    rw [List.pairwise_map]
    refine (pieces_sorted k).imp fun {s t} hst x hx hy => ?_
    simp [mem] at hx hy
    omega
  · rw [Bool.eq_iff_iff]
    constructor
    · intro h
      obtain ⟨f, hf, h1, h2⟩ := knownK_iff.1 h
      obtain ⟨s, hs, rfl⟩ := List.mem_map.1 hf
      simp [mem] at h1
      obtain ⟨_, _, h3⟩ := pieces_mem hk hs
      rw [known_members (h3 x h1.1 h1.2)]
      rw [← (atK_can hk s.1).2.2]
      exact h2
    · intro h
      have hne : membersK k x ≠ [] := by
        intro e
        obtain ⟨f, hf, h1, _⟩ := knownK_iff.1 h
        rw [members_none.1 e f hf] at h1; cases h1
      obtain ⟨s, hs, h1, h2⟩ := pieces_find hk hne
      obtain ⟨_, _, h3⟩ := pieces_mem hk hs
      refine knownK_iff.2 ⟨([s], atK k s.1), List.mem_map.2 ⟨s, hs, rfl⟩, by simp [mem]; omega, ?_⟩
      show knownV (atK k s.1) r c = true
      rw [(atK_can hk s.1).2.2, ← known_members (h3 x h1 h2)]
      exact h

end Go.Proofs.YtkkdlgcfcbaibaaGreatDoor
end

section
namespace Go.Proofs.YtkkdlgcfcbaibaaGreatDoor
set_option linter.unusedVariables false

def addG : Kno → Frg → Kno
  | [], f => [f]
  | g :: k, f => if cmpV g.2 f.2 = -1 then g :: addG k f else if cmpV g.2 f.2 = 0 then (opL gOr g.1 f.1, f.2) :: k else f :: g :: k

def posG : Kno → Vec → Nat
  | [], _ => 0
  | g :: k, v => if cmpV g.2 v = -1 then posG k v + 1 else 0

def hitG : Kno → Vec → Bool
  | [], _ => false
  | g :: k, v => if cmpV g.2 v = -1 then hitG k v else decide (cmpV g.2 v = 0)

theorem posG_le : ∀ (k : Kno) (v : Vec), posG k v ≤ k.length
  | [], _ => Nat.le_refl _
  | g :: k, v => by
    rw [posG]
    have := posG_le k v
    split
    · simp only [List.length_cons]; omega
    · exact Nat.zero_le _

theorem posG_at : ∀ {k : Kno} {v : Vec} (h : posG k v < k.length), cmpV (nthF k (posG k v)).2 v ≠ -1 ∧ hitG k v = decide (cmpV (nthF k (posG k v)).2 v = 0)
  | [], v, h => by simp at h
  | g :: k, v, h => by
    rw [posG] at h ⊢
    rw [hitG]
    split at h
    · rename_i hc
      rw [if_pos hc, if_pos hc]
      exact posG_at (k := k) (v := v) (by simpa using h)
    · rename_i hc
      rw [if_neg hc, if_neg hc]
      exact ⟨hc, rfl⟩

theorem hitG_end : ∀ {k : Kno} {v : Vec} (h : posG k v = k.length), hitG k v = false
  | [], v, h => rfl
  | g :: k, v, h => by
    rw [posG] at h
    rw [hitG]
    split at h
    · rename_i hc
      rw [if_pos hc]
      exact hitG_end (by simpa using h)
    · simp at h

/-- The place is told by what it does. -/
theorem posG_unique : ∀ {k : Kno} {v : Vec} {i : Nat}, i ≤ k.length → (∀ j, j < i → cmpV (nthF k j).2 v = -1) → (i < k.length → cmpV (nthF k i).2 v ≠ -1) → i = posG k v
  | [], v, i, hi, _, _ => by simp at hi; rw [hi, posG]
  | g :: k, v, 0, hi, h1, h2 => by
    have h3 : cmpV g.2 v ≠ -1 := h2 (by simp)
    rw [posG, if_neg h3]
  | g :: k, v, i + 1, hi, h1, h2 => by
    have h3 : cmpV g.2 v = -1 := h1 0 (by omega)
    rw [posG, if_pos h3]
    have := posG_unique (k := k) (v := v) (i := i) (by simpa using hi) (fun j hj => h1 (j + 1) (by omega)) (fun h => h2 (by simpa using h))
    omega

theorem addG_hit : ∀ {k : Kno} {f : Frg}, hitG k f.2 = true → addG k f = k.set (posG k f.2) (opL gOr (nthF k (posG k f.2)).1 f.1, f.2)
  | [], f, h => by simp [hitG] at h
  | g :: k, f, h => by
    rw [hitG] at h
    rw [addG, posG]
    split at h
    · rename_i hc
      rw [if_pos hc, if_pos hc, addG_hit h]; rfl
    · rename_i hc
      rw [if_neg hc, if_neg hc, if_pos (of_decide_eq_true h)]; rfl

theorem addG_miss : ∀ {k : Kno} {f : Frg}, hitG k f.2 = false → addG k f = k.take (posG k f.2) ++ f :: k.drop (posG k f.2)
  | [], f, h => rfl
  | g :: k, f, h => by
    rw [hitG] at h
    rw [addG, posG]
    split at h
    · rename_i hc
      rw [if_pos hc, if_pos hc, addG_miss h]; rfl
    · rename_i hc
      rw [if_neg hc, if_neg hc, if_neg (of_decide_eq_false h)]; rfl

/-- What a list of groups is. -/
structure GrpF (f : Frg) : Prop where
  good : Good f.1
  some : f.1 ≠ []
  items : Lt64 f.1
  can : CanV f.2
  any : f.2 ≠ []
  vec : LtV f.2

def hasG (k : Kno) (x : Nat) (v : Vec) : Prop := ∃ h ∈ k, mem h.1 x = true ∧ h.2 = v

theorem opL_some {a b : List Iv} (ha : Lt64 a) (hb : Lt64 b) (hg : Good b) (hn : b ≠ []) : opL gOr a b ≠ [] := by
  intro h
  obtain ⟨x, hx⟩ := good_first hg hn
  have := (opL_good (g := gOr) ha hb rfl).2.1 x
  rw [h, hx, mem_nil] at this
  simp [gOr] at this

theorem addG_vec : ∀ {k : Kno} {f h : Frg}, h ∈ addG k f → h.2 = f.2 ∨ ∃ g ∈ k, g.2 = h.2
  | [], f, h, hh => by simp [addG] at hh; exact .inl (by rw [hh])
  | g :: k, f, h, hh => by
    rw [addG] at hh
    split at hh
    · rcases List.mem_cons.1 hh with rfl | hh
      · exact .inr ⟨_, List.mem_cons_self .., rfl⟩
      · rcases addG_vec hh with e | ⟨g', hg', e⟩
        · exact .inl e
        · exact .inr ⟨g', List.mem_cons_of_mem _ hg', e⟩
    · split at hh
      · rcases List.mem_cons.1 hh with rfl | hh
        · exact .inl rfl
        · exact .inr ⟨h, List.mem_cons_of_mem _ hh, rfl⟩
      · rcases List.mem_cons.1 hh with rfl | hh
        · exact .inl rfl
        · exact .inr ⟨h, hh, rfl⟩

theorem addG_ok : ∀ {k : Kno} {f : Frg}, (∀ g ∈ k, GrpF g) → k.Pairwise VecLt → GrpF f →
    (∀ g ∈ addG k f, GrpF g) ∧ (addG k f).Pairwise VecLt ∧ ∀ x v, hasG (addG k f) x v ↔ hasG k x v ∨ (mem f.1 x = true ∧ f.2 = v)
  | [], f, _, _, hf => by
    refine ⟨fun g hg => ?_, ?_, fun x v => ?_⟩
    · simp [addG] at hg; subst hg; exact hf
    · simp [addG]
    · simp [addG, hasG]
  | g :: k, f, hk, hp, hf => by
    obtain ⟨p1, p2⟩ := List.pairwise_cons.1 hp
    have hg := hk g (List.mem_cons_self ..)
    have hk' : ∀ g ∈ k, GrpF g := fun g hg => hk g (List.mem_cons_of_mem _ hg)
    rw [addG]
    by_cases h1 : cmpV g.2 f.2 = -1
    · rw [if_pos h1]
      obtain ⟨i1, i2, i3⟩ := addG_ok hk' p2 hf
      refine ⟨fun e he => ?_, List.pairwise_cons.2 ⟨fun e he => ?_, i2⟩, fun x v => ?_⟩
      · rcases List.mem_cons.1 he with rfl | he
        · exact hg
        · exact i1 e he
      · unfold VecLt
        rcases addG_vec he with e1 | ⟨g', hg', e1⟩
        · rw [e1]; exact h1
        · rw [← e1]; exact p1 g' hg'
      · have := i3 x v
        unfold hasG at this ⊢
        simp only [List.mem_cons, exists_eq_or_imp, or_assoc]
        rw [this]
    · rw [if_neg h1]
      by_cases h2 : cmpV g.2 f.2 = 0
      · rw [if_pos h2]
        have ev := cmpV_eq h2
        obtain ⟨o1, o2, o3⟩ := opL_good (g := gOr) hg.items hf.items rfl
        refine ⟨fun e he => ?_, List.pairwise_cons.2 ⟨fun e he => ?_, p2⟩, fun x v => ?_⟩
        · rcases List.mem_cons.1 he with rfl | he
          · exact ⟨o1, opL_some hg.items hf.items hf.good hf.some, o3, hf.can, hf.any, hf.vec⟩
          · exact hk' e he
        · have := p1 e he
          unfold VecLt at this ⊢
          simp only
          rw [← ev]; exact this
        · unfold hasG
          simp only [List.mem_cons, exists_eq_or_imp, o2, gOr, Bool.or_eq_true, ev]
          constructor
          · rintro (⟨h | h, e⟩ | h)
            · exact .inl (.inl ⟨h, e⟩)
            · exact .inr ⟨h, e⟩
            · exact .inl (.inr h)
          · rintro ((⟨h, e⟩ | h) | ⟨h, e⟩)
            · exact .inl ⟨.inl h, e⟩
            · exact .inr h
            · exact .inl ⟨.inr h, e⟩
      · rw [if_neg h2]
        have h3 : cmpV f.2 g.2 = -1 := by
          rw [cmpV_neg g.2 f.2]
          rcases cmpV_range g.2 f.2 with e | e | e
          · exact absurd e h1
          · exact absurd e h2
          · rw [e]
        refine ⟨fun e he => ?_, List.pairwise_cons.2 ⟨fun e he => ?_, hp⟩, fun x v => ?_⟩
        · rcases List.mem_cons.1 he with rfl | he
          · exact hf
          · exact hk e he
        · rcases List.mem_cons.1 he with rfl | he
          · exact h3
          · exact cmpV_trans h3 (p1 e he)
        · unfold hasG
          simp only [List.mem_cons, exists_eq_or_imp]
          constructor
          · rintro (h | h)
            · exact .inr h
            · exact .inl h
          · rintro (h | h)
            · exact .inr h
            · exact .inl h

def stepG (out : Kno) (f : Frg) : Kno := if canonV f.2 = [] ∨ f.1 = [] then out else addG out (f.1, canonV f.2)
def groupK (k : Kno) : Kno := k.foldl stepG []

/-- What may be grouped. -/
structure RawF (f : Frg) : Prop where
  good : Good f.1
  lt : LtF f

theorem raw_grp {f : Frg} (h : RawF f) (h1 : ¬ (canonV f.2 = [] ∨ f.1 = [])) : GrpF (f.1, canonV f.2) := by
  obtain ⟨c1, c2, _⟩ := canonV_can h.lt.vec h.lt.asc
  exact ⟨h.good, fun e => h1 (.inr e), h.lt.items, c1, fun e => h1 (.inl e), c2⟩

theorem group_fold : ∀ {k out : Kno}, (∀ f ∈ k, RawF f) → (∀ g ∈ out, GrpF g) → out.Pairwise VecLt →
    (∀ g ∈ k.foldl stepG out, GrpF g) ∧ (k.foldl stepG out).Pairwise VecLt ∧
      ∀ x v, v ≠ [] → (hasG (k.foldl stepG out) x v ↔ hasG out x v ∨ ∃ d ∈ k, mem d.1 x = true ∧ canonV d.2 = v)
  | [], out, _, h2, h3 => ⟨h2, h3, fun x v _ => by simp⟩
  | f :: k, out, h1, h2, h3 => by
    rw [List.foldl_cons]
    have hf := h1 f (List.mem_cons_self ..)
    have hk : ∀ f ∈ k, RawF f := fun g hg => h1 g (List.mem_cons_of_mem _ hg)
    by_cases hc : canonV f.2 = [] ∨ f.1 = []
    · have e : stepG out f = out := by unfold stepG; rw [if_pos hc]
      rw [e]
      obtain ⟨k1, k2, k3⟩ := group_fold hk h2 h3
      refine ⟨k1, k2, fun x v hv => ?_⟩
      rw [k3 x v hv]
      simp only [List.mem_cons, exists_eq_or_imp]
      constructor
      · rintro (h | h)
        · exact .inl h
        · exact .inr (.inr h)
      · rintro (h | ⟨h4, h5⟩ | h)
        · exact .inl h
        · rcases hc with e | e
          · exact absurd (h5.symm.trans e) hv
          · rw [e, mem_nil] at h4; cases h4
        · exact .inr h
    · have e : stepG out f = addG out (f.1, canonV f.2) := by unfold stepG; rw [if_neg hc]
      rw [e]
      obtain ⟨a1, a2, a3⟩ := addG_ok h2 h3 (raw_grp hf hc)
      obtain ⟨k1, k2, k3⟩ := group_fold hk a1 a2
      refine ⟨k1, k2, fun x v hv => ?_⟩
      rw [k3 x v hv, a3]
      simp only [List.mem_cons, exists_eq_or_imp, or_assoc]

def canonK (k : Kno) : Kno := groupK (refineK k)

theorem good_one {s : Iv} (h : s.1 ≤ s.2) : Good [s] := h

theorem refine_raw {k : Kno} (hk : LtK k) : ∀ f ∈ refineK k, RawF f := by
  intro f hf
  obtain ⟨s, h1, h2, h3, h4, h5⟩ := (refine_can hk).1 f hf
  refine ⟨by rw [h1]; exact good_one h2, ⟨by rw [h1]; exact lt64_one (by omega) h3, h5, h4.asc⟩⟩

end Go.Proofs.YtkkdlgcfcbaibaaGreatDoor
end

section
namespace Go.Proofs.YtkkdlgcfcbaibaaGreatDoor
set_option linter.unusedVariables false

def ckHole (e : Ent) (i : Nat) : Option (Nat × Nat) := if e.2.1 < (nthI e.2.2 i).2 then some (4, i) else none
def ckE (e : Ent) : Option (Nat × Nat) := match ck e.2.2 with | some x => some x | none => firstS (ckHole e) e.2.2.length
def ckVAt (v : Vec) (i : Nat) : Option (Nat × Nat) := match ckE (nthE v i) with | some x => some (x.1, i) | none => if 0 < i ∧ (nthE v i).1 ≤ (nthE v (i - 1)).1 then some (3, i) else none
def ckV (v : Vec) : Option (Nat × Nat) := firstS (ckVAt v) v.length
def ckFAt (k : Kno) (i : Nat) : Option (Nat × Nat) := match ck (nthF k i).1 with | some x => some (x.1, i) | none => match ckV (nthF k i).2 with | some x => some (x.1, i) | none => none
def ckF (k : Kno) : Option (Nat × Nat) := firstS (ckFAt k) k.length

theorem ck_code {l : List Iv} {x : Nat × Nat} (h : ck l = some x) : x.1 ≠ 0 := by
  obtain ⟨k, -, -, h3⟩ := firstS_of_some h
  unfold ckAt at h3
  split at h3
  · cases h3; simp
  · split at h3 <;> cases h3; simp

theorem ckE_code {e : Ent} {x : Nat × Nat} (h : ckE e = some x) : x.1 ≠ 0 := by
  unfold ckE at h
  split at h
  · rename_i y hy; cases h; exact ck_code hy
  · obtain ⟨k, -, -, h3⟩ := firstS_of_some h
    unfold ckHole at h3
    split at h3 <;> cases h3; simp

theorem ckV_code {v : Vec} {x : Nat × Nat} (h : ckV v = some x) : x.1 ≠ 0 := by
  obtain ⟨k, -, -, h3⟩ := firstS_of_some h
  unfold ckVAt at h3
  split at h3
  · rename_i y hy; cases h3; have := ckE_code hy; exact this
  · split at h3 <;> cases h3; simp

theorem ckF_code {k : Kno} {x : Nat × Nat} (h : ckF k = some x) : x.1 ≠ 0 := by
  obtain ⟨i, -, -, h3⟩ := firstS_of_some h
  unfold ckFAt at h3
  split at h3
  · rename_i y hy; cases h3; have := ck_code hy; exact this
  · split at h3
    · rename_i y hy; cases h3; have := ckV_code hy; exact this
    · cases h3

theorem ckE_none {e : Ent} : ckE e = none ↔ Good e.2.2 ∧ ∀ s ∈ e.2.2, s.2 ≤ e.2.1 := by
  unfold ckE
  cases h : ck e.2.2 with
  | some x =>
    simp only [reduceCtorEq, false_iff]
    intro h2
    rw [ck_good.2 h2.1] at h; cases h
  | none =>
    simp only
    constructor
    · intro h2
      refine ⟨ck_good.1 h, fun s hs => ?_⟩
      obtain ⟨i, hi, rfl⟩ := List.getElem_of_mem hs
      have := firstS_of_none h2 i hi
      unfold ckHole at this
      split at this
      · cases this
      · rename_i h3; rw [nthI_get hi] at h3; omega
    · rintro ⟨-, h2⟩
      refine firstS_none fun i hi => ?_
      unfold ckHole
      rw [if_neg]
      have := h2 _ (nthI_mem hi)
      omega

theorem ckV_none {v : Vec} : ckV v = none ↔ v.Pairwise RepLt ∧ ∀ e ∈ v, ckE e = none := by
  constructor
  · intro h
    have hi := firstS_of_none h
    have h1 : ∀ i, i < v.length → ckE (nthE v i) = none ∧ (0 < i → (nthE v (i - 1)).1 < (nthE v i).1) := fun i hi' => by
      have := hi i hi'
      unfold ckVAt at this
      split at this
      · cases this
      · rename_i h2
        refine ⟨h2, fun h0 => ?_⟩
        split at this
        · cases this
        · omega
    refine ⟨?_, fun e he => ?_⟩
    · rw [List.pairwise_iff_getElem]
      intro i j hi' hj hij
      unfold RepLt
      have step : ∀ d, i + d + 1 < v.length → (nthE v i).1 < (nthE v (i + d + 1)).1 := by
        intro d
        induction d with
        | zero => intro hd; have := (h1 (i + 1) hd).2 (by omega); simpa using this
        | succ d ih =>
          intro hd
          have a := ih (by omega)
          have b := (h1 (i + (d + 1) + 1) hd).2 (by omega)
          rw [show i + (d + 1) + 1 - 1 = i + d + 1 by omega] at b
          omega
      have := step (j - i - 1) (by omega)
      rw [show i + (j - i - 1) + 1 = j by omega, nthE_get hi', nthE_get hj] at this
      exact this
    · obtain ⟨i, hi', rfl⟩ := List.getElem_of_mem he
      have := (h1 i hi').1
      rwa [nthE_get hi'] at this
  · rintro ⟨h1, h2⟩
    refine firstS_none fun i hi => ?_
    unfold ckVAt
    rw [h2 _ (nthE_mem hi)]
    simp only
    rw [if_neg]
    rintro ⟨h0, h3⟩
    rw [List.pairwise_iff_getElem] at h1
    have := h1 (i - 1) i (by omega) hi (by omega)
    unfold RepLt at this
    rw [nthE_get hi, nthE_get (show i - 1 < v.length by omega)] at h3
    omega

theorem ckF_none {k : Kno} : ckF k = none ↔ ∀ f ∈ k, Good f.1 ∧ ckV f.2 = none := by
  constructor
  · intro h f hf
    obtain ⟨i, hi, rfl⟩ := List.getElem_of_mem hf
    have := firstS_of_none h i hi
    unfold ckFAt at this
    rw [nthF_get hi] at this
    split at this
    · cases this
    · rename_i h1
      split at this
      · cases this
      · rename_i h2; exact ⟨ck_good.1 h1, h2⟩
  · intro h
    refine firstS_none fun i hi => ?_
    have := h _ (nthF_mem hi)
    unfold ckFAt
    rw [ck_good.2 this.1, this.2]

/-- Is an entry canonical? -/
def canEB (e : Ent) : Bool := decide (ckE e = none) && !mem e.2.2 e.2.1
theorem canEB_iff {e : Ent} : canEB e = true ↔ CanE e := by
  unfold canEB
  rw [Bool.and_eq_true, decide_eq_true_iff, ckE_none, Bool.not_eq_true']
  constructor
  · rintro ⟨⟨h1, h2⟩, h3⟩; exact ⟨h1, h2, h3⟩
  · rintro ⟨h1, h2, h3⟩; exact ⟨⟨h1, h2⟩, h3⟩

def canVB (v : Vec) : Bool := decide (ckV v = none) && v.all canEB
theorem canVB_iff {v : Vec} : canVB v = true ↔ CanV v := by
  unfold canVB
  rw [Bool.and_eq_true, decide_eq_true_iff, ckV_none, List.all_eq_true]
  constructor
  · rintro ⟨⟨h1, h2⟩, h3⟩; exact ⟨h1, fun e he => canEB_iff.1 (h3 e he)⟩
  · rintro ⟨h1, h2⟩; exact ⟨⟨h1, fun e he => ckE_none.2 ⟨(h2 e he).good, (h2 e he).below⟩⟩, fun e he => canEB_iff.2 (h2 e he)⟩

/-- The code of what is wrong with a fragment of correct knowledge; 0: nothing. -/
def wrongK (k : Kno) (i : Nat) : Nat :=
  if (nthF k i).1 = [] ∨ (nthF k i).2 = [] then 9
  else if canVB (nthF k i).2 = false then 10
  else if ((List.range i).any fun j => decide (opL gAnd (nthF k i).1 (nthF k j).1 ≠ [])) = true then 10
  else if 0 < i ∧ cmpV (nthF k (i - 1)).2 (nthF k i).2 ≠ -1 then 3 else 0

end Go.Proofs.YtkkdlgcfcbaibaaGreatDoor
end
