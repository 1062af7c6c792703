/- Walks and laws, merged: part 5. -/
import Derived.Deep.AppendLies
import Derived.RegionTactic
import Derived.OwnWalk
import Derived.Shelf.SlSortCmp.WholeK
import Derived.Test.YtkkdlgcfcbaibaaGreatDoorPt04
import Derived.Test.YtkkdlgcfcbaibaaGreatDoorPt03
section
namespace Go.Proofs.YtkkdlgcfcbaibaaGreatDoor
set_option linter.unusedVariables false

def bnd (s : Iv) : List Nat := s.1 :: (if s.2 < 18446744073709551615 then [s.2 + 1] else [])
def bnds (l : List Iv) : List Nat := l.flatMap bnd
def allL (ls : List (List Iv)) : List Nat := 0 :: ls.flatMap bnds

theorem bnds_append (a b : List Iv) : bnds (a ++ b) = bnds a ++ bnds b := by simp [bnds]
theorem bnds_len (l : List Iv) : (bnds l).length ≤ l.length * 2 := by
  induction l with
  | nil => simp [bnds]
  | cons s l ih =>
    have : bnds (s :: l) = bnd s ++ bnds l := rfl
    rw [this, List.length_append, List.length_cons]
    have : (bnd s).length ≤ 2 := by unfold bnd; split <;> simp
    omega

/-- Strictly ascending. -/
def Asc : List Nat → Prop
  | [] => True
  | [_] => True
  | a :: b :: l => a < b ∧ Asc (b :: l)

theorem Asc.tail {a : Nat} {l : List Nat} (h : Asc (a :: l)) : Asc l := by
  cases l with
  | nil => trivial
  | cons b l => exact h.2
theorem Asc.lower : ∀ {a : Nat} {l : List Nat}, Asc (a :: l) → ∀ x ∈ l, a < x
  | a, [], _, x, hx => by simp at hx
  | a, b :: l, h, x, hx => by
    rcases List.mem_cons.1 hx with rfl | hx
    · exact h.1
    · have := Asc.lower h.2 x hx
      have := h.1
      omega
theorem asc_cons {a : Nat} {l : List Nat} (h : ∀ x ∈ l, a < x) (hl : Asc l) : Asc (a :: l) := by
  cases l with
  | nil => trivial
  | cons b l => exact ⟨h b (List.mem_cons_self ..), hl⟩

theorem asc_append : ∀ {a b : List Nat}, Asc a → Asc b → (∀ x ∈ a, ∀ y ∈ b, x < y) → Asc (a ++ b)
  | [], b, _, hb, _ => hb
  | x :: a, b, ha, hb, h => asc_cons (fun y hy => by
      rcases List.mem_append.1 hy with hy | hy
      · exact ha.lower y hy
      · exact h x (List.mem_cons_self ..) y hy) (asc_append ha.tail hb fun z hz y hy => h z (List.mem_cons_of_mem _ hz) y hy)

theorem asc_split : ∀ {a b : List Nat}, Asc (a ++ b) → Asc a ∧ Asc b ∧ ∀ x ∈ a, ∀ y ∈ b, x < y
  | [], b, h => ⟨trivial, h, by simp⟩
  | x :: a, b, h => by
    obtain ⟨h1, h2, h3⟩ := asc_split (a := a) (b := b) h.tail
    refine ⟨asc_cons (fun y hy => h.lower y (by simp [hy])) h1, h2, ?_⟩
    intro z hz y hy
    rcases List.mem_cons.1 hz with rfl | hz
    · exact h.lower y (by simp [hy])
    · exact h3 z hz y hy

theorem asc_get {l : List Nat} (h : Asc l) {i j : Nat} (hij : i < j) (hj : j < l.length) : nth l i < nth l j := by
  have e : l = l.take j ++ l.drop j := (List.take_append_drop j l).symm
  rw [e] at h
  obtain ⟨_, _, h3⟩ := asc_split h
  refine h3 _ ?_ _ ?_
  · have hi : i < l.length := by omega
    have : nth l i = (l.take j)[i]'(by simp; omega) := by simp [nth, hi]
    rw [this]; exact List.getElem_mem _
  · have : nth l j = (l.drop j)[0]'(by simp; omega) := by simp [nth, hj]
    rw [this]; exact List.getElem_mem _

theorem nth_mem {l : List Nat} {i : Nat} (h : i < l.length) : nth l i ∈ l := by
  have : nth l i = l[i] := by simp [nth, h]
  rw [this]; exact List.getElem_mem h

theorem mem_nth {l : List Nat} {x : Nat} (h : x ∈ l) : ∃ i, i < l.length ∧ nth l i = x := by
  obtain ⟨i, hi, rfl⟩ := List.getElem_of_mem h
  exact ⟨i, hi, by simp [nth, hi]⟩

/-- A number is put in at its place. -/
theorem asc_ins {l : List Nat} (h : Asc l) {x k : Nat} (hk : k ≤ l.length) (h1 : 0 < k → nth l (k - 1) < x) (h2 : ∀ t, k ≤ t → t < l.length → x < nth l t) :
    Asc (l.take k ++ x :: l.drop k) ∧ ∀ y, y ∈ l.take k ++ x :: l.drop k ↔ y ∈ l ∨ y = x := by
  have e : l = l.take k ++ l.drop k := (List.take_append_drop k l).symm
  have h' := h
  rw [e] at h'
  obtain ⟨a1, a2, a3⟩ := asc_split h'
  have lo : ∀ y ∈ l.take k, y < x := by
    intro y hy
    obtain ⟨i, hi, rfl⟩ := List.getElem_of_mem hy
    simp at hi
    have hi2 : i < l.length := by omega
    have : (l.take k)[i]'(by simp; omega) = nth l i := by simp [nth, hi2]
    rw [this]
    have h3 := h1 (by omega)
    by_cases e : i = k - 1
    · subst e; exact h3
    · have := asc_get h (i := i) (j := k - 1) (by omega) (by omega)
      omega
  have hi : ∀ y ∈ l.drop k, x < y := by
    intro y hy
    obtain ⟨i, hi, rfl⟩ := List.getElem_of_mem hy
    simp at hi
    have : (l.drop k)[i]'(by simp; omega) = nth l (k + i) := by simp [nth, show k + i < l.length by omega]
    rw [this]
    exact h2 _ (by omega) (by omega)
  refine ⟨asc_append a1 (asc_cons hi a2) ?_, ?_⟩
  · intro y hy z hz
    rcases List.mem_cons.1 hz with rfl | hz
    · exact lo y hy
    · exact a3 y hy z hz
  · intro y
    rw [List.mem_append, List.mem_cons]
    constructor
    · rintro (h | rfl | h)
      · exact .inl (List.mem_of_mem_take h)
      · exact .inr rfl
      · exact .inl (List.mem_of_mem_drop h)
    · rintro (h | rfl)
      · rw [e] at h
        rcases List.mem_append.1 h with h | h
        · exact .inl h
        · exact .inr (.inr h)
      · exact .inr (.inl rfl)

theorem asc_ext : ∀ {l l' : List Nat}, Asc l → Asc l' → (∀ x, x ∈ l ↔ x ∈ l') → l = l'
  | [], [], _, _, _ => rfl
  | [], b :: l', _, _, h => by have := (h b).2 (List.mem_cons_self ..); simp at this
  | a :: l, [], _, _, h => by have := (h a).1 (List.mem_cons_self ..); simp at this
  | a :: l, b :: l', h1, h2, h => by
    have e : a = b := by
      have ha := (h a).1 (List.mem_cons_self ..)
      have hb := (h b).2 (List.mem_cons_self ..)
      rcases List.mem_cons.1 ha with e | ha
      · exact e
      · rcases List.mem_cons.1 hb with e | hb
        · exact e.symm
        · have := h2.lower a ha
          have := h1.lower b hb
          omega
    subst e
    congr 1
    refine asc_ext h1.tail h2.tail fun x => ?_
    constructor
    · intro hx
      have hlt := h1.lower x hx
      rcases List.mem_cons.1 ((h x).1 (List.mem_cons_of_mem _ hx)) with e | h'
      · omega
      · exact h'
    · intro hx
      have hlt := h2.lower x hx
      rcases List.mem_cons.1 ((h x).2 (List.mem_cons_of_mem _ hx)) with e | h'
      · omega
      · exact h'

theorem asc_len : ∀ {L M : List Nat}, Asc L → (∀ y ∈ L, y ∈ M) → L.length ≤ M.length
  | [], M, _, _ => Nat.zero_le _
  | a :: L, M, h, hm => by
    have h1 := asc_len (L := L) (M := M.erase a) h.tail (fun y hy => by
      have := h.lower y hy
      rw [List.mem_erase_of_ne (by omega)]
      exact hm y (List.mem_cons_of_mem _ hy))
    have h2 := List.length_erase_of_mem (hm a (List.mem_cons_self ..))
    have h3 : 0 < M.length := List.length_pos_of_mem (hm a (List.mem_cons_self ..))
    simp only [List.length_cons]
    omega

end Go.Proofs.YtkkdlgcfcbaibaaGreatDoor
end

section
namespace Go.Proofs.YtkkdlgcfcbaibaaGreatDoor
set_option linter.unusedVariables false

/-- The pieces from start to start, with what is asked at each start. -/
def pcsL (f : Nat → Bool) : List Nat → List (Iv × Bool)
  | [] => []
  | [a] => [((a, 18446744073709551615), f a)]
  | a :: b :: r => ((a, b - 1), f a) :: pcsL f (b :: r)

theorem pcsL_len (f : Nat → Bool) : ∀ (l : List Nat), (pcsL f l).length = l.length
  | [] => rfl
  | [a] => rfl
  | a :: b :: r => by rw [pcsL, List.length_cons, pcsL_len f (b :: r)]; rfl

theorem pcsL_cover (f : Nat → Bool) : ∀ {a : Nat} {r : List Nat}, Asc (a :: r) → (∀ x ∈ a :: r, x < 18446744073709551616) → Cover 18446744073709551615 a (pcsL f (a :: r))
  | a, [], h, hl => ⟨rfl, by have := hl a (by simp); show a ≤ 18446744073709551615; omega, rfl⟩
  | a, [b], h, hl => by
    have h1 := h.1
    have h2 := hl b (by simp)
    refine ⟨rfl, ?_, ?_, ?_⟩
    · show a ≤ b - 1; omega
    · show b - 1 < 18446744073709551615; omega
    · show Cover _ (b - 1 + 1) (pcsL f [b])
      rw [show b - 1 + 1 = b by omega]
      exact pcsL_cover f (r := []) h.tail fun x hx => hl x (List.mem_cons_of_mem _ hx)
  | a, b :: c :: r, h, hl => by
    have h1 := h.1
    have h2 := hl b (by simp)
    refine ⟨rfl, ?_, ?_, ?_⟩
    · show a ≤ b - 1; omega
    · show b - 1 < 18446744073709551615; omega
    · show Cover _ (b - 1 + 1) (pcsL f (b :: c :: r))
      rw [show b - 1 + 1 = b by omega]
      exact pcsL_cover f (r := c :: r) h.tail fun x hx => hl x (List.mem_cons_of_mem _ hx)

theorem pcsL_any (f : Nat → Bool) : ∀ {a : Nat} {r : List Nat}, Asc (a :: r) → (∀ x ∈ a :: r, x < 18446744073709551616) →
    (∀ c x, a ≤ c → c ≤ x → x < 18446744073709551616 → (∀ y ∈ a :: r, ¬ (c < y ∧ y ≤ x)) → f x = f c) →
    ∀ x, a ≤ x → x < 18446744073709551616 → ((pcsL f (a :: r)).any fun p => p.2 && (decide (p.1.1 ≤ x) && decide (x ≤ p.1.2))) = f x
  | a, [], h, hl, hc, x, h1, h2 => by
    have := hc a x (Nat.le_refl _) h1 h2 (by intro y hy; simp at hy; subst hy; omega)
    simp [pcsL, this, h1, show x ≤ 18446744073709551615 by omega]
  | a, b :: r, h, hl, hc, x, h1, h2 => by
    have hab := h.1
    rw [pcsL, List.any_cons]
    by_cases hx : x < b
    · have e := hc a x (Nat.le_refl _) h1 h2 (by
        intro y hy
        rcases List.mem_cons.1 hy with rfl | hy
        · omega
        · rcases List.mem_cons.1 hy with rfl | hy
          · omega
          · have := h.tail.lower y hy; omega)
      have rest : ((pcsL f (b :: r)).any fun p => p.2 && (decide (p.1.1 ≤ x) && decide (x ≤ p.1.2))) = false := by
        have lo : ∀ {b : Nat} {r : List Nat}, Asc (b :: r) → ∀ p ∈ pcsL f (b :: r), b ≤ p.1.1 := by
          intro b r
          induction r generalizing b with
          | nil => intro _ p hp; simp [pcsL] at hp; subst hp; exact Nat.le_refl _
          | cons c r ih =>
            intro hA p hp
            rw [pcsL] at hp
            rcases List.mem_cons.1 hp with rfl | hp
            · exact Nat.le_refl _
            · have := ih hA.tail p hp
              have := hA.1
              omega
        rw [List.any_eq_false]
        intro p hp
        have := lo h.tail p hp
        simp
        omega
      rw [rest, Bool.or_false, e]
      simp [h1, show x ≤ b - 1 by omega]
    · have ih := pcsL_any f h.tail (fun y hy => hl y (List.mem_cons_of_mem _ hy)) (by
        intro c z hc1 hc2 hc3 hc4
        refine hc c z (by omega) hc2 hc3 ?_
        intro y hy
        rcases List.mem_cons.1 hy with rfl | hy
        · omega
        · exact hc4 y hy) x (by omega) h2
      rw [ih]
      have : decide (x ≤ b - 1) = false := by rw [decide_eq_false_iff_not]; omega
      simp [this]

theorem pcsL_top (f : Nat → Bool) : ∀ {l : List Nat}, (∀ x ∈ l, x < 18446744073709551616) → ∀ p ∈ pcsL f l, p.1.2 < 18446744073709551616
  | [], _, p, hp => by simp [pcsL] at hp
  | [a], _, p, hp => by simp [pcsL] at hp; subst hp; simp
  | a :: b :: r, h, p, hp => by
    rw [pcsL] at hp
    rcases List.mem_cons.1 hp with rfl | hp
    · have := h b (by simp); simp only; omega
    · exact pcsL_top f (fun x hx => h x (List.mem_cons_of_mem _ hx)) p hp

/-- What is asked piece by piece gives the correct list of the set. -/
theorem do_good {f : Nat → Bool} {L : List Nat} (h : Asc L) (hl : ∀ x ∈ L, x < 18446744073709551616) (h0 : 0 ∈ L)
    (hc : ∀ c x, c ≤ x → x < 18446744073709551616 → (∀ y ∈ L, ¬ (c < y ∧ y ≤ x)) → f x = f c) (ht : ∀ x, 18446744073709551616 ≤ x → f x = false) :
    Good (takeL (pcsL f L) []) ∧ ∀ x, mem (takeL (pcsL f L) []) x = f x := by
  cases L with
  | nil => simp at h0
  | cons a r =>
    have ha : a = 0 := by
      rcases List.mem_cons.1 h0 with e | e
      · exact e.symm
      · have := h.lower 0 e; omega
    subst ha
    obtain ⟨g1, g2⟩ := takeL_good (out := []) (pcsL_cover f h hl) trivial (by simp)
    refine ⟨g1, fun x => ?_⟩
    rw [g2, mem_nil, Bool.false_or]
    by_cases hx : x < 18446744073709551616
    · exact pcsL_any f h hl (fun c z _ => hc c z) x (Nat.zero_le _) hx
    · rw [ht x (by omega), List.any_eq_false]
      intro p hp
      have := pcsL_top f hl p hp
      simp
      omega

/-- Between the numbers where a list may change, it does not. -/
theorem mem_const {l : List Iv} (hl : ∀ t ∈ l, t.1 < 18446744073709551616 ∧ t.2 < 18446744073709551616) {c x : Nat} (hcx : c ≤ x) (hx : x < 18446744073709551616) (h : ∀ y ∈ bnds l, ¬ (c < y ∧ y ≤ x)) : mem l x = mem l c := by
  have hb : ∀ s ∈ l, ∀ y ∈ bnd s, y ∈ bnds l := fun s hs y hy => List.mem_flatMap.2 ⟨s, hs, hy⟩
  rw [Bool.eq_iff_iff, mem_iff, mem_iff]
  constructor
  · rintro ⟨s, hs, h1, h2⟩
    refine ⟨s, hs, ?_, by omega⟩
    have := h s.1 (hb s hs s.1 (by simp [bnd]))
    omega
  · rintro ⟨s, hs, h1, h2⟩
    refine ⟨s, hs, by omega, ?_⟩
    refine Nat.le_of_not_lt fun hlt => ?_
    have := h (s.2 + 1) (hb s hs _ (by unfold bnd; rw [if_pos (by omega)]; simp))
    omega

theorem mem_top {l : List Iv} (hl : ∀ t ∈ l, t.1 < 18446744073709551616 ∧ t.2 < 18446744073709551616) {x : Nat} (hx : 18446744073709551616 ≤ x) : mem l x = false := by
  rw [mem_false]
  intro s hs
  have := hl s hs
  omega

theorem bnds_lt {l : List Iv} (hl : ∀ t ∈ l, t.1 < 18446744073709551616 ∧ t.2 < 18446744073709551616) : ∀ y ∈ bnds l, y < 18446744073709551616 := by
  intro y hy
  obtain ⟨s, hs, hy⟩ := List.mem_flatMap.1 hy
  have := hl s hs
  unfold bnd at hy
  split at hy <;> simp at hy <;> omega

theorem takeL_append : ∀ (a b : List (Iv × Bool)) (out : List Iv), takeL (a ++ b) out = takeL b (takeL a out)
  | [], b, out => rfl
  | (s, t) :: a, b, out => by rw [List.cons_append, takeL, takeL, takeL_append a b]

theorem pcsL_get (f : Nat → Bool) : ∀ {l : List Nat} {i : Nat}, i < l.length → (pcsL f l)[i]? = some ((if i + 1 < l.length then (nth l i, nth l (i + 1) - 1) else (nth l i, 18446744073709551615)), f (nth l i))
  | [], i, h => by simp at h
  | [a], i, h => by
    have : i = 0 := by simpa using h
    subst this
    simp [pcsL, nth]
  | a :: b :: r, 0, h => by simp [pcsL, nth]
  | a :: b :: r, i + 1, h => by
    have := pcsL_get f (l := b :: r) (i := i) (by simpa using h)
    rw [pcsL, List.getElem?_cons_succ, this]
    have e1 : nth (a :: b :: r) (i + 1) = nth (b :: r) i := rfl
    have e2 : nth (a :: b :: r) (i + 1 + 1) = nth (b :: r) (i + 1) := rfl
    rw [e1, e2]
    simp only [List.length_cons, Nat.add_lt_add_iff_right]

theorem takeL_lt : ∀ {ps : List (Iv × Bool)} {out : List Iv}, (∀ p ∈ ps, p.1.1 < 18446744073709551616 ∧ p.1.2 < 18446744073709551616) → (∀ t ∈ out, t.1 < 18446744073709551616 ∧ t.2 < 18446744073709551616) → ∀ t ∈ takeL ps out, t.1 < 18446744073709551616 ∧ t.2 < 18446744073709551616
  | [], out, _, ho, t, ht => ho t ht
  | (s, b) :: ps, out, h, ho, t, ht => by
    rw [takeL] at ht
    refine takeL_lt (fun p hp => h p (List.mem_cons_of_mem _ hp)) ?_ t ht
    have hs := h _ (List.mem_cons_self ..)
    simp only at hs
    cases b with
    | false => exact ho
    | true =>
      intro u hu
      rw [if_pos rfl] at hu
      rcases nil_or_snoc out with rfl | ⟨a, v, rfl⟩
      · simp [putL_nil] at hu; subst hu; exact hs
      · have hv := ho v (by simp)
        rw [putL_snoc] at hu
        split at hu
        · rcases List.mem_append.1 hu with hu | hu
          · exact ho u (by simp [hu])
          · simp at hu; subst hu; exact ⟨hv.1, hs.2⟩
        · rcases List.mem_append.1 hu with hu | hu
          · exact ho u hu
          · simp at hu; subst hu; exact hs

theorem takeL_len : ∀ (ps : List (Iv × Bool)) (out : List Iv), (takeL ps out).length ≤ out.length + ps.length
  | [], out => Nat.le_refl _
  | (s, b) :: ps, out => by
    rw [takeL]
    refine Nat.le_trans (takeL_len ps _) ?_
    rw [List.length_cons]
    have : (putL out s).length ≤ out.length + 1 := by
      rcases nil_or_snoc out with rfl | ⟨a, v, rfl⟩
      · simp [putL_nil]
      · rw [putL_snoc]; split <;> simp
    split <;> omega

/-! Intervals in the order of their beginnings, joined one by one. -/
/-- In ascending order of the beginnings. -/
def AscLo (l : List Iv) : Prop := ∀ i j, i < j → j < l.length → (nthI l i).1 ≤ (nthI l j).1

end Go.Proofs.YtkkdlgcfcbaibaaGreatDoor
end

section
namespace Go.Proofs.YtkkdlgcfcbaibaaGreatDoor
open Go.RowKit
set_option linter.unusedVariables false

/-- The cells at an address: n elements of sz cells. -/
def Rd (w : World) (sz : Nat) (A : Option Addr) (n : Nat) (xs : List Value) : Prop :=
  xs.length = n * sz ∧ (0 < n → ∃ b o, A = some ⟨b, o, none⟩ ∧ ∀ j u, xs[j]? = some u → w.cell? ⟨b, o + j, none⟩ = some u)

theorem Rd.below {w w' : World} {sz n : Nat} {A : Option Addr} {xs : List Value} (h : Rd w sz A n xs) (hb : Below w.heap.size w w') : Rd w' sz A n xs :=
  ⟨h.1, fun hn => by
    obtain ⟨b, o, e, hc⟩ := h.2 hn
    refine ⟨b, o, e, fun j u hu => ?_⟩
    have := hc j u hu
    exact (hb.cell (p := ⟨b, o + j, none⟩) (cell_lt this)).trans this⟩

theorem Rd.own {w : World} {base sz n c : Nat} {e : TypeId} {A : Option Addr} {xs : List Value} (h : w.ownsRow base e sz (.slice A n c) n xs) : Rd w sz A n xs := by
  refine ⟨h.1, fun hn => ?_⟩
  obtain ⟨g, cap, hv, _, hlt⟩ := h.form hn
  have hA : A = some ⟨g, 0, none⟩ := by injection hv
  subst hA
  refine ⟨g, 0, rfl, fun j u hu => ?_⟩
  have := h.cells (g := g) rfl j u hu
  rwa [add_at] at this

theorem Rd.news {w : World} {sz n : Nat} {x : Addr} {xs : List Value} (h : Rd w sz (some x) n xs) (hz : 0 < sz) : ∀ j u, xs[j]? = some u → w.cell? (x.add j) = some u := by
  intro j u hu
  have hn : 0 < n := by
    refine Nat.pos_of_ne_zero fun h0 => ?_
    subst h0
    have : xs = [] := List.eq_nil_of_length_eq_zero (by simpa using h.1)
    rw [this] at hu; simp at hu
  obtain ⟨b, o, e, hc⟩ := h.2 hn
  cases e
  rw [add_at]
  exact hc j u hu

theorem run_append_none' {P : Program} (w : World) (base : Nat) (t ty e : TypeId) (i : TypeInfo) (size : Nat) (ht : P.underlying t = some (.slice e)) (hi : P.info? e = some i)
    (v : Value) (n : Nat) (xs : List Value) (hown : w.ownsRow base e size v n xs) (c : Nat) : (Builtin.append_ #[t, t] ty #[v, .slice none 0 c]).run P w = .ok v w := by
  rcases hown.2 with ⟨rfl, rfl⟩ | ⟨g, cap, cur, rfl, _, _, hnc, _⟩
  · simp [Builtin.append_, run_underlying ht, sizeOf, typeInfo, hi, Builtin.lenOf, Builtin.firstCells]
  · simp [Builtin.append_, run_underlying ht, sizeOf, typeInfo, hi, Builtin.lenOf, Builtin.firstCells, hnc, storeCells]

/-- append(v, s...): v the call's own. -/
theorem run_append_rd {P : Program} {w : World} (base : Nat) (t ty e : TypeId) (z : Value) (size bytes : Nat) (ht : P.underlying t = some (.slice e))
    (hinfo : (P.info? e).map (fun i => (i.zero, i.size, i.bytes)) = some (some z, size, bytes)) (hzs : z.cells.size = size) (hsz : 0 < size)
    (v : Value) (n : Nat) (xs : List Value) (hown : w.ownsRow base e size v n xs) (A : Option Addr) (m c : Nat) (news : List Value) (hr : Rd w size A m news) (h1 : ∀ u ∈ news, u.oneCell' = true)
    (hlen : n + m ≤ maxLen) (hbytes : (n + m) * bytes ≤ 140737488355328) (hbase : base ≤ w.heap.size) :
    ∃ v' w', (Builtin.append_ #[t, t] ty #[v, .slice A m c]).run P w = .ok v' w' ∧ w'.ownsRow base e size v' (n + m) (xs ++ news) ∧ w.grownBy w' v.ownBlock := by
  obtain ⟨i, hi, hz, hs, hby⟩ := info_parts hinfo
  rcases A with _ | x
  · have hm : m = 0 := by
      rcases Nat.eq_zero_or_pos m with h0 | h0
      · exact h0
      · obtain ⟨b, o, h, _⟩ := hr.2 h0; cases h
    subst hm
    have hn : news = [] := List.eq_nil_of_length_eq_zero (by simpa using hr.1)
    subst hn
    exact ⟨v, w, run_append_none' w base t ty e i size ht hi v n xs hown c, by simpa using hown, World.grownBy.refl w _⟩
  · obtain ⟨v', w', hrun, ho, hg, _⟩ := run_append_own (P := P) w base t ty e i z size bytes ht hi hz hs hby hzs hsz v n xs hown x m c news hr.1 (hr.news hsz) h1 hlen hbytes hbase
    exact ⟨v', w', hrun, ho, hg⟩

/-- The step law of an append whose run is known: for a region that draws its order. -/
theorem step_append_hr {P : Program} {w : World} {ops : Array Oper} {o : Oper} {a : Act} {K : Act → World → Prop} {Q : Exit → Act → World → Prop} {E : Prop} (hgd : o.guard = none) (s x : Operand) (t : TypeId)
    (ho : o.op = .call { callee := .builtin .append, args := #[s, x], argTypes := #[t, t] })
    (v u : Value) (hs : a.eval s = v) (hx : a.eval x = u) (v' : Value) (w' : World) (hrun : (Builtin.append_ #[t, t] o.type #[v, u]).run P w = .ok v' w')
    (h : K (a.put o.dst v') w') : if Region.wanted o (yielded ops a.tmps) = true then Oper.wp P o a w K Q else E := by
  have hw : Region.wanted o (yielded ops a.tmps) = true := by simp [Region.wanted, hgd]
  rw [if_pos hw]
  unfold Oper.wp
  simp [execOp, ho, resolve, invoke, builtin, hs, hx, hrun, Result.andThen]
  exact h

/-- A prefix of a slice of the call's own. -/
theorem own_take {w : World} {base size n c g : Nat} {e : TypeId} {xs : List Value} (h : w.ownsRow base e size (.slice (some ⟨g, 0, none⟩) n c) n xs) (k : Nat) (hk : k ≤ n) : w.ownsRow base e size (.slice (some ⟨g, 0, none⟩) k c) k (xs.take (k * size)) := by
  have h1 := h.1
  rcases h.2 with ⟨h', _⟩ | ⟨g', cap', cur, h', hb, hg, hnc, hcm, hcs, htake⟩
  · simp at h'
  · simp only [Value.slice.injEq, Option.some.injEq, Addr.mk.injEq, and_true, true_and] at h'
    obtain ⟨rfl, rfl⟩ := h'
    have hks : k * size ≤ n * size := Nat.mul_le_mul_right _ hk
    refine ⟨by rw [List.length_take, h1]; omega, .inr ⟨g, c, cur, rfl, hb, hg, by omega, hcm, hcs, ?_⟩⟩
    rw [← htake, List.take_take]
    congr 1
    omega

/-! Numbers. -/
structure U64s (w : World) (a : Option Addr) (n cap : Nat) (l : List Nat) : Prop where
  len : l.length = n
  lt : ∀ x ∈ l, x < 18446744073709551616
  room : n ≤ cap
  most : cap ≤ 9223372036854775807
  nilc : a = none → cap = 0
  cells : 0 < n → ∃ b o, a = some ⟨b, o, none⟩ ∧ ∀ i, i < n → w.cell? ⟨b, o + i, none⟩ = some (.int .u64 ((nth l i : Nat) : Int))

def u64C (l : List Nat) : List Value := l.map fun x => Value.int .u64 ((x : Nat) : Int)
theorem u64C_append (a b : List Nat) : u64C (a ++ b) = u64C a ++ u64C b := by simp [u64C]
theorem u64C_length (a : List Nat) : (u64C a).length = a.length := by simp [u64C]
theorem u64C_get (l : List Nat) (i : Nat) (h : i < l.length) : (u64C l)[i]? = some (.int .u64 ((nth l i : Nat) : Int)) := by simp [u64C, nth, h]
theorem u64C_take (l : List Nat) (k : Nat) : (u64C l).take k = u64C (l.take k) := by simp [u64C, List.map_take]
theorem u64C_drop (l : List Nat) (k : Nat) : (u64C l).drop k = u64C (l.drop k) := by simp [u64C, List.map_drop]
theorem u64C_one (l : List Nat) : ∀ u ∈ u64C l, u.oneCell' = true := by
  intro u hu
  simp only [u64C, List.mem_map] at hu
  obtain ⟨x, _, rfl⟩ := hu
  rfl

theorem U64s.below {w w' : World} {a : Option Addr} {n cap : Nat} {l : List Nat} (h : U64s w a n cap l) (hb : Below w.heap.size w w') : U64s w' a n cap l := by
  refine ⟨h.len, h.lt, h.room, h.most, h.nilc, fun hn => ?_⟩
  obtain ⟨b, o, ha, hc⟩ := h.cells hn
  refine ⟨b, o, ha, fun i hi => ?_⟩
  have := hc i hi
  exact (hb.cell (p := ⟨b, o + i, none⟩) (cell_lt this)).trans this

theorem U64s.rd {w : World} {a : Option Addr} {n cap : Nat} {l : List Nat} (h : U64s w a n cap l) : Rd w 1 a n (u64C l) := by
  refine ⟨by rw [u64C_length, h.len]; omega, fun hn => ?_⟩
  obtain ⟨b, o, e, hc⟩ := h.cells hn
  refine ⟨b, o, e, fun j u hu => ?_⟩
  have hj : j < l.length := by
    rcases Nat.lt_or_ge j l.length with h' | h'
    · exact h'
    · rw [List.getElem?_eq_none (by rw [u64C_length]; exact h')] at hu; cases hu
  rw [u64C_get l j hj] at hu
  cases hu
  exact hc j (by rw [← h.len]; exact hj)

theorem u64s_own {w : World} {base n : Nat} {T : TypeId} {v : Value} {l : List Nat} (h : w.ownsRow base T 1 v n (u64C l)) (hl : ∀ x ∈ l, x < 18446744073709551616) : ∃ a cap, v = .slice a n cap ∧ U64s w a n cap l := by
  have hlen : l.length = n := by have := h.1; rw [u64C_length] at this; omega
  rcases h.2 with ⟨rfl, rfl⟩ | ⟨g, cap, cur, rfl, hg, hh, hnc, hcm, _⟩
  · exact ⟨none, 0, rfl, hlen, hl, by omega, by omega, fun _ => rfl, fun h => by omega⟩
  · refine ⟨_, _, rfl, hlen, hl, hnc, by unfold maxLen at hcm; omega, (by intro h; cases h), fun hn => ⟨g, 0, rfl, fun i hi => ?_⟩⟩
    have hc := h.cells (g := g) rfl i (.int .u64 ((nth l i : Nat) : Int)) (u64C_get l i (by omega))
    rw [add_at] at hc
    exact hc

theorem Ivs.rd {w : World} {a : Option Addr} {n cap : Nat} {l : List Iv} (h : Ivs w a n cap l) : Rd w 2 a n (ivC l) := by
  refine ⟨by rw [ivC_length, h.len], fun hn => ?_⟩
  obtain ⟨b, o, e, hc⟩ := h.cells hn
  refine ⟨b, o, e, fun j u hu => ?_⟩
  have hj : j < l.length * 2 := by
    rcases Nat.lt_or_ge j (l.length * 2) with h' | h'
    · exact h'
    · rw [List.getElem?_eq_none (by rw [ivC_length]; exact h')] at hu; cases hu
  have hi : j / 2 < l.length := by omega
  obtain ⟨e1, e2⟩ := ivC_get l (j / 2) hi
  obtain ⟨c1, c2⟩ := hc (j / 2) (by rw [← h.len]; exact hi)
  rcases Nat.mod_two_eq_zero_or_one j with hm | hm
  · rw [show j / 2 * 2 = j by omega] at e1 c1
    rw [e1] at hu; cases hu; exact c1
  · rw [show j / 2 * 2 + 1 = j by omega] at e2
    rw [show o + j / 2 * 2 + 1 = o + j by omega] at c2
    rw [e2] at hu; cases hu; exact c2

theorem Tryz.info_u64 : (Tryz.prog.info? 24).map (fun i => (i.zero, i.size, i.bytes)) = some (some (.int .u64 0), 1, 8) := by kernel_rfl
theorem Tryz.info_iv : (Tryz.prog.info? 73).map (fun i => (i.zero, i.size, i.bytes)) = some (some (.agg #[.int .u64 0, .int .u64 0]), 2, 16) := by kernel_rfl

/-- append at numbers. -/
theorem run_append_u64 {w : World} (base : Nat) (v : Value) (n : Nat) (xs : List Nat) (hown : w.ownsRow base 24 1 v n (u64C xs)) (A : Option Addr) (m c : Nat) (l : List Nat) (hr : Rd w 1 A m (u64C l)) (hb : n + m ≤ 1000000) (hbase : base ≤ w.heap.size) :
    ∃ v' w', (Builtin.append_ #[151, 151] 151 #[v, .slice A m c]).run Tryz.prog w = .ok v' w' ∧ w'.ownsRow base 24 1 v' (n + m) (u64C (xs ++ l)) ∧ w.grownBy w' v.ownBlock := by
  rw [u64C_append]
  exact run_append_rd base _ _ _ _ 1 8 Tryz.underlying151 Tryz.info_u64 rfl (by omega) v n _ hown A m c _ hr (u64C_one l) (by unfold maxLen; omega) (by omega) hbase

/-- append at intervals. -/
theorem run_append_iv {w : World} (base : Nat) (v : Value) (n : Nat) (xs : List Iv) (hown : w.ownsRow base 73 2 v n (ivC xs)) (A : Option Addr) (m c : Nat) (l : List Iv) (hr : Rd w 2 A m (ivC l)) (hb : n + m ≤ 1000000) (hbase : base ≤ w.heap.size) :
    ∃ v' w', (Builtin.append_ #[28, 28] 28 #[v, .slice A m c]).run Tryz.prog w = .ok v' w' ∧ w'.ownsRow base 73 2 v' (n + m) (ivC (xs ++ l)) ∧ w.grownBy w' v.ownBlock := by
  rw [ivC_append]
  exact run_append_rd base _ _ _ _ 2 16 Tryz.underlying28 Tryz.info_iv rfl (by omega) v n _ hown A m c _ hr (ivC_one l) (by unfold maxLen; omega) (by omega) hbase

end Go.Proofs.YtkkdlgcfcbaibaaGreatDoor
end

section
namespace Go.Proofs.YtkkdlgcfcbaibaaGreatDoor
open Go.RowKit Go.Sort
set_option linter.unusedVariables false

def encI (s : Iv) : List Value := [.int .u64 ((s.1 : Nat) : Int), .int .u64 ((s.2 : Nat) : Int)]
def cfI (x y : Iv) : Int := Lib.compareInt (x.1 : Int) (y.1 : Int)

theorem ltI (x y : Iv) : ltOf cfI x y = decide (x.1 < y.1) := by
  unfold ltOf cfI Lib.compareInt
  by_cases h1 : x.1 < y.1
  · simp [h1]
  · by_cases h2 : y.1 < x.1
    · simp [h1, h2]
    · simp [h1, h2]

theorem swoI : SWO (ltOf cfI) where
  irrefl x := by rw [ltI]; simp
  trans x y z h1 h2 := by rw [ltI] at *; simp at *; omega
  ntrans x y z h1 h2 := by rw [ltI] at *; simp at *; omega

theorem perm_list {d d' : Array Iv} (h : PermIn 0 d.size d d') : d'.toList.Perm d.toList := by
  obtain ⟨h1, _, h3⟩ := h
  rw [Array.extract_eq_self_of_le (by omega), Array.extract_eq_self_of_le (by omega)] at h3
  exact h3

theorem sorted_list {d : Array Iv} {d' : Array Iv} (hs : d'.size = d.size) (h : SortedIn (ltOf cfI) 0 d.size d') : AscLo d'.toList := by
  intro i j hij hj
  have hj' : j < d'.size := by simpa using hj
  have := h i j (Nat.zero_le _) hij (by omega)
  rw [ltI] at this
  have e1 : nthI d'.toList i = d'[i]! := by rw [nthI_get (by simp; omega)]; simp [getElem!_pos d' i (by omega)]
  have e2 : nthI d'.toList j = d'[j]! := by rw [nthI_get hj]; simp [getElem!_pos d' j hj']
  rw [e1, e2]
  simp at this
  omega

theorem holds_own {w : World} {base n cap g : Nat} {T : TypeId} {l : List Iv} (h : w.ownsRow base T 2 (.slice (some ⟨g, 0, none⟩) n cap) n (ivC l)) : HoldsK encI 2 w g 0 l.toArray := by
  have hlen : l.length = n := by have := h.1; rw [ivC_length] at this; omega
  intro j hj
  rw [size_flatK] at hj
  have hj' : j < l.length * 2 := by simpa using hj
  have hi : j / 2 < l.length := by omega
  refine ⟨?_, by rw [Nat.zero_add]; exact h.frozenAt j⟩
  rw [Nat.zero_add, h.cellAt j (by omega)]
  obtain ⟨e1, e2⟩ := ivC_get l (j / 2) hi
  rw [get_flatK _ _ _ _ (by simpa using hj')]
  have e : l.toArray[j / 2]! = nthI l (j / 2) := by rw [nthI_get hi]; simp [hi]
  rw [e]
  rcases Nat.mod_two_eq_zero_or_one j with hm | hm
  · rw [show j / 2 * 2 = j by omega] at e1
    rw [e1, hm]; rfl
  · rw [show j / 2 * 2 + 1 = j by omega] at e2
    rw [e2, hm]; rfl

theorem below_sorted {w : World} {base g n : Nat} (d' : Array Iv) (os : Array Obj) (hg : base ≤ g) (hw : base ≤ w.heap.size) : Below base w (sortWorldK encI 2 w g 0 n d' os) := by
  refine ⟨rfl, rfl, rfl, ?_, ?_⟩
  · simp [sortWorldK, grow, putRowK, putRow, mapBlock]
  · intro k hk
    simp only [sortWorldK, grow, putRowK, putRow, mapBlock, heap_ahead]
    rw [Array.getElem?_append_left (by simp; omega), Array.getElem?_modify, if_neg (by omega)]

theorem sorted_cells {w : World} {g n m : Nat} {d d' : Array Iv} (os : Array Obj) (hH : HoldsK encI 2 w g 0 d) (hs : d'.size = d.size) (hg : g < w.heap.size) (hlt : ∀ s ∈ d'.toList, s.1 < 18446744073709551616 ∧ s.2 < 18446744073709551616) (hn : d.size = n) (hm : n ≤ 9223372036854775807) :
    Ivs (sortWorldK encI 2 w g 0 m d' os) (some ⟨g, 0, none⟩) n n d'.toList := by
  have h := holdsK_sortWorldK_c encI 2 w g 0 d d' m os hH hg hs
  refine ⟨by simp [hs, hn], hlt, Nat.le_refl _, hm, (by intro h; cases h), fun _ => ⟨g, 0, rfl, fun i hi => ?_⟩⟩
  have hi' : i < d'.size := by omega
  have e : nthI d'.toList i = d'[i]! := by rw [nthI_get (by simpa using hi')]; simp [getElem!_pos d' i hi']
  have c0 := (h.cell (i := i) (c := 0) hi' (by omega)).1
  have c1 := (h.cell (i := i) (c := 1) hi' (by omega)).1
  rw [e]
  exact ⟨c0, c1⟩

end Go.Proofs.YtkkdlgcfcbaibaaGreatDoor
end
