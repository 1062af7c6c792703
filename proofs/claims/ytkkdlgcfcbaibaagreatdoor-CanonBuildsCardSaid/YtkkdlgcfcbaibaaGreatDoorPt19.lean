/- Walks and laws, merged: part 19. -/
import Derived.Test.YtkkdlgcfcbaibaaGreatDoorPt15
import Derived.Test.YtkkdlgcfcbaibaaGreatDoorPt16
import Derived.Test.YtkkdlgcfcbaibaaGreatDoorPt06
import Derived.Test.YtkkdlgcfcbaibaaGreatDoorPt18
section
namespace Go.Proofs.YtkkdlgcfcbaibaaGreatDoor
open Go.RowKit Go.Shelf
set_option linter.unusedVariables false

/-- A cell that holds a slice that reads as intervals. -/
def IvCell (w : World) (p : Addr) (l : List Iv) : Prop := ∃ x n c, w.cell? p = some (.slice x n c) ∧ Ivs w x n c l
/-- A cell that holds a slice that reads as entries. -/
def EnCell (w : World) (p : Addr) (v : Vec) : Prop := ∃ x n c, w.cell? p = some (.slice x n c) ∧ Ents w x n c v

theorem IvCell.below {w w' : World} {p : Addr} {l : List Iv} (h : IvCell w p l) (hb : Below w.heap.size w w') : IvCell w' p l :=
  let ⟨x, n, c, h1, h2⟩ := h; ⟨x, n, c, (hb.cell (cell_lt h1)).trans h1, h2.below hb⟩
theorem EnCell.below {w w' : World} {p : Addr} {v : Vec} (h : EnCell w p v) (hb : Below w.heap.size w w') : EnCell w' p v :=
  let ⟨x, n, c, h1, h2⟩ := h; ⟨x, n, c, (hb.cell (cell_lt h1)).trans h1, h2.below hb⟩

/-- The slice with this address, length and capacity reads as the fragments k. -/
structure Frags (w : World) (a : Option Addr) (n cap : Nat) (k : Kno) : Prop where
  len : k.length = n
  room : n ≤ cap
  most : cap ≤ 9223372036854775807
  nilc : a = none → cap = 0
  cells : 0 < n → ∃ b o, a = some ⟨b, o, none⟩ ∧ ∀ i, i < n → IvCell w ⟨b, o + i * 2, none⟩ (nthF k i).1 ∧ EnCell w ⟨b, o + i * 2 + 1, none⟩ (nthF k i).2

theorem Frags.below {w w' : World} {a : Option Addr} {n cap : Nat} {k : Kno} (h : Frags w a n cap k) (hb : Below w.heap.size w w') : Frags w' a n cap k := by
  refine ⟨h.len, h.room, h.most, h.nilc, fun hn => ?_⟩
  obtain ⟨b, o, ha, hc⟩ := h.cells hn
  exact ⟨b, o, ha, fun i hi => ⟨(hc i hi).1.below hb, (hc i hi).2.below hb⟩⟩

theorem frags_nil (w : World) : Frags w none 0 0 [] := ⟨rfl, by omega, by omega, fun _ => rfl, fun h => by omega⟩

theorem Frags.lt {w : World} {a : Option Addr} {n cap : Nat} {k : Kno} (h : Frags w a n cap k) {i : Nat} (hi : i < n) : Lt64 (nthF k i).1 ∧ LtV (nthF k i).2 := by
  obtain ⟨b, o, -, hc⟩ := h.cells (by omega)
  obtain ⟨⟨_, _, _, _, h1⟩, ⟨_, _, _, _, h2⟩⟩ := hc i hi
  exact ⟨h1.lt, h2.lt⟩
theorem Frags.all {w : World} {a : Option Addr} {n cap : Nat} {k : Kno} (h : Frags w a n cap k) : ∀ f ∈ k, Lt64 f.1 ∧ LtV f.2 := by
  intro f hf
  obtain ⟨i, hi, rfl⟩ := List.getElem_of_mem hf
  have := h.lt (i := i) (by rw [← h.len]; exact hi)
  rwa [nthF_get hi] at this

/-! Entries in rows that stay. -/
structure EntsT (w : World) (base : Nat) (a : Option Addr) (n c : Nat) (v : Vec) : Prop where
  len : v.length = n
  lt : LtV v
  room : n ≤ c
  most : c ≤ 9223372036854775807
  nilc : a = none → c = 0
  row : 0 < n → ∀ p, a = some p → RowAt w base 71 p.block
  cells : 0 < n → ∃ b o, a = some ⟨b, o, none⟩ ∧ ∀ i, i < n → w.cell? ⟨b, o + i * 3, none⟩ = some (.int .u64 (((nthE v i).1 : Nat) : Int)) ∧ w.cell? ⟨b, o + i * 3 + 1, none⟩ = some (.int .u64 (((nthE v i).2.1 : Nat) : Int)) ∧
    ∃ x k c, w.cell? ⟨b, o + i * 3 + 2, none⟩ = some (.slice x k c) ∧ IvsT w base x k c (nthE v i).2.2

theorem EntsT.ents {w : World} {base : Nat} {a : Option Addr} {n c : Nat} {v : Vec} (h : EntsT w base a n c v) : Ents w a n c v := by
  refine ⟨h.len, h.lt, h.room, h.most, h.nilc, fun hn => ?_⟩
  obtain ⟨b, o, ha, hc⟩ := h.cells hn
  refine ⟨b, o, ha, fun i hi => ?_⟩
  obtain ⟨h1, h2, x, k, d, h3, h4⟩ := hc i hi
  exact ⟨h1, h2, x, k, d, h3, h4.ivs⟩

theorem entsT_nil (w : World) (base : Nat) : EntsT w base none 0 0 [] := ⟨rfl, by simp, by omega, by omega, fun _ => rfl, fun h => by omega, fun h => by omega⟩

theorem EntsT.steady {w w' : World} {base : Nat} {P : TypeId → Prop} {a : Option Addr} {n c : Nat} {v : Vec} (h : EntsT w base a n c v) (hs : Steady base P w w') (h1 : P 73) (h2 : P 71) : EntsT w' base a n c v := by
  refine ⟨h.len, h.lt, h.room, h.most, h.nilc, fun hn p hp => ?_, fun hn => ?_⟩
  · obtain ⟨b, o, ha, hc⟩ := h.cells hn
    rw [ha] at hp
    cases hp
    exact (rowAt_steady (h.row hn _ ha) (cell_lt (hc 0 hn).1) hs h2).1
  · obtain ⟨b, o, ha, hc⟩ := h.cells hn
    obtain ⟨-, hrow⟩ := rowAt_steady (h.row hn _ ha) (cell_lt (hc 0 hn).1) hs h2
    refine ⟨b, o, ha, fun i hi => ?_⟩
    obtain ⟨e1, e2, x, k, d, e3, e4⟩ := hc i hi
    exact ⟨(World.cell?_of_block (a := ⟨b, o + i * 3, none⟩) hrow).trans e1, (World.cell?_of_block (a := ⟨b, o + i * 3 + 1, none⟩) hrow).trans e2, x, k, d,
      (World.cell?_of_block (a := ⟨b, o + i * 3 + 2, none⟩) hrow).trans e3, e4.steady hs h1⟩

theorem rowAt_lower {w : World} {base base' : Nat} {T : TypeId} {b : Nat} (h : RowAt w base T b) (hb : base ≤ base') : RowAt w base' T b := h.imp (fun h => by omega) id

theorem IvsT.raise {w : World} {base base' : Nat} {a : Option Addr} {n c : Nat} {l : List Iv} (h : IvsT w base a n c l) (hb : base ≤ base') : IvsT w base' a n c l := ⟨h.ivs, fun hn p hp => rowAt_lower (h.row hn p hp) hb⟩
theorem EntsT.raise {w : World} {base base' : Nat} {a : Option Addr} {n c : Nat} {v : Vec} (h : EntsT w base a n c v) (hb : base ≤ base') : EntsT w base' a n c v := by
  refine ⟨h.len, h.lt, h.room, h.most, h.nilc, fun hn p hp => rowAt_lower (h.row hn p hp) hb, fun hn => ?_⟩
  obtain ⟨b, o, ha, hc⟩ := h.cells hn
  refine ⟨b, o, ha, fun i hi => ?_⟩
  obtain ⟨e1, e2, x, k, d, e3, e4⟩ := hc i hi
  exact ⟨e1, e2, x, k, d, e3, e4.raise hb⟩

/-- What lay there stays. -/
theorem entsT_old {w : World} {a : Option Addr} {n c : Nat} {v : Vec} (h : Ents w a n c v) : EntsT w w.heap.size a n c v := by
  refine ⟨h.len, h.lt, h.room, h.most, h.nilc, fun hn p hp => .inl ?_, fun hn => ?_⟩
  · obtain ⟨b, o, ha, hc⟩ := h.cells hn
    rw [ha] at hp
    cases hp
    exact cell_lt (hc 0 hn).1
  · obtain ⟨b, o, ha, hc⟩ := h.cells hn
    refine ⟨b, o, ha, fun i hi => ?_⟩
    obtain ⟨e1, e2, x, k, d, e3, e4⟩ := hc i hi
    exact ⟨e1, e2, x, k, d, e3, ivsT_old e4⟩

theorem OwnV.entsT {w : World} {base base' : Nat} {x : Value} {v : Vec} (h : OwnV w base x v) (hl : LtV v) : ∃ a c, x = .slice a v.length c ∧ EntsT w base' a v.length c v := by
  obtain ⟨ss, ho, hs⟩ := h
  have ho2 := ho
  rcases ho.2 with ⟨rfl, h0⟩ | ⟨g, cap, cur, rfl, hg, hh, hnc, hcm, _⟩
  · rw [h0]
    have : v = [] := List.length_eq_zero_iff.1 h0
    subst this
    exact ⟨none, 0, rfl, entsT_nil w base'⟩
  · refine ⟨_, _, rfl, rfl, hl, hnc, by unfold maxLen at hcm; omega, (by intro h; cases h), fun hn p hp => ?_, fun hn => ⟨g, 0, rfl, fun i hi => ?_⟩⟩
    · cases hp; exact .inr ⟨_, _, hh⟩
    obtain ⟨e1, e2, e3⟩ := entC_get hs.1 hi
    obtain ⟨a, n, c, h1, h2⟩ := hs.2 i hi
    rw [h1] at e3
    have c1 := ho2.cells (g := g) rfl _ _ e1
    have c2 := ho2.cells (g := g) rfl _ _ e2
    have c3 := ho2.cells (g := g) rfl _ _ e3
    rw [add_at] at c1 c2 c3
    exact ⟨c1, by rw [Nat.add_assoc]; exact c2, a, n, c, by rw [Nat.add_assoc]; exact c3, h2.raise (Nat.zero_le _)⟩

/-! Rows of fragments of the call's own. -/
def frgC (ss : List (Value × Value)) : List Value := ss.flatMap fun p => [p.1, p.2]
theorem frgC_length : ∀ (ss : List (Value × Value)), (frgC ss).length = ss.length * 2
  | [] => rfl
  | s :: ss => by
    have := frgC_length ss
    simp only [frgC, List.flatMap_cons, List.length_append, List.length_cons, List.length_nil] at this ⊢
    omega
theorem frgC_append (ss ts : List (Value × Value)) : frgC (ss ++ ts) = frgC ss ++ frgC ts := by simp [frgC]
theorem frgC_get : ∀ {ss : List (Value × Value)} {i : Nat} {p : Value × Value}, ss[i]? = some p → (frgC ss)[i * 2]? = some p.1 ∧ (frgC ss)[i * 2 + 1]? = some p.2
  | [], i, p, h => by simp at h
  | s :: ss, 0, p, h => by simp at h; subst h; exact ⟨rfl, rfl⟩
  | s :: ss, i + 1, p, h => by
    have := frgC_get (ss := ss) (i := i) (p := p) (by simpa using h)
    have e1 : frgC (s :: ss) = s.1 :: s.2 :: frgC ss := rfl
    rw [e1, show (i + 1) * 2 = i * 2 + 1 + 1 by omega, show i * 2 + 1 + 1 + 1 = (i * 2 + 1) + 1 + 1 by omega]
    simpa using this

def IvSl (w : World) (base : Nat) (x : Value) (l : List Iv) : Prop := ∃ a n c, x = .slice a n c ∧ IvsT w base a n c l
def EnSl (w : World) (base : Nat) (x : Value) (v : Vec) : Prop := ∃ a n c, x = .slice a n c ∧ EntsT w base a n c v
theorem IvSl.steady {w w' : World} {base : Nat} {P : TypeId → Prop} {x : Value} {l : List Iv} (h : IvSl w base x l) (hs : Steady base P w w') (h1 : P 73) : IvSl w' base x l :=
  let ⟨a, n, c, e, h⟩ := h; ⟨a, n, c, e, h.steady hs h1⟩
theorem EnSl.steady {w w' : World} {base : Nat} {P : TypeId → Prop} {x : Value} {v : Vec} (h : EnSl w base x v) (hs : Steady base P w w') (h1 : P 73) (h2 : P 71) : EnSl w' base x v :=
  let ⟨a, n, c, e, h⟩ := h; ⟨a, n, c, e, h.steady hs h1 h2⟩
theorem IvSl.raise {w : World} {base base' : Nat} {x : Value} {l : List Iv} (h : IvSl w base x l) (hb : base ≤ base') : IvSl w base' x l :=
  let ⟨a, n, c, e, h⟩ := h; ⟨a, n, c, e, h.raise hb⟩
theorem EnSl.raise {w : World} {base base' : Nat} {x : Value} {v : Vec} (h : EnSl w base x v) (hb : base ≤ base') : EnSl w base' x v :=
  let ⟨a, n, c, e, h⟩ := h; ⟨a, n, c, e, h.raise hb⟩

/-- The slices of the fragments, one by one. -/
def PartsT (w : World) (base : Nat) (k : Kno) (ss : List (Value × Value)) : Prop := ss.length = k.length ∧ ∀ i, i < k.length → ∃ p, ss[i]? = some p ∧ IvSl w base p.1 (nthF k i).1 ∧ EnSl w base p.2 (nthF k i).2
theorem PartsT.steady {w w' : World} {base : Nat} {P : TypeId → Prop} {k : Kno} {ss : List (Value × Value)} (h : PartsT w base k ss) (hs : Steady base P w w') (h1 : P 73) (h2 : P 71) : PartsT w' base k ss :=
  ⟨h.1, fun i hi => let ⟨p, e, h3, h4⟩ := h.2 i hi; ⟨p, e, h3.steady hs h1, h4.steady hs h1 h2⟩⟩
theorem PartsT.raise {w : World} {base base' : Nat} {k : Kno} {ss : List (Value × Value)} (h : PartsT w base k ss) (hb : base ≤ base') : PartsT w base' k ss :=
  ⟨h.1, fun i hi => let ⟨p, e, h3, h4⟩ := h.2 i hi; ⟨p, e, h3.raise hb, h4.raise hb⟩⟩
theorem partsT_nil (w : World) (base : Nat) : PartsT w base [] [] := ⟨rfl, fun i hi => by simp at hi⟩
theorem nthF_app {k j : Kno} {i : Nat} (h : i < k.length) : nthF (k ++ j) i = nthF k i := by
  rw [nthF_get (by rw [List.length_append]; omega), nthF_get h, List.getElem_append_left h]
theorem nthF_app2 {k j : Kno} {i : Nat} (h : i < j.length) : nthF (k ++ j) (k.length + i) = nthF j i := by
  rw [nthF_get (by rw [List.length_append]; omega), nthF_get h, List.getElem_append_right (by omega)]
  simp
theorem PartsT.append {w : World} {base : Nat} {k j : Kno} {ss ts : List (Value × Value)} (h : PartsT w base k ss) (h' : PartsT w base j ts) : PartsT w base (k ++ j) (ss ++ ts) := by
  refine ⟨by simp [h.1, h'.1], fun i hi => ?_⟩
  by_cases hv : i < k.length
  · obtain ⟨p, e, h1, h2⟩ := h.2 i hv
    refine ⟨p, by rw [List.getElem?_append_left (by rw [h.1]; exact hv)]; exact e, ?_⟩
    rw [nthF_app hv]; exact ⟨h1, h2⟩
  · obtain ⟨d, rfl⟩ : ∃ d, i = k.length + d := ⟨i - k.length, by omega⟩
    have hd : d < j.length := by rw [List.length_append] at hi; omega
    obtain ⟨p, e, h1, h2⟩ := h'.2 d hd
    refine ⟨p, by rw [List.getElem?_append_right (by rw [h.1]; omega), h.1, Nat.add_sub_cancel_left]; exact e, ?_⟩
    rw [nthF_app2 hd]; exact ⟨h1, h2⟩
theorem partsT_one {w : World} {base : Nat} {f : Frg} {x y : Value} (h1 : IvSl w base x f.1) (h2 : EnSl w base y f.2) : PartsT w base [f] [(x, y)] :=
  ⟨rfl, fun i hi => by obtain rfl : i = 0 := by simpa using hi
                       exact ⟨(x, y), rfl, h1, h2⟩⟩
theorem PartsT.take {w : World} {base : Nat} {k : Kno} {ss : List (Value × Value)} (h : PartsT w base k ss) (n : Nat) : PartsT w base (k.take n) (ss.take n) := by
  refine ⟨by simp [h.1], fun i hi => ?_⟩
  have hi2 : i < k.length ∧ i < n := by rw [List.length_take] at hi; omega
  obtain ⟨p, e, h1⟩ := h.2 i hi2.1
  refine ⟨p, by rw [List.getElem?_take, if_pos hi2.2]; exact e, ?_⟩
  have : nthF (k.take n) i = nthF k i := by rw [nthF_get hi, nthF_get hi2.1, List.getElem_take]
  rw [this]; exact h1
theorem PartsT.drop {w : World} {base : Nat} {k : Kno} {ss : List (Value × Value)} (h : PartsT w base k ss) (n : Nat) : PartsT w base (k.drop n) (ss.drop n) := by
  refine ⟨by simp [h.1], fun i hi => ?_⟩
  have hi2 : n + i < k.length := by rw [List.length_drop] at hi; omega
  obtain ⟨p, e, h1⟩ := h.2 (n + i) hi2
  refine ⟨p, by rw [List.getElem?_drop]; exact e, ?_⟩
  have : nthF (k.drop n) i = nthF k (n + i) := by rw [nthF_get hi, nthF_get hi2, List.getElem_drop]
  rw [this]; exact h1
theorem PartsT.set {w : World} {base : Nat} {k : Kno} {ss : List (Value × Value)} {n : Nat} {f : Frg} {x y : Value} (h : PartsT w base k ss) (h1 : IvSl w base x f.1) (h2 : EnSl w base y f.2) : PartsT w base (k.set n f) (ss.set n (x, y)) := by
  refine ⟨by simp [h.1], fun i hi => ?_⟩
  have hi' : i < k.length := by simpa using hi
  obtain ⟨p, e, h3⟩ := h.2 i hi'
  by_cases e : n = i
  · subst e
    refine ⟨(x, y), by rw [List.getElem?_set_self (by rw [h.1]; exact hi')], ?_⟩
    have : nthF (k.set n f) n = f := by rw [nthF_get hi]; simp
    rw [this]; exact ⟨h1, h2⟩
  · refine ⟨p, by rw [List.getElem?_set_ne e]; assumption, ?_⟩
    have : nthF (k.set n f) i = nthF k i := by rw [nthF_get hi, nthF_get hi', List.getElem_set_ne e]
    rw [this]; exact h3

/-- Knowledge in a row of the call's own; its parts lie below inner, or in rows of their types. -/
def OwnK (w : World) (base inner : Nat) (x : Value) (k : Kno) : Prop := ∃ ss, w.ownsRow base 39 2 x k.length (frgC ss) ∧ PartsT w inner k ss

theorem ownK_nil (w : World) (base inner : Nat) : OwnK w base inner (.slice none 0 0) [] := ⟨[], World.ownsRow_nil .., partsT_nil w inner⟩

theorem own_steady {w w' : World} {base inner sz n : Nat} {P : TypeId → Prop} {T : TypeId} {x : Value} {xs : List Value} (ho : w.ownsRow base T sz x n xs) (hs : Steady inner P w w') (h1 : P T) : w'.ownsRow base T sz x n xs := by
  refine ⟨ho.1, ?_⟩
  rcases ho.2 with h' | ⟨g, cap, cur, hv, hg, hr, rest⟩
  · exact .inl h'
  · exact .inr ⟨g, cap, cur, hv, hg, (hs.row g (Array.getElem?_eq_some_iff.1 hr).1 (.inr ⟨_, _, _, h1, hr⟩)).trans hr, rest⟩

theorem OwnK.steady {w w' : World} {base inner : Nat} {P : TypeId → Prop} {x : Value} {k : Kno} (h : OwnK w base inner x k) (hs : Steady inner P w w') (h1 : P 73) (h2 : P 71) (h3 : P 39) : OwnK w' base inner x k :=
  let ⟨ss, ho, hh⟩ := h; ⟨ss, own_steady ho hs h3, hh.steady hs h1 h2⟩
theorem OwnK.below {w w' : World} {base inner : Nat} {x : Value} {k : Kno} (h : OwnK w base inner x k) (hb : Below w.heap.size w w') : OwnK w' base inner x k :=
  h.steady (P := fun _ => True) (.of_below hb) trivial trivial trivial
theorem OwnK.lower {w : World} {base base' inner : Nat} {x : Value} {k : Kno} (h : OwnK w base inner x k) (hb : base' ≤ base) : OwnK w base' inner x k :=
  let ⟨ss, ho, hh⟩ := h; ⟨ss, own_mono ho hb, hh⟩
theorem OwnK.raise {w : World} {base inner inner' : Nat} {x : Value} {k : Kno} (h : OwnK w base inner x k) (hb : inner ≤ inner') : OwnK w base inner' x k :=
  let ⟨ss, ho, hh⟩ := h; ⟨ss, ho, hh.raise hb⟩

theorem OwnK.frags {w : World} {base inner : Nat} {x : Value} {k : Kno} (h : OwnK w base inner x k) : ∃ a c, x = .slice a k.length c ∧ Frags w a k.length c k := by
  obtain ⟨ss, ho, hs⟩ := h
  have ho2 := ho
  rcases ho.2 with ⟨rfl, h0⟩ | ⟨g, cap, cur, rfl, hg, hh, hnc, hcm, _⟩
  · rw [h0]
    have : k = [] := List.length_eq_zero_iff.1 h0
    subst this
    exact ⟨none, 0, rfl, frags_nil w⟩
  · refine ⟨_, _, rfl, rfl, hnc, by unfold maxLen at hcm; omega, (by intro h; cases h), fun hn => ⟨g, 0, rfl, fun i hi => ?_⟩⟩
    obtain ⟨p, e, ⟨a1, n1, m1, p1, i1⟩, ⟨a2, n2, m2, p2, i2⟩⟩ := hs.2 i hi
    obtain ⟨e1, e2⟩ := frgC_get e
    rw [p1] at e1
    rw [p2] at e2
    have c1 := ho2.cells (g := g) rfl _ _ e1
    have c2 := ho2.cells (g := g) rfl _ _ e2
    rw [add_at] at c1 c2
    exact ⟨⟨a1, n1, m1, c1, i1.ivs⟩, ⟨a2, n2, m2, by rw [Nat.add_assoc]; exact c2, i2.ents⟩⟩

theorem Tryz.info_frg : (Tryz.prog.info? 39).map (fun i => (i.zero, i.size, i.bytes)) = some (some (.agg #[.slice none 0 0, .slice none 0 0]), 2, 48) := by kernel_rfl

theorem PartsT.one {w : World} {base : Nat} {k : Kno} {ss : List (Value × Value)} (h : PartsT w base k ss) : ∀ u ∈ frgC ss, u.oneCell' = true := by
  intro u hu
  simp only [frgC, List.mem_flatMap] at hu
  obtain ⟨p, hp, hu⟩ := hu
  obtain ⟨i, hi, rfl⟩ := List.getElem_of_mem hp
  obtain ⟨q, e, ⟨_, _, _, h1, _⟩, ⟨_, _, _, h2, _⟩⟩ := h.2 i (by rw [← h.1]; exact hi)
  rw [List.getElem?_eq_getElem hi] at e
  cases e
  simp only [List.mem_cons, List.not_mem_nil, or_false] at hu
  rcases hu with rfl | rfl
  · rw [h1]; rfl
  · rw [h2]; rfl

/-- append of fragments to knowledge of the call's own. -/
theorem run_append_frg {w : World} (base inner : Nat) (x : Value) (k j : Kno) (hown : OwnK w base inner x k) (ts : List (Value × Value)) (hp : PartsT w inner j ts) (A : Option Addr) (cA : Nat)
    (hr : Rd w 2 A j.length (frgC ts)) (hb : k.length + j.length ≤ 1000000) (hbase : base ≤ w.heap.size) (hin : inner ≤ base) :
    ∃ x' w', (Builtin.append_ #[23, 23] 23 #[x, .slice A j.length cA]).run Tryz.prog w = .ok x' w' ∧ OwnK w' base inner x' (k ++ j) ∧ w.grownBy w' x.ownBlock ∧ Steady base isEnT w w' := by
  obtain ⟨ss, ho, hh⟩ := hown
  obtain ⟨x', w', h1, h2, h3⟩ := run_append_rd base _ _ _ _ 2 48 Tryz.underlying23 Tryz.info_frg rfl (by omega) x k.length _ ho A j.length cA _ hr hp.one (by unfold maxLen; omega) (by omega) hbase
  have hs : Steady base isEnT w w' := .grown ho h3 (by rintro (h | h) <;> cases h)
  refine ⟨x', w', h1, ⟨ss ++ ts, ?_, (hh.append hp).steady (hs.lower hin) (.inl rfl) (.inr rfl)⟩, h3, hs⟩
  rw [frgC_append, List.length_append]
  exact h2

end Go.Proofs.YtkkdlgcfcbaibaaGreatDoor
end

section
namespace Go.Proofs.YtkkdlgcfcbaibaaGreatDoor
open Go.RowKit
set_option linter.unusedVariables false

theorem wpList_append_ent {w : World} {ops : Array Oper} {rest : List Oper} {o : Oper} {a : Act} {Q : Exit → Act → World → Prop} (hgd : o.guard = none) (s x : Operand)
    (ho : o.op = .call { callee := .builtin .append, args := #[s, x], argTypes := #[37, 37] }) (hty : o.type = 37)
    (base : Nat) (v : Value) (vs : Vec) (hs : a.eval s = v) (hown : OwnV w base v vs) (A : Option Addr) (c : Nat) (e : Ent) (ea : Option Addr) (en ec : Nat) (hI : IvsT w 0 ea en ec e.2.2) (hx : a.eval x = .slice A 1 c)
    (hr : Rd w 3 A 1 [.int .u64 ((e.1 : Nat) : Int), .int .u64 ((e.2.1 : Nat) : Int), .slice ea en ec]) (hb : vs.length + 1 ≤ 1000000) (hbase : base ≤ w.heap.size)
    (h : ∀ v' w', OwnV w' base v' (vs ++ [e]) → w.grownBy w' v.ownBlock → Steady base isIvT w w' → wpList Tryz.prog ops Q rest (a.put o.dst v') w') : wpList Tryz.prog ops Q (o :: rest) a w := by
  obtain ⟨v', w', hrun, h1, h2, h3⟩ := run_append_ent base v vs e hown ea en ec hI A c hr hb hbase
  exact wpList_append_hr _ _ _ ho (by simp [Region.wanted, hgd]) _ _ hs hx v' w' (by rw [hty]; exact hrun) (h v' w' h1 h2 h3)

theorem wpList_append_u64 {w : World} {ops : Array Oper} {rest : List Oper} {o : Oper} {a : Act} {Q : Exit → Act → World → Prop} (hgd : o.guard = none) (s x : Operand)
    (ho : o.op = .call { callee := .builtin .append, args := #[s, x], argTypes := #[151, 151] }) (hty : o.type = 151)
    (base : Nat) (v : Value) (n : Nat) (xs : List Nat) (hs : a.eval s = v) (hown : w.ownsRow base 24 1 v n (u64C xs)) (A : Option Addr) (m c : Nat) (l : List Nat) (hx : a.eval x = .slice A m c) (hr : Rd w 1 A m (u64C l)) (hb : n + m ≤ 1000000) (hbase : base ≤ w.heap.size)
    (h : ∀ v' w', w'.ownsRow base 24 1 v' (n + m) (u64C (xs ++ l)) → w.grownBy w' v.ownBlock → wpList Tryz.prog ops Q rest (a.put o.dst v') w') : wpList Tryz.prog ops Q (o :: rest) a w := by
  obtain ⟨v', w', hrun, h1, h2⟩ := run_append_u64 base v n xs hown A m c l hr hb hbase
  exact wpList_append_hr _ _ _ ho (by simp [Region.wanted, hgd]) _ _ hs hx v' w' (by rw [hty]; exact hrun) (h v' w' h1 h2)

theorem step_append_frg {w : World} {ops : Array Oper} {o : Oper} {a : Act} {K : Act → World → Prop} {Q : Exit → Act → World → Prop} {E : Prop} (hgd : o.guard = none) (s x : Operand)
    (ho : o.op = .call { callee := .builtin .append, args := #[s, x], argTypes := #[23, 23] }) (hty : o.type = 23)
    (base inner : Nat) (v : Value) (k : Kno) (hs : a.eval s = v) (hown : OwnK w base inner v k) (A : Option Addr) (c n : Nat) (j : Kno) (hn : n = j.length) (ts : List (Value × Value)) (hp : PartsT w inner j ts) (hx : a.eval x = .slice A n c)
    (hr : Rd w 2 A n (frgC ts)) (hb : k.length + j.length ≤ 1000000) (hbase : base ≤ w.heap.size) (hin : inner ≤ base)
    (h : ∀ v' w', OwnK w' base inner v' (k ++ j) → w.grownBy w' v.ownBlock → Steady base isEnT w w' → K (a.put o.dst v') w') :
    if Region.wanted o (yielded ops a.tmps) = true then Oper.wp Tryz.prog o a w K Q else E := by
  subst hn
  obtain ⟨v', w', hrun, h1, h2, h3⟩ := run_append_frg base inner v k j hown ts hp A c hr hb hbase hin
  exact step_append_hr hgd s x _ ho _ _ hs hx v' w' (by rw [hty]; exact hrun) (h v' w' h1 h2 h3)

theorem OwnV.lt {w : World} {base : Nat} {v : Value} {vs : Vec} (h : OwnV w base v vs) : ∀ k, v.ownBlock = some k → base ≤ k ∧ k < w.heap.size := by
  obtain ⟨ss, ho, -⟩ := h
  exact fun k hk => ho.lt k hk
theorem OwnK.lt {w : World} {base inner : Nat} {v : Value} {k : Kno} (h : OwnK w base inner v k) : ∀ j, v.ownBlock = some j → base ≤ j ∧ j < w.heap.size := by
  obtain ⟨ss, ho, -⟩ := h
  exact fun j hj => ho.lt j hj

end Go.Proofs.YtkkdlgcfcbaibaaGreatDoor
end

section
namespace Go.Proofs.YtkkdlgcfcbaibaaGreatDoor
open Go.RowKit
set_option linter.unusedVariables false

/-- What is small enough to be walked. -/
structure VecFits (v : Vec) : Prop where
  len : v.length ≤ 300
  holes : ∀ e ∈ v, e.2.2.length ≤ 500

theorem ofRes_own {base : Nat} {f : Ent} {x : Ending} {w' : World} (h : OfRes base (some f) x w') (hl : Lt64 f.2.2) : ∃ a c, x = .returned (.tuple #[entV f (.slice a f.2.2.length c), .bool true]) ∧ ∀ b, IvsT w' b a f.2.2.length c f.2.2 := by
  obtain ⟨s, rfl, ho⟩ := h
  obtain ⟨a, c, rfl, h0⟩ := ivsT_own (base' := 0) ho hl
  exact ⟨a, c, rfl, fun b => h0.raise (Nat.zero_le _)⟩

end Go.Proofs.YtkkdlgcfcbaibaaGreatDoor
end
