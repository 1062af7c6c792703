/- Walks and laws, merged: part 41. -/
import Derived.Test.YtkkdlgcfcbaibaaGreatDoorPt40
import Derived.Test.YtkkdlgcfcbaibaaGreatDoorPt22
import Derived.Test.YtkkdlgcfcbaibaaGreatDoorPt20
import Derived.Test.YtkkdlgcfcbaibaaGreatDoorPt19
section
namespace Go.Proofs.YtkkdlgcfcbaibaaGreatDoor
open Go.RowKit
set_option linter.unusedVariables false

theorem ex_lt : LtK exK := by
  intro f hf
  simp at hf
  rcases hf with rfl | rfl
  · refine ⟨by decide, ?_, List.pairwise_singleton _ _⟩
    intro e he
    simp at he
    subst he
    exact ⟨by simp, by simp, fun s hs => by cases hs⟩
  · refine ⟨by decide, ?_, List.pairwise_singleton _ _⟩
    intro e he
    simp at he
    subst he
    exact ⟨by simp, by simp, fun s hs => by cases hs⟩

theorem ex_fits : ∀ f ∈ exC, VecFits f.2 := by
  intro f hf
  simp at hf
  subst hf
  exact ⟨by simp, by simp⟩
theorem ex_fitsK : ∀ f ∈ exK, VecFits f.2 := by
  intro f hf
  simp at hf
  rcases hf with rfl | rfl
  · exact ⟨by simp, by simp⟩
  · exact ⟨by simp, by simp⟩

theorem seg_one {l : List Iv} (h : l.Perm (flatK exC)) : l = [(1, 6)] := List.perm_singleton.1 h

set_option maxRecDepth 20000 in
set_option maxHeartbeats 4000000 in
theorem alive_any (w : World) (hR : Ready w) : Calls Tryz.prog 11 #[] w fun e w' => e = .returned (.bool true) ∧ Below w.heap.size w w' := by
  have HR := Lib.hid (fun W (h : Below w.heap.size w W) => hR.below h)
  have HJ := Lib.hid (small_joins (k := exK) ex_lt (fewK_small (by decide)).1 ex_ck)
  clear hR
  obtain ⟨W, hW⟩ : ∃ W, W = (((w.alloc (.cells #[.int .u64 1, .int .u64 3, .slice none 0 0] 71)).alloc (.cells #[.int .u64 4, .int .u64 6] 73)).alloc (.cells #[.int .u64 1, .int .u64 3] 73)).alloc (.cells #[.slice (some ⟨w.heap.size + 1, 0, none⟩) 1 1, .slice (some ⟨w.heap.size, 0, none⟩) 1 1, .slice (some ⟨w.heap.size + 1 + 1, 0, none⟩) 1 1, .slice (some ⟨w.heap.size, 0, none⟩) 1 1] 39) := ⟨_, rfl⟩
  have HbW := Lib.hid (show Below w.heap.size w W from by rw [hW]; exact ((((Below.refl _ _).alloc (Nat.le_refl _) _).alloc (by simp) _).alloc (by simp; omega) _).alloc (by simp; omega) _)
  have Hr0 := Lib.hid (show W.heap[w.heap.size]? = some (.cells #[.int .u64 1, .int .u64 3, .slice none 0 0] 71) from by rw [hW]; exact row_old (row_old (row_old (row_new rfl))))
  have HE := Lib.hid (show Frags W (some ⟨w.heap.size + 1 + 1 + 1, 0, none⟩) 2 2 exK from lit_two Hr0.out (b1 := w.heap.size + 1) (b2 := w.heap.size + 1 + 1) (by rw [hW]; exact row_old (row_old (row_new (by simp)))) (by rw [hW]; exact row_old (row_new (by simp))) (by rw [hW]; exact row_new (by simp)))
  have HW := Lib.hid hW
  clear hW
  go_enter Tryz.func11, Tryz.ntmps11
  go_wp2_with fail
  rw [← HW.out]
  refine (canCanon_any _ 2 2 exK W HE.out HJ.out (Nat.le_trans (startsK_le _) (by decide))).mono ?_
  rintro e w1 ⟨⟨y, rfl, ho⟩, hb1⟩
  rw [ex_canon] at ho
  obtain ⟨a1, c1, rfl, hK⟩ := ho.frags
  have HK := Lib.hid hK
  have Hb1 := Lib.hid hb1
  clear ho hK hb1 HJ HW
  rw [show (exC : Kno).length = 1 from rfl] at HK ⊢
  go_wp2_with fail
  refine (segments_any a1 1 c1 exC w1 HK.out (by intro f hf; simp at hf; subst hf; exact good_one (s := (1, 6)) (by decide)) (by decide)).mono ?_
  rintro e w2 ⟨⟨l', a2, c2, gi, rfl, hpm, -, hI2, ho2⟩, hb2⟩
  obtain rfl := seg_one hpm
  have HO2 := Lib.hid ho2
  have Hb2 := Lib.hid hb2
  have HK2 := Lib.hid (HK.out.below hb2)
  have HB2 := Lib.hid (Hb1.out.trans (hb2.mono Hb1.out.size))
  clear hpm hI2 ho2 hb2
  simp only [List.length_singleton, List.map_cons, List.map_nil, ex_pos] at HO2 ⊢
  obtain ⟨W2, hW2⟩ : ∃ W2, W2 = (w2.alloc (.cells #[.int .u64 1, .int .u64 6] 73)).alloc (.cells #[.slice (some ⟨w2.heap.size, 0, none⟩) 1 1, .slice (some ⟨w.heap.size, 0, none⟩) 1 1] 39) := ⟨_, rfl⟩
  have HbW2 := Lib.hid (show Below w2.heap.size w2 W2 from by rw [hW2]; exact (((Below.refl _ _).alloc (Nat.le_refl _) _).alloc (by simp) _))
  have Hr2 := Lib.hid ((HbW2.out.block w.heap.size (Array.getElem?_eq_some_iff.1 ((HB2.out.block w.heap.size (Array.getElem?_eq_some_iff.1 Hr0.out).1).trans Hr0.out)).1).trans ((HB2.out.block w.heap.size (Array.getElem?_eq_some_iff.1 Hr0.out).1).trans Hr0.out))
  have HF2 := Lib.hid (show Frags W2 (some ⟨w2.heap.size + 1, 0, none⟩) 1 1 exC from lit_one Hr2.out (b1 := w2.heap.size) (by rw [hW2]; exact row_old (row_new rfl)) (by rw [hW2]; exact row_new (by simp)))
  have HW2 := Lib.hid hW2
  have HS := Lib.hid (refSame11_any _ _ _ _ _ _ _ _ W2 (HK2.out.below HbW2.out) HF2.out)
  have HT2 := Lib.hid (HB2.out.trans (HbW2.out.mono HB2.out.size))
  clear hW2
  rw [show decide (exC = exC) = true from decide_eq_true rfl] at HS
  go_wp2_with fail
  rw [← HW2.out]
  refine HS.out.mono ?_
  rintro e w3 ⟨rfl, hb3⟩
  have HB3 := Lib.hid (HT2.out.trans (hb3.mono HT2.out.size))
  have Hq3 := Lib.hid (HbW2.out.trans (hb3.mono HbW2.out.size))
  clear hb3 HS HW2 HF2
  have hR3 := HR.out _ (HbW.out.trans (HB3.out.mono HbW.out.size))
  go_wp2_with fail
  refine (canCanonical_any a1 1 c1 exC w3 (HK2.out.below Hq3.out) hR3.door hR3.codes ex_fits (by decide)).mono ?_
  rintro e w4 ⟨rfl, hb4⟩
  rw [show decide (ckC exC = none) = true from by rw [ex_ckC]; rfl]
  have HB4 := Lib.hid (HB3.out.trans (hb4.mono HB3.out.size))
  have Hq4 := Lib.hid (Hq3.out.trans (hb4.mono Hq3.out.size))
  clear hb4 hR3
  have hR4 := HR.out _ (HbW.out.trans (HB4.out.mono HbW.out.size))
  go_wp2_with fail
  refine (canCanonical_any _ 2 2 exK w4 (HE.out.below HB4.out) hR4.door hR4.codes ex_fitsK (by decide)).mono ?_
  rintro e w5 ⟨rfl, hb5⟩
  rw [show decide (ckC exK = none) = false from by rw [ex_ckK]; rfl]
  have HB5 := Lib.hid (HB4.out.trans (hb5.mono HB4.out.size))
  have Hq5 := Lib.hid (Hq4.out.trans (hb5.mono Hq4.out.size))
  clear hb5 hR4
  go_wp2_with fail
  refine (canFind_any a1 1 c1 5 exC w5 (HK2.out.below Hq5.out) (by intro f hf; simp at hf; subst hf; exact ⟨good_one (s := (1, 6)) (by decide), by decide⟩)).mono ?_
  rintro e w6 ⟨rfl, hb6⟩
  rw [ex_five]
  have HB6 := Lib.hid (HB5.out.trans (hb6.mono HB5.out.size))
  have Hq6 := Lib.hid (Hq5.out.trans (hb6.mono Hq5.out.size))
  clear hb6
  go_wp2_with fail
  refine (canFind_any a1 1 c1 7 exC w6 (HK2.out.below Hq6.out) (by intro f hf; simp at hf; subst hf; exact ⟨good_one (s := (1, 6)) (by decide), by decide⟩)).mono ?_
  rintro e w7 ⟨rfl, hb7⟩
  rw [ex_seven]
  have HB7 := Lib.hid (HB6.out.trans (hb7.mono HB6.out.size))
  have Hq7 := Lib.hid (Hq6.out.trans (hb7.mono Hq6.out.size))
  clear hb7
  have hal : Below w7.heap.size w7 (w7.alloc (.cells #[.int .i64 0] 3)) := (Below.refl _ _).alloc (Nat.le_refl _) _
  have HEq := Lib.hid (equalI_any _ w7.heap.size _ _ [0] [0] _ (own_below HO2.out (Hq7.out.trans (hal.mono Hq7.out.size))) (lit_zero (row_new rfl)) (by decide) (by decide))
  have Hal := Lib.hid hal
  rw [show decide ([0] = [0]) = true from rfl] at HEq
  clear hal
  go_wp2_with fail
  refine HEq.out.mono ?_
  rintro e w8 ⟨rfl, hb8⟩
  have HB8 := Lib.hid (HB7.out.trans ((Hal.out.trans (hb8.mono Hal.out.size)).mono HB7.out.size))
  clear hb8 HEq
  have hR8 := HR.out _ (HbW.out.trans (HB8.out.mono HbW.out.size))
  go_wp2_with fail
  refine (canCheck_any _ 2 2 exK w8 (HE.out.below HB8.out) hR8.door hR8.codes ex_fitsK (by decide)).mono ?_
  rintro e w9 ⟨rfl, hb9⟩
  have HB9 := Lib.hid (HB8.out.trans (hb9.mono HB8.out.size))
  clear hb9 hR8
  rw [ex_ckK]
  simp only [errOf]
  go_wp2_with fail
  refine (code_any (some (((3 : Nat) : Int), some ((1 : Nat) : Int))) _ (HR.out _ (HbW.out.trans (HB9.out.mono HbW.out.size))).door).mono ?_
  rintro e w10 ⟨rfl, hb10⟩
  have HB10 := Lib.hid (HB9.out.trans (hb10.mono HB9.out.size))
  clear hb10
  simp only [errCode]
  go_wp2_with fail
  go_ret
  exact ⟨rfl, HbW.out.trans (HB10.out.mono HbW.out.size)⟩

end Go.Proofs.YtkkdlgcfcbaibaaGreatDoor
end

section
namespace Go.Proofs.YtkkdlgcfcbaibaaGreatDoor
set_option linter.unusedVariables false

abbrev Seg := Iv × Nat
def posS (L : List Seg) (x : Nat) : Nat := (L.takeWhile fun p => decide (p.1.1 < x)).length
def insS (L : List Seg) (s : Iv) (i : Nat) : List Seg := L.take (posS L s.1) ++ (s, i) :: L.drop (posS L s.1)
def segF (L : List Seg) (l : List Iv) (i : Nat) : List Seg := l.foldl (fun L s => insS L s i) L
def segTo (k : Kno) : Nat → List Seg
  | 0 => []
  | d + 1 => segF (segTo k d) (nthF k d).1 d
def segK (k : Kno) : List Seg := segTo k k.length

theorem segF_succ {L : List Seg} {l : List Iv} {i j : Nat} (h : j < l.length) : segF L (l.take (j + 1)) i = insS (segF L (l.take j) i) (nthI l j) i := by
  unfold segF
  rw [List.take_succ_eq_append_getElem h, List.foldl_append, nthI_get h]
  rfl

theorem insS_perm (L : List Seg) (s : Iv) (i : Nat) : (insS L s i).Perm ((s, i) :: L) := by
  unfold insS
  refine List.perm_middle.trans ?_
  rw [List.take_append_drop]

theorem insS_len (L : List Seg) (s : Iv) (i : Nat) : (insS L s i).length = L.length + 1 := by rw [(insS_perm L s i).length_eq, List.length_cons]

theorem insS_asc {L : List Seg} (h : L.Pairwise fun p q => p.1.1 ≤ q.1.1) (s : Iv) (i : Nat) : (insS L s i).Pairwise fun p q => p.1.1 ≤ q.1.1 := by
  induction L with
  | nil => simp [insS, posS]
  | cons p L ih =>
    obtain ⟨h1, h2⟩ := List.pairwise_cons.1 h
    by_cases hp : p.1.1 < s.1
    · have e : insS (p :: L) s i = p :: insS L s i := by
        unfold insS posS
        rw [List.takeWhile_cons_of_pos (by simpa using hp)]
        simp
      rw [e]
      refine List.pairwise_cons.2 ⟨fun q hq => ?_, ih h2⟩
      rcases List.mem_cons.1 ((insS_perm L s i).mem_iff.1 hq) with rfl | hq
      · exact Nat.le_of_lt hp
      · exact h1 q hq
    · have e : insS (p :: L) s i = (s, i) :: p :: L := by
        unfold insS posS
        rw [List.takeWhile_cons_of_neg (by simpa using hp)]
        simp
      rw [e]
      refine List.pairwise_cons.2 ⟨fun q hq => ?_, h⟩
      rcases List.mem_cons.1 hq with rfl | hq
      · simp only; omega
      · have := h1 q hq; simp only; omega

theorem segF_ok {L : List Seg} (h : L.Pairwise fun p q => p.1.1 ≤ q.1.1) (i : Nat) : ∀ (l : List Iv), (segF L l i).Pairwise (fun p q => p.1.1 ≤ q.1.1) ∧ (segF L l i).Perm (L ++ l.map fun s => (s, i)) := by
  intro l
  induction l generalizing L with
  | nil => exact ⟨h, by simp [segF]⟩
  | cons s l ih =>
    have e : segF L (s :: l) i = segF (insS L s i) l i := rfl
    rw [e]
    obtain ⟨h1, h2⟩ := ih (insS_asc h s i)
    refine ⟨h1, h2.trans ?_⟩
    rw [List.map_cons]
    exact ((insS_perm L s i).append_right _).trans List.perm_middle.symm

theorem segTo_ok (k : Kno) : ∀ d, d ≤ k.length → (segTo k d).Pairwise (fun p q => p.1.1 ≤ q.1.1) ∧ ((segTo k d).map (·.1)).Perm (flatK (k.take d)) ∧ ∀ p ∈ segTo k d, p.2 < d ∧ p.1 ∈ (nthF k p.2).1
  | 0, _ => ⟨List.Pairwise.nil, by simp [segTo, flatK], fun p h => by cases h⟩
  | d + 1, h => by
    obtain ⟨h1, h2, h3⟩ := segTo_ok k d (by omega)
    obtain ⟨g1, g2⟩ := segF_ok h1 d (nthF k d).1
    refine ⟨g1, ?_, fun p hp => ?_⟩
    · rw [flatK_succ (by omega)]
      refine (g2.map _).trans ?_
      rw [List.map_append, List.map_map]
      refine (h2.append_right _).trans ?_
      simp [Function.comp_def]
    · rcases List.mem_append.1 (g2.mem_iff.1 hp) with h | h
      · have := h3 p h; exact ⟨by omega, this.2⟩
      · obtain ⟨s, hs, rfl⟩ := List.mem_map.1 h
        exact ⟨Nat.lt_succ_self _, hs⟩

theorem sorted_unique {α : Type} {f : α → Nat} : ∀ {l m : List α}, l.Perm m → l.Pairwise (fun a b => f a ≤ f b) → m.Pairwise (fun a b => f a ≤ f b) → (∀ a ∈ l, ∀ b ∈ l, f a = f b → a = b) → l = m
  | [], m, hp, _, _, _ => hp.nil_eq
  | a :: l, [], hp, _, _, _ => by have := hp.length_eq; simp at this
  | a :: l, b :: m, hp, hl, hm, hu => by
    obtain ⟨l1, l2⟩ := List.pairwise_cons.1 hl
    obtain ⟨m1, m2⟩ := List.pairwise_cons.1 hm
    have ha : a ∈ b :: m := hp.mem_iff.1 List.mem_cons_self
    have hb : b ∈ a :: l := hp.mem_iff.2 List.mem_cons_self
    have e : a = b := by
      refine hu a List.mem_cons_self b hb (Nat.le_antisymm ?_ ?_)
      · rcases List.mem_cons.1 hb with rfl | h
        · exact Nat.le_refl _
        · exact l1 b h
      · rcases List.mem_cons.1 ha with rfl | h
        · exact Nat.le_refl _
        · exact m1 a h
    subst e
    rw [sorted_unique hp.cons_inv l2 m2 (fun x hx y hy => hu x (List.mem_cons_of_mem _ hx) y (List.mem_cons_of_mem _ hy))]

theorem asc_pw_lo {l : List Iv} (h : AscLo l) : l.Pairwise fun s t => s.1 ≤ t.1 := by
  rw [List.pairwise_iff_getElem]
  intro i j hi hj hij
  have := h i j hij hj
  rwa [nthI_get hi, nthI_get hj] at this

theorem pos_at {k : Kno} (hc : CanK k) {i : Nat} (hi : i < k.length) {s : Iv} (hs : s ∈ (nthF k i).1) : posK k s.1 = i := by
  have hmi := nthF_mem hi
  have hx := (good_start (hc.items _ hmi).1 hs).1
  unfold posK
  have : firstS (fun i => if mem (nthF k i).1 s.1 = true then some i else none) k.length = some i := by
    refine firstS_some hi (fun j hj => if_neg fun hm => ?_) (if_pos hx)
    have hmj := nthF_mem (k := k) (i := j) (by omega)
    have e := hc.apart _ hmi _ hmj s.1 hx hm
    have hl := List.pairwise_iff_getElem.1 hc.asc j i (by omega) hi hj
    rw [← nthF_get (by omega), ← nthF_get hi, e] at hl
    unfold VecLt at hl
    rw [cmpV_self] at hl
    cases hl
  rw [this]; rfl

theorem start_inj {l : List Iv} (h : Good l) {s t : Iv} (hs : s ∈ l) (ht : t ∈ l) (e : s.1 = t.1) : s = t := by
  obtain ⟨i, hi, rfl⟩ := List.getElem_of_mem hs
  obtain ⟨j, hj, rfl⟩ := List.getElem_of_mem ht
  rw [← nthI_get hi, ← nthI_get hj] at *
  have hi2 := (good_idx h i hi).1
  have hj2 := (good_idx h j hj).1
  rcases Nat.lt_trichotomy i j with h2 | h2 | h2
  · have := good_mono h h2 hj; omega
  · rw [h2]
  · have := good_mono h h2 hi; omega

theorem seg_same {k : Kno} (hc : CanK k) {l : List Iv} (hp : l.Perm (flatK k)) (ha : AscLo l) : l = (segK k).map (·.1) ∧ (l.map fun s => posK k s.1) = (segK k).map (·.2) := by
  obtain ⟨h1, h2, h3⟩ := segTo_ok k k.length (Nat.le_refl _)
  rw [List.take_length] at h2
  have e : l = (segK k).map (·.1) := by
    refine sorted_unique (f := (·.1)) (hp.trans h2.symm) (asc_pw_lo ha) (List.pairwise_map.2 h1) fun s hs t ht e => ?_
    obtain ⟨f, hf, hsf⟩ := flatK_mem.1 (hp.mem_iff.1 hs)
    obtain ⟨g, hg, htg⟩ := flatK_mem.1 (hp.mem_iff.1 ht)
    have x1 := (good_start (hc.items f hf).1 hsf).1
    have x2 := (good_start (hc.items g hg).1 htg).1
    rw [← e] at x2
    have e2 := hc.apart f hf g hg s.1 x1 x2
    subst e2
    exact start_inj (hc.items f hf).1 hsf htg e
  refine ⟨e, ?_⟩
  rw [e, List.map_map]
  refine List.map_congr_left fun p hp' => ?_
  obtain ⟨g1, g2⟩ := h3 p hp'
  exact pos_at hc g1 g2

end Go.Proofs.YtkkdlgcfcbaibaaGreatDoor
end

section
namespace Go.Proofs.YtkkdlgcfcbaibaaGreatDoor
set_option linter.unusedVariables false

theorem firstS_all {α : Type} {f : Nat → Option α} {n : Nat} (h : firstS f n = none) : ∀ j, j < n → f j = none := fun j hj => List.findSome?_eq_none_iff.1 h j (List.mem_range.2 hj)

def nthZ (l : List Int) (k : Nat) : Int := l.getD k 0
theorem nthZ_get {l : List Int} {k : Nat} (h : k < l.length) : nthZ l k = l[k] := by simp [nthZ, h]
def nthV (l : List Vec) (k : Nat) : Vec := l.getD k []
theorem nthV_get {l : List Vec} {k : Nat} (h : k < l.length) : nthV l k = l[k] := by simp [nthV, h]
theorem nthV_mem {l : List Vec} {k : Nat} (h : k < l.length) : nthV l k ∈ l := by rw [nthV_get h]; exact List.getElem_mem h

/-- The items with this index, of the first d segments. -/
def itB (l : List Iv) (ix : List Int) (i : Nat) : Nat → List Iv
  | 0 => []
  | d + 1 => itB l ix i d ++ if nthZ ix d = (i : Int) then [nthI l d] else []
def bldTo (vs : List Vec) (l : List Iv) (ix : List Int) (d : Nat) : Kno := (List.range vs.length).map fun i => (itB l ix i d, nthV vs i)
def bldK (vs : List Vec) (l : List Iv) (ix : List Int) : Kno := bldTo vs l ix l.length
def bldE1 (n : Nat) (ix : List Int) (i : Nat) : Option (Nat × Nat) := if nthZ ix i < 0 ∨ (n : Int) ≤ nthZ ix i then some (8, i) else none
def bldE2 (l : List Iv) (i : Nat) : Option (Nat × Nat) := if (nthI l i).2 < (nthI l i).1 then some (2, i) else if 0 < i ∧ (nthI l i).1 ≤ (nthI l (i - 1)).2 then some (3, i) else none
def bldE3 (l : List Iv) (ix : List Int) (i : Nat) : Option (Nat × Nat) := if 0 < i ∧ (nthI l i).1 = (nthI l (i - 1)).2 + 1 ∧ nthZ ix i = nthZ ix (i - 1) then some (10, i) else none
/-- The error of segments. -/
def segE (n : Nat) (l : List Iv) (ix : List Int) : Option (Int × Int) :=
  if l.length ≠ ix.length then some (8, -1) else
  (((firstS (bldE1 n ix) ix.length).or ((firstS (bldE2 l) l.length).or (firstS (bldE3 l ix) l.length)))).map fun p => ((p.1 : Int), (p.2 : Int))

theorem idx_inj {k : Kno} (hc : CanK k) {i j : Nat} (hi : i < k.length) (hj : j < k.length) (e : nthF k i = nthF k j) : i = j := by
  have one : ∀ {i j : Nat}, i < j → j < k.length → nthF k i = nthF k j → False := fun {i j} hij hj e => by
    have hl := List.pairwise_iff_getElem.1 hc.asc i j (by omega) hj hij
    rw [← nthF_get (by omega), ← nthF_get hj, e] at hl
    unfold VecLt at hl
    rw [cmpV_self] at hl
    cases hl
  rcases Nat.lt_trichotomy i j with h | h | h
  · exact (one h hj e).elim
  · exact h
  · exact (one h hi e.symm).elim

/-- Two segments that do not meet, nor touch if they are of one fragment. -/
def ApartS (p q : Seg) : Prop := (p.1.2 < q.1.1 ∧ (p.2 = q.2 → p.1.2 + 1 < q.1.1)) ∨ (q.1.2 < p.1.1 ∧ (p.2 = q.2 → q.1.2 + 1 < p.1.1))
theorem apartS_symm {p q : Seg} (h : ApartS p q) : ApartS q p := by
  rcases h with ⟨h1, h2⟩ | ⟨h1, h2⟩
  · exact .inr ⟨h1, fun e => h2 e.symm⟩
  · exact .inl ⟨h1, fun e => h2 e.symm⟩

theorem good_pw {l : List Iv} (h : Good l) : l.Pairwise fun s t => s.2 + 1 < t.1 := by
  rw [List.pairwise_iff_getElem]
  intro i j hi hj hij
  have := good_mono h hij hj
  rwa [nthI_get hi, nthI_get hj] at this

theorem disj_of {k : Kno} (hc : CanK k) {i j : Nat} (hi : i < k.length) (hj : j < k.length) (hij : i ≠ j) {s t : Iv} (hs : s ∈ (nthF k i).1) (ht : t ∈ (nthF k j).1) : s.2 < t.1 ∨ t.2 < s.1 := by
  have h1 := (hc.items _ (nthF_mem hi)).1.ok s hs
  have h2 := (hc.items _ (nthF_mem hj)).1.ok t ht
  rcases Nat.lt_or_ge s.2 t.1 with h | h
  · exact .inl h
  rcases Nat.lt_or_ge t.2 s.1 with h' | h'
  · exact .inr h'
  exfalso
  refine hij (idx_inj hc hi hj (hc.apart _ (nthF_mem hi) _ (nthF_mem hj) (max s.1 t.1) (mem_iff.2 ⟨s, hs, ?_, ?_⟩) (mem_iff.2 ⟨t, ht, ?_, ?_⟩))) <;> omega

theorem segTo_apart {k : Kno} (hc : CanK k) : ∀ d, d ≤ k.length → (segTo k d).Pairwise ApartS
  | 0, _ => List.Pairwise.nil
  | d + 1, h => by
    obtain ⟨h1, h2, h3⟩ := segTo_ok k d (by omega)
    obtain ⟨-, g2⟩ := segF_ok h1 d (nthF k d).1
    have e : segTo k (d + 1) = segF (segTo k d) (nthF k d).1 d := rfl
    rw [e]
    refine (List.Perm.pairwise_iff (fun {x y} h => apartS_symm h) g2).2 (List.pairwise_append.2 ⟨segTo_apart hc d (by omega), ?_, fun p hp q hq => ?_⟩)
    · refine List.pairwise_map.2 ((good_pw (hc.items _ (nthF_mem h)).1).imp fun {s t} hst => .inl ⟨?_, fun _ => hst⟩)
      simp only; omega
    · obtain ⟨t, ht, rfl⟩ := List.mem_map.1 hq
      obtain ⟨p1, p2⟩ := h3 p hp
      have hne : p.2 ≠ d := by omega
      rcases disj_of hc (by omega : p.2 < k.length) h hne p2 ht with hh | hh
      · exact .inl ⟨hh, fun e => absurd e hne⟩
      · exact .inr ⟨hh, fun e => absurd e hne⟩

theorem seg_next {k : Kno} (hc : CanK k) : (segK k).Pairwise fun p q => p.1.2 < q.1.1 ∧ (p.2 = q.2 → p.1.2 + 1 < q.1.1) := by
  obtain ⟨h1, h2, h3⟩ := segTo_ok k k.length (Nat.le_refl _)
  have h4 := segTo_apart hc k.length (Nat.le_refl _)
  have ok : ∀ p ∈ segK k, p.1.1 ≤ p.1.2 := fun p hp => (hc.items _ (nthF_mem (h3 p hp).1)).1.ok _ (h3 p hp).2
  rw [List.pairwise_iff_getElem] at h1 h4 ⊢
  intro i j hi hj hij
  have e1 := h1 i j hi hj hij
  have o1 := ok _ (List.getElem_mem hi)
  have o2 := ok _ (List.getElem_mem hj)
  unfold segK at o1 o2 ⊢
  rcases h4 i j hi hj hij with h | h
  · exact h
  · exact absurd h.1 (by omega)

def segL (k : Kno) : List Iv := (segK k).map (·.1)
def segZ (k : Kno) : List Int := (segK k).map fun p => (p.2 : Int)
theorem segL_len (k : Kno) : (segL k).length = (segK k).length := by simp [segL]
theorem segZ_len (k : Kno) : (segZ k).length = (segK k).length := by simp [segZ]
theorem segL_at {k : Kno} {i : Nat} (h : i < (segK k).length) : nthI (segL k) i = (segK k)[i].1 := by rw [nthI_get (by rw [segL_len]; exact h)]; simp [segL]
theorem segZ_at {k : Kno} {i : Nat} (h : i < (segK k).length) : nthZ (segZ k) i = ((segK k)[i].2 : Int) := by rw [nthZ_get (by rw [segZ_len]; exact h)]; simp [segZ]

/-- Segments of canonical knowledge are right. -/
theorem seg_right {k : Kno} (hc : CanK k) : segE k.length (segL k) (segZ k) = none := by
  obtain ⟨-, -, h3⟩ := segTo_ok k k.length (Nat.le_refl _)
  have hp := List.pairwise_iff_getElem.1 (seg_next hc)
  have hl := segL_len k
  have hz := segZ_len k
  have at3 : ∀ i (h : i < (segK k).length), (segK k)[i].2 < k.length ∧ (segK k)[i].1 ∈ (nthF k (segK k)[i].2).1 := fun i h => h3 _ (List.getElem_mem h)
  have ok : ∀ i (h : i < (segK k).length), (segK k)[i].1.1 ≤ (segK k)[i].1.2 := fun i h => (hc.items _ (nthF_mem (at3 i h).1)).1.ok _ (at3 i h).2
  have f1 : firstS (bldE1 k.length (segZ k)) (segZ k).length = none := firstS_none fun i hi => by
    rw [hz] at hi
    unfold bldE1
    rw [segZ_at hi, if_neg]
    have := (at3 i hi).1
    omega
  have f2 : firstS (bldE2 (segL k)) (segL k).length = none := firstS_none fun i hi => by
    rw [hl] at hi
    unfold bldE2
    rw [segL_at hi, if_neg (by have := ok i hi; omega), if_neg]
    rintro ⟨h0, h⟩
    have := (hp (i - 1) i (by omega) hi (by omega)).1
    rw [segL_at (by omega)] at h
    omega
  have f3 : firstS (bldE3 (segL k) (segZ k)) (segL k).length = none := firstS_none fun i hi => by
    rw [hl] at hi
    unfold bldE3
    rw [segL_at hi, segZ_at hi, if_neg]
    rintro ⟨h0, h, h'⟩
    have := (hp (i - 1) i (by omega) hi (by omega)).2
    rw [segL_at (by omega)] at h
    rw [segZ_at (by omega)] at h'
    have := this (by omega)
    omega
  unfold segE
  rw [if_neg (by rw [hl, hz]; exact fun h => h rfl), f1, f2, f3]
  rfl

theorem itB_seg (k : Kno) (i : Nat) : ∀ d, d ≤ (segK k).length → itB (segL k) (segZ k) i d = (((segK k).take d).filter fun p => decide (p.2 = i)).map (·.1)
  | 0, _ => by simp [itB]
  | d + 1, h => by
    rw [itB, itB_seg k i d (by omega), segL_at h, segZ_at h, List.take_succ_eq_append_getElem h, List.filter_append, List.map_append]
    congr 1
    by_cases e : (segK k)[d].2 = i
    · rw [if_pos (by omega), List.filter_cons_of_pos (by simpa using e)]; rfl
    · rw [if_neg (by omega), List.filter_cons_of_neg (by simpa using e)]; rfl

theorem segTo_of (k : Kno) (i : Nat) : ∀ d, d ≤ k.length → (((segTo k d).filter fun p => decide (p.2 = i)).map (·.1)).Perm (if i < d then (nthF k i).1 else [])
  | 0, _ => by simp [segTo]
  | d + 1, h => by
    obtain ⟨h1, h2, h3⟩ := segTo_ok k d (by omega)
    obtain ⟨-, g2⟩ := segF_ok h1 d (nthF k d).1
    have e : segTo k (d + 1) = segF (segTo k d) (nthF k d).1 d := rfl
    rw [e]
    refine ((g2.filter _).map _).trans ?_
    rw [List.filter_append, List.map_append]
    have ih := segTo_of k i d (by omega)
    refine (ih.append_right _).trans ?_
    by_cases hd : d = i
    · subst hd
      rw [if_neg (by omega), if_pos (by omega), List.filter_eq_self.2 (fun a ha => by obtain ⟨s, _, rfl⟩ := List.mem_map.1 ha; simp), List.map_map]
      simp [Function.comp_def]
    · rw [List.filter_eq_nil_iff.2 (fun a ha => by obtain ⟨s, _, rfl⟩ := List.mem_map.1 ha; simpa using hd)]
      by_cases hi : i < d
      · rw [if_pos hi, if_pos (by omega)]; simp
      · rw [if_neg hi, if_neg (by omega)]; simp

/-- The segments of canonical knowledge, turned back. -/
theorem bld_seg {k : Kno} (hc : CanK k) : bldK (k.map (·.2)) (segL k) (segZ k) = k := by
  obtain ⟨h1, h2, h3⟩ := segTo_ok k k.length (Nat.le_refl _)
  unfold bldK bldTo
  refine List.ext_getElem (by simp) fun i hi hi' => ?_
  rw [List.getElem_map, List.getElem_range, segL_len, itB_seg k i _ (Nat.le_refl _), List.take_length]
  have hp := segTo_of k i k.length (Nat.le_refl _)
  rw [if_pos hi'] at hp
  have hgood := (hc.items _ (nthF_mem hi')).1
  have e : ((segK k).filter fun p => decide (p.2 = i)).map (·.1) = (nthF k i).1 := by
    refine sorted_unique (f := (·.1)) hp (List.pairwise_map.2 (h1.filter _)) ?_ fun s hs t ht e => ?_
    · refine (good_pw hgood).imp_of_mem fun {s t} hs ht hst => ?_
      have := hgood.ok s hs
      omega
    · exact start_inj hgood (hp.mem_iff.1 hs) (hp.mem_iff.1 ht) e
  rw [e, nthV_get (by simpa using hi'), List.getElem_map, nthF_get hi']

theorem bld_len (vs : List Vec) (l : List Iv) (ix : List Int) (d : Nat) : (bldTo vs l ix d).length = vs.length := by simp [bldTo]
theorem bld_at {vs : List Vec} {l : List Iv} {ix : List Int} {d i : Nat} (h : i < vs.length) : nthF (bldTo vs l ix d) i = (itB l ix i d, nthV vs i) := by
  rw [nthF_get (by rw [bld_len]; exact h)]; simp [bldTo]

end Go.Proofs.YtkkdlgcfcbaibaaGreatDoor
end

section
namespace Go.Proofs.YtkkdlgcfcbaibaaGreatDoor
open Go.RowKit
set_option linter.unusedVariables false

def segI (L : List Seg) : List Iv := L.map (·.1)
def segX (L : List Seg) : List Nat := L.map (·.2)
theorem segI_ins (L : List Seg) (s : Iv) (i : Nat) : segI (insS L s i) = (segI L).take (posS L s.1) ++ [s] ++ (segI L).drop (posS L s.1) := by simp [segI, insS, List.map_take, List.map_drop]
theorem segX_ins (L : List Seg) (s : Iv) (i : Nat) : segX (insS L s i) = (segX L).take (posS L s.1) ++ [i] ++ (segX L).drop (posS L s.1) := by simp [segX, insS, List.map_take, List.map_drop]

theorem posS_at {L : List Seg} {x j : Nat} (h1 : ∀ i, i < j → (nthI (segI L) i).1 < x) (hj : j ≤ L.length) (h2 : j < L.length → ¬ (nthI (segI L) j).1 < x) : j = posS L x := by
  induction L generalizing j with
  | nil => simp at hj; subst hj; rfl
  | cons p L ih =>
    unfold posS
    cases j with
    | zero =>
      have := h2 (by simp)
      have e : (nthI (segI (p :: L)) 0).1 = p.1.1 := rfl
      rw [e] at this
      rw [List.takeWhile_cons_of_neg (by simpa using this)]
      rfl
    | succ j =>
      have := h1 0 (by omega)
      have e : (nthI (segI (p :: L)) 0).1 = p.1.1 := rfl
      rw [e] at this
      rw [List.takeWhile_cons_of_pos (by simpa using this), List.length_cons]
      have e2 : ∀ i, nthI (segI (p :: L)) (i + 1) = nthI (segI L) i := fun i => rfl
      have := ih (j := j) (fun i hi => by have := h1 (i + 1) (by omega); rwa [e2] at this) (by simpa using hj) (fun hl => by have := h2 (by simpa using hl); rwa [e2] at this)
      unfold posS at this
      omega

theorem step_append_i64 {w : World} {ops : Array Oper} {o : Oper} {a : Act} {K : Act → World → Prop} {Q : Exit → Act → World → Prop} {E : Prop} (hgd : o.guard = none) (s x : Operand)
    (ho : o.op = .call { callee := .builtin .append, args := #[s, x], argTypes := #[29, 29] }) (hty : o.type = 29)
    (base : Nat) (v : Value) (n : Nat) (xs : List Nat) (hs : a.eval s = v) (hown : w.ownsRow base 3 1 v n (i64C xs)) (A : Option Addr) (m c : Nat) (l : List Nat) (hx : a.eval x = .slice A m c) (hr : Rd w 1 A m (i64C l)) (hb : n + m ≤ 1000000) (hbase : base ≤ w.heap.size)
    (h : ∀ v' w', w'.ownsRow base 3 1 v' (n + m) (i64C (xs ++ l)) → w.grownBy w' v.ownBlock → K (a.put o.dst v') w') :
    if Region.wanted o (yielded ops a.tmps) = true then Oper.wp Tryz.prog o a w K Q else E := by
  obtain ⟨v', w', hrun, h1, h2⟩ := run_append_i64 base v n xs hown A m c l hr hb hbase
  exact step_append_hr hgd s x _ ho _ _ hs hx v' w' (by rw [hty]; exact hrun) (h v' w' h1 h2)

/-- The two lists that are built, each in a row of the call's own. -/
structure Own2 (w : World) (base : Nat) (L : List Seg) (v u : Value) : Prop where
  ivs : w.ownsRow base 73 2 v L.length (ivC (segI L))
  idx : w.ownsRow base 3 1 u L.length (i64C (segX L))
  nil : L = [] → v = .slice none 0 0 ∧ u = .slice none 0 0
theorem Own2.below {w w' : World} {base : Nat} {L : List Seg} {v u : Value} (h : Own2 w base L v u) (hb : Below w.heap.size w w') : Own2 w' base L v u := ⟨own_below h.ivs hb, own_below h.idx hb, h.nil⟩
theorem own2_nil (w : World) (base : Nat) : Own2 w base [] (.slice none 0 0) (.slice none 0 0) := ⟨World.ownsRow_nil _ _ _ _, World.ownsRow_nil _ _ _ _, fun _ => ⟨rfl, rfl⟩⟩
theorem segF_len (L : List Seg) (l : List Iv) (i : Nat) : (segF L l i).length = L.length + l.length := by
  induction l generalizing L with
  | nil => rfl
  | cons s l ih =>
    have e : segF L (s :: l) i = segF (insS L s i) l i := rfl
    rw [e, ih, insS_len, List.length_cons]; omega
theorem segTo_len (k : Kno) : ∀ d, d ≤ k.length → (segTo k d).length = isum (k.take d)
  | 0, _ => rfl
  | d + 1, h => by
    rw [segTo, segF_len, segTo_len k d (by omega), List.take_succ_eq_append_getElem (by omega), isum_app, nthF_get (by omega)]
    simp [isum]

theorem own_form {w : World} {base sz n : Nat} {T : TypeId} {v : Value} {xs : List Value} (h : w.ownsRow base T sz v n xs) (hn : 0 < n) : ∃ g cap, v = .slice (some ⟨g, 0, none⟩) n cap ∧ base ≤ g ∧ g < w.heap.size ∧ n ≤ cap ∧ cap ≤ maxLen := by
  rcases h.2 with ⟨_, h0⟩ | ⟨g, cap, cur, hv, hg, hh, hnc, hcm, _⟩
  · omega
  · exact ⟨g, cap, hv, hg, (Array.getElem?_eq_some_iff.1 hh).1, hnc, hcm⟩
theorem i64C_take (l : List Nat) (k : Nat) : (i64C l).take k = i64C (l.take k) := by simp [i64C, List.map_take]
theorem i64C_drop (l : List Nat) (k : Nat) : (i64C l).drop k = i64C (l.drop k) := by simp [i64C, List.map_drop]
theorem ivC_take : ∀ (l : List Iv) (k : Nat), (ivC l).take (k * 2) = ivC (l.take k)
  | [], k => by simp [ivC]
  | s :: l, 0 => by simp [ivC]
  | s :: l, k + 1 => by
    have e1 : ivC (s :: l) = [.int .u64 ((s.1 : Nat) : Int), .int .u64 ((s.2 : Nat) : Int)] ++ ivC l := rfl
    rw [e1, show (k + 1) * 2 = k * 2 + 1 + 1 by omega, List.cons_append, List.cons_append, List.nil_append, List.take_succ_cons, List.take_succ_cons, ivC_take l k]
    rfl
theorem ivC_drop : ∀ (l : List Iv) (k : Nat), (ivC l).drop (k * 2) = ivC (l.drop k)
  | [], k => by simp [ivC]
  | s :: l, 0 => by simp
  | s :: l, k + 1 => by
    have e1 : ivC (s :: l) = [.int .u64 ((s.1 : Nat) : Int), .int .u64 ((s.2 : Nat) : Int)] ++ ivC l := rfl
    rw [e1, show (k + 1) * 2 = k * 2 + 1 + 1 by omega, List.cons_append, List.cons_append, List.nil_append, List.drop_succ_cons, List.drop_succ_cons, ivC_drop l k]
    rfl
theorem segF_mem {L : List Seg} (h : L.Pairwise fun p q => p.1.1 ≤ q.1.1) {l : List Iv} {i : Nat} {s : Iv} (hs : s ∈ segI (segF L l i)) : s ∈ segI L ∨ s ∈ l := by
  obtain ⟨p, hp, rfl⟩ := List.mem_map.1 hs
  rcases List.mem_append.1 ((segF_ok h i l).2.mem_iff.1 hp) with h | h
  · exact .inl (List.mem_map.2 ⟨p, h, rfl⟩)
  · obtain ⟨t, ht, rfl⟩ := List.mem_map.1 h
    exact .inr ht

end Go.Proofs.YtkkdlgcfcbaibaaGreatDoor
end
