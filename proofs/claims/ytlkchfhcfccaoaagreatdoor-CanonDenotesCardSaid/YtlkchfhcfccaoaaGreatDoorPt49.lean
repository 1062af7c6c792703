/- Walks and laws, merged: part 49. -/
import Derived.Test.YtlkchfhcfccaoaaGreatDoorPt30
import Derived.Test.YtlkchfhcfccaoaaGreatDoorPt48
import Derived.Test.YtlkchfhcfccaoaaGreatDoorPt42
import Derived.Test.YtlkchfhcfccaoaaGreatDoorPt47
import Derived.Test.YtlkchfhcfccaoaaGreatDoorPt27
section
namespace Go.Proofs.YtlkchfhcfccaoaaGreatDoor
open Go.RowKit
set_option linter.unusedVariables false

/-- What the laws ask of a world. -/
structure Ready (w : World) : Prop where
  door : Door w
  codes : Codes w
theorem Ready.below {w w' : World} (h : Ready w) (hb : Below w.heap.size w w') : Ready w' := ⟨h.door.below (Nat.le_refl _) hb, h.codes.below hb⟩

theorem right_any (a : Option Addr) (n cap : Nat) (k : Kno) (w : World) (hE : Frags w a n cap k) :
    Calls Tryz.prog 9 #[.slice a n cap] w fun x w' => x = .returned (.bool (fewK k && decide (ckF k = none))) ∧ Below w.heap.size w w' := by
  have hC := Lib.hid (refFew11_any a n cap k w hE)
  have hD := Lib.hid (fun w' (h : Below w.heap.size w w') => refRight11_any a n cap k w' (hE.below h))
  clear hE
  cases hf : fewK k with
  | false =>
    rw [hf] at hC
    clear hf
    go_enter Tryz.func9, Tryz.ntmps9
    go_wp2_with fail
    refine hC.out.mono ?_
    rintro e w1 ⟨rfl, hb1⟩
    have Hb1 := Lib.hid hb1; clear hb1
    go_wp2
    go_ret
    exact ⟨by simp, Hb1.out⟩
  | true =>
    rw [hf] at hC
    clear hf
    go_enter Tryz.func9, Tryz.ntmps9
    go_wp2_with fail
    refine hC.out.mono ?_
    rintro e w1 ⟨rfl, hb1⟩
    have Hb1 := Lib.hid hb1; clear hb1
    go_wp2_with fail
    refine (hD.out _ Hb1.out).mono ?_
    rintro e w2 ⟨rfl, hb2⟩
    have Hb2 := Lib.hid (Hb1.out.trans (hb2.mono Hb1.out.size)); clear hb2
    go_wp2
    go_ret
    exact ⟨by simp, Hb2.out⟩

abbrev exV : Vec := [(1, 3, [])]
abbrev exK : Kno := [([(4, 6)], exV), ([(1, 3)], exV)]
abbrev exC : Kno := [([(1, 6)], exV)]

theorem lit_ents {W : World} {b0 : Nat} (h0 : W.heap[b0]? = some (.cells #[.int .u64 1, .int .u64 3, .slice none 0 0] 63)) : Ents W (some ⟨b0, 0, none⟩) 1 1 exV := by
  refine ⟨rfl, ?_, Nat.le_refl _, by omega, (by intro h; cases h), fun _ => ⟨b0, 0, rfl, fun i hi => ?_⟩⟩
  · intro e he
    simp at he
    subst he
    exact ⟨by simp, by simp, fun s hs => by cases hs⟩
  · obtain rfl : i = 0 := by omega
    exact ⟨cells_cell (i := 0) h0 rfl, cells_cell (i := 1) h0 rfl, none, 0, 0, cells_cell (i := 2) h0 rfl, ivs_nil _⟩

theorem lit_two {W : World} {b0 b1 b2 b3 : Nat} (h0 : W.heap[b0]? = some (.cells #[.int .u64 1, .int .u64 3, .slice none 0 0] 63)) (h1 : W.heap[b1]? = some (.cells #[.int .u64 4, .int .u64 6] 65))
    (h2 : W.heap[b2]? = some (.cells #[.int .u64 1, .int .u64 3] 65)) (h3 : W.heap[b3]? = some (.cells #[.slice (some ⟨b1, 0, none⟩) 1 1, .slice (some ⟨b0, 0, none⟩) 1 1, .slice (some ⟨b2, 0, none⟩) 1 1, .slice (some ⟨b0, 0, none⟩) 1 1] 33)) :
    Frags W (some ⟨b3, 0, none⟩) 2 2 exK := by
  have hv := lit_ents h0
  have i1 : Ivs W (some ⟨b1, 0, none⟩) 1 1 [(4, 6)] := ivs_lit (s := (4, 6)) h1 (by decide)
  have i2 : Ivs W (some ⟨b2, 0, none⟩) 1 1 [(1, 3)] := ivs_lit (s := (1, 3)) h2 (by decide)
  refine ⟨rfl, Nat.le_refl _, by omega, (by intro h; cases h), fun _ => ⟨b3, 0, rfl, fun i hi => ?_⟩⟩
  rcases (by omega : i = 0 ∨ i = 1) with rfl | rfl
  · exact ⟨⟨_, _, _, cells_cell (i := 0) h3 rfl, i1⟩, ⟨_, _, _, cells_cell (i := 1) h3 rfl, hv⟩⟩
  · exact ⟨⟨_, _, _, cells_cell (i := 2) h3 rfl, i2⟩, ⟨_, _, _, cells_cell (i := 3) h3 rfl, hv⟩⟩

theorem lit_one {W : World} {b0 b1 b3 : Nat} (h0 : W.heap[b0]? = some (.cells #[.int .u64 1, .int .u64 3, .slice none 0 0] 63)) (h1 : W.heap[b1]? = some (.cells #[.int .u64 1, .int .u64 6] 65))
    (h3 : W.heap[b3]? = some (.cells #[.slice (some ⟨b1, 0, none⟩) 1 1, .slice (some ⟨b0, 0, none⟩) 1 1] 33)) : Frags W (some ⟨b3, 0, none⟩) 1 1 exC := by
  have hv := lit_ents h0
  have i1 : Ivs W (some ⟨b1, 0, none⟩) 1 1 [(1, 6)] := ivs_lit (s := (1, 6)) h1 (by decide)
  refine ⟨rfl, Nat.le_refl _, by omega, (by intro h; cases h), fun _ => ⟨b3, 0, rfl, fun i hi => ?_⟩⟩
  obtain rfl : i = 0 := by omega
  exact ⟨⟨_, _, _, cells_cell (i := 0) h3 rfl, i1⟩, ⟨_, _, _, cells_cell (i := 1) h3 rfl, hv⟩⟩

theorem lit_zero {W : World} {b : Nat} (h : W.heap[b]? = some (.cells #[.int .i64 0] 3 (0, 0))) : W.ownsRow b 3 1 (.slice (some ⟨b, 0, none⟩) 1 1) 1 (i64C [0]) :=
  ⟨rfl, .inr ⟨b, 1, _, rfl, Nat.le_refl _, h, Nat.le_refl _, by unfold maxLen; omega, rfl, rfl⟩⟩

theorem ex_ck : ckF exK = none := by decide +kernel
theorem ex_canon : canonK exK = exC := by decide +kernel
theorem ex_ckC : ckC exC = none := by decide +kernel
theorem ex_ckK : ckC exK = some (3, 1) := by decide +kernel
theorem ex_five : intO (firstS (fun i => if mem (nthF exC i).1 5 = true then some i else none) exC.length) = 0 := by decide +kernel
theorem ex_seven : intO (firstS (fun i => if mem (nthF exC i).1 7 = true then some i else none) exC.length) = -1 := by decide +kernel
theorem ex_pos : posK exC 1 = 0 := by decide +kernel

end Go.Proofs.YtlkchfhcfccaoaaGreatDoor
end

section
namespace Go.Proofs.YtlkchfhcfccaoaaGreatDoor
open Go.RowKit
set_option linter.unusedVariables false

theorem ex_lt : LtK exK := by
  intro f hf
  simp at hf
  rcases hf with rfl | rfl
  · refine ⟨by decide, ?_, List.pairwise_singleton _ _⟩
    intro e he
    simp at he
    subst he
    exact ⟨by simp, by simp, fun s hs => by cases hs⟩
  · refine ⟨by decide, ?_, List.pairwise_singleton _ _⟩
    intro e he
    simp at he
    subst he
    exact ⟨by simp, by simp, fun s hs => by cases hs⟩

theorem ex_fits : ∀ f ∈ exC, VecFits f.2 := by
  intro f hf
  simp at hf
  subst hf
  exact ⟨by simp, by simp⟩
theorem ex_fitsK : ∀ f ∈ exK, VecFits f.2 := by
  intro f hf
  simp at hf
  rcases hf with rfl | rfl
  · exact ⟨by simp, by simp⟩
  · exact ⟨by simp, by simp⟩

theorem seg_one {l : List Iv} (h : l.Perm (flatK exC)) : l = [(1, 6)] := List.perm_singleton.1 h

set_option maxRecDepth 20000 in
set_option maxHeartbeats 4000000 in
theorem alive_any (w : World) (hR : Ready w) : Calls Tryz.prog 10 #[] w fun e w' => e = .returned (.bool true) ∧ Below w.heap.size w w' := by
  have HR := Lib.hid (fun W (h : Below w.heap.size w W) => hR.below h)
  have HJ := Lib.hid (small_joins (k := exK) ex_lt (fewK_small (by decide)).1 ex_ck)
  clear hR
  obtain ⟨W, hW⟩ : ∃ W, W = (((w.alloc (.cells #[.int .u64 1, .int .u64 3, .slice none 0 0] 63)).alloc (.cells #[.int .u64 4, .int .u64 6] 65)).alloc (.cells #[.int .u64 1, .int .u64 3] 65)).alloc (.cells #[.slice (some ⟨w.heap.size + 1, 0, none⟩) 1 1, .slice (some ⟨w.heap.size, 0, none⟩) 1 1, .slice (some ⟨w.heap.size + 1 + 1, 0, none⟩) 1 1, .slice (some ⟨w.heap.size, 0, none⟩) 1 1] 33) := ⟨_, rfl⟩
  have HbW := Lib.hid (show Below w.heap.size w W from by rw [hW]; exact ((((Below.refl _ _).alloc (Nat.le_refl _) _).alloc (by simp) _).alloc (by simp; omega) _).alloc (by simp; omega) _)
  have Hr0 := Lib.hid (show W.heap[w.heap.size]? = some (.cells #[.int .u64 1, .int .u64 3, .slice none 0 0] 63) from by rw [hW]; exact row_old (row_old (row_old (row_new rfl))))
  have HE := Lib.hid (show Frags W (some ⟨w.heap.size + 1 + 1 + 1, 0, none⟩) 2 2 exK from lit_two Hr0.out (b1 := w.heap.size + 1) (b2 := w.heap.size + 1 + 1) (by rw [hW]; exact row_old (row_old (row_new (by simp)))) (by rw [hW]; exact row_old (row_new (by simp))) (by rw [hW]; exact row_new (by simp)))
  have HW := Lib.hid hW
  clear hW
  go_enter Tryz.func10, Tryz.ntmps10
  go_wp2_with fail
  rw [← HW.out]
  refine (canCanon_any _ 2 2 exK W HE.out HJ.out (Nat.le_trans (startsK_le _) (by decide))).mono ?_
  rintro e w1 ⟨⟨y, rfl, ho⟩, hb1⟩
  rw [ex_canon] at ho
  obtain ⟨a1, c1, rfl, hK⟩ := ho.frags
  have HK := Lib.hid hK
  have Hb1 := Lib.hid hb1
  clear ho hK hb1 HJ HW
  rw [show (exC : Kno).length = 1 from rfl] at HK ⊢
  go_wp2_with fail
  refine (segments_any a1 1 c1 exC w1 HK.out (by intro f hf; simp at hf; subst hf; exact good_one (s := (1, 6)) (by decide)) (by decide)).mono ?_
  rintro e w2 ⟨⟨l', a2, c2, gi, rfl, hpm, -, hI2, ho2⟩, hb2⟩
  obtain rfl := seg_one hpm
  have HO2 := Lib.hid ho2
  have Hb2 := Lib.hid hb2
  have HK2 := Lib.hid (HK.out.below hb2)
  have HB2 := Lib.hid (Hb1.out.trans (hb2.mono Hb1.out.size))
  clear hpm hI2 ho2 hb2
  simp only [List.length_singleton, List.map_cons, List.map_nil, ex_pos] at HO2 ⊢
  obtain ⟨W2, hW2⟩ : ∃ W2, W2 = (w2.alloc (.cells #[.int .u64 1, .int .u64 6] 65)).alloc (.cells #[.slice (some ⟨w2.heap.size, 0, none⟩) 1 1, .slice (some ⟨w.heap.size, 0, none⟩) 1 1] 33) := ⟨_, rfl⟩
  have HbW2 := Lib.hid (show Below w2.heap.size w2 W2 from by rw [hW2]; exact (((Below.refl _ _).alloc (Nat.le_refl _) _).alloc (by simp) _))
  have Hr2 := Lib.hid ((HbW2.out.block w.heap.size (Array.getElem?_eq_some_iff.1 ((HB2.out.block w.heap.size (Array.getElem?_eq_some_iff.1 Hr0.out).1).trans Hr0.out)).1).trans ((HB2.out.block w.heap.size (Array.getElem?_eq_some_iff.1 Hr0.out).1).trans Hr0.out))
  have HF2 := Lib.hid (show Frags W2 (some ⟨w2.heap.size + 1, 0, none⟩) 1 1 exC from lit_one Hr2.out (b1 := w2.heap.size) (by rw [hW2]; exact row_old (row_new rfl)) (by rw [hW2]; exact row_new (by simp)))
  have HW2 := Lib.hid hW2
  have HS := Lib.hid (refSame11_any _ _ _ _ _ _ _ _ W2 (HK2.out.below HbW2.out) HF2.out)
  have HT2 := Lib.hid (HB2.out.trans (HbW2.out.mono HB2.out.size))
  clear hW2
  rw [show decide (exC = exC) = true from decide_eq_true rfl] at HS
  go_wp2_with fail
  rw [← HW2.out]
  refine HS.out.mono ?_
  rintro e w3 ⟨rfl, hb3⟩
  have HB3 := Lib.hid (HT2.out.trans (hb3.mono HT2.out.size))
  have Hq3 := Lib.hid (HbW2.out.trans (hb3.mono HbW2.out.size))
  clear hb3 HS HW2 HF2
  have hR3 := HR.out _ (HbW.out.trans (HB3.out.mono HbW.out.size))
  go_wp2_with fail
  refine (canCanonical_any a1 1 c1 exC w3 (HK2.out.below Hq3.out) hR3.door hR3.codes ex_fits (by decide)).mono ?_
  rintro e w4 ⟨rfl, hb4⟩
  rw [show decide (ckC exC = none) = true from by rw [ex_ckC]; rfl]
  have HB4 := Lib.hid (HB3.out.trans (hb4.mono HB3.out.size))
  have Hq4 := Lib.hid (Hq3.out.trans (hb4.mono Hq3.out.size))
  clear hb4 hR3
  have hR4 := HR.out _ (HbW.out.trans (HB4.out.mono HbW.out.size))
  go_wp2_with fail
  refine (canCanonical_any _ 2 2 exK w4 (HE.out.below HB4.out) hR4.door hR4.codes ex_fitsK (by decide)).mono ?_
  rintro e w5 ⟨rfl, hb5⟩
  rw [show decide (ckC exK = none) = false from by rw [ex_ckK]; rfl]
  have HB5 := Lib.hid (HB4.out.trans (hb5.mono HB4.out.size))
  have Hq5 := Lib.hid (Hq4.out.trans (hb5.mono Hq4.out.size))
  clear hb5 hR4
  go_wp2_with fail
  refine (canFind_any a1 1 c1 5 exC w5 (HK2.out.below Hq5.out) (by intro f hf; simp at hf; subst hf; exact ⟨good_one (s := (1, 6)) (by decide), by decide⟩)).mono ?_
  rintro e w6 ⟨rfl, hb6⟩
  rw [ex_five]
  have HB6 := Lib.hid (HB5.out.trans (hb6.mono HB5.out.size))
  have Hq6 := Lib.hid (Hq5.out.trans (hb6.mono Hq5.out.size))
  clear hb6
  go_wp2_with fail
  refine (canFind_any a1 1 c1 7 exC w6 (HK2.out.below Hq6.out) (by intro f hf; simp at hf; subst hf; exact ⟨good_one (s := (1, 6)) (by decide), by decide⟩)).mono ?_
  rintro e w7 ⟨rfl, hb7⟩
  rw [ex_seven]
  have HB7 := Lib.hid (HB6.out.trans (hb7.mono HB6.out.size))
  have Hq7 := Lib.hid (Hq6.out.trans (hb7.mono Hq6.out.size))
  clear hb7
  have hal : Below w7.heap.size w7 (w7.alloc (.cells #[.int .i64 0] 3)) := (Below.refl _ _).alloc (Nat.le_refl _) _
  have HEq := Lib.hid (equalI_any _ w7.heap.size _ _ [0] [0] _ (own_below HO2.out (Hq7.out.trans (hal.mono Hq7.out.size))) (lit_zero (row_new rfl)) (by decide) (by decide))
  have Hal := Lib.hid hal
  rw [show decide ([0] = [0]) = true from rfl] at HEq
  clear hal
  go_wp2_with fail
  refine HEq.out.mono ?_
  rintro e w8 ⟨rfl, hb8⟩
  have HB8 := Lib.hid (HB7.out.trans ((Hal.out.trans (hb8.mono Hal.out.size)).mono HB7.out.size))
  clear hb8 HEq
  have hR8 := HR.out _ (HbW.out.trans (HB8.out.mono HbW.out.size))
  go_wp2_with fail
  refine (canCheck_any _ 2 2 exK w8 (HE.out.below HB8.out) hR8.door hR8.codes ex_fitsK (by decide)).mono ?_
  rintro e w9 ⟨rfl, hb9⟩
  have HB9 := Lib.hid (HB8.out.trans (hb9.mono HB8.out.size))
  clear hb9 hR8
  rw [ex_ckK]
  simp only [errOf]
  go_wp2_with fail
  refine (code_any (some (((3 : Nat) : Int), some ((1 : Nat) : Int))) _ (HR.out _ (HbW.out.trans (HB9.out.mono HbW.out.size))).door).mono ?_
  rintro e w10 ⟨rfl, hb10⟩
  have HB10 := Lib.hid (HB9.out.trans (hb10.mono HB9.out.size))
  clear hb10
  simp only [errCode]
  go_wp2_with fail
  go_ret
  exact ⟨rfl, HbW.out.trans (HB10.out.mono HbW.out.size)⟩

end Go.Proofs.YtlkchfhcfccaoaaGreatDoor
end

section
namespace Go.Proofs.YtlkchfhcfccaoaaGreatDoor
set_option linter.unusedVariables false

theorem meet_some {a b : List Iv} (ha : Lt64 a) (hb : Lt64 b) : opL gAnd a b ≠ [] ↔ ∃ x, mem a x = true ∧ mem b x = true := by
  obtain ⟨g1, g2, g3⟩ := opL_good (g := gAnd) ha hb rfl
  constructor
  · intro hne
    obtain ⟨x, hx⟩ := good_first g1 hne
    rw [g2] at hx
    unfold gAnd at hx
    rw [Bool.and_eq_true] at hx
    exact ⟨x, hx⟩
  · rintro ⟨x, h1, h2⟩ he
    have := g2 x
    rw [he, mem_nil, h1, h2] at this
    cases this

theorem wrong_zero {k : Kno} {i : Nat} : wrongK k i = 0 ↔ ((nthF k i).1 ≠ [] ∧ (nthF k i).2 ≠ []) ∧ canVB (nthF k i).2 = true ∧ (∀ j, j < i → opL gAnd (nthF k i).1 (nthF k j).1 = []) ∧ (0 < i → cmpV (nthF k (i - 1)).2 (nthF k i).2 = -1) := by
  unfold wrongK
  constructor
  · intro h
    split at h
    · cases h
    · rename_i h1
      rw [not_or] at h1
      split at h
      · cases h
      · rename_i h2
        split at h
        · cases h
        · rename_i h3
          split at h
          · cases h
          · rename_i h4
            refine ⟨h1, by simpa using h2, fun j hj => ?_, fun h0 => ?_⟩
            · refine Decidable.by_contra fun hn => h3 ?_
              exact List.any_eq_true.2 ⟨j, by simpa using hj, decide_eq_true hn⟩
            · exact Decidable.by_contra fun hn => h4 ⟨h0, hn⟩
  · rintro ⟨h1, h2, h3, h4⟩
    rw [if_neg (fun h => h.elim h1.1 h1.2), if_neg (by rw [h2]; simp), if_neg, if_neg]
    · rintro ⟨h0, hn⟩; exact hn (h4 h0)
    · intro h
      obtain ⟨j, hj, hn⟩ := List.any_eq_true.1 h
      exact of_decide_eq_true hn (h3 j (by simpa using hj))

theorem pw_idx {k : Kno} (h : ∀ i j, i < j → j < k.length → VecLt (nthF k i) (nthF k j)) : k.Pairwise VecLt := by
  rw [List.pairwise_iff_getElem]
  intro i j hi hj hij
  have := h i j hij hj
  rwa [nthF_get hi, nthF_get hj] at this
theorem idx_pw {k : Kno} (h : k.Pairwise VecLt) {i j : Nat} (hij : i < j) (hj : j < k.length) : VecLt (nthF k i) (nthF k j) := by
  have := List.pairwise_iff_getElem.1 h i j (by omega) hj hij
  rwa [nthF_get (by omega), nthF_get hj]

theorem can_ck {k : Kno} (hk : LtK k) (hc : CanK k) : ckC k = none := by
  have h1 : ckF k = none := ckF_none.2 fun f hf => ⟨(hc.items f hf).1, canV_ck (hc.vec f hf).1⟩
  unfold ckC
  rw [h1]
  refine firstS_none fun i hi => ?_
  unfold ckWr
  have hm := nthF_mem hi
  rw [if_pos (wrong_zero.2 ⟨⟨(hc.items _ hm).2, (hc.vec _ hm).2⟩, canVB_iff.2 (hc.vec _ hm).1, fun j hj => ?_, fun h0 => idx_pw hc.asc (by omega) hi⟩)]
  have hmj := nthF_mem (k := k) (i := j) (by omega)
  refine Decidable.by_contra fun hn => ?_
  obtain ⟨x, x1, x2⟩ := (meet_some (hk _ hm).items (hk _ hmj).items).1 hn
  have e := hc.apart _ hm _ hmj x x1 x2
  have hl := idx_pw hc.asc hj hi
  rw [e] at hl
  unfold VecLt at hl
  rw [cmpV_self] at hl
  cases hl

theorem ck_can {k : Kno} (hl : ∀ f ∈ k, Lt64 f.1 ∧ LtV f.2) (h : ckC k = none) : LtK k ∧ CanK k := by
  have h1 : ckF k = none := by
    unfold ckC at h
    split at h
    · cases h
    · assumption
  have hk := ltK_of hl h1
  unfold ckC at h
  rw [h1] at h
  have hw : ∀ i, i < k.length → wrongK k i = 0 := fun i hi => by
    have := firstS_of_none h i hi
    unfold ckWr at this
    split at this
    · assumption
    · cases this
  have hz := fun i hi => wrong_zero.1 (hw i hi)
  have hstep : ∀ i, i + 1 < k.length → VecLt (nthF k i) (nthF k (i + 1)) := fun i hi => (hz (i + 1) hi).2.2.2 (by omega)
  have hlt : ∀ j i, i < j → j < k.length → VecLt (nthF k i) (nthF k j) := fun j => by
    induction j with
    | zero => intro i h; omega
    | succ j ih =>
      intro i hij hj
      rcases Nat.lt_or_ge i j with h | h
      · exact cmpV_trans (ih i h (by omega)) (hstep j hj)
      · rw [show i = j by omega]; exact hstep j hj
  refine ⟨hk, ⟨fun f hf => ?_, fun f hf => ?_, fun f hf g hg x hx hy => ?_, pw_idx fun i j hij hj => hlt j i hij hj⟩⟩
  · obtain ⟨i, hi, rfl⟩ := List.getElem_of_mem hf
    rw [← nthF_get hi]
    exact ⟨((ckF_none.1 h1) _ (nthF_mem hi)).1, (hz i hi).1.1⟩
  · obtain ⟨i, hi, rfl⟩ := List.getElem_of_mem hf
    rw [← nthF_get hi]
    exact ⟨canVB_iff.1 (hz i hi).2.1, (hz i hi).1.2⟩
  · obtain ⟨i, hi, rfl⟩ := List.getElem_of_mem hf
    obtain ⟨j, hj, rfl⟩ := List.getElem_of_mem hg
    rw [← nthF_get hi, ← nthF_get hj] at *
    rcases Nat.lt_trichotomy i j with h2 | h2 | h2
    · exact absurd ((hz j hj).2.2.1 i h2) ((meet_some (hk _ (nthF_mem hj)).items (hk _ (nthF_mem hi)).items).2 ⟨x, hy, hx⟩)
    · rw [h2]
    · exact absurd ((hz i hi).2.2.1 j h2) ((meet_some (hk _ (nthF_mem hi)).items (hk _ (nthF_mem hj)).items).2 ⟨x, hx, hy⟩)

theorem code_zero {k : Kno} : (errCode (errOf (ckC k)) == 0) = decide (ckC k = none) := by
  cases h : ckC k with
  | none => rfl
  | some x =>
    have := ckC_code h
    obtain ⟨c, i⟩ := x
    simp only [errOf, errCode]
    simp at this
    rw [decide_eq_false (by simp), beq_eq_false_iff_ne]
    omega

end Go.Proofs.YtlkchfhcfccaoaaGreatDoor
end

section
namespace Go.Proofs.YtlkchfhcfccaoaaGreatDoor
open Go.RowKit
set_option linter.unusedVariables false

theorem refSame_refl (a d : Option Addr) (n c n' c' : Nat) (v : Kno) (w : World) (hE : Frags w a n c v) (hF : Frags w d n' c' v) :
    Calls Tryz.prog 12 #[.slice a n c, .slice d n' c'] w fun x w' => x = .returned (.bool true) ∧ Below w.heap.size w w' := by
  have h := refSame11_any a d n c n' c' v v w hE hF
  rwa [show decide (v = v) = true from decide_eq_true rfl] at h

set_option maxRecDepth 20000 in
set_option maxHeartbeats 4000000 in
theorem walkCanonChecks (a : Option Addr) (n cap : Nat) (k : Kno) (w : World) (hE : Frags w a n cap k) (hR : Ready w) :
    Calls Tryz.prog 5 #[.slice a n cap] w fun e w' => e = .returned (.bool true) ∧ Below w.heap.size w w' := by
  have HR := Lib.hid (fun W (h : Below w.heap.size w W) => hR.below h)
  have HE := Lib.hid (fun W (h : Below w.heap.size w W) => hE.below h)
  have hFew := refFew11_any a n cap k w hE
  clear hR hE
  cases hf : fewK k with
  | false =>
    rw [hf] at hFew
    have HF := Lib.hid hFew
    clear hFew hf
    go_enter Tryz.func5, Tryz.ntmps5
    go_wp2_with fail
    refine HF.out.mono ?_
    rintro e w0 ⟨rfl, hb0⟩
    have Hb0 := Lib.hid hb0; clear hb0
    go_wp2_with fail
    refine (alive_any _ (HR.out _ Hb0.out)).mono ?_
    rintro e w1 ⟨rfl, hb1⟩
    have Hb1 := Lib.hid (Hb0.out.trans (hb1.mono Hb0.out.size)); clear hb1
    go_wp2_with fail
    go_ret
    exact ⟨rfl, Hb1.out⟩
  | true =>
    rw [hf] at hFew
    have HF := Lib.hid hFew
    obtain ⟨hs, h12, h240⟩ := fewK_small hf
    have hv : ∀ f ∈ k, VecFits f.2 := fun f hf => ⟨by have := hs.vec f hf; omega, fun e he => by have := hs.holes f hf e he; omega⟩
    have HC := Lib.hid (fun W (h : Below w.heap.size w W) => canCheck_any a n cap k W (HE.out W h) (HR.out W h).door (HR.out W h).codes hv (by omega))
    have HCn := Lib.hid (fun W (h : Below w.heap.size w W) => canCanonical_any a n cap k W (HE.out W h) (HR.out W h).door (HR.out W h).codes hv (by omega))
    have HRf := Lib.hid (fun W (h : Below w.heap.size w W) => refCheck13_any a n cap k W (HE.out W h) hv (fun f hf => by have := hs.items f hf; omega))
    have hz := code_zero (k := k)
    clear hFew hf hs hv h240 h12
    generalize errOf (ckC k) = er at *
    generalize decide (ckC k = none) = z at *
    go_enter Tryz.func5, Tryz.ntmps5
    go_wp2_with fail
    refine HF.out.mono ?_
    rintro e w0 ⟨rfl, hb0⟩
    have Hb0 := Lib.hid hb0; clear hb0
    go_wp2_with fail
    refine (HC.out _ Hb0.out).mono ?_
    rintro e w1 ⟨rfl, hb1⟩
    have Hb1 := Lib.hid (Hb0.out.trans (hb1.mono Hb0.out.size)); clear hb1
    go_wp2_with fail
    refine (HRf.out _ Hb1.out).mono ?_
    rintro e w2 ⟨rfl, hb2⟩
    have Hb2 := Lib.hid (Hb1.out.trans (hb2.mono Hb1.out.size)); clear hb2
    go_wp2_with fail
    refine (alive_any _ (HR.out _ Hb2.out)).mono ?_
    rintro e w3 ⟨rfl, hb3⟩
    have Hb3 := Lib.hid (Hb2.out.trans (hb3.mono Hb2.out.size)); clear hb3
    go_wp2_with fail
    refine (code_any er _ (HR.out _ Hb3.out).door).mono ?_
    rintro e w4 ⟨rfl, hb4⟩
    have Hb4 := Lib.hid (Hb3.out.trans (hb4.mono Hb3.out.size)); clear hb4
    go_wp2_with fail
    refine (at_any er _ (HR.out _ Hb4.out).door).mono ?_
    rintro e w5 ⟨rfl, hb5⟩
    have Hb5 := Lib.hid (Hb4.out.trans (hb5.mono Hb4.out.size)); clear hb5
    go_wp2_with fail
    refine (HCn.out _ Hb5.out).mono ?_
    rintro e w6 ⟨rfl, hb6⟩
    have Hb6 := Lib.hid (Hb5.out.trans (hb6.mono Hb5.out.size)); clear hb6
    go_wp2_with fail
    go_ret
    exact ⟨by simp, Hb6.out⟩

set_option maxRecDepth 20000 in
set_option maxHeartbeats 4000000 in
theorem walkCanonMatches (a : Option Addr) (n cap : Nat) (k : Kno) (w : World) (hE : Frags w a n cap k) (hR : Ready w) :
    Calls Tryz.prog 3 #[.slice a n cap] w fun e w' => e = .returned (.bool true) ∧ Below w.heap.size w w' := by
  have HR := Lib.hid (fun W (h : Below w.heap.size w W) => hR.below h)
  have HE := Lib.hid (fun W (h : Below w.heap.size w W) => hE.below h)
  have hRt := right_any a n cap k w hE
  have hall := hE.all
  clear hR hE
  cases hf : (fewK k && decide (ckF k = none)) with
  | false =>
    rw [hf] at hRt
    have HF := Lib.hid hRt
    clear hRt hf hall
    go_enter Tryz.func3, Tryz.ntmps3
    go_wp2_with fail
    refine HF.out.mono ?_
    rintro e w0 ⟨rfl, hb0⟩
    have Hb0 := Lib.hid hb0; clear hb0
    go_wp2_with fail
    refine (alive_any _ (HR.out _ Hb0.out)).mono ?_
    rintro e w1 ⟨rfl, hb1⟩
    have Hb1 := Lib.hid (Hb0.out.trans (hb1.mono Hb0.out.size)); clear hb1
    go_wp2_with fail
    go_ret
    exact ⟨rfl, Hb1.out⟩
  | true =>
    rw [hf] at hRt
    have HF := Lib.hid hRt
    rw [Bool.and_eq_true, decide_eq_true_eq] at hf
    obtain ⟨hs, h12, h240⟩ := fewK_small hf.1
    have hk := ltK_of hall hf.2
    obtain ⟨jc, ic, lc⟩ := canon_joins hk hs h240
    obtain ⟨c1, c2, -⟩ := canonK_can hk
    have hself := canonK_self c2 c1
    have HC := Lib.hid (fun W (h : Below w.heap.size w W) => canCanon_any a n cap k W (HE.out W h) (small_joins hk hs hf.2) (Nat.le_trans (startsK_le _) (by omega)))
    have HRf := Lib.hid (fun W (h : Below w.heap.size w W) => refCanon13_any a n cap k W (HE.out W h) hk (small_fits hk hs) (Nat.le_trans (allL_len _) (by omega)))
    have HCc := Lib.hid (fun W a' c' (h : Frags W a' (canonK k).length c' (canonK k)) => canCanon_any a' _ c' (canonK k) W h jc (Nat.le_trans (startsK_le _) (by omega)))
    rw [hself] at HCc
    have HCn := Lib.hid (fun W (hb : Below w.heap.size w W) a' c' (h : Frags W a' (canonK k).length c' (canonK k)) => canCanonical_any a' _ c' (canonK k) W h (HR.out W hb).door (HR.out W hb).codes jc.fits.vec (by omega))
    rw [show decide (ckC (canonK k) = none) = true from decide_eq_true (can_ck c2 c1)] at HCn
    clear hRt hf hs h12 h240 hk jc ic lc c1 c2 hself hall
    generalize canonK k = c at *
    go_enter Tryz.func3, Tryz.ntmps3
    go_wp2_with fail
    refine HF.out.mono ?_
    rintro e w0 ⟨rfl, hb0⟩
    have Hb0 := Lib.hid hb0; clear hb0
    go_wp2_with fail
    refine (HC.out _ Hb0.out).mono ?_
    rintro e w1 ⟨⟨y, rfl, ho⟩, hb1⟩
    obtain ⟨a1, c1, rfl, hK⟩ := ho.frags
    have HK := Lib.hid (fun W (h : Below w1.heap.size w1 W) => hK.below h)
    have Hb1 := Lib.hid (Hb0.out.trans (hb1.mono Hb0.out.size)); clear hb1 ho hK
    go_wp2_with fail
    refine (HRf.out _ Hb1.out).mono ?_
    rintro e w2 ⟨⟨a2, c2, rfl, hK2⟩, hb2⟩
    have HK2 := Lib.hid hK2
    have Hq2 := Lib.hid hb2
    have Hb2 := Lib.hid (Hb1.out.trans (hb2.mono Hb1.out.size)); clear hb2 hK2
    have HS := Lib.hid (refSame_refl _ _ _ _ _ _ _ w2 (HK.out _ Hq2.out) HK2.out)
    go_wp2_with fail
    refine HS.out.mono ?_
    rintro e w3 ⟨rfl, hb3⟩
    have Hq3 := Lib.hid (Hq2.out.trans (hb3.mono Hq2.out.size))
    have Hb3 := Lib.hid (Hb2.out.trans (hb3.mono Hb2.out.size)); clear hb3 HS
    go_wp2_with fail
    refine (HCn.out _ Hb3.out _ _ (HK.out _ Hq3.out)).mono ?_
    rintro e w4 ⟨rfl, hb4⟩
    have Hq4 := Lib.hid (Hq3.out.trans (hb4.mono Hq3.out.size))
    have Hb4 := Lib.hid (Hb3.out.trans (hb4.mono Hb3.out.size)); clear hb4
    go_wp2_with fail
    refine (alive_any _ (HR.out _ Hb4.out)).mono ?_
    rintro e w5 ⟨rfl, hb5⟩
    have Hq5 := Lib.hid (Hq4.out.trans (hb5.mono Hq4.out.size))
    have Hb5 := Lib.hid (Hb4.out.trans (hb5.mono Hb4.out.size)); clear hb5
    go_wp2_with fail
    refine (HCc.out _ _ _ (HK.out _ Hq5.out)).mono ?_
    rintro e w6 ⟨⟨y, rfl, ho⟩, hb6⟩
    obtain ⟨a6, c6, rfl, hK6⟩ := ho.frags
    have HK6 := Lib.hid hK6
    have Hq6 := Lib.hid (Hq5.out.trans (hb6.mono Hq5.out.size))
    have Hb6 := Lib.hid (Hb5.out.trans (hb6.mono Hb5.out.size)); clear hb6 ho hK6
    have HS := Lib.hid (refSame_refl _ _ _ _ _ _ _ w6 HK6.out (HK.out _ Hq6.out))
    go_wp2_with fail
    refine HS.out.mono ?_
    rintro e w7 ⟨rfl, hb7⟩
    have Hb7 := Lib.hid (Hb6.out.trans (hb7.mono Hb6.out.size)); clear hb7 HS
    go_wp2_with fail
    go_ret
    exact ⟨rfl, Hb7.out⟩

end Go.Proofs.YtlkchfhcfccaoaaGreatDoor
end
