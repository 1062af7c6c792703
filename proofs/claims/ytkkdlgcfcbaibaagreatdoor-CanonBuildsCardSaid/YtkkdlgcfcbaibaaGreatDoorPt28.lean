/- Walks and laws, merged: part 28. -/
import Derived.WalkMore
import Derived.Test.YtkkdlgcfcbaibaaGreatDoorPt26
import Derived.Test.YtkkdlgcfcbaibaaGreatDoorPt27
import Derived.Test.YtkkdlgcfcbaibaaGreatDoorPt21
section
namespace Go.Proofs.YtkkdlgcfcbaibaaGreatDoor
open Go.RowKit
set_option linter.unusedVariables false

theorem set_same {α : Type} {l : List α} {i : Nat} {x : α} (h : l[i]? = some x) : l.set i x = l := by
  apply List.ext_getElem?
  intro j
  rw [List.getElem?_set]
  by_cases e : i = j
  · subst e
    rw [if_pos rfl, h]
    split
    · rfl
    · rename_i hl
      rw [List.getElem?_eq_none (by omega)] at h
      cases h
  · rw [if_neg e]

theorem frgC_set1 {ss : List (Value × Value)} {p : Nat} {q : Value × Value} (h : ss[p]? = some q) (x : Value) : (frgC ss).set (p * 2) x = frgC (ss.set p (x, q.2)) := by
  rw [← frgC_set]
  refine (set_same ?_).symm
  rw [List.getElem?_set_ne (by omega)]
  exact (frgC_get h).2

theorem ownK_setI {w : World} {base inner g n c p : Nat} {k : Kno} {ss : List (Value × Value)} (hn : k.length = n) (hp : p < n) (ho : w.ownsRow base 39 2 (.slice (some ⟨g, 0, none⟩) n c) n (frgC ss)) (hh : PartsT w inner k ss) (hb : inner ≤ base) (l : List Iv) (x : Value)
    (hx : IvSl w inner x l) : OwnK (w.setCell ⟨g, p * 2, none⟩ x) base inner (.slice (some ⟨g, 0, none⟩) n c) (k.set p (l, (nthF k p).2)) := by
  have hrow : ∃ C fr, w.heap[g]? = some (.cells C 39 fr) ∧ base ≤ g := by
    rcases ho.2 with ⟨h, _⟩ | ⟨g', cap, cur, h, hg, hr, _⟩
    · cases h
    · cases h; exact ⟨_, _, hr, hg⟩
  obtain ⟨C, fr, hr, hg⟩ := hrow
  obtain ⟨q, hq, -, hy⟩ := hh.2 p (by omega)
  have h1 := (ho.stored (p * 2) x).1
  rw [frgC_set1 hq] at h1
  have s : Steady inner isEnT w (w.setCell ⟨g, p * 2, none⟩ x) := Steady.setCell (a := ⟨g, p * 2, none⟩) hr (Nat.le_trans hb hg) (by rintro (h | h) <;> cases h)
  refine ⟨ss.set p (x, q.2), by rw [List.length_set, hn]; exact h1, ?_⟩
  exact (hh.steady s (.inl rfl) (.inr rfl)).set (hx.steady s (.inl rfl)) (hy.steady s (.inl rfl) (.inr rfl))

theorem frgC_mid (ss : List (Value × Value)) (p : Nat) (x y : Value) : (frgC ss).take (p * 2) ++ ([x, y] ++ (frgC ss).drop (p * 2)) = frgC (ss.take p ++ [(x, y)] ++ ss.drop p) := by
  rw [frgC_take, frgC_drop, frgC_append, frgC_append]
  simp [frgC]

theorem ownK_setBl {w : World} {Bl base : Nat} {x y u : Value} {k : Kno} (h : OwnK w base 0 x k) (hb : w.heap[Bl]? = some (.cells #[y] 160 (0, 0))) (hl : Bl < base) : OwnK (w.setCell ⟨Bl, 0, none⟩ u) base 0 x k := by
  obtain ⟨ss', h1, h2⟩ := h
  have hs5 : Steady 0 isEnT w (w.setCell ⟨Bl, 0, none⟩ u) := Steady.setCell (a := ⟨Bl, 0, none⟩) hb (Nat.zero_le _) (by rintro (h | h) <;> cases h)
  exact ⟨ss', own_same h1 (fun j hj1 hj2 => Below.heap_setCell _ _ _ _ (by simp only; omega)), h2.steady hs5 (.inl rfl) (.inr rfl)⟩

/-- What list.add leaves behind. -/
def AddRes (Bl base : Nat) (k : Kno) (w : World) (e : Ending) (w' : World) : Prop :=
  e = .returned (.tuple #[]) ∧ (∃ x', w'.heap[Bl]? = some (.cells #[x'] 160 (0, 0)) ∧ OwnK w' base 0 x' k) ∧ Kept (fun j => j < base ∧ j ≠ Bl) w w'

set_option maxRecDepth 100000 in
set_option maxHeartbeats 8000000 in
theorem listAdd_any (Bl base : Nat) (x : Value) (k : Kno) (f : Frg) (a : Option Addr) (n c : Nat) (b : Option Addr) (m d : Nat) (w : World)
    (hB : w.heap[Bl]? = some (.cells #[x] 160 (0, 0))) (hbl : Bl < base) (hbs : base ≤ w.heap.size) (ho : OwnK w base 0 x k) (hI : Ivs w a n c f.1) (hV : EntsT w 0 b m d f.2)
    (hG : ∀ g ∈ k, GrpF g) (hf : GrpF f) (hA : k.Pairwise VecLt) (fk : ∀ g ∈ k, VecFits g.2) (ff : VecFits f.2) (hn : k.length + 1 ≤ 100000) (hs : isum k + f.1.length ≤ 100000) :
    Calls Tryz.prog 108 #[.pointer (some ⟨Bl, 0, none⟩), .agg #[.slice a n c, .slice b m d]] w (AddRes Bl base (addG k f) w) := by
  have hal : Below w.heap.size w (w.alloc (.cells #[.slice a n c, .slice b m d] 39)) := (Below.refl _ _).alloc (Nat.le_refl _) _
  obtain ⟨wB, hwB⟩ : ∃ wB, wB = w.alloc (.cells #[.slice a n c, .slice b m d] 39) := ⟨_, rfl⟩
  have hrB : wB.heap[w.heap.size]? = some (.cells #[.slice a n c, .slice b m d] 39) := by rw [hwB]; exact row_new rfl
  have hsB : wB.heap.size = w.heap.size + 1 := by rw [hwB]; simp
  rw [← hwB] at hal
  have hBB := (hal.block Bl (by omega)).trans hB
  have hoB := ho.below hal
  have hIB := hI.below hal
  have hVB : EntsT wB 0 b m d f.2 := hV.steady (P := fun _ => True) (.of_below hal) trivial trivial
  obtain ⟨xa, xc, hx, hK⟩ := hoB.frags
  subst hx
  have hKB : Kept (fun j => j < base ∧ j ≠ Bl) w wB := (Kept.refl _ w).below hal
  have hC := Lib.hid (fun w' (h : Below wB.heap.size wB w') => bsK_any xa b k.length xc m d k f.2 w' (hK.below h) (hVB.ents.below h) hA (by omega) fk ff)
  have HwB := Lib.hid hwB
  have HKB := Lib.hid hKB
  have HoB := Lib.hid hoB; have HIB := Lib.hid hIB; have HVB := Lib.hid hVB
  have HBB := Lib.hid hBB; have HrB := Lib.hid hrB; have HsB := Lib.hid hsB
  have HG := Lib.hid hG; have Hf := Lib.hid hf; have Hs := Lib.hid hs
  have hnl := hI.len
  have r0 : ∀ w', Below wB.heap.size wB w' → w'.cell? ⟨Bl, 0, none⟩ = some (.slice xa k.length xc) := fun w' h => cells_cell ((h.block _ (by omega)).trans hBB) rfl
  have r1 : ∀ w', Below wB.heap.size wB w' → w'.cell? ⟨w.heap.size, 0, none⟩ = some (.slice a n c) := fun w' h => cells_cell ((h.block _ (by omega)).trans hrB) rfl
  have r2 : ∀ w', Below wB.heap.size wB w' → w'.cell? ⟨w.heap.size, 1, none⟩ = some (.slice b m d) := fun w' h => cells_cell ((h.block _ (by omega)).trans hrB) rfl
  have R0 := Lib.hid r0; have R1 := Lib.hid r1; have R2 := Lib.hid r2
  clear hB ho hI hV hG hf hA hs hal hBB hoB hIB hVB hK hKB hrB hwB hsB hnl
  go_enter Tryz.func108, Tryz.ntmps108
  go_wp2_with fail
  rw [← HwB.out]
  go_region_held3 (fun w' => Below wB.heap.size wB w') (first | assumption | exact Below.refl _ _ | exact (Below.refl _ _).drew | exact Below.alloc (by assumption) (Below.size (by assumption)) _) (first
    | (go_at_call 152
       refine (hC.out _ (by assumption)).mono ?_
       rintro e w2 ⟨rfl, hb2⟩
       have hS2 : Below wB.heap.size wB w2 := Below.trans (by assumption) (hb2.mono (Below.size (by assumption)))
       clear hb2))
  all_goals
    have Hw2 := Lib.hid hS2
    clear r0 r1 r2 hC hS2
    have hBw : wB.heap.size ≤ w2.heap.size := Hw2.out.size
    have hK2 := (HKB.out.below Hw2.out)
    have HK2 := Lib.hid hK2
    have HBl2 := Lib.hid ((Hw2.out.block Bl (by have := HsB.out; omega)).trans HBB.out)
    have HoK := Lib.hid (HoB.out.below Hw2.out)
    have HI2 := Lib.hid (HIB.out.below Hw2.out)
    have HV2 := Lib.hid (HVB.out.steady (P := fun _ => True) (.of_below Hw2.out) trivial trivial)
    have Hr2 := Lib.hid ((Hw2.out.block w.heap.size (by have := HsB.out; omega)).trans HrB.out)
    have h0 := R0.out _ Hw2.out
    have h1 := R1.out _ Hw2.out
    have h2 := R2.out _ Hw2.out
    have hb2w : base ≤ w2.heap.size := by have := HsB.out; omega
    have hlw2 : w.heap.size < w2.heap.size := by have := HsB.out; omega
    clear hK2
    cases hhit : hitG k f.2 with
    | true =>
      have hadd := addG_hit hhit
      have hpl : posG k f.2 < k.length := by
        rcases Nat.lt_or_ge (posG k f.2) k.length with h | h
        · exact h
        · have := hitG_end (k := k) (v := f.2) (Nat.le_antisymm (posG_le k f.2) h)
          rw [this] at hhit; cases hhit
      have hcm := (posG_at hpl).2
      rw [hhit] at hcm
      have hveq : (nthF k (posG k f.2)).2 = f.2 := cmpV_eq (by simpa using hcm.symm)
      have hgp := HG.out _ (nthF_mem hpl)
      rcases HoK.out.form2 with ⟨he, h9, -, -⟩ | ⟨g, ss, he, -, hgb, hgl, hgc, hgm, hro, hpt⟩
      · omega
      · subst he
        obtain ⟨q, hq, ⟨ia, im, ic, hqe, hiI⟩, -⟩ := hpt.2 (posG k f.2) hpl
        have hcell := hro.cells (g := g) rfl _ _ (frgC_get hq).1
        rw [add_at, Nat.zero_add, hqe] at hcell
        have hsum : (nthF k (posG k f.2)).1.length ≤ isum k := isum_mem (nthF_mem hpl)
        have HU := Lib.hid (fun w' (h : Below w2.heap.size w2 w') => union_any ia a im ic n c (nthF k (posG k f.2)).1 f.1 w' (hiI.ivs.below h) (HI2.out.below h) hgp.good Hf.out.good (by have := Hs.out; omega))
        have HUl := Lib.hid ((opL_good (g := gOr) hgp.items Hf.out.items rfl).2.2)
        have Hset := Lib.hid (show ∀ (w' : World) (y : Value), w'.ownsRow base 39 2 (.slice (some ⟨g, 0, none⟩) k.length xc) k.length (frgC ss) → PartsT w' 0 k ss → IvSl w' 0 y (opL gOr (nthF k (posG k f.2)).1 f.1) → OwnK (w'.setCell ⟨g, posG k f.2 * 2, none⟩ y) base 0 (.slice (some ⟨g, 0, none⟩) k.length xc) (addG k f) from fun w' y h1 h2 h3 => by
          have := ownK_setI rfl hpl h1 h2 (Nat.zero_le _) _ y h3
          rw [hveq] at this
          rw [hadd]
          exact this)
        have Hro := Lib.hid hro; have Hpt := Lib.hid hpt
        have hfz := own_frozen hro (posG k f.2 * 2)
        have HZ := Lib.hid (fun w' (h : Below w2.heap.size w2 w') => And.intro ((h.cell (p := ⟨g, posG k f.2 * 2, none⟩) (cell_lt hcell)).trans hcell) (own_frozen (own_below hro h) (posG k f.2 * 2)))
        have HR0 := Lib.hid (fun w' (h : Below w2.heap.size w2 w') => show w'.cell? ⟨Bl, 0, none⟩ = some (.slice (some ⟨g, 0, none⟩) k.length xc) from cells_cell (i := 0) ((h.block Bl (by omega)).trans HBl2.out) rfl)
        have HR1 := Lib.hid (fun w' (h : Below w2.heap.size w2 w') => show w'.cell? ⟨w.heap.size, 0, none⟩ = some (.slice a n c) from cells_cell (i := 0) ((h.block w.heap.size hlw2).trans Hr2.out) rfl)
        generalize opL gOr (nthF k (posG k f.2)).1 f.1 = U at *
        generalize posG k f.2 = p at *
        have hk63 : (p : Int) < (k.length : Int) := by omega
        clear hro hpt hiI hadd hcm hveq hgp hsum hq
        go_wp2_with fail
        go_region_with (first
          | (go_at_call 71
             refine (HU.out _ (by first | exact Below.refl _ _ | exact (Below.refl _ _).drew)).mono ?_
             rintro e w4 ⟨⟨yu, rfl, hou⟩, hb4⟩
             have hT4 : Below w2.heap.size w2 w4 := ⟨hb4.os, hb4.tape, hb4.output, hb4.size, hb4.block⟩
             obtain ⟨ua, uc, rfl, hIu⟩ := ivsT_own (base' := 0) hou HUl.out
             have HIu := Lib.hid hIu
             have zz := HZ.out w4 hT4
             have z0 := zz.1; have z1 := zz.2
             have z2 := HR0.out w4 hT4; have z3 := HR1.out w4 hT4
             clear zz hb4 hou hIu))
        all_goals go_wp2
        all_goals
          refine bodyPost_ret (results_none rfl _ _ _) rfl ?_
          have hT := Hw2.out.trans (hT4.mono hBw)
          refine ⟨rfl, ⟨_, (Below.heap_setCell _ _ _ _ (by simp only; omega)).trans ((hT4.block Bl (by omega)).trans HBl2.out), Hset.out w4 _ (own_below Hro.out hT4) (Hpt.out.steady (P := fun _ => True) (.of_below hT4) trivial trivial) ⟨_, _, _, rfl, HIu.out⟩⟩, ?_⟩
          exact (HK2.out.below hT4).setCell (fun _ h => by have h1 := h.1; simp only at h1; omega) _
    | false =>
      have hadd := addG_miss hhit
      have hpl := posG_le k f.2
      have HCl := Lib.hid (fun w' (h : Below w2.heap.size w2 w') => cloneIv_any a n c f.1 w' (HI2.out.below h) (by have := Hs.out; rw [← (HI2.out).len]; omega))
      obtain ⟨ss, hro, hpt⟩ := HoK.out
      have Hro := Lib.hid hro; have Hpt := Lib.hid hpt
      have hssl := hpt.1
      have HFi := Lib.hid Hf.out.items
      have HFr := Lib.hid (show ∀ (w' : World) (v' cl : Value), w'.ownsRow base 39 2 v' (k.length + 1) ((frgC ss).take (posG k f.2 * 2) ++ ([cl, .slice b m d] ++ (frgC ss).drop (posG k f.2 * 2))) → PartsT w' 0 k ss → IvSl w' 0 cl f.1 → EnSl w' 0 (.slice b m d) f.2 → OwnK w' base 0 v' (addG k f) from fun w' v' cl h1 h2 h3 h4 => by
        rw [frgC_mid] at h1
        have hl : (addG k f).length = k.length + 1 := by rw [hadd]; simp; omega
        refine ⟨_, by rw [hl]; exact h1, ?_⟩
        rw [hadd]
        have := ((h2.take (posG k f.2)).append (partsT_one (f := f) h3 h4)).append (h2.drop (posG k f.2))
        simpa using this)
      have hone := hpt.one
      have HR0 := Lib.hid (fun w' (h : Below w2.heap.size w2 w') => show w'.heap[Bl]? = some (.cells #[.slice xa k.length xc] 160 (0, 0)) ∧ w'.cell? ⟨Bl, 0, none⟩ = some (.slice xa k.length xc) ∧ w'.cell? ⟨w.heap.size, 1, none⟩ = some (.slice b m d) from And.intro ((h.block Bl (by omega)).trans HBl2.out) (And.intro (cells_cell (i := 0) ((h.block Bl (by omega)).trans HBl2.out) rfl) (cells_cell (i := 1) ((h.block w.heap.size hlw2).trans Hr2.out) rfl)))
      have Hlt := Lib.hid hro.lt
      generalize posG k f.2 = p at *
      have Hone := Lib.hid hone
      clear hro hpt hadd hone
      go_wp2_with fail
      go_region_with (first
        | (go_at_call 82
           refine (HCl.out _ (by first | exact Below.refl _ _ | exact (Below.refl _ _).drew)).mono ?_
           rintro e w4 ⟨⟨yu, rfl, hou⟩, hb4⟩
           have hT4 : Below w2.heap.size w2 w4 := ⟨hb4.os, hb4.tape, hb4.output, hb4.size, hb4.block⟩
           obtain ⟨ua, uc, rfl, hIu⟩ := ivsT_own (base' := 0) hou HFi.out
           have HIu := Lib.hid hIu
           have zz := HR0.out w4 hT4
           have z2 := zz.2.1; have z3 := zz.2.2
           have hBl4 : Bl < w4.heap.size := by have := hT4.size; omega
           have z4 : (w4.alloc (.cells #[.slice ua f.1.length uc, .slice b m d] 39)).cell? ⟨Bl, 0, none⟩ = some (.slice xa k.length xc) := cells_cell (i := 0) (row_old zz.1) rfl
           clear zz hb4 hou hIu)
        | (go_at_call 154
           have hal5 : Below w4.heap.size w4 (w4.alloc (.cells #[.slice ua f.1.length uc, .slice b m d] 39)) := (Below.refl _ _).alloc (Nat.le_refl _) _
           refine (insertF_any base (.slice xa k.length xc) k.length p w4.heap.size (frgC ss) [.slice ua f.1.length uc, .slice b m d] _ (own_below Hro.out (hT4.trans (hal5.mono hT4.size))) (row_new rfl) (fun e => by have := (Hlt.out _ e).2; have := hT4.size; omega) rfl Hone.out (by intro u hu; simp at hu; rcases hu with rfl | rfl <;> rfl) hpl (by omega) (by have := hT4.size; simp; omega)).mono ?_
           rintro e w5 ⟨v5, rfl, ho5, hg5⟩
           have hBl5 : w5.heap[Bl]? = some (.cells #[.slice xa k.length xc] 160 (0, 0)) := (hg5.block Bl (by have := hT4.size; simp; omega) (fun e => by have := (Hlt.out _ e.symm).1; omega)).trans (row_old (HR0.out w4 hT4).1)
           have z5 := box_frozen hBl5
           have z6 := box_cell hBl5
           have HBl5 := Lib.hid hBl5; have Ho5 := Lib.hid ho5; have Hg5 := Lib.hid hg5; have Hal5 := Lib.hid hal5
           obtain ⟨v5a, v5c, rfl⟩ := own_slice ho5
           clear hBl5 ho5 hg5 hal5))
      all_goals go_wp2
      all_goals
        go_end0
        have hst : Steady 0 isEnT w2 w5 := (Steady.of_below (hT4.trans (Hal5.out.mono hT4.size))).trans ((Steady.grown (own_below Hro.out (hT4.trans (Hal5.out.mono hT4.size))) Hg5.out (by rintro (h | h) <;> cases h)).lower (Nat.zero_le _))
        have hst4 : Steady 0 isEnT w4 w5 := (Steady.of_below Hal5.out).trans ((Steady.grown (own_below Hro.out (hT4.trans (Hal5.out.mono hT4.size))) Hg5.out (by rintro (h | h) <;> cases h)).lower (Nat.zero_le _))
        have hOK := HFr.out w5 _ _ Ho5.out (Hpt.out.steady hst (.inl rfl) (.inr rfl)) ⟨_, _, _, rfl, HIu.out.steady hst4 (.inl rfl)⟩ ⟨_, _, _, rfl, HV2.out.steady hst (.inl rfl) (.inr rfl)⟩
        refine ⟨rfl, ⟨_, box_set HBl5.out, ?_⟩, ?_⟩
        · exact ownK_setBl hOK HBl5.out hbl
        · exact (((HK2.out.below (hT4.trans (Hal5.out.mono hT4.size)))).grown Hg5.out (fun j hj hjw hjp => by have := (Hlt.out j hj).1; have := hjp.1; omega)).setCell (fun _ h => h.2 rfl) _

end Go.Proofs.YtkkdlgcfcbaibaaGreatDoor
end

section
namespace Go.Proofs.YtkkdlgcfcbaibaaGreatDoor
open Go.RowKit
set_option linter.unusedVariables false

theorem can_last {e : Ent} (h : CanE e) {l : List Iv} {t : Iv} (he : e.2.2 = l ++ [t]) : t.2 < e.2.1 := by
  have h1 := h.below t (by rw [he]; simp)
  have h2 := h.top
  rcases Nat.lt_or_ge t.2 e.2.1 with h3 | h3
  · exact h3
  · have h4 := (mem_last h.good (s := t) (by rw [he]; simp)).1
    rw [show t.2 = e.2.1 by omega, h2] at h4
    cases h4

set_option maxRecDepth 20000 in
set_option maxHeartbeats 4000000 in
theorem entCanon_can (e : Ent) (a : Option Addr) (n c : Nat) (w : World) (hI : Ivs w a n c e.2.2) (hC : CanE e) (hn : n ≤ 100000) :
    Calls Tryz.prog 155 #[entV e (.slice a n c)] w fun x w' => OfRes w.heap.size (some e) x w' ∧ Below w.heap.size w w' := by
  obtain ⟨r, m, hs⟩ := e
  simp only at hI
  have hlast := fun l t (h : hs = l ++ [t]) => can_last hC (l := l) (t := t) h
  simp only at hlast
  have hlen := hI.len
  have hlt := hI.lt
  have hal : Below w.heap.size w ((w.alloc (.cells #[.int .u64 r, .int .u64 m, .slice a n c] 71)).alloc (.cells #[.int .u64 0, .int .u64 0, .slice none 0 0] 71)) := ((Below.refl _ _).alloc (Nat.le_refl _) _).alloc (by simp) _
  have hrow : ((w.alloc (.cells #[.int .u64 r, .int .u64 m, .slice a n c] 71)).alloc (.cells #[.int .u64 0, .int .u64 0, .slice none 0 0] 71)).heap[w.heap.size + 1]? = some (.cells #[.int .u64 0, .int .u64 0, .slice none 0 0] 71) := row_new (by simp)
  have hbox : ((w.alloc (.cells #[.int .u64 r, .int .u64 m, .slice a n c] 71)).alloc (.cells #[.int .u64 0, .int .u64 0, .slice none 0 0] 71)).heap[w.heap.size]? = some (.cells #[.int .u64 r, .int .u64 m, .slice a n c] 71) := (Below.heap_alloc _ _ _ (by simp)).trans (row_new rfl)
  have hsz : ((w.alloc (.cells #[.int .u64 r, .int .u64 m, .slice a n c] 71)).alloc (.cells #[.int .u64 0, .int .u64 0, .slice none 0 0] 71)).heap.size = w.heap.size + 2 := by simp
  have hRd := (hI.below hal).rd
  have hB := row3_cells hbox
  have b0 := hB.1; have b1 := hB.2.1; have b2 := hB.2.2.1
  clear hI hC hB
  go_enter Tryz.func155, Tryz.ntmps155
  generalize hW : (w.alloc (.cells #[.int .u64 r, .int .u64 m, .slice a n c] 71)).alloc (.cells #[.int .u64 0, .int .u64 0, .slice none 0 0] 71) = W at *
  go_wp2
  go_step3
  go_wp2_with (at_builtin; (refine wpList_append_ivs rfl (.const (.slice none 0 0)) (.tmp 8) rfl rfl W.heap.size _ 0 [] rfl (World.ownsRow_nil _ _ _ _) _ n _ hs rfl hRd (by omega) (Nat.le_refl _) ?_
                            intro v2 w2 ho2 hg2
                            obtain ⟨a2, c2, rfl⟩ := own_slice ho2
                            have hb2 : Below W.heap.size W w2 := Below.grown (Below.refl _ _) hg2 (Nat.le_refl _) (by intro k hk; simp [Value.ownBlock, Act.eval] at hk)
                            have hx2 := row3_cells ((hb2.block _ (by omega)).trans hbox)
                            have x0 := hx2.1; have x1 := hx2.2.1; have x2 := hx2.2.2.1; have x3 := hx2.2.2.2.1; have x4 := hx2.2.2.2.2.1; have x5 := hx2.2.2.2.2.2
                            clear hx2 b0 b1 b2))
  have hz2 := row3_cells (w' := w2.setCell ⟨w.heap.size, 2, none⟩ (.slice a2 (0 + n) c2)) ((Below.heap_setCell _ _ _ _ (by simp)).trans ((hb2.block (w.heap.size + 1) (by omega)).trans hrow))
  have hbig : ∀ k, W.heap.size ≤ k → (w2.setCell ⟨w.heap.size, 2, none⟩ (.slice a2 (0 + n) c2)).heap[k]? = w2.heap[k]? := fun k hk => Below.heap_setCell _ _ _ _ (by simp; omega)
  have hy0 : (w2.setCell ⟨w.heap.size, 2, none⟩ (.slice a2 (0 + n) c2)).cell? ⟨w.heap.size, 0, none⟩ = some (.int .u64 r) := by simp [go_sem, x0]
  have hy1 : (w2.setCell ⟨w.heap.size, 2, none⟩ (.slice a2 (0 + n) c2)).cell? ⟨w.heap.size, 1, none⟩ = some (.int .u64 m) := by simp [go_sem, x1]
  have hy2 : (w2.setCell ⟨w.heap.size, 2, none⟩ (.slice a2 (0 + n) c2)).cell? ⟨w.heap.size, 2, none⟩ = some (.slice a2 (0 + n) c2) := by simp [go_sem, x2]
  have hB3 : Below w.heap.size w (w2.setCell ⟨w.heap.size, 2, none⟩ (.slice a2 (0 + n) c2)) := (hal.trans (hb2.mono hal.size)).setCell (Nat.le_refl _) _
  have ho3 := own_same ho2 (fun k h1 h2 => hbig k h1)
  have hz3 : W.heap.size ≤ (w2.setCell ⟨w.heap.size, 2, none⟩ (.slice a2 (0 + n) c2)).heap.size := by
    have := hb2.size
    rw [World.size_setCell]; exact this
  go_step3
  go_wp2
  simp only [Nat.zero_add] at hz2 hbig hy0 hy1 hy2 hB3 ho3 hz3
  generalize w2.setCell ⟨w.heap.size, 2, none⟩ (.slice a2 n c2) = W3 at *
  have Hz := Lib.hid hz2; have HB3 := Lib.hid hB3; have Ho3 := Lib.hid ho3; have Hz3 := Lib.hid hz3
  have Hsz := Lib.hid hsz
  have Hlast := Lib.hid hlast; have Hlen := Lib.hid hlen; have Hlt := Lib.hid hlt
  clear hz2 hbig hB3 ho3 hz3 x0 x1 x2 x3 x4 x5 hb2 hg2 ho2 hRd hrow hbox hW hal hsz hlast hlen hlt
  go_loopw [4, 5, 6] (fun _ _ _ wr => wr = W3) (fun _ _ _ _ => 0)
  case atStart => rfl
  case round =>
    subst hrel
    have Hy := Lib.hid (And.intro hy0 (And.intro hy1 hy2))
    by_cases hn0 : n = 0
    · have hd : decide (0 < (n : Int)) = false := by rw [decide_eq_false_iff_not]; omega
      have hdn : decide (0 < n) = false := by rw [decide_eq_false_iff_not]; omega
      have hz := Hz.out
      have z0 := hz.1; have z1 := hz.2.1; have z2 := hz.2.2.1; have z3 := hz.2.2.2.1; have z4 := hz.2.2.2.2.1; have z5 := hz.2.2.2.2.2
      clear hz hn0
      go_wp2
      rw [Exit.noGoto_ret]
      refine bodyPost_ret (v := .tuple #[.agg #[.int .u64 r, .int .u64 m, .slice a2 n c2], .bool true]) (by simp [results, Tryz.results155, go_sem, z0, z1, z2]) rfl ?_
      refine ⟨⟨_, rfl, ?_⟩, below_set3 HB3.out (by omega)⟩
      have h := own_same (w' := ((wr.setCell ⟨w.heap.size + 1, 0, none⟩ (.int .u64 r)).setCell ⟨w.heap.size + 1, 1, none⟩ (.int .u64 m)).setCell ⟨w.heap.size + 1, 2, none⟩ (.slice a2 n c2)) Ho3.out (fun k h1 _ => by
        have := Hsz.out
        rw [Below.heap_setCell _ _ _ _ (by simp; omega), Below.heap_setCell _ _ _ _ (by simp; omega), Below.heap_setCell _ _ _ _ (by simp; omega)])
      have h2 := own_mono (b := w.heap.size) h (by have := Hsz.out; omega)
      simpa [Hlen.out] using h2
    · obtain ⟨l, s, rfl⟩ : ∃ l s, hs = l ++ [s] := by
        rcases nil_or_snoc hs with rfl | ⟨l, s, rfl⟩
        · exact absurd (by simpa using Hlen.out.symm) hn0
        · exact ⟨l, s, rfl⟩
      have hlk := Hlen.out
      rw [List.length_append, List.length_singleton] at hlk
      obtain ⟨k, hk⟩ : ∃ k : Nat, k = l.length := ⟨_, rfl⟩
      have hIv := ivs_own Ho3.out (by simpa using Hlt.out)
      obtain ⟨a3, c3, he, hI3⟩ := hIv
      cases he
      obtain ⟨bb, oo, rfl, hcell⟩ := hI3.cells (by omega)
      obtain ⟨k1, k2⟩ := hcell k (by omega)
      rw [show nthI ([] ++ (l ++ [s])) k = s from by rw [hk]; simp [nthI]] at k1 k2
      have hlm := Hlast.out l s rfl
      have hroom := hI3.room
      obtain ⟨sx, sy⟩ := s
      simp only at k1 k2 hlm
      have hd : decide (0 < (n : Int)) = true := by rw [decide_eq_true_iff]; omega
      have hdn : decide (0 < n) = true := by rw [decide_eq_true_iff]; omega
      have hsub : IntKind.i64.wrap ((n : Int) - 1) = (k : Int) := by rw [IntKind.wrap_i64]; omega
      have h01 : (0 : Int) ≤ k := by omega
      have h02 : (k : Int) < (n : Int) := by omega
      have hd1 : decide ((sy : Int) < (m : Int)) = true := by rw [decide_eq_true_iff]; omega
      have hd2 : decide (sy < m) = true := by rw [decide_eq_true_iff]; omega
      have hal : Below wr.heap.size wr (wr.alloc (.cells #[.int .u64 sx, .int .u64 sy] 73)) := (Below.refl _ _).alloc (Nat.le_refl _) _
      have hz := Hz.out
      have z0 := (hal.cell (cell_lt hz.1)).trans hz.1
      have z1 := (hal.cell (cell_lt hz.2.1)).trans hz.2.1
      have z2 := (hal.cell (cell_lt hz.2.2.1)).trans hz.2.2.1
      have z3 := (hal.frozen (p := ⟨w.heap.size + 1, 0, none⟩) (cell_lt hz.1)).trans hz.2.2.2.1
      have z4 := (hal.frozen (p := ⟨w.heap.size + 1, 1, none⟩) (cell_lt hz.2.1)).trans hz.2.2.2.2.1
      have z5 := (hal.frozen (p := ⟨w.heap.size + 1, 2, none⟩) (cell_lt hz.2.2.1)).trans hz.2.2.2.2.2
      have y0 := (hal.cell (cell_lt hy0)).trans hy0
      have y1 := (hal.cell (cell_lt hy1)).trans hy1
      have y2 := (hal.cell (cell_lt hy2)).trans hy2
      have Hal := Lib.hid hal
      clear hz hcell hI3 hlm hn0 hlk hal hk
      go_wp2
      rw [Exit.noGoto_ret]
      refine bodyPost_ret (v := .tuple #[.agg #[.int .u64 r, .int .u64 m, .slice (some ⟨bb, oo, none⟩) n c2], .bool true]) (by simp [results, Tryz.results155, go_sem, z0, z1, z2]) rfl ?_
      refine ⟨⟨_, rfl, ?_⟩, below_set3 (HB3.out.trans (Hal.out.mono HB3.out.size)) (by omega)⟩
      have h := own_same (w' := (((wr.alloc (.cells #[.int .u64 sx, .int .u64 sy] 73)).setCell ⟨w.heap.size + 1, 0, none⟩ (.int .u64 r)).setCell ⟨w.heap.size + 1, 1, none⟩ (.int .u64 m)).setCell ⟨w.heap.size + 1, 2, none⟩ (.slice (some ⟨bb, oo, none⟩) n c2)) Ho3.out (fun k h1 h2 => by
        have := Hsz.out
        rw [Below.heap_setCell _ _ _ _ (by simp; omega), Below.heap_setCell _ _ _ _ (by simp; omega), Below.heap_setCell _ _ _ _ (by simp; omega), Below.heap_alloc _ _ _ h2])
      have h2 := own_mono (b := w.heap.size) h (by have := Hsz.out; omega)
      have e : (l ++ [(sx, sy)]).length = n := Hlen.out
      rw [List.nil_append] at h2
      simp only [e]
      exact h2

end Go.Proofs.YtkkdlgcfcbaibaaGreatDoor
end

section
namespace Go.Proofs.YtkkdlgcfcbaibaaGreatDoor
open Go.RowKit
set_option linter.unusedVariables false

set_option maxRecDepth 20000 in
set_option maxHeartbeats 2000000 in
theorem vecCanon_can (a : Option Addr) (n cap : Nat) (v : Vec) (w : World) (hE : Ents w a n cap v) (hC : CanV v) (hF : VecFits v) :
    Calls Tryz.prog 109 #[.slice a n cap] w fun x w' => (∃ y, x = .returned y ∧ OwnV w' w.heap.size y v) ∧ Below w.heap.size w w' := by
  have HE := Lib.hid hE; have HF := Lib.hid hF; have HC := Lib.hid hC
  have Hl := Lib.hid hE.len
  have hm : n ≤ 9223372036854775807 := Nat.le_trans hE.room hE.most
  have hn3 : n ≤ 300 := by rw [← hE.len]; exact hF.len
  clear hE hF hC
  go_enter Tryz.func109, Tryz.ntmps109
  go_wp2
  go_loopw [3, 5, 6, 7, 10] (fun y _ _ _ i wr => ∃ k : Nat, k ≤ n ∧ i = .int .i64 k ∧ Below w.heap.size w wr ∧ Hid (OwnV wr w.heap.size y (v.take k))) (fun _ _ _ _ i _ => n - (intOf i).toNat)
  case atStart => exact ⟨0, by omega, rfl, Below.refl _ _, by rw [List.take_zero]; exact ownV_nil _ _⟩
  case round =>
    obtain ⟨k, hk, rfl, hb, ho⟩ := hrel
    have Hb := Lib.hid hb; clear hb
    by_cases hkn : k < n
    · have hkv : k < v.length := by rw [Hl.out]; exact hkn
      have HEr := Lib.hid (HE.out.below Hb.out)
      obtain ⟨bb, oo, rfl⟩ := HEr.out.some (by omega)
      have Hlt := Lib.hid (HE.out.lt (nthE v k) (nthE_mem hkv))
      have Hho := Lib.hid (HF.out.holes (nthE v k) (nthE_mem hkv))
      have hce := HC.out.ent (nthE v k) (nthE_mem hkv)
      have Hst := Lib.hid (show v.take (k + 1) = v.take k ++ [nthE v k] from by rw [List.take_succ_eq_append_getElem hkv, nthE_get hkv])
      have HoL := Lib.hid (show (v.take k).length ≤ 300 from by rw [List.length_take]; omega)
      obtain ⟨x, m, c, hq⟩ := HEr.out.fix hkn
      obtain ⟨q1, q2, q3, q4⟩ := hq _ (Below.refl _ _)
      have hal : Below wr.heap.size wr (wr.alloc (.cells #[.int .u64 (nthE v k).1, .int .u64 (nthE v k).2.1, .slice x m c] 71)) := (Below.refl _ _).alloc (Nat.le_refl _) _
      have hD := Lib.hid (entCanon_can (nthE v k) x m c _ (q4.below hal) hce (by rw [← q4.len]; have := Hho.out; omega))
      have HX := Lib.hid (box3 wr (.int .u64 (nthE v k).1) (.int .u64 (nthE v k).2.1) (.slice x m c) 71 _ (Below.refl _ _))
      have Hal := Lib.hid hal
      clear hal hce q4 hq
      generalize v.take k = T at *
      have h0 : (0 : Int) ≤ k := by omega
      have h04 : (k : Int) < (n : Int) := by omega
      have hx := HX.out
      generalize nthE v k = e at *
      obtain ⟨er, em, eh⟩ := e
      simp only at q1 q2 q3 hx Hal
      obtain ⟨x0, x1, x2⟩ := hx
      clear HX
      go_wp2_with fail
      refine hD.out.mono ?_
      rintro z w1 ⟨hz, hb1⟩
      obtain ⟨sa, sc, rfl, hs⟩ := ofRes_own hz Hlt.out.holes
      simp only at hs
      have Hs := Lib.hid (hs 0)
      have Hb1 := Lib.hid (Hb.out.trans ((Hal.out.trans (hb1.mono Hal.out.size)).mono Hb.out.size))
      have Ho1 := Lib.hid (ho.out.below (Hal.out.trans (hb1.mono Hal.out.size)))
      have hal2 : Below w1.heap.size w1 ((w1.alloc (.cells #[.int .u64 er, .int .u64 em, .slice sa eh.length sc] 71)).alloc (.cells #[.int .u64 er, .int .u64 em, .slice sa eh.length sc] 71)) :=
        ((Below.refl w1.heap.size w1).alloc (Nat.le_refl _) _).alloc (by simp) _
      have Hal2 := Lib.hid hal2
      clear hb1 hs hz hal2 x0 x1 x2
      go_wp2_with (at_builtin; refine wpList_append_ent rfl (.tmp 20) (.tmp 22) rfl rfl w.heap.size _ T rfl (Ho1.out.below Hal2.out) _ 1 (er, em, eh) sa eh.length sc (Hs.out.steady (P := fun _ => True) (.of_below Hal2.out) trivial) rfl (rd_block (heap_at_new _ _ _ (by simp)) rfl rfl) (by have := HoL.out; omega) (by have := Hb1.out.size; simp; omega) ?_; intro v' w7 ho7 hg7 _)
      have Hb7 := Lib.hid (Below.grown (Hb1.out.trans (Hal2.out.mono Hb1.out.size)) hg7 (by have := Hb1.out.size; have := Hal2.out.size; omega) (fun k hk => (Ho1.out.lt k hk).1))
      go_roundw
      case rel => exact ⟨k + 1, by omega, by go_num, Hb7.out, by first | (rw [Hst.out]; exact ho7) | (trace_state; fail)⟩
      case measure => simp [intOf]; omega
    · obtain rfl : k = n := by omega
      have Ho := Lib.hid ho.out
      rw [show v.take k = v from List.take_of_length_le (by rw [Hl.out]; exact Nat.le_refl _)] at Ho
      go_wp2
      go_ret
      exact ⟨⟨_, rfl, Ho.out⟩, Hb.out⟩

end Go.Proofs.YtkkdlgcfcbaibaaGreatDoor
end
