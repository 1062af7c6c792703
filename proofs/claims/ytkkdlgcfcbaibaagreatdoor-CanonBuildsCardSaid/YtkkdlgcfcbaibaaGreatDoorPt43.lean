/- Walks and laws, merged: part 43. -/
import Derived.Lib.IfaceEq
import Derived.Test.YtkkdlgcfcbaibaaGreatDoorPt42
import Derived.Test.YtkkdlgcfcbaibaaGreatDoorPt24
import Derived.Test.YtkkdlgcfcbaibaaGreatDoorPt22
import Derived.Test.YtkkdlgcfcbaibaaGreatDoorPt21
import Derived.Test.YtkkdlgcfcbaibaaGreatDoorPt10
import Derived.Test.YtkkdlgcfcbaibaaGreatDoorPt03
section
namespace Go.Proofs.YtkkdlgcfcbaibaaGreatDoor
open Go.RowKit
set_option linter.unusedVariables false

theorem ex_lt : LtK exK := by
  intro f hf
  simp at hf
  rcases hf with rfl | rfl
  · refine ⟨by decide, ?_, List.pairwise_singleton _ _⟩
    intro e he
    simp at he
    subst he
    exact ⟨by simp, by simp, fun s hs => by cases hs⟩
  · refine ⟨by decide, ?_, List.pairwise_singleton _ _⟩
    intro e he
    simp at he
    subst he
    exact ⟨by simp, by simp, fun s hs => by cases hs⟩

theorem ex_fits : ∀ f ∈ exC, VecFits f.2 := by
  intro f hf
  simp at hf
  subst hf
  exact ⟨by simp, by simp⟩
theorem ex_fitsK : ∀ f ∈ exK, VecFits f.2 := by
  intro f hf
  simp at hf
  rcases hf with rfl | rfl
  · exact ⟨by simp, by simp⟩
  · exact ⟨by simp, by simp⟩

theorem seg_one {l : List Iv} (h : l.Perm (flatK exC)) : l = [(1, 6)] := List.perm_singleton.1 h

set_option maxRecDepth 20000 in
set_option maxHeartbeats 4000000 in
theorem alive_any (w : World) (hR : Ready w) : Calls Tryz.prog 11 #[] w fun e w' => e = .returned (.bool true) ∧ Below w.heap.size w w' := by
  have HR := Lib.hid (fun W (h : Below w.heap.size w W) => hR.below h)
  have HJ := Lib.hid (small_joins (k := exK) ex_lt (fewK_small (by decide)).1 ex_ck)
  clear hR
  obtain ⟨W, hW⟩ : ∃ W, W = (((w.alloc (.cells #[.int .u64 1, .int .u64 3, .slice none 0 0] 71)).alloc (.cells #[.int .u64 4, .int .u64 6] 73)).alloc (.cells #[.int .u64 1, .int .u64 3] 73)).alloc (.cells #[.slice (some ⟨w.heap.size + 1, 0, none⟩) 1 1, .slice (some ⟨w.heap.size, 0, none⟩) 1 1, .slice (some ⟨w.heap.size + 1 + 1, 0, none⟩) 1 1, .slice (some ⟨w.heap.size, 0, none⟩) 1 1] 39) := ⟨_, rfl⟩
  have HbW := Lib.hid (show Below w.heap.size w W from by rw [hW]; exact ((((Below.refl _ _).alloc (Nat.le_refl _) _).alloc (by simp) _).alloc (by simp; omega) _).alloc (by simp; omega) _)
  have Hr0 := Lib.hid (show W.heap[w.heap.size]? = some (.cells #[.int .u64 1, .int .u64 3, .slice none 0 0] 71) from by rw [hW]; exact row_old (row_old (row_old (row_new rfl))))
  have HE := Lib.hid (show Frags W (some ⟨w.heap.size + 1 + 1 + 1, 0, none⟩) 2 2 exK from lit_two Hr0.out (b1 := w.heap.size + 1) (b2 := w.heap.size + 1 + 1) (by rw [hW]; exact row_old (row_old (row_new (by simp)))) (by rw [hW]; exact row_old (row_new (by simp))) (by rw [hW]; exact row_new (by simp)))
  have HW := Lib.hid hW
  clear hW
  go_enter Tryz.func11, Tryz.ntmps11
  go_wp2_with fail
  rw [← HW.out]
  refine (canCanon_any _ 2 2 exK W HE.out HJ.out (Nat.le_trans (startsK_le _) (by decide))).mono ?_
  rintro e w1 ⟨⟨y, rfl, ho⟩, hb1⟩
  rw [ex_canon] at ho
  obtain ⟨a1, c1, rfl, hK⟩ := ho.frags
  have HK := Lib.hid hK
  have Hb1 := Lib.hid hb1
  clear ho hK hb1 HJ HW
  rw [show (exC : Kno).length = 1 from rfl] at HK ⊢
  go_wp2_with fail
  refine (segments_any a1 1 c1 exC w1 HK.out (by intro f hf; simp at hf; subst hf; exact good_one (s := (1, 6)) (by decide)) (by decide)).mono ?_
  rintro e w2 ⟨⟨l', a2, c2, gi, rfl, hpm, -, hI2, ho2⟩, hb2⟩
  obtain rfl := seg_one hpm
  have HO2 := Lib.hid ho2
  have Hb2 := Lib.hid hb2
  have HK2 := Lib.hid (HK.out.below hb2)
  have HB2 := Lib.hid (Hb1.out.trans (hb2.mono Hb1.out.size))
  clear hpm hI2 ho2 hb2
  simp only [List.length_singleton, List.map_cons, List.map_nil, ex_pos] at HO2 ⊢
  obtain ⟨W2, hW2⟩ : ∃ W2, W2 = (w2.alloc (.cells #[.int .u64 1, .int .u64 6] 73)).alloc (.cells #[.slice (some ⟨w2.heap.size, 0, none⟩) 1 1, .slice (some ⟨w.heap.size, 0, none⟩) 1 1] 39) := ⟨_, rfl⟩
  have HbW2 := Lib.hid (show Below w2.heap.size w2 W2 from by rw [hW2]; exact (((Below.refl _ _).alloc (Nat.le_refl _) _).alloc (by simp) _))
  have Hr2 := Lib.hid ((HbW2.out.block w.heap.size (Array.getElem?_eq_some_iff.1 ((HB2.out.block w.heap.size (Array.getElem?_eq_some_iff.1 Hr0.out).1).trans Hr0.out)).1).trans ((HB2.out.block w.heap.size (Array.getElem?_eq_some_iff.1 Hr0.out).1).trans Hr0.out))
  have HF2 := Lib.hid (show Frags W2 (some ⟨w2.heap.size + 1, 0, none⟩) 1 1 exC from lit_one Hr2.out (b1 := w2.heap.size) (by rw [hW2]; exact row_old (row_new rfl)) (by rw [hW2]; exact row_new (by simp)))
  have HW2 := Lib.hid hW2
  have HS := Lib.hid (refSame11_any _ _ _ _ _ _ _ _ W2 (HK2.out.below HbW2.out) HF2.out)
  have HT2 := Lib.hid (HB2.out.trans (HbW2.out.mono HB2.out.size))
  clear hW2
  rw [show decide (exC = exC) = true from decide_eq_true rfl] at HS
  go_wp2_with fail
  rw [← HW2.out]
  refine HS.out.mono ?_
  rintro e w3 ⟨rfl, hb3⟩
  have HB3 := Lib.hid (HT2.out.trans (hb3.mono HT2.out.size))
  have Hq3 := Lib.hid (HbW2.out.trans (hb3.mono HbW2.out.size))
  clear hb3 HS HW2 HF2
  have hR3 := HR.out _ (HbW.out.trans (HB3.out.mono HbW.out.size))
  go_wp2_with fail
  refine (canCanonical_any a1 1 c1 exC w3 (HK2.out.below Hq3.out) hR3.door hR3.codes ex_fits (by decide)).mono ?_
  rintro e w4 ⟨rfl, hb4⟩
  rw [show decide (ckC exC = none) = true from by rw [ex_ckC]; rfl]
  have HB4 := Lib.hid (HB3.out.trans (hb4.mono HB3.out.size))
  have Hq4 := Lib.hid (Hq3.out.trans (hb4.mono Hq3.out.size))
  clear hb4 hR3
  have hR4 := HR.out _ (HbW.out.trans (HB4.out.mono HbW.out.size))
  go_wp2_with fail
  refine (canCanonical_any _ 2 2 exK w4 (HE.out.below HB4.out) hR4.door hR4.codes ex_fitsK (by decide)).mono ?_
  rintro e w5 ⟨rfl, hb5⟩
  rw [show decide (ckC exK = none) = false from by rw [ex_ckK]; rfl]
  have HB5 := Lib.hid (HB4.out.trans (hb5.mono HB4.out.size))
  have Hq5 := Lib.hid (Hq4.out.trans (hb5.mono Hq4.out.size))
  clear hb5 hR4
  go_wp2_with fail
  refine (canFind_any a1 1 c1 5 exC w5 (HK2.out.below Hq5.out) (by intro f hf; simp at hf; subst hf; exact ⟨good_one (s := (1, 6)) (by decide), by decide⟩)).mono ?_
  rintro e w6 ⟨rfl, hb6⟩
  rw [ex_five]
  have HB6 := Lib.hid (HB5.out.trans (hb6.mono HB5.out.size))
  have Hq6 := Lib.hid (Hq5.out.trans (hb6.mono Hq5.out.size))
  clear hb6
  go_wp2_with fail
  refine (canFind_any a1 1 c1 7 exC w6 (HK2.out.below Hq6.out) (by intro f hf; simp at hf; subst hf; exact ⟨good_one (s := (1, 6)) (by decide), by decide⟩)).mono ?_
  rintro e w7 ⟨rfl, hb7⟩
  rw [ex_seven]
  have HB7 := Lib.hid (HB6.out.trans (hb7.mono HB6.out.size))
  have Hq7 := Lib.hid (Hq6.out.trans (hb7.mono Hq6.out.size))
  clear hb7
  have hal : Below w7.heap.size w7 (w7.alloc (.cells #[.int .i64 0] 3)) := (Below.refl _ _).alloc (Nat.le_refl _) _
  have HEq := Lib.hid (equalI_any _ w7.heap.size _ _ [0] [0] _ (own_below HO2.out (Hq7.out.trans (hal.mono Hq7.out.size))) (lit_zero (row_new rfl)) (by decide) (by decide))
  have Hal := Lib.hid hal
  rw [show decide ([0] = [0]) = true from rfl] at HEq
  clear hal
  go_wp2_with fail
  refine HEq.out.mono ?_
  rintro e w8 ⟨rfl, hb8⟩
  have HB8 := Lib.hid (HB7.out.trans ((Hal.out.trans (hb8.mono Hal.out.size)).mono HB7.out.size))
  clear hb8 HEq
  have hR8 := HR.out _ (HbW.out.trans (HB8.out.mono HbW.out.size))
  go_wp2_with fail
  refine (canCheck_any _ 2 2 exK w8 (HE.out.below HB8.out) hR8.door hR8.codes ex_fitsK (by decide)).mono ?_
  rintro e w9 ⟨rfl, hb9⟩
  have HB9 := Lib.hid (HB8.out.trans (hb9.mono HB8.out.size))
  clear hb9 hR8
  rw [ex_ckK]
  simp only [errOf]
  go_wp2_with fail
  refine (code_any (some (((3 : Nat) : Int), some ((1 : Nat) : Int))) _ (HR.out _ (HbW.out.trans (HB9.out.mono HbW.out.size))).door).mono ?_
  rintro e w10 ⟨rfl, hb10⟩
  have HB10 := Lib.hid (HB9.out.trans (hb10.mono HB9.out.size))
  clear hb10
  simp only [errCode]
  go_wp2_with fail
  go_ret
  exact ⟨rfl, HbW.out.trans (HB10.out.mono HbW.out.size)⟩

end Go.Proofs.YtkkdlgcfcbaibaaGreatDoor
end

section
namespace Go.Proofs.YtkkdlgcfcbaibaaGreatDoor
set_option linter.unusedVariables false

abbrev Seg := Iv × Nat
end Go.Proofs.YtkkdlgcfcbaibaaGreatDoor
end

section
namespace Go.Proofs.YtkkdlgcfcbaibaaGreatDoor
set_option linter.unusedVariables false

theorem firstS_all {α : Type} {f : Nat → Option α} {n : Nat} (h : firstS f n = none) : ∀ j, j < n → f j = none := fun j hj => List.findSome?_eq_none_iff.1 h j (List.mem_range.2 hj)

def nthZ (l : List Int) (k : Nat) : Int := l.getD k 0
theorem nthZ_get {l : List Int} {k : Nat} (h : k < l.length) : nthZ l k = l[k] := by simp [nthZ, h]
def nthV (l : List Vec) (k : Nat) : Vec := l.getD k []
theorem nthV_get {l : List Vec} {k : Nat} (h : k < l.length) : nthV l k = l[k] := by simp [nthV, h]
theorem nthV_mem {l : List Vec} {k : Nat} (h : k < l.length) : nthV l k ∈ l := by rw [nthV_get h]; exact List.getElem_mem h

/-- The items with this index, of the first d segments. -/
def itB (l : List Iv) (ix : List Int) (i : Nat) : Nat → List Iv
  | 0 => []
  | d + 1 => itB l ix i d ++ if nthZ ix d = (i : Int) then [nthI l d] else []
def bldTo (vs : List Vec) (l : List Iv) (ix : List Int) (d : Nat) : Kno := (List.range vs.length).map fun i => (itB l ix i d, nthV vs i)
def bldK (vs : List Vec) (l : List Iv) (ix : List Int) : Kno := bldTo vs l ix l.length
def bldE1 (n : Nat) (ix : List Int) (i : Nat) : Option (Nat × Nat) := if nthZ ix i < 0 ∨ (n : Int) ≤ nthZ ix i then some (8, i) else none
def bldE2 (l : List Iv) (i : Nat) : Option (Nat × Nat) := if (nthI l i).2 < (nthI l i).1 then some (2, i) else if 0 < i ∧ (nthI l i).1 ≤ (nthI l (i - 1)).2 then some (3, i) else none
def bldE3 (l : List Iv) (ix : List Int) (i : Nat) : Option (Nat × Nat) := if 0 < i ∧ (nthI l i).1 = (nthI l (i - 1)).2 + 1 ∧ nthZ ix i = nthZ ix (i - 1) then some (10, i) else none
/-- The error of segments. -/
def segE (n : Nat) (l : List Iv) (ix : List Int) : Option (Int × Int) :=
  if l.length ≠ ix.length then some (8, -1) else
  (((firstS (bldE1 n ix) ix.length).or ((firstS (bldE2 l) l.length).or (firstS (bldE3 l ix) l.length)))).map fun p => ((p.1 : Int), (p.2 : Int))

theorem bld_len (vs : List Vec) (l : List Iv) (ix : List Int) (d : Nat) : (bldTo vs l ix d).length = vs.length := by simp [bldTo]
theorem bld_at {vs : List Vec} {l : List Iv} {ix : List Int} {d i : Nat} (h : i < vs.length) : nthF (bldTo vs l ix d) i = (itB l ix i d, nthV vs i) := by
  rw [nthF_get (by rw [bld_len]; exact h)]; simp [bldTo]

end Go.Proofs.YtkkdlgcfcbaibaaGreatDoor
end

section
namespace Go.Proofs.YtkkdlgcfcbaibaaGreatDoor
open Go.RowKit
set_option linter.unusedVariables false

def segI (L : List Seg) : List Iv := L.map (·.1)
def segX (L : List Seg) : List Nat := L.map (·.2)
/-- The two lists that are built, each in a row of the call's own. -/
structure Own2 (w : World) (base : Nat) (L : List Seg) (v u : Value) : Prop where
  ivs : w.ownsRow base 73 2 v L.length (ivC (segI L))
  idx : w.ownsRow base 3 1 u L.length (i64C (segX L))
  nil : L = [] → v = .slice none 0 0 ∧ u = .slice none 0 0
theorem Own2.below {w w' : World} {base : Nat} {L : List Seg} {v u : Value} (h : Own2 w base L v u) (hb : Below w.heap.size w w') : Own2 w' base L v u := ⟨own_below h.ivs hb, own_below h.idx hb, h.nil⟩
theorem own_form {w : World} {base sz n : Nat} {T : TypeId} {v : Value} {xs : List Value} (h : w.ownsRow base T sz v n xs) (hn : 0 < n) : ∃ g cap, v = .slice (some ⟨g, 0, none⟩) n cap ∧ base ≤ g ∧ g < w.heap.size ∧ n ≤ cap ∧ cap ≤ maxLen := by
  rcases h.2 with ⟨_, h0⟩ | ⟨g, cap, cur, hv, hg, hh, hnc, hcm, _⟩
  · omega
  · exact ⟨g, cap, hv, hg, (Array.getElem?_eq_some_iff.1 hh).1, hnc, hcm⟩
end Go.Proofs.YtkkdlgcfcbaibaaGreatDoor
end

section
namespace Go.Proofs.YtkkdlgcfcbaibaaGreatDoor
open Go.RowKit
set_option linter.unusedVariables false

/-- One interval is appended to intervals of the call's own: where the row lies then. -/
theorem run_append_iv_at {w : World} (base : Nat) (v : Value) (n : Nat) (xs : List Iv) (hown : w.ownsRow base 73 2 v n (ivC xs)) (A : Option Addr) (c : Nat) (s : Iv) (hr : Rd w 2 A 1 (ivC [s])) (hb : n + 1 ≤ 1000000) (hbase : base ≤ w.heap.size) :
    ∃ v' w', (Builtin.append_ #[28, 28] 28 #[v, .slice A 1 c]).run Tryz.prog w = .ok v' w' ∧ w'.ownsRow base 73 2 v' (n + 1) (ivC (xs ++ [s])) ∧ w.grownBy w' v.ownBlock ∧ ∀ g', v'.ownBlock = some g' → v.ownBlock = some g' ∨ w.heap.size ≤ g' := by
  rcases hown.2 with ⟨rfl, h0⟩ | ⟨g, cap, cur, rfl, hg, hrow, hnc, hcm, hcs, htake⟩
  · have hx : xs = [] := by
      have := hown.1
      rw [ivC_length, h0] at this
      exact List.length_eq_zero_iff.1 (by omega)
    subst h0 hx
    obtain ⟨v', w', h1, h2, h3⟩ := run_append_iv (w := w) w.heap.size (.slice none 0 0) 0 [] (World.ownsRow_nil _ _ _ _) A 1 c [s] hr (by omega) (Nat.le_refl _)
    exact ⟨v', w', h1, own_mono h2 hbase, h3, fun g' e => .inr (h2.lt _ e).1⟩
  · obtain ⟨i, hi, hz, hs, hby⟩ := info_parts Tryz.info_iv
    obtain ⟨b, o, rfl, hc⟩ := hr.2 (by omega)
    by_cases hf : n + 1 ≤ cap
    · obtain ⟨w', r1, r2, r3⟩ := run_append_fits (P := Tryz.prog) w base 28 28 73 i 2 Tryz.underlying28 hi hs g n cap _ hown ⟨b, o, none⟩ 1 c (ivC [s]) rfl (hr.news (by omega)) (ivC_one [s]) hf
      exact ⟨_, w', r1, by rw [ivC_append]; exact r2, r3, fun g' e => .inl e⟩
    · obtain ⟨v', w', r1, r2, r3⟩ := run_append_arg_grows (P := Tryz.prog) w 28 28 73 i _ 2 16 Tryz.underlying28 hi hz hs hby rfl (by omega) ⟨g, 0, none⟩ n cap (ivC xs) hown.1 (fun j u hu => hown.cells (g := g) rfl j u hu) ⟨b, o, none⟩ 1 c (ivC [s]) rfl (hr.news (by omega)) (by omega) (by unfold maxLen; omega) (by omega)
      exact ⟨v', w', r1, by rw [ivC_append]; exact own_mono r2 hbase, ⟨r3.os, r3.tape, r3.output, r3.size, fun k hk _ => r3.block k hk (by simp)⟩, fun g' e => .inr (r2.lt _ e).1⟩

theorem own_row {w w' : World} {base sz n : Nat} {e : TypeId} {v : Value} {xs : List Value} (h : w.ownsRow base e sz v n xs) (hk : ∀ k, v.ownBlock = some k → w'.heap[k]? = w.heap[k]?) : w'.ownsRow base e sz v n xs := by
  refine ⟨h.1, ?_⟩
  rcases h.2 with h2 | ⟨g, cap, cur, hv, hg, hh, r⟩
  · exact .inl h2
  · subst hv
    exact .inr ⟨g, cap, cur, rfl, hg, (hk g rfl).trans hh, r⟩

theorem map_set {β : Type} (f : Nat → β) (n k : Nat) (a : β) : ((List.range n).map f).set k a = (List.range n).map fun i => if i = k then a else f i := by
  refine List.ext_getElem (by simp) fun i h1 h2 => ?_
  rw [List.getElem_set]
  simp only [List.getElem_map, List.getElem_range]
  by_cases h : k = i
  · rw [if_pos h, if_pos h.symm]
  · rw [if_neg h, if_neg (fun e => h e.symm)]

theorem frgC_setA : ∀ (ss : List (Value × Value)) (k : Nat) (x : Value), (frgC ss).set (k * 2) x = frgC (ss.set k (x, (ss.getD k (x, x)).2))
  | [], k, x => by simp [frgC]
  | s :: ss, 0, x => rfl
  | s :: ss, k + 1, x => by
    have e1 : frgC (s :: ss) = s.1 :: s.2 :: frgC ss := rfl
    rw [e1, show (k + 1) * 2 = k * 2 + 1 + 1 by omega, List.set_cons_succ, List.set_cons_succ, frgC_setA ss k x]
    rfl
theorem frgC_setB : ∀ (ss : List (Value × Value)) (k : Nat) (x : Value), (frgC ss).set (k * 2 + 1) x = frgC (ss.set k ((ss.getD k (x, x)).1, x))
  | [], k, x => by simp [frgC]
  | s :: ss, 0, x => rfl
  | s :: ss, k + 1, x => by
    have e1 : frgC (s :: ss) = s.1 :: s.2 :: frgC ss := rfl
    rw [e1, show (k + 1) * 2 + 1 = (k * 2 + 1) + 1 + 1 by omega, List.set_cons_succ, List.set_cons_succ, frgC_setB ss k x]
    rfl

/-- The cells of n fragments, given by what each holds. -/
def frgF (n : Nat) (X Y : Nat → Value) : List Value := frgC ((List.range n).map fun i => (X i, Y i))
def upd {β : Type} (X : Nat → β) (k : Nat) (x : β) : Nat → β := fun i => if i = k then x else X i
theorem upd_at {β : Type} (X : Nat → β) (k : Nat) (x : β) : upd X k x k = x := if_pos rfl
theorem upd_other {β : Type} (X : Nat → β) {k i : Nat} (x : β) (h : i ≠ k) : upd X k x i = X i := if_neg h
theorem frgF_setX {n k : Nat} (hk : k < n) (X Y : Nat → Value) (x : Value) : (frgF n X Y).set (k * 2) x = frgF n (upd X k x) Y := by
  unfold frgF
  rw [frgC_setA, map_set]
  congr 1
  refine List.map_congr_left fun i hi => ?_
  by_cases h : i = k
  · subst h
    simp [upd, hk]
  · simp [upd, h]
theorem frgF_setY {n k : Nat} (hk : k < n) (X Y : Nat → Value) (x : Value) : (frgF n X Y).set (k * 2 + 1) x = frgF n X (upd Y k x) := by
  unfold frgF
  rw [frgC_setB, map_set]
  congr 1
  refine List.map_congr_left fun i hi => ?_
  by_cases h : i = k
  · subst h
    simp [upd, hk]
  · simp [upd, h]
theorem frgF_get {n k : Nat} (hk : k < n) (X Y : Nat → Value) : (frgF n X Y)[k * 2]? = some (X k) ∧ (frgF n X Y)[k * 2 + 1]? = some (Y k) :=
  frgC_get (p := (X k, Y k)) (by simp [hk])

theorem frgF_succ (n : Nat) (X Y : Nat → Value) : frgF (n + 1) X Y = frgF n X Y ++ [X n, Y n] := by
  unfold frgF
  rw [List.range_succ, List.map_append, frgC_append]
  rfl

/-- Knowledge that is being laid: the fragments in the row g, each list of items in a row of its own behind those of w2. -/
structure BldM (w2 w : World) (base g n c : Nat) (Y : Nat → Value) (L : Nat → List Iv) (X : Nat → Value) : Prop where
  kept : Kept (fun b => b < w2.heap.size ∧ b ≠ g) w2 w
  row : w.ownsRow base 39 2 (.slice (some ⟨g, 0, none⟩) n c) n (frgF n X Y)
  its : ∀ i, i < n → w.ownsRow w2.heap.size 73 2 (X i) (L i).length (ivC (L i))
  apart : ∀ i, i < n → ∀ j, j < n → i ≠ j → ∀ b, (X i).ownBlock = some b → (X j).ownBlock ≠ some b

theorem BldM.cells {w2 w : World} {base g n c : Nat} {Y : Nat → Value} {L : Nat → List Iv} {X : Nat → Value} (h : BldM w2 w base g n c Y L X) {i : Nat} (hi : i < n) : w.cell? ⟨g, i * 2, none⟩ = some (X i) ∧ w.cell? ⟨g, i * 2 + 1, none⟩ = some (Y i) := by
  obtain ⟨e1, e2⟩ := frgF_get hi X Y
  have c1 := h.row.cells (g := g) rfl _ _ e1
  have c2 := h.row.cells (g := g) rfl _ _ e2
  rw [add_at, Nat.zero_add] at c1 c2
  exact ⟨c1, c2⟩

theorem BldM.below {w2 w w' : World} {base g n c : Nat} {Y : Nat → Value} {L : Nat → List Iv} {X : Nat → Value} (h : BldM w2 w base g n c Y L X) (hb : Below w.heap.size w w') : BldM w2 w' base g n c Y L X :=
  ⟨h.kept.below hb, own_below h.row hb, fun i hi => own_below (h.its i hi) hb, h.apart⟩

/-- One more interval at fragment j. -/
theorem BldM.step {w2 w w' : World} {base g n c j : Nat} {Y : Nat → Value} {L L' : Nat → List Iv} {X : Nat → Value} (h : BldM w2 w base g n c Y L X) (hj : j < n) (hg : g < w2.heap.size) {v' : Value} {l : List Iv}
    (ho : w'.ownsRow w2.heap.size 73 2 v' l.length (ivC l)) (hgr : w.grownBy w' (X j).ownBlock) (hv : ∀ g', v'.ownBlock = some g' → (X j).ownBlock = some g' ∨ w.heap.size ≤ g') (hL : L' j = l) (hO : ∀ i, i ≠ j → L' i = L i) :
    BldM w2 (w'.setCell ⟨g, j * 2, none⟩ v') base g n c Y L' (upd X j v') := by
  have hne : ∀ k, (X j).ownBlock = some k → w2.heap.size ≤ k := fun k hk => ((h.its j hj).lt k hk).1
  have hgw : g < w.heap.size := Nat.lt_of_lt_of_le hg h.kept.size
  have hrow' : w'.ownsRow base 39 2 (.slice (some ⟨g, 0, none⟩) n c) n (frgF n X Y) := own_row h.row fun k hk => by
    have e : k = g := by simpa [Value.ownBlock] using hk.symm
    subst e
    exact hgr.block k hgw fun e => by have := hne k e.symm; omega
  have hset : ∀ k, w2.heap.size ≤ k → (w'.setCell ⟨g, j * 2, none⟩ v').heap[k]? = w'.heap[k]? := fun k hk => Below.heap_setCell _ _ _ _ (by simp only; omega)
  refine ⟨(h.kept.grown hgr fun k hk hl => ?_).setCell (fun _ h => h.2 rfl) _, ?_, fun i hi => ?_, fun i hi i' hi' hii b => ?_⟩
  · have := hne k hk; omega
  · rw [← frgF_setX hj]
    exact (hrow'.stored (j * 2) v').1
  · by_cases e : i = j
    · subst e
      rw [upd_at, hL]
      exact own_row ho fun k hk => hset k (ho.lt k hk).1
    · rw [upd_other _ _ e, hO i e]
      refine own_row (h.its i hi) fun k hk => ?_
      have hkl := (h.its i hi).lt k hk
      rw [hset k hkl.1]
      exact hgr.block k hkl.2 (fun e' => h.apart i hi j hj e k hk e'.symm)
  · by_cases e : i = j
    · subst e
      rw [upd_at, upd_other _ _ (fun e => hii e.symm)]
      intro hb hb'
      have hkl := (h.its i' hi').lt b hb'
      rcases hv b hb with h' | h'
      · exact h.apart i hi i' hi' hii b h' hb'
      · omega
    · rw [upd_other _ _ e]
      intro hb
      by_cases e' : i' = j
      · subst e'
        rw [upd_at]
        intro hb'
        have hkl := (h.its i hi).lt b hb
        rcases hv b hb' with h' | h'
        · exact h.apart i hi i' hi' hii b hb h'
        · omega
      · rw [upd_other _ _ e']
        exact h.apart i hi i' hi' hii b hb

/-- At the start no fragment has an item. -/
theorem bldM_start {w : World} {base g n c : Nat} {Y : Nat → Value} (h : w.ownsRow base 39 2 (.slice (some ⟨g, 0, none⟩) n c) n (frgF n (fun _ => .slice none 0 0) Y)) : BldM w w base g n c Y (fun _ => []) fun _ => .slice none 0 0 :=
  ⟨Kept.refl _ _, h, fun _ _ => World.ownsRow_nil _ _ _ _, fun i hi j hj _ b h => by simp [Value.ownBlock] at h⟩

/-- Entries that lay in rows of their types stay while Build goes on. -/
theorem enSl_kept {w2 w : World} {base g : Nat} {y : Value} {v : Vec} (h : EnSl w2 base y v) (hk : Kept (fun b => b < w2.heap.size ∧ b ≠ g) w2 w) {C : Array Value} {fr : Nat × Nat} (hg : w2.heap[g]? = some (.cells C 39 fr)) (hb : base ≤ g) : EnSl w base y v := by
  refine h.steady (P := isEnT) ⟨hk.size, fun k hk2 hp => hk.row k hk2 ⟨hk2, fun e => ?_⟩⟩ (.inl rfl) (.inr rfl)
  subst e
  rcases hp with h' | ⟨C', T, fr', hT, h'⟩
  · omega
  · rw [hg] at h'
    cases h'
    rcases hT with h | h <;> cases h

/-- The knowledge that was laid, read. -/
theorem BldM.frags {w2 w : World} {base g n c ib : Nat} {Y : Nat → Value} {L : Nat → List Iv} {X : Nat → Value} (h : BldM w2 w base g n c Y L X) (hg : base ≤ g) (hib : ib ≤ g) {k : Kno} (hk : k.length = n) (hL : ∀ i, i < n → (nthF k i).1 = L i) (h64 : ∀ i, i < n → Lt64 (L i)) (hY : ∀ i, i < n → EnSl w2 ib (Y i) (nthF k i).2)
    {C : Array Value} {fr : Nat × Nat} (hr : w2.heap[g]? = some (.cells C 39 fr)) : Frags w (some ⟨g, 0, none⟩) n c k := by
  have hcc : n ≤ c ∧ c ≤ 9223372036854775807 := by
    rcases h.row.2 with ⟨h', _⟩ | ⟨g', cap, cur, h', _, _, hnc, hcm, _⟩
    · cases h'
    · cases h'; unfold maxLen at hcm; omega
  refine ⟨hk, hcc.1, hcc.2, (by intro e; cases e), fun hn => ⟨g, 0, rfl, fun i hi => ?_⟩⟩
  · obtain ⟨c1, c2⟩ := h.cells hi
    rw [Nat.zero_add]
    constructor
    · obtain ⟨a, c, e, hI⟩ := ivs_own (h.its i hi) (h64 i hi)
      rw [e] at c1
      exact ⟨a, _, c, c1, by rw [hL i hi]; exact hI⟩
    · obtain ⟨a, m, c, e, hE⟩ := enSl_kept (hY i hi) h.kept hr hib
      rw [e] at c2
      exact ⟨a, m, c, c2, hE.ents⟩

theorem enSl_none (w : World) (base : Nat) : EnSl w base (.slice none 0 0) [] := ⟨none, 0, 0, rfl, rfl, (fun e he => by cases he), Nat.le_refl _, by omega, fun _ => rfl, (fun h => by omega), fun h => by omega⟩

/-! Lists of vectors. -/
structure Vecs (w : World) (a : Option Addr) (n cap : Nat) (vs : List Vec) : Prop where
  len : vs.length = n
  room : n ≤ cap
  most : cap ≤ 9223372036854775807
  nilc : a = none → cap = 0
  cells : 0 < n → ∃ b o, a = some ⟨b, o, none⟩ ∧ ∀ i, i < n → EnCell w ⟨b, o + i, none⟩ (nthV vs i)
theorem Vecs.below {w w' : World} {a : Option Addr} {n cap : Nat} {vs : List Vec} (h : Vecs w a n cap vs) (hb : Below w.heap.size w w') : Vecs w' a n cap vs := by
  refine ⟨h.len, h.room, h.most, h.nilc, fun hn => ?_⟩
  obtain ⟨b, o, ha, hc⟩ := h.cells hn
  exact ⟨b, o, ha, fun i hi => (hc i hi).below hb⟩
theorem Vecs.fix {w : World} {b o n cap : Nat} {vs : List Vec} (h : Vecs w (some ⟨b, o, none⟩) n cap vs) {i : Nat} (hi : i < n) : ∃ y m c, ∀ w', Below w.heap.size w w' → w'.cell? ⟨b, o + i, none⟩ = some (.slice y m c) ∧ Ents w' y m c (nthV vs i) := by
  obtain ⟨b', o', hs, hc⟩ := h.cells (by omega)
  cases hs
  obtain ⟨y, m, c, h1, h2⟩ := hc i hi
  exact ⟨y, m, c, fun w' hb => ⟨(hb.cell (cell_lt h1)).trans h1, h2.below hb⟩⟩
theorem Vecs.some {w : World} {a : Option Addr} {n cap : Nat} {vs : List Vec} (h : Vecs w a n cap vs) (hn : 0 < n) : ∃ b o, a = some ⟨b, o, none⟩ := by
  obtain ⟨b, o, ha, -⟩ := h.cells hn
  exact ⟨b, o, ha⟩

/-! Lists of ints. -/
structure Zs (w : World) (a : Option Addr) (n cap : Nat) (l : List Int) : Prop where
  len : l.length = n
  room : n ≤ cap
  most : cap ≤ 9223372036854775807
  nilc : a = none → cap = 0
  lt : ∀ x ∈ l, -9223372036854775808 ≤ x ∧ x ≤ 9223372036854775807
  cells : 0 < n → ∃ b o, a = some ⟨b, o, none⟩ ∧ ∀ i, i < n → w.cell? ⟨b, o + i, none⟩ = some (.int .i64 (nthZ l i))
theorem Zs.below {w w' : World} {a : Option Addr} {n cap : Nat} {l : List Int} (h : Zs w a n cap l) (hb : Below w.heap.size w w') : Zs w' a n cap l := by
  refine ⟨h.len, h.room, h.most, h.nilc, h.lt, fun hn => ?_⟩
  obtain ⟨b, o, ha, hc⟩ := h.cells hn
  exact ⟨b, o, ha, fun i hi => (hb.cell (p := ⟨b, o + i, none⟩) (cell_lt (hc i hi))).trans (hc i hi)⟩
end Go.Proofs.YtkkdlgcfcbaibaaGreatDoor
end

section
namespace Go.Proofs.YtkkdlgcfcbaibaaGreatDoor
open Go.RowKit Go.Extern.Stop Go.Stop Go.Extern
set_option linter.unusedVariables false

theorem Tryz.methodComparable (h : Value) (w : World) : (Go.method 420 186 (.agg #[h]) "Comparable").run Tryz.prog w = .ok (269, .agg #[h]) w := by kernel_rfl
theorem Tryz.comparableE (w : World) : (ReflectliteType.method (fun t => do Rtype.noPackHeld "Comparable" t; (fun a : TypeInfo => Value.bool a.comparable) <$> typeInfo t) #[.agg #[.pointer (some ⟨2, 50, none⟩)]]).run Tryz.prog w = .ok (.bool true) w := by kernel_rfl
theorem Tryz.asIsE (v : Value) (xT : TypeId) (w : World) : (Instr.typeAssert (.iface 50 v) xT 229 true).run Tryz.prog w = .ok (.tuple #[.nilIface, .bool false]) w :=
  run_typeAssert_lacksB Tryz.underlying229 (by kernel_rfl) (by kernel_rfl) v xT w

theorem eql_errno (c d : Int) (w : World) : (binOp .eql 41 (.iface 50 (.int .i64 c)) (.iface 50 (.int .i64 d))).run Tryz.prog w = .ok (.bool (decide (c = d))) w := by
  exact Lib.run_eql_iface_int w c d Tryz.underlying41 (by kernel_rfl) Tryz.underlying50

set_option maxHeartbeats 4000000 in
theorem is_EE (c d : Int) (w : World) :
    Calls Tryz.prog 134 #[.iface 50 (.int .i64 c), .iface 50 (.int .i64 d), .bool true] w fun e w' => e = .returned (.bool (decide (c = d))) ∧ w = w' := by
  have s1 := Tryz.asIsE
  have s2 := Tryz.asUnE
  have s3 := Tryz.asUmE
  by_cases h : c = d
  · have hq : ∀ w : World, (binOp .eql 41 (.iface 50 (.int .i64 c)) (.iface 50 (.int .i64 d))).run Tryz.prog w = .ok (.bool true) w := fun w => by rw [eql_errno, decide_eq_true h]
    have He := Lib.hid (decide_eq_true h)
    clear h
    go_enter Tryz.func134, Tryz.ntmps134
    go_wp2
    refine wp_loop_rounds 1 ?_
    rw [rounds_succ]
    go_wp2
    go_ret
    exact ⟨by rw [He.out]; rfl, rfl⟩
  · have hq : ∀ w : World, (binOp .eql 41 (.iface 50 (.int .i64 c)) (.iface 50 (.int .i64 d))).run Tryz.prog w = .ok (.bool false) w := fun w => by rw [eql_errno, decide_eq_false h]
    have He := Lib.hid (decide_eq_false h)
    clear h
    go_enter Tryz.func134, Tryz.ntmps134
    go_wp2
    refine wp_loop_rounds 1 ?_
    rw [rounds_succ]
    go_wp2
    go_ret
    exact ⟨by rw [He.out]; rfl, rfl⟩

set_option maxRecDepth 20000 in
set_option maxHeartbeats 4000000 in
theorem Is_code (c d : Int) (w : World) :
    Calls Tryz.prog 79 #[.iface 50 (.int .i64 c), .iface 50 (.int .i64 d)] w fun e w' => e = .returned (.bool (decide (c = d))) ∧ w = w' := by
  have hTO := @run_callFunc_extern Tryz.prog 133 _ ReflectliteType.typeOf Tryz.func133 (by kernel_rfl) (by kernel_rfl) (by kernel_rfl) (by kernel_rfl)
  have hCm := @run_callFunc_extern Tryz.prog 269 _ (ReflectliteType.method (fun t => do Rtype.noPackHeld "Comparable" t; pure (.bool (← typeInfo t).comparable))) Tryz.func269 (by kernel_rfl) (by kernel_rfl) (by kernel_rfl) (by kernel_rfl)
  have tO := Tryz.typeOfE
  have mC := Tryz.methodComparable
  have cE := Tryz.comparableE
  have hC := Lib.hid (is_EE c d)
  go_enter Tryz.func79, Tryz.ntmps79
  go_wp2_with fail
  refine (hC.out _).mono ?_
  rintro e w1 ⟨rfl, rfl⟩
  go_wp2_with fail
  go_ret
  exact ⟨rfl, rfl⟩

set_option maxRecDepth 20000 in
theorem Is_nil (d : Int) (w : World) : Calls Tryz.prog 79 #[.nilIface, .iface 50 (.int .i64 d)] w fun e w' => e = .returned (.bool false) ∧ w = w' := by
  have hq : ∀ w : World, (binOp .eql 41 .nilIface (.iface 50 (.int .i64 d))).run Tryz.prog w = .ok (.bool false) w := fun w => run_eql_iface_nil_left w 50 _ Tryz.underlying41
  go_enter Tryz.func79, Tryz.ntmps79
  go_wp2
  go_ret
  exact ⟨rfl, rfl⟩

end Go.Proofs.YtkkdlgcfcbaibaaGreatDoor
end
