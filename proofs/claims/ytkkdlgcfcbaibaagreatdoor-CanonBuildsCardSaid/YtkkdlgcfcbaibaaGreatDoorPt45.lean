/-
  Walks: slices.Clone at entries, vector.Clone.
-/
import Derived.Deep.Slices
import Derived.Test.YtkkdlgcfcbaibaaGreatDoorPt43
import Derived.Test.YtkkdlgcfcbaibaaGreatDoorPt27
namespace Go.Proofs.YtkkdlgcfcbaibaaGreatDoor
open Go.RowKit
set_option linter.unusedVariables false

theorem ents_parts {w : World} {a : Option Addr} {n cap : Nat} {v : Vec} (h : Ents w a n cap v) : ∃ ss, HolesT w w.heap.size v ss ∧ Rd w 3 a n (entC v ss) := by
  have hl := h.len
  rcases Nat.eq_zero_or_pos n with h0 | hn
  · subst h0
    have : v = [] := List.length_eq_zero_iff.1 hl
    subst this
    exact ⟨[], holesT_nil _ _, rfl, fun h => by omega⟩
  · obtain ⟨b, o, rfl, hc⟩ := h.cells hn
    have each : ∀ i, i < n → ∃ q : Value, w.cell? ⟨b, o + i * 3 + 2, none⟩ = some q ∧ ∃ x m c, q = .slice x m c ∧ IvsT w w.heap.size x m c (nthE v i).2.2 := fun i hi => by
      obtain ⟨-, -, x, m, c, h1, h2⟩ := hc i hi
      exact ⟨_, h1, x, m, c, rfl, ivsT_old h2⟩
    obtain ⟨f, hf⟩ := Deep.choose_lt each
    have hss : ((List.range n).map f).length = v.length := by simp [hl]
    have hget : ∀ i, i < n → ((List.range n).map f)[i]? = some (f i) := fun i hi => by simp [hi]
    refine ⟨(List.range n).map f, ⟨hss, fun i hi => ?_⟩, by rw [entC_length hss, hl], fun _ => ⟨b, o, rfl, fun j u hu => ?_⟩⟩
    · obtain ⟨x, m, c, e, hI⟩ := (hf i (by omega)).2
      exact ⟨x, m, c, by rw [hget i (by omega), e], hI⟩
    · have hj : j < v.length * 3 := by
        have := (List.getElem?_eq_some_iff.1 hu).1
        rwa [entC_length hss] at this
      have hq : j / 3 < n := by omega
      obtain ⟨e1, e2, e3⟩ := entC_get hss (i := j / 3) (by omega)
      obtain ⟨c1, c2, -⟩ := hc _ hq
      rcases (by omega : j = j / 3 * 3 ∨ j = j / 3 * 3 + 1 ∨ j = j / 3 * 3 + 2) with h | h | h
      · rw [h] at hu ⊢
        rw [e1] at hu
        cases hu
        exact c1
      · rw [h] at hu ⊢
        rw [e2] at hu
        cases hu
        rw [← Nat.add_assoc]
        exact c2
      · rw [h] at hu ⊢
        rw [e3, hget _ hq] at hu
        cases hu
        rw [← Nat.add_assoc]
        exact (hf _ hq).1

theorem entC_one {w : World} {base : Nat} {v : Vec} {ss : List Value} (h : HolesT w base v ss) : ∀ u ∈ entC v ss, u.oneCell' = true := by
  intro u hu
  obtain ⟨j, hj, rfl⟩ := List.getElem_of_mem hu
  have hj' : j < v.length * 3 := by rwa [entC_length h.1] at hj
  have hq : j / 3 < v.length := by omega
  obtain ⟨e1, e2, e3⟩ := entC_get h.1 hq
  obtain ⟨x, m, c, e, -⟩ := h.2 _ hq
  have hg := List.getElem?_eq_getElem hj
  rcases (by omega : j = j / 3 * 3 ∨ j = j / 3 * 3 + 1 ∨ j = j / 3 * 3 + 2) with h | h | h
  · rw [← h, hg] at e1
    rw [Option.some.inj e1]
    rfl
  · rw [← h, hg] at e2
    rw [Option.some.inj e2]
    rfl
  · rw [← h, hg, e] at e3
    rw [Option.some.inj e3]
    rfl

/-- Entries of the call's own, whose holes lie where they lie. -/
def OwnVB (w : World) (base hb : Nat) (x : Value) (v : Vec) : Prop := ∃ ss, w.ownsRow base 71 3 x v.length (entC v ss) ∧ HolesT w hb v ss

set_option maxHeartbeats 1000000 in
theorem cloneEn_any (a : Option Addr) (n c : Nat) (v : Vec) (w : World) (hE : Ents w a n c v) (hn : n ≤ 100000) :
    Calls Tryz.prog 81 #[.slice a n c] w fun e w' => (∃ x, e = .returned x ∧ OwnVB w' w.heap.size w.heap.size x v) ∧ Below w.heap.size w w' := by
  have hlen := hE.len
  have hnil := hE.nilc
  have hroom := hE.room
  obtain ⟨ss, hh, hr⟩ := ents_parts hE
  have Hh := Lib.hid hh
  clear hE
  cases a with
  | none =>
    have hc := hnil rfl
    have hl : v = [] := by apply List.eq_nil_of_length_eq_zero; omega
    subst hl
    have hq : ∀ (w : World) (n c : Nat), (binOp .eql 37 (.slice none n c) (.slice none 0 0)).run Tryz.prog w = .ok (.bool true) w := fun (w : World) (n c : Nat) => Lib.run_eql_slice_nil (P := Tryz.prog) w 37 71 none n c 0 0 Tryz.underlying37
    clear hnil hh hr hc hlen hroom
    go_enter Tryz.func81, Tryz.ntmps81
    go_wp2
    go_ret
    exact ⟨⟨_, rfl, [], World.ownsRow_nil _ _ _ _, holesT_nil _ _⟩, Below.refl _ _⟩
  | some p =>
    have hal : Below w.heap.size w (w.alloc (.cells #[] 71)) := (Below.refl _ _).alloc (Nat.le_refl _) _
    have Hal := Lib.hid hal
    have ho : (w.alloc (.cells #[] 71)).ownsRow w.heap.size 71 3 (.slice (some ⟨w.heap.size, 0, none⟩) 0 0) 0 [] := own_empty (row_new rfl) (Nat.le_refl _)
    obtain ⟨v', w8, hrun, ho8, hg8⟩ := run_append_rd (P := Tryz.prog) w.heap.size 37 37 71 _ 3 40 Tryz.underlying37 Tryz.info_ent rfl (by omega) _ 0 [] ho (some p) n c _ (hr.below hal) (entC_one hh) (by unfold maxLen; omega) (by omega) (by simp)
    have hq : ∀ (w : World) (n c : Nat), (binOp .eql 37 (.slice (some p) n c) (.slice none 0 0)).run Tryz.prog w = .ok (.bool false) w := fun (w : World) (n c : Nat) => Lib.run_eql_slice_nil (P := Tryz.prog) w 37 71 (some p) n c 0 0 Tryz.underlying37
    have Ho8 := Lib.hid ho8
    have Hb8 := Lib.hid (Below.grown Hal.out hg8 (by simp) (fun k hk => by cases hk; exact Nat.le_refl _))
    have Hrun := Lib.hid hrun
    clear hal hnil hh hr ho8 hg8 ho hrun
    go_enter Tryz.func81, Tryz.ntmps81
    go_wp2_with (at_builtin; refine wpList_append_hr _ _ 37 rfl rfl _ _ rfl rfl _ _ Hrun.out ?_)
    go_ret
    exact ⟨⟨v', rfl, ss, by rw [hlen]; have := Ho8.out; rwa [Nat.zero_add, List.nil_append] at this, Hh.out.steady (P := fun _ => True) (.of_below Hb8.out) trivial⟩, Hb8.out⟩

theorem entC_set2 : ∀ (v : Vec) (ss : List Value) (k : Nat) (x : Value), ss.length = v.length → (entC v ss).set (k * 3 + 2) x = entC v (ss.set k x)
  | [], [], k, x, _ => by simp [entC]
  | e :: v, s :: ss, 0, x, _ => rfl
  | e :: v, s :: ss, k + 1, x, h => by
    have e1 : ∀ ts t, entC (e :: v) (t :: ts) = .int .u64 ((e.1 : Nat) : Int) :: .int .u64 ((e.2.1 : Nat) : Int) :: t :: entC v ts := fun _ _ => rfl
    rw [e1, show (k + 1) * 3 + 2 = (k * 3 + 2) + 1 + 1 + 1 by omega, List.set_cons_succ, List.set_cons_succ, List.set_cons_succ, List.set_cons_succ, e1, entC_set2 v ss k x (by simpa using h)]
  | [], _ :: _, _, _, h => by simp at h
  | _ :: _, [], _, _, h => by simp at h

/-- The first d lists of holes lie in rows of their own kind. -/
def HolesD (w : World) (B d : Nat) (v : Vec) (ss : List Value) : Prop := ss.length = v.length ∧ ∀ i, i < v.length → ∃ a n c, ss[i]? = some (.slice a n c) ∧ IvsT w (if i < d then 0 else B) a n c (nthE v i).2.2
theorem HolesD.steady {w w' : World} {B d : Nat} {P : TypeId → Prop} {v : Vec} {ss : List Value} (h : HolesD w B d v ss) (hs : Steady 0 P w w') (hs2 : Steady B P w w') (hP : P 73) : HolesD w' B d v ss :=
  ⟨h.1, fun i hi => let ⟨a, n, c, h1, h2⟩ := h.2 i hi; ⟨a, n, c, h1, by
    by_cases e : i < d
    · rw [if_pos e] at h2 ⊢; exact h2.steady hs hP
    · rw [if_neg e] at h2 ⊢; exact h2.steady hs2 hP⟩⟩

set_option maxRecDepth 20000 in
set_option maxHeartbeats 2000000 in
theorem vecClone_any (a : Option Addr) (n c : Nat) (v : Vec) (w : World) (hE : Ents w a n c v) (hn : n ≤ 100000) (hh : ∀ e ∈ v, e.2.2.length ≤ 100000) :
    Calls Tryz.prog 47 #[.slice a n c] w fun e w' => (∃ x, e = .returned x ∧ OwnV w' w.heap.size x v) ∧ Below w.heap.size w w' := by
  have hC := Lib.hid (cloneEn_any a n c v w hE hn)
  have Hh := Lib.hid hh
  have hlen := hE.len
  have Hv := Lib.hid hE.lt
  clear hE hh
  go_enter Tryz.func47, Tryz.ntmps47
  go_wp2_with fail
  refine hC.out.mono ?_
  rintro e w1 ⟨⟨x, rfl, ss, ho, hs⟩, hb1⟩
  rw [hlen] at ho
  have Hlen := Lib.hid hlen
  rcases Nat.eq_zero_or_pos n with h0 | hn0
  · have hv : v = [] := List.length_eq_zero_iff.1 (by omega)
    have Hb1 := Lib.hid hb1
    rcases ho.2 with ⟨rfl, _⟩ | ⟨g, cap, cur, rfl, hg, hrow, hnc, hcm, hcs, htake⟩
    · have Ho := Lib.hid (show OwnV w1 w.heap.size (.slice none 0 0) v from by rw [hv]; exact ownV_nil _ _)
      clear ho hs hb1 hC hlen hv
      go_wp2
      go_loopw [4, 9] (fun _ i wr => i = .int .i64 0 ∧ wr = w1) (fun _ _ _ => 0)
      case atStart => exact ⟨rfl, rfl⟩
      case round =>
        obtain ⟨rfl, rfl⟩ := hrel
        go_wp2
        go_ret
        exact ⟨⟨_, rfl, Ho.out⟩, Hb1.out⟩
    · subst h0
      have Ho := Lib.hid (show OwnV w1 w.heap.size (.slice (some ⟨g, 0, none⟩) 0 cap) v from by
        rw [hv]
        refine ⟨[], ?_, holesT_nil _ _⟩
        have hss : ss = [] := List.length_eq_zero_iff.1 (by rw [hs.1, hv]; rfl)
        rw [hv, hss] at ho
        exact ho)
      clear ho hs hb1 hC hlen hv
      go_wp2
      go_loopw [4, 9] (fun _ i wr => i = .int .i64 0 ∧ wr = w1) (fun _ _ _ => 0)
      case atStart => exact ⟨rfl, rfl⟩
      case round =>
        obtain ⟨rfl, rfl⟩ := hrel
        go_wp2
        go_ret
        exact ⟨⟨_, rfl, Ho.out⟩, Hb1.out⟩
  · obtain ⟨g, cap, rfl, hgb, hgl, hnc, hcm⟩ := own_form ho hn0
    have Hb1 := Lib.hid hb1
    have hstart : HolesD w1 w.heap.size 0 v ss := ⟨hs.1, fun i hi => by
      obtain ⟨a, n, c, h1, h2⟩ := hs.2 i hi
      exact ⟨a, n, c, h1, h2⟩⟩
    have Ho := Lib.hid ho
    have Hst := Lib.hid hstart
    clear ho hs hb1 hC hlen hstart
    go_wp2
    go_loopw [4, 9] (fun _ i wr => ∃ d : Nat, d ≤ n ∧ i = .int .i64 d ∧ Below w.heap.size w wr ∧ Hid (∃ ss, wr.ownsRow w.heap.size 71 3 (.slice (some ⟨g, 0, none⟩) n cap) n (entC v ss) ∧ HolesD wr w.heap.size d v ss)) (fun _ i _ => n - (intOf i).toNat)
    case atStart => exact ⟨0, by omega, rfl, Hb1.out, ⟨ss, Ho.out, Hst.out⟩⟩
    case round =>
      obtain ⟨d, hd, rfl, hb, hr⟩ := hrel
      have Hb := Lib.hid hb; clear hb
      obtain ⟨ss', ho, hD⟩ := hr.out
      clear hr Ho Hst
      by_cases hdn : d < n
      · have hdv : d < v.length := by rw [Hlen.out]; exact hdn
        obtain ⟨x, m, c', e1, hI⟩ := hD.2 d hdv
        have hq := (entC_get hD.1 hdv).2.2
        rw [e1] at hq
        have q1 := ho.cells (g := g) rfl _ _ hq
        rw [add_at, Nat.zero_add] at q1
        have Hml := Lib.hid (Hh.out _ (nthE_mem hdv))
        have Hil := Lib.hid (show Lt64 (nthE v d).2.2 from (Hv.out _ (nthE_mem hdv)).holes)
        have hml := Hml.out
        rw [hI.ivs.len] at hml
        have hC := Lib.hid (cloneIv_any x m c' _ wr hI.ivs hml)
        have h0 : (0 : Int) ≤ d := by omega
        have h04 : (d : Int) < (n : Int) := by omega
        have Ho := Lib.hid ho
        have HD := Lib.hid hD
        clear ho hD hq hI hml e1
        go_wp2_with fail
        refine hC.out.mono ?_
        rintro e w2 ⟨⟨y, rfl, hoy⟩, hb2⟩
        have ho2 := own_below Ho.out hb2
        have Hb2 := Lib.hid (Hb.out.trans (hb2.mono Hb.out.size))
        obtain ⟨ya, yc, rfl, hIy⟩ := ivsT_own (base' := 0) hoy Hil.out
        have z1 := own_frozen ho2 (d * 3 + 2)
        have z2 : w2.cell? ⟨g, d * 3 + 2, none⟩ = some (.slice x m c') := (hb2.cell (p := ⟨g, d * 3 + 2, none⟩) (cell_lt q1)).trans q1
        have hrow : ∃ C fr, w2.heap[g]? = some (.cells C 71 fr) := by
          rcases ho2.2 with ⟨h, _⟩ | ⟨g', cap', cur, h, hg, hr, _⟩
          · cases h
          · cases h; exact ⟨_, _, hr⟩
        obtain ⟨C, fr, hrow⟩ := hrow
        have s0 : Steady 0 isIvT w2 (w2.setCell ⟨g, d * 3 + 2, none⟩ (.slice ya (nthE v d).2.2.length yc)) := Steady.setCell (a := ⟨g, d * 3 + 2, none⟩) hrow (Nat.zero_le _) (by intro h; cases h)
        have s1 : Steady w.heap.size isIvT w2 (w2.setCell ⟨g, d * 3 + 2, none⟩ (.slice ya (nthE v d).2.2.length yc)) := Steady.setCell (a := ⟨g, d * 3 + 2, none⟩) hrow hgb (by intro h; cases h)
        have HoF := Lib.hid (show (w2.setCell ⟨g, d * 3 + 2, none⟩ (.slice ya (nthE v d).2.2.length yc)).ownsRow w.heap.size 71 3 (.slice (some ⟨g, 0, none⟩) n cap) n (entC v (ss'.set d (.slice ya (nthE v d).2.2.length yc))) from by
          have := (ho2.stored (d * 3 + 2) (.slice ya (nthE v d).2.2.length yc)).1
          rwa [entC_set2 _ _ _ _ HD.out.1] at this)
        have HDF := Lib.hid (show HolesD (w2.setCell ⟨g, d * 3 + 2, none⟩ (.slice ya (nthE v d).2.2.length yc)) w.heap.size (d + 1) v (ss'.set d (.slice ya (nthE v d).2.2.length yc)) from by
          have hD2 := (HD.out.steady (P := fun _ => True) (.of_below hb2) (.of_below hb2) trivial).steady s0 s1 rfl
          refine ⟨by rw [List.length_set]; exact hD2.1, fun i hi => ?_⟩
          by_cases e : i = d
          · subst e
            refine ⟨ya, _, yc, by rw [List.getElem?_set_self (by rw [hD2.1]; exact hi)], ?_⟩
            rw [if_pos (by omega)]
            exact hIy.steady s0 rfl
          · obtain ⟨a, n, c, h1, h2⟩ := hD2.2 i hi
            refine ⟨a, n, c, by rw [List.getElem?_set_ne (fun h => e h.symm)]; exact h1, ?_⟩
            by_cases e2 : i < d
            · rw [if_pos e2] at h2; rw [if_pos (by omega)]; exact h2
            · rw [if_neg e2] at h2; rw [if_neg (by omega)]; exact h2)
        generalize (nthE v d).2.2.length = ym at *
        clear hb2 hoy hIy hrow s0 s1 ho2 q1 hC
        go_wp2
        go_roundw
        case rel => exact ⟨d + 1, by omega, by go_num, Hb2.out.setCell hgb _, ⟨_, HoF.out, HDF.out⟩⟩
        case measure => simp [intOf]; omega
      · obtain rfl : d = n := by omega
        have HF := Lib.hid (show OwnV wr w.heap.size (.slice (some ⟨g, 0, none⟩) d cap) v from ⟨ss', by rw [Hlen.out]; exact ho, hD.1, fun i hi => by
          obtain ⟨a, n, c, h1, h2⟩ := hD.2 i hi
          rw [if_pos (by rw [← Hlen.out]; exact hi)] at h2
          exact ⟨a, n, c, h1, h2⟩⟩)
        clear ho hD
        go_wp2
        go_ret
        exact ⟨⟨_, rfl, HF.out⟩, Hb.out⟩

end Go.Proofs.YtkkdlgcfcbaibaaGreatDoor
