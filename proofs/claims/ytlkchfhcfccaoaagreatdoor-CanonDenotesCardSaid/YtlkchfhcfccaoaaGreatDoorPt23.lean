/- Walks and laws, merged: part 23. -/
import Derived.Test.YtlkchfhcfccaoaaGreatDoorPt22
import Derived.Test.YtlkchfhcfccaoaaGreatDoorPt17
import Derived.Test.YtlkchfhcfccaoaaGreatDoorPt06
import Derived.Test.YtlkchfhcfccaoaaGreatDoorPt07
section
namespace Go.Proofs.YtlkchfhcfccaoaaGreatDoor
open Go.RowKit
set_option linter.unusedVariables false

/-- The cells of a fragment, with its slices for good. -/
theorem Frags.fix {w : World} {b o n cap : Nat} {k : Kno} (h : Frags w (some ⟨b, o, none⟩) n cap k) {i : Nat} (hi : i < n) : ∃ x m c y m' c', ∀ w', Below w.heap.size w w' →
    w'.cell? ⟨b, o + i * 2, none⟩ = some (.slice x m c) ∧ Ivs w' x m c (nthF k i).1 ∧ w'.cell? ⟨b, o + i * 2 + 1, none⟩ = some (.slice y m' c') ∧ Ents w' y m' c' (nthF k i).2 := by
  obtain ⟨b', o', hs, hc⟩ := h.cells (by omega)
  cases hs
  obtain ⟨⟨x, m, c, h1, h2⟩, ⟨y, m', c', h3, h4⟩⟩ := hc i hi
  exact ⟨x, m, c, y, m', c', fun w' hb => ⟨(hb.cell (p := ⟨b, o + i * 2, none⟩) (cell_lt h1)).trans h1, h2.below hb, (hb.cell (p := ⟨b, o + i * 2 + 1, none⟩) (cell_lt h3)).trans h3, h4.below hb⟩⟩
theorem Frags.some {w : World} {a : Option Addr} {n cap : Nat} {k : Kno} (h : Frags w a n cap k) (hn : 0 < n) : ∃ b o, a = some ⟨b, o, none⟩ := by
  obtain ⟨b, o, ha, -⟩ := h.cells hn
  exact ⟨b, o, ha⟩

set_option maxRecDepth 20000 in
set_option maxHeartbeats 2000000 in
theorem refCheck11_any (a : Option Addr) (n cap : Nat) (k : Kno) (w : World) (hE : Frags w a n cap k) :
    Calls Tryz.prog 42 #[.slice a n cap] w fun x w' => x = .returned (.tuple #[.int .i64 (errCode (errOf (ckF k))), .int .i64 (errAt (errOf (ckF k)))]) ∧ Below w.heap.size w w' := by
  have HE := Lib.hid hE
  have Hl := Lib.hid hE.len
  have hm : n ≤ 9223372036854775807 := Nat.le_trans hE.room hE.most
  have Hck := Lib.hid (show ckF k = firstS (ckFAt k) k.length from rfl)
  clear hE
  go_enter Tryz.func42, Tryz.ntmps42
  go_wp2
  go_loopw [4, 5, 6] (fun i _ _ wr => ∃ d : Nat, d ≤ n ∧ i = .int .i64 d ∧ Below w.heap.size w wr ∧ Hid (∀ j, j < d → ckFAt k j = none)) (fun i _ _ _ => n - (intOf i).toNat)
  case atStart => exact ⟨0, by omega, rfl, Below.refl _ _, fun j h => by omega⟩
  case round =>
    obtain ⟨d, hd, rfl, hb, ht⟩ := hrel
    have Hb := Lib.hid hb; clear hb
    by_cases hdn : d < n
    · have hdk : d < k.length := by rw [Hl.out]; exact hdn
      have HEr := Lib.hid (HE.out.below Hb.out)
      obtain ⟨bb, oo, rfl⟩ := HEr.out.some (by omega)
      obtain ⟨x, m, c, y, m', c', hq⟩ := HEr.out.fix hdn
      have Hq := Lib.hid hq
      have Hat := Lib.hid (show ckFAt k d = match ck (nthF k d).1 with | some x => some (x.1, d) | none => match ckV (nthF k d).2 with | some x => some (x.1, d) | none => none from rfl)
      have hC := Lib.hid (fun w' h => refCheck_any x m c (nthF k d).1 w' (hq w' h).2.1)
      have hV := Lib.hid (fun w' h => refCheck9_any y m' c' (nthF k d).2 w' (hq w' h).2.2.2)
      have h0 : (0 : Int) ≤ d := by omega
      have h04 : (d : Int) < (n : Int) := by omega
      obtain ⟨q1, -, q2, -⟩ := hq _ (Below.refl _ _)
      clear hq
      generalize nthF k d = f at *
      cases h : ck f.1 with
      | some z =>
        have hc0 := ck_code h
        obtain ⟨cd, ci⟩ := z
        rw [h] at Hat hC
        simp only [errOf, errCode, errAt] at Hat hC
        have hne : ((cd : Int) != 0) = true := by rw [bne_iff_ne]; simp at hc0; omega
        have heq : ((cd : Int) == 0) = false := by rw [beq_eq_false_iff_ne]; simp at hc0; omega
        have Hr := Lib.hid (firstS_some hdk ht.out Hat.out)
        clear h hc0 hV
        go_wp2_with fail
        refine (hC.out _ (Below.refl _ _)).mono ?_
        rintro z w1 ⟨rfl, hb1⟩
        have Hb1 := Lib.hid hb1; clear hb1
        go_wp2
        go_ret2
        exact ⟨by rw [Hck.out, Hr.out]; rfl, Hb.out.trans (Hb1.out.mono Hb.out.size)⟩
      | none =>
        rw [h] at Hat hC
        simp only [errOf, errCode, errAt] at Hat hC
        clear h
        go_wp2_with fail
        refine (hC.out _ (Below.refl _ _)).mono ?_
        rintro z w1 ⟨rfl, hb1⟩
        have Hb1 := Lib.hid hb1; clear hb1 q1 q2
        obtain ⟨q1, -, q2, -⟩ := Hq.out _ Hb1.out
        have Hw1 := Lib.hid (Hb.out.trans (Hb1.out.mono Hb.out.size))
        cases h : ckV f.2 with
        | some z =>
          have hc0 := ckV_code h
          obtain ⟨cd, ci⟩ := z
          rw [h] at Hat hV
          simp only [errOf, errCode, errAt] at Hat hV
          have hne : ((cd : Int) != 0) = true := by rw [bne_iff_ne]; simp at hc0; omega
          have Hr := Lib.hid (firstS_some hdk ht.out Hat.out)
          clear h hc0
          go_wp2_with fail
          refine (hV.out _ Hb1.out).mono ?_
          rintro z w2 ⟨rfl, hb2⟩
          have Hb2 := Lib.hid hb2; clear hb2
          go_wp2
          go_ret2
          exact ⟨by rw [Hck.out, Hr.out]; rfl, Hw1.out.trans (Hb2.out.mono Hw1.out.size)⟩
        | none =>
          rw [h] at Hat hV
          simp only [errOf, errCode, errAt] at Hat hV
          have Hr := Lib.hid (firstS_step ht.out Hat.out)
          clear h
          go_wp2_with fail
          refine (hV.out _ Hb1.out).mono ?_
          rintro z w2 ⟨rfl, hb2⟩
          have Hb2 := Lib.hid hb2; clear hb2
          go_wp2
          go_roundw
          case rel => exact ⟨d + 1, by omega, by go_num, Hw1.out.trans (Hb2.out.mono Hw1.out.size), Hr.out⟩
          case measure => simp [intOf]; omega
    · obtain rfl : d = n := by omega
      have Hr := Lib.hid (firstS_none (n := k.length) (fun j hj => ht.out j (by rw [← Hl.out]; exact hj)))
      go_wp2
      go_ret2
      exact ⟨by rw [Hck.out, Hr.out]; rfl, by first | exact Hb.out | exact below_drewN' Hb.out _⟩

theorem refRight11_any (a : Option Addr) (n cap : Nat) (k : Kno) (w : World) (hE : Frags w a n cap k) :
    Calls Tryz.prog 33 #[.slice a n cap] w fun x w' => x = .returned (.bool (decide (ckF k = none))) ∧ Below w.heap.size w w' := by
  have hC := Lib.hid (refCheck11_any a n cap k w hE)
  clear hE
  cases h : ckF k with
  | none =>
    rw [h] at hC
    simp only [errOf, errCode, errAt] at hC
    clear h
    go_enter Tryz.func33, Tryz.ntmps33
    go_wp2_with fail
    refine hC.out.mono ?_
    rintro e w1 ⟨rfl, hb1⟩
    have Hb1 := Lib.hid hb1; clear hb1
    go_wp2
    go_ret
    exact ⟨by simp, Hb1.out⟩
  | some x =>
    have hc0 := ckF_code h
    obtain ⟨cd, i⟩ := x
    rw [h] at hC
    simp only [errOf, errCode, errAt] at hC
    have hne : ((cd : Int) == 0) = false := by rw [beq_eq_false_iff_ne]; simp at hc0; omega
    clear h hc0
    go_enter Tryz.func33, Tryz.ntmps33
    go_wp2_with fail
    refine hC.out.mono ?_
    rintro e w1 ⟨rfl, hb1⟩
    have Hb1 := Lib.hid hb1; clear hb1
    go_wp2
    go_ret
    exact ⟨by simp, Hb1.out⟩

/-- Is a version known for an item, as the reference asks? -/
def hasK (k : Kno) (x r c : Nat) : Bool := k.any fun f => mem f.1 x && hasV f.2 r c

theorem hasK_eq {k : Kno} {x r c : Nat} (h : ∀ f ∈ k, f.2.Pairwise RepLt) : hasK k x r c = knownK k x r c := by
  unfold hasK knownK
  rw [Bool.eq_iff_iff, List.any_eq_true, List.any_eq_true]
  constructor
  · rintro ⟨f, hf, h1⟩; rw [hasV_eq (h f hf)] at h1; exact ⟨f, hf, h1⟩
  · rintro ⟨f, hf, h1⟩; rw [← hasV_eq (h f hf)] at h1; exact ⟨f, hf, h1⟩

theorem any_at {k : Kno} {p : Frg → Bool} {i : Nat} (hi : i < k.length) (h : p (nthF k i) = true) : k.any p = true := List.any_eq_true.2 ⟨_, nthF_mem hi, h⟩
theorem any_not {k : Kno} {p : Frg → Bool} (h : ∀ i, i < k.length → p (nthF k i) = false) : k.any p = false := by
  rw [Bool.eq_false_iff]
  intro h2
  obtain ⟨f, hf, h3⟩ := List.any_eq_true.1 h2
  obtain ⟨i, hi, rfl⟩ := List.getElem_of_mem hf
  have := h i hi
  rw [nthF_get hi, h3] at this
  cases this
theorem all_step {p : Nat → Prop} {d : Nat} (h : ∀ j, j < d → p j) (hd : p d) : ∀ j, j < d + 1 → p j := fun j hj => by
  by_cases e : j = d
  · rw [e]; exact hd
  · exact h j (by omega)

set_option maxRecDepth 20000 in
set_option maxHeartbeats 2000000 in
theorem refHas11_any (a : Option Addr) (n cap t r z : Nat) (k : Kno) (w : World) (hE : Frags w a n cap k) :
    Calls Tryz.prog 22 #[.slice a n cap, .int .u64 t, .int .u64 r, .int .u64 z] w fun x w' => x = .returned (.bool (hasK k t r z)) ∧ Below w.heap.size w w' := by
  have HE := Lib.hid hE
  have Hl := Lib.hid hE.len
  have hm : n ≤ 9223372036854775807 := Nat.le_trans hE.room hE.most
  obtain ⟨p, hp⟩ : ∃ p : Frg → Bool, p = fun f => mem f.1 t && hasV f.2 r z := ⟨_, rfl⟩
  have Hck := Lib.hid (show hasK k t r z = k.any p from by rw [hp]; rfl)
  have Hp := Lib.hid (show ∀ f, p f = (mem f.1 t && hasV f.2 r z) from fun f => by rw [hp])
  clear hE hp
  go_enter Tryz.func22, Tryz.ntmps22
  go_wp2
  go_loopw [9] (fun i wr => ∃ d : Nat, d ≤ n ∧ i = .int .i64 d ∧ Below w.heap.size w wr ∧ Hid (∀ j, j < d → p (nthF k j) = false)) (fun i _ => n - (intOf i).toNat)
  case atStart => exact ⟨0, by omega, rfl, Below.refl _ _, fun j h => by omega⟩
  case round =>
    obtain ⟨d, hd, rfl, hb, ht⟩ := hrel
    have Hb := Lib.hid hb; clear hb
    by_cases hdn : d < n
    · have hdk : d < k.length := by rw [Hl.out]; exact hdn
      have HEr := Lib.hid (HE.out.below Hb.out)
      obtain ⟨bb, oo, rfl⟩ := HEr.out.some (by omega)
      obtain ⟨x, m, c, y, m', c', hq⟩ := HEr.out.fix hdn
      have Hq := Lib.hid hq
      have Hat := Lib.hid (Hp.out (nthF k d))
      have Hyes := Lib.hid (any_at (p := p) hdk)
      have Hno := Lib.hid (fun h => all_step (p := fun j => p (nthF k j) = false) ht.out h)
      have hC := Lib.hid (fun w' h => refHas_any x m c t (nthF k d).1 w' (hq w' h).2.1)
      have hV := Lib.hid (fun w' h => refHas9_any y m' c' r z (nthF k d).2 w' (hq w' h).2.2.2)
      have h0 : (0 : Int) ≤ d := by omega
      have h04 : (d : Int) < (n : Int) := by omega
      obtain ⟨q1, -, q2, -⟩ := hq _ (Below.refl _ _)
      clear hq
      generalize nthF k d = f at *
      generalize mem f.1 t = b1 at *
      generalize hasV f.2 r z = b2 at *
      cases b1 with
      | false =>
        have Hs := Lib.hid (Hno.out (by rw [Hat.out]; rfl))
        clear hV Hyes Hno
        go_wp2_with fail
        refine (hC.out _ (Below.refl _ _)).mono ?_
        rintro e w1 ⟨rfl, hb1⟩
        have Hb1 := Lib.hid hb1; clear hb1
        go_wp2
        go_roundw
        case rel => exact ⟨d + 1, by omega, by go_num, Hb.out.trans (Hb1.out.mono Hb.out.size), Hs.out⟩
        case measure => simp [intOf]; omega
      | true =>
        go_wp2_with fail
        refine (hC.out _ (Below.refl _ _)).mono ?_
        rintro e w1 ⟨rfl, hb1⟩
        have Hb1 := Lib.hid hb1; clear hb1 q1 q2
        obtain ⟨q1, -, q2, -⟩ := Hq.out _ Hb1.out
        have Hw1 := Lib.hid (Hb.out.trans (Hb1.out.mono Hb.out.size))
        go_wp2_with fail
        refine (hV.out _ Hb1.out).mono ?_
        rintro e w2 ⟨rfl, hb2⟩
        have Hw2 := Lib.hid (Hw1.out.trans (hb2.mono Hw1.out.size)); clear hb2
        cases b2 with
        | true =>
          have Hs := Lib.hid (Hyes.out (by rw [Hat.out]; rfl))
          clear Hyes Hno
          go_wp2
          go_ret
          exact ⟨by rw [Hck.out, Hs.out]; rfl, Hw2.out⟩
        | false =>
          have Hs := Lib.hid (Hno.out (by rw [Hat.out]; rfl))
          clear Hyes Hno
          go_wp2
          go_roundw
          case rel => exact ⟨d + 1, by omega, by go_num, Hw2.out, Hs.out⟩
          case measure => simp [intOf]; omega
    · obtain rfl : d = n := by omega
      have Hr := Lib.hid (any_not (k := k) (p := p) (fun j hj => ht.out j (by rw [← Hl.out]; exact hj)))
      go_wp2
      go_ret
      exact ⟨by rw [Hck.out, Hr.out]; rfl, Hb.out⟩

def fewF (f : Frg) : Bool := decide (f.1.length ≤ 20) && fewV f.2
def fewK (k : Kno) : Bool := k.all fewF && decide (k.length ≤ 12)

theorem all_not {k : Kno} {p : Frg → Bool} {i : Nat} (hi : i < k.length) (h : p (nthF k i) = false) : k.all p = false := by
  rw [Bool.eq_false_iff]
  intro h2
  rw [List.all_eq_true.1 h2 _ (nthF_mem hi)] at h
  cases h
theorem all_of {k : Kno} {p : Frg → Bool} (h : ∀ i, i < k.length → p (nthF k i) = true) : k.all p = true := by
  rw [List.all_eq_true]
  intro f hf
  obtain ⟨i, hi, rfl⟩ := List.getElem_of_mem hf
  have := h i hi
  rwa [nthF_get hi] at this

set_option maxRecDepth 20000 in
set_option maxHeartbeats 2000000 in
theorem refFew11_any (a : Option Addr) (n cap : Nat) (k : Kno) (w : World) (hE : Frags w a n cap k) :
    Calls Tryz.prog 15 #[.slice a n cap] w fun x w' => x = .returned (.bool (fewK k)) ∧ Below w.heap.size w w' := by
  have HE := Lib.hid hE
  have Hl := Lib.hid hE.len
  have hm : n ≤ 9223372036854775807 := Nat.le_trans hE.room hE.most
  have Hck := Lib.hid (show fewK k = (k.all fewF && decide (k.length ≤ 12)) from rfl)
  clear hE
  go_enter Tryz.func15, Tryz.ntmps15
  go_wp2
  go_loopw [3] (fun i wr => ∃ d : Nat, d ≤ n ∧ i = .int .i64 d ∧ Below w.heap.size w wr ∧ Hid (∀ j, j < d → fewF (nthF k j) = true)) (fun i _ => n - (intOf i).toNat)
  case atStart => exact ⟨0, by omega, rfl, Below.refl _ _, fun j h => by omega⟩
  case round =>
    obtain ⟨d, hd, rfl, hb, ht⟩ := hrel
    have Hb := Lib.hid hb; clear hb
    by_cases hdn : d < n
    · have hdk : d < k.length := by rw [Hl.out]; exact hdn
      have HEr := Lib.hid (HE.out.below Hb.out)
      obtain ⟨bb, oo, rfl⟩ := HEr.out.some (by omega)
      obtain ⟨x, m, c, y, m', c', hq⟩ := HEr.out.fix hdn
      have Hat := Lib.hid (show fewF (nthF k d) = (decide ((nthF k d).1.length ≤ 20) && fewV (nthF k d).2) from rfl)
      have Hyes := Lib.hid (all_not (p := fewF) hdk)
      have Hno := Lib.hid (fun h => all_step (p := fun j => fewF (nthF k j) = true) ht.out h)
      have hV := Lib.hid (refFew9_any y m' c' (nthF k d).2 wr (hq _ (Below.refl _ _)).2.2.2)
      have h0 : (0 : Int) ≤ d := by omega
      have h04 : (d : Int) < (n : Int) := by omega
      obtain ⟨q1, hI, q2, -⟩ := hq _ (Below.refl _ _)
      rw [hI.len] at Hat
      clear hq hI
      generalize nthF k d = f at *
      generalize fewF f = bf at *
      generalize fewV f.2 = b2 at *
      by_cases h20 : m ≤ 20
      · have hd1 : decide (20 < (m : Int)) = false := by rw [decide_eq_false_iff_not]; omega
        have hd2 : decide (m ≤ 20) = true := by rw [decide_eq_true_iff]; exact h20
        rw [hd2] at Hat
        clear h20 hd2
        go_wp2_with fail
        refine hV.out.mono ?_
        rintro e w1 ⟨rfl, hb1⟩
        have Hb1 := Lib.hid (Hb.out.trans (hb1.mono Hb.out.size)); clear hb1
        cases b2 with
        | true =>
          have Hs := Lib.hid (Hno.out (by rw [Hat.out]; rfl))
          clear Hyes Hno
          go_wp2
          go_roundw
          case rel => exact ⟨d + 1, by omega, by go_num, Hb1.out, Hs.out⟩
          case measure => simp [intOf]; omega
        | false =>
          have Hs := Lib.hid (Hyes.out (by rw [Hat.out]; rfl))
          clear Hyes Hno
          go_wp2
          go_ret
          exact ⟨by rw [Hck.out, Hs.out]; rfl, Hb1.out⟩
      · have hd1 : decide (20 < (m : Int)) = true := by rw [decide_eq_true_iff]; omega
        have hd2 : decide (m ≤ 20) = false := by rw [decide_eq_false_iff_not]; exact h20
        rw [hd2] at Hat
        have Hs := Lib.hid (Hyes.out (by rw [Hat.out]; rfl))
        clear h20 hd2 hV Hyes Hno
        go_wp2
        go_ret
        exact ⟨by rw [Hck.out, Hs.out]; rfl, Hb.out⟩
    · obtain rfl : d = n := by omega
      have Hr := Lib.hid (all_of (k := k) (p := fewF) (fun j hj => ht.out j (by rw [← Hl.out]; exact hj)))
      have Hd1 := Lib.hid (show decide ((d : Int) ≤ 12) = decide (k.length ≤ 12) from by rw [Hl.out]; exact decide_eq_decide.2 (by omega))
      go_wp2
      go_ret
      exact ⟨by rw [Hck.out, Hr.out, Bool.true_and, ← Hd1.out]; rfl, Hb.out⟩

end Go.Proofs.YtlkchfhcfccaoaaGreatDoor
end

section
namespace Go.Proofs.YtlkchfhcfccaoaaGreatDoor
open Go.RowKit
set_option linter.unusedVariables false

/-! Slices of ints that are numbers. -/
def i64C (l : List Nat) : List Value := l.map fun x => Value.int .i64 ((x : Nat) : Int)
theorem i64C_append (a b : List Nat) : i64C (a ++ b) = i64C a ++ i64C b := by simp [i64C]
theorem i64C_length (a : List Nat) : (i64C a).length = a.length := by simp [i64C]
theorem i64C_get (l : List Nat) (i : Nat) (h : i < l.length) : (i64C l)[i]? = some (.int .i64 ((nth l i : Nat) : Int)) := by simp [i64C, nth, h]
theorem i64C_one (l : List Nat) : ∀ u ∈ i64C l, u.oneCell' = true := by
  intro u hu
  simp only [i64C, List.mem_map] at hu
  obtain ⟨x, _, rfl⟩ := hu
  rfl

structure I64s (w : World) (a : Option Addr) (n cap : Nat) (l : List Nat) : Prop where
  len : l.length = n
  room : n ≤ cap
  most : cap ≤ 9223372036854775807
  nilc : a = none → cap = 0
  cells : 0 < n → ∃ b o, a = some ⟨b, o, none⟩ ∧ ∀ i, i < n → w.cell? ⟨b, o + i, none⟩ = some (.int .i64 ((nth l i : Nat) : Int))

theorem I64s.below {w w' : World} {a : Option Addr} {n cap : Nat} {l : List Nat} (h : I64s w a n cap l) (hb : Below w.heap.size w w') : I64s w' a n cap l := by
  refine ⟨h.len, h.room, h.most, h.nilc, fun hn => ?_⟩
  obtain ⟨b, o, ha, hc⟩ := h.cells hn
  refine ⟨b, o, ha, fun i hi => ?_⟩
  have := hc i hi
  exact (hb.cell (p := ⟨b, o + i, none⟩) (cell_lt this)).trans this

theorem i64s_own {w : World} {base n : Nat} {T : TypeId} {v : Value} {l : List Nat} (h : w.ownsRow base T 1 v n (i64C l)) : ∃ a cap, v = .slice a n cap ∧ I64s w a n cap l := by
  have hlen : l.length = n := by have := h.1; rw [i64C_length] at this; omega
  rcases h.2 with ⟨rfl, rfl⟩ | ⟨g, cap, cur, rfl, hg, hh, hnc, hcm, _⟩
  · exact ⟨none, 0, rfl, hlen, by omega, by omega, fun _ => rfl, fun h => by omega⟩
  · refine ⟨_, _, rfl, hlen, hnc, by unfold maxLen at hcm; omega, (by intro h; cases h), fun hn => ⟨g, 0, rfl, fun i hi => ?_⟩⟩
    have hc := h.cells (g := g) rfl i (.int .i64 ((nth l i : Nat) : Int)) (i64C_get l i (by omega))
    rw [add_at] at hc
    exact hc

theorem Tryz.info_int : (Tryz.prog.info? 3).map (fun i => (i.zero, i.size, i.bytes)) = some (some (.int .i64 0), 1, 8) := by kernel_rfl

theorem run_append_i64 {w : World} (base : Nat) (v : Value) (n : Nat) (xs : List Nat) (hown : w.ownsRow base 3 1 v n (i64C xs)) (A : Option Addr) (m c : Nat) (l : List Nat) (hr : Rd w 1 A m (i64C l)) (hb : n + m ≤ 1000000) (hbase : base ≤ w.heap.size) :
    ∃ v' w', (Builtin.append_ #[48, 48] 48 #[v, .slice A m c]).run Tryz.prog w = .ok v' w' ∧ w'.ownsRow base 3 1 v' (n + m) (i64C (xs ++ l)) ∧ w.grownBy w' v.ownBlock := by
  rw [i64C_append]
  exact run_append_rd base _ _ _ _ 1 8 Tryz.underlying48 Tryz.info_int rfl (by omega) v n _ hown A m c _ hr (i64C_one l) (by unfold maxLen; omega) (by omega) hbase

theorem wpList_append_i64 {w : World} {ops : Array Oper} {rest : List Oper} {o : Oper} {a : Act} {Q : Exit → Act → World → Prop} (hgd : o.guard = none) (s x : Operand)
    (ho : o.op = .call { callee := .builtin .append, args := #[s, x], argTypes := #[48, 48] }) (hty : o.type = 48)
    (base : Nat) (v : Value) (n : Nat) (xs : List Nat) (hs : a.eval s = v) (hown : w.ownsRow base 3 1 v n (i64C xs)) (A : Option Addr) (m c : Nat) (l : List Nat) (hx : a.eval x = .slice A m c) (hr : Rd w 1 A m (i64C l)) (hb : n + m ≤ 1000000) (hbase : base ≤ w.heap.size)
    (h : ∀ v' w', w'.ownsRow base 3 1 v' (n + m) (i64C (xs ++ l)) → w.grownBy w' v.ownBlock → wpList Tryz.prog ops Q rest (a.put o.dst v') w') : wpList Tryz.prog ops Q (o :: rest) a w := by
  obtain ⟨v', w', hrun, h1, h2⟩ := run_append_i64 base v n xs hown A m c l hr hb hbase
  exact wpList_append_hr _ _ _ ho (by simp [Region.wanted, hgd]) _ _ hs hx v' w' (by rw [hty]; exact hrun) (h v' w' h1 h2)

end Go.Proofs.YtlkchfhcfccaoaaGreatDoor
end
