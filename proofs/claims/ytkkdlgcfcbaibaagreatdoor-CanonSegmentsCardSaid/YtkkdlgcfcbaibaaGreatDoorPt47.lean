/- Walks and laws, merged: part 47. -/
import Derived.Test.YtkkdlgcfcbaibaaGreatDoorPt39
import Derived.Test.YtkkdlgcfcbaibaaGreatDoorPt20
import Derived.Test.YtkkdlgcfcbaibaaGreatDoorPt40
import Derived.Test.YtkkdlgcfcbaibaaGreatDoorPt41
import Derived.Test.YtkkdlgcfcbaibaaGreatDoorPt45
import Derived.Test.YtkkdlgcfcbaibaaGreatDoorPt46
section
namespace Go.Proofs.YtkkdlgcfcbaibaaGreatDoor
set_option linter.unusedVariables false

theorem meet_some {a b : List Iv} (ha : Lt64 a) (hb : Lt64 b) : opL gAnd a b ≠ [] ↔ ∃ x, mem a x = true ∧ mem b x = true := by
  obtain ⟨g1, g2, g3⟩ := opL_good (g := gAnd) ha hb rfl
  constructor
  · intro hne
    obtain ⟨x, hx⟩ := good_first g1 hne
    rw [g2] at hx
    unfold gAnd at hx
    rw [Bool.and_eq_true] at hx
    exact ⟨x, hx⟩
  · rintro ⟨x, h1, h2⟩ he
    have := g2 x
    rw [he, mem_nil, h1, h2] at this
    cases this

theorem wrong_zero {k : Kno} {i : Nat} : wrongK k i = 0 ↔ ((nthF k i).1 ≠ [] ∧ (nthF k i).2 ≠ []) ∧ canVB (nthF k i).2 = true ∧ (∀ j, j < i → opL gAnd (nthF k i).1 (nthF k j).1 = []) ∧ (0 < i → cmpV (nthF k (i - 1)).2 (nthF k i).2 = -1) := by
  unfold wrongK
  constructor
  · intro h
    split at h
    · cases h
    · rename_i h1
      rw [not_or] at h1
      split at h
      · cases h
      · rename_i h2
        split at h
        · cases h
        · rename_i h3
          split at h
          · cases h
          · rename_i h4
            refine ⟨h1, by simpa using h2, fun j hj => ?_, fun h0 => ?_⟩
            · refine Decidable.by_contra fun hn => h3 ?_
              exact List.any_eq_true.2 ⟨j, by simpa using hj, decide_eq_true hn⟩
            · exact Decidable.by_contra fun hn => h4 ⟨h0, hn⟩
  · rintro ⟨h1, h2, h3, h4⟩
    rw [if_neg (fun h => h.elim h1.1 h1.2), if_neg (by rw [h2]; simp), if_neg, if_neg]
    · rintro ⟨h0, hn⟩; exact hn (h4 h0)
    · intro h
      obtain ⟨j, hj, hn⟩ := List.any_eq_true.1 h
      exact of_decide_eq_true hn (h3 j (by simpa using hj))

theorem pw_idx {k : Kno} (h : ∀ i j, i < j → j < k.length → VecLt (nthF k i) (nthF k j)) : k.Pairwise VecLt := by
  rw [List.pairwise_iff_getElem]
  intro i j hi hj hij
  have := h i j hij hj
  rwa [nthF_get hi, nthF_get hj] at this
theorem idx_pw {k : Kno} (h : k.Pairwise VecLt) {i j : Nat} (hij : i < j) (hj : j < k.length) : VecLt (nthF k i) (nthF k j) := by
  have := List.pairwise_iff_getElem.1 h i j (by omega) hj hij
  rwa [nthF_get (by omega), nthF_get hj]

theorem can_ck {k : Kno} (hk : LtK k) (hc : CanK k) : ckC k = none := by
  have h1 : ckF k = none := ckF_none.2 fun f hf => ⟨(hc.items f hf).1, canV_ck (hc.vec f hf).1⟩
  unfold ckC
  rw [h1]
  refine firstS_none fun i hi => ?_
  unfold ckWr
  have hm := nthF_mem hi
  rw [if_pos (wrong_zero.2 ⟨⟨(hc.items _ hm).2, (hc.vec _ hm).2⟩, canVB_iff.2 (hc.vec _ hm).1, fun j hj => ?_, fun h0 => idx_pw hc.asc (by omega) hi⟩)]
  have hmj := nthF_mem (k := k) (i := j) (by omega)
  refine Decidable.by_contra fun hn => ?_
  obtain ⟨x, x1, x2⟩ := (meet_some (hk _ hm).items (hk _ hmj).items).1 hn
  have e := hc.apart _ hm _ hmj x x1 x2
  have hl := idx_pw hc.asc hj hi
  rw [e] at hl
  unfold VecLt at hl
  rw [cmpV_self] at hl
  cases hl

theorem ck_can {k : Kno} (hl : ∀ f ∈ k, Lt64 f.1 ∧ LtV f.2) (h : ckC k = none) : LtK k ∧ CanK k := by
  have h1 : ckF k = none := by
    unfold ckC at h
    split at h
    · cases h
    · assumption
  have hk := ltK_of hl h1
  unfold ckC at h
  rw [h1] at h
  have hw : ∀ i, i < k.length → wrongK k i = 0 := fun i hi => by
    have := firstS_of_none h i hi
    unfold ckWr at this
    split at this
    · assumption
    · cases this
  have hz := fun i hi => wrong_zero.1 (hw i hi)
  have hstep : ∀ i, i + 1 < k.length → VecLt (nthF k i) (nthF k (i + 1)) := fun i hi => (hz (i + 1) hi).2.2.2 (by omega)
  have hlt : ∀ j i, i < j → j < k.length → VecLt (nthF k i) (nthF k j) := fun j => by
    induction j with
    | zero => intro i h; omega
    | succ j ih =>
      intro i hij hj
      rcases Nat.lt_or_ge i j with h | h
      · exact cmpV_trans (ih i h (by omega)) (hstep j hj)
      · rw [show i = j by omega]; exact hstep j hj
  refine ⟨hk, ⟨fun f hf => ?_, fun f hf => ?_, fun f hf g hg x hx hy => ?_, pw_idx fun i j hij hj => hlt j i hij hj⟩⟩
  · obtain ⟨i, hi, rfl⟩ := List.getElem_of_mem hf
    rw [← nthF_get hi]
    exact ⟨((ckF_none.1 h1) _ (nthF_mem hi)).1, (hz i hi).1.1⟩
  · obtain ⟨i, hi, rfl⟩ := List.getElem_of_mem hf
    rw [← nthF_get hi]
    exact ⟨canVB_iff.1 (hz i hi).2.1, (hz i hi).1.2⟩
  · obtain ⟨i, hi, rfl⟩ := List.getElem_of_mem hf
    obtain ⟨j, hj, rfl⟩ := List.getElem_of_mem hg
    rw [← nthF_get hi, ← nthF_get hj] at *
    rcases Nat.lt_trichotomy i j with h2 | h2 | h2
    · exact absurd ((hz j hj).2.2.1 i h2) ((meet_some (hk _ (nthF_mem hj)).items (hk _ (nthF_mem hi)).items).2 ⟨x, hy, hx⟩)
    · rw [h2]
    · exact absurd ((hz i hi).2.2.1 j h2) ((meet_some (hk _ (nthF_mem hi)).items (hk _ (nthF_mem hj)).items).2 ⟨x, hx, hy⟩)

end Go.Proofs.YtkkdlgcfcbaibaaGreatDoor
end

section
namespace Go.Proofs.YtkkdlgcfcbaibaaGreatDoor
open Go.RowKit
set_option linter.unusedVariables false

theorem same_refl {a d : Option Addr} {n c n' c' : Nat} {v : Kno} {w : World} (hE : Frags w a n c v) (hF : Frags w d n' c' v) :
    Calls Tryz.prog 19 #[.slice a n c, .slice d n' c'] w fun x w' => x = .returned (.bool true) ∧ Below w.heap.size w w' := by
  have h := refSame11_any a d n c n' c' v v w hE hF
  rwa [show decide (v = v) = true from decide_eq_true rfl] at h

theorem Tryz.info_vec : (Tryz.prog.info? 37).map (fun i => (i.zero, i.size, i.bytes)) = some (some (.slice none 0 0), 1, 24) := by kernel_rfl

theorem run_append_vec {w : World} (base : Nat) (v : Value) (n : Nat) (xs : List Value) (hown : w.ownsRow base 37 1 v n xs) (A : Option Addr) (c : Nat) (a : Option Addr) (m p : Nat) (hr : Rd w 1 A 1 [.slice a m p]) (hb : n + 1 ≤ 1000000) (hbase : base ≤ w.heap.size) :
    ∃ v' w', (Builtin.append_ #[35, 35] 35 #[v, .slice A 1 c]).run Tryz.prog w = .ok v' w' ∧ w'.ownsRow base 37 1 v' (n + 1) (xs ++ [.slice a m p]) ∧ w.grownBy w' v.ownBlock :=
  run_append_rd base _ _ _ _ 1 24 Tryz.underlying35 Tryz.info_vec rfl (by omega) v n _ hown A 1 c _ hr (by simp [Value.oneCell']) (by unfold maxLen; omega) (by omega) hbase

theorem vecs_own {w : World} {base n : Nat} {v : Value} {ys : List Value} {vs : List Vec} (h : w.ownsRow base 37 1 v n ys) (hl : vs.length = n) (hy : ∀ i, i < n → ∃ a m c, ys[i]? = some (.slice a m c) ∧ Ents w a m c (nthV vs i)) : ∃ a c, v = .slice a n c ∧ Vecs w a n c vs := by
  rcases h.2 with ⟨rfl, h0⟩ | ⟨g, cap, cur, rfl, hg, hr, hnc, hcm, _⟩
  · exact ⟨none, 0, by rw [h0], hl, by omega, by omega, fun _ => rfl, fun h => by omega⟩
  · refine ⟨_, cap, rfl, hl, hnc, by unfold maxLen at hcm; omega, (by intro e; cases e), fun hn => ⟨g, 0, rfl, fun i hi => ?_⟩⟩
    obtain ⟨a, m, c, e, hE⟩ := hy i hi
    have c1 := h.cells (g := g) rfl _ _ e
    rw [add_at] at c1
    exact ⟨a, m, c, c1, hE⟩

theorem bld_right {k : Kno} (hk : LtK k) (hc : CanK k) : bldErr (k.map (·.2)) (segL k) (segZ k) = none ∧ bldRes (k.map (·.2)) (segL k) (segZ k) = k := by
  have h1 : segErr (k.map (·.2)).length (segL k) (segZ k) = none := by
    unfold segErr
    rw [List.length_map, seg_right hc]
    rfl
  have h2 : bldErr (k.map (·.2)) (segL k) (segZ k) = none := by
    unfold bldErr
    rw [h1, bld_seg hc, can_ck hk hc]
    rfl
  refine ⟨h2, ?_⟩
  unfold bldRes
  rw [if_pos h2, bld_seg hc]

set_option maxRecDepth 20000 in
set_option maxHeartbeats 4000000 in
theorem walkCanonSegments (a : Option Addr) (n cap x : Nat) (k : Kno) (w : World) (hE : Frags w a n cap k) (hR : Ready w) (hx : x < 18446744073709551616) :
    Calls Tryz.prog 3 #[.slice a n cap, .int .u64 x] w fun e w' => e = .returned (.bool true) ∧ Below w.heap.size w w' := by
  have HR := Lib.hid (fun W (h : Below w.heap.size w W) => hR.below h)
  have HE := Lib.hid (fun W (h : Below w.heap.size w W) => hE.below h)
  have hFew := refFew11_any a n cap k w hE
  have hall := hE.all
  have hlen := hE.len
  have hroom := hE.room
  clear hR
  cases hf : fewK k with
  | false =>
    rw [hf] at hFew
    have HF := Lib.hid hFew
    clear hFew hf hall hE
    go_enter Tryz.func3, Tryz.ntmps3
    go_wp2_with fail
    refine HF.out.mono ?_
    rintro e w0 ⟨rfl, hb0⟩
    have Hb0 := Lib.hid hb0; clear hb0
    go_wp2_with fail
    refine (alive_any _ (HR.out _ Hb0.out)).mono ?_
    rintro e w1 ⟨rfl, hb1⟩
    have Hb1 := Lib.hid (Hb0.out.trans (hb1.mono Hb0.out.size)); clear hb1
    go_wp2_with fail
    go_ret
    exact ⟨rfl, Hb1.out⟩
  | true =>
    rw [hf] at hFew
    have HF := Lib.hid hFew
    obtain ⟨hs, h12, h240⟩ := fewK_small hf
    have hv : ∀ f ∈ k, VecFits f.2 := fun f hf => ⟨by have := hs.vec f hf; omega, fun e he => by have := hs.holes f hf e he; omega⟩
    have hRt := fun W (h : Below w.heap.size w W) => refRight13_any a n cap k W (HE.out W h) hv (fun f hf => by have := hs.items f hf; omega)
    cases hc : decide (ckC k = none) with
    | false =>
      rw [hc] at hRt
      have HRt := Lib.hid hRt
      clear hRt hFew hf hall hE hs hv hc
      go_enter Tryz.func3, Tryz.ntmps3
      go_wp2_with fail
      refine HF.out.mono ?_
      rintro e w0 ⟨rfl, hb0⟩
      have Hb0 := Lib.hid hb0; clear hb0
      go_wp2_with fail
      refine (HRt.out _ Hb0.out).mono ?_
      rintro e w0' ⟨rfl, hb0⟩
      have Hb0 := Lib.hid (Hb0.out.trans (hb0.mono Hb0.out.size)); clear hb0
      go_wp2_with fail
      refine (alive_any _ (HR.out _ Hb0.out)).mono ?_
      rintro e w1 ⟨rfl, hb1⟩
      have Hb1 := Lib.hid (Hb0.out.trans (hb1.mono Hb0.out.size)); clear hb1
      go_wp2_with fail
      go_ret
      exact ⟨rfl, Hb1.out⟩
    | true =>
      rw [hc] at hRt
      have HRt := Lib.hid hRt
      rw [decide_eq_true_eq] at hc
      obtain ⟨hk, hcan⟩ := ck_can hall hc
      obtain ⟨hb1, hb2⟩ := bld_right hk hcan
      have Hbe := Lib.hid hb1
      have Hbr := Lib.hid hb2
      have hgood : ∀ f ∈ k, Good f.1 := fun f hf => (hcan.items f hf).1
      have HSg := Lib.hid (fun W (h : Below w.heap.size w W) => segments_any a n cap k W (HE.out W h) hgood (by omega))
      have HSr := Lib.hid (fun W (h : Below w.heap.size w W) => refSegments13_any a n cap k W (HE.out W h) (by omega) (by omega))
      have HCf := Lib.hid (fun W (h : Below w.heap.size w W) => canFind_any a n cap x k W (HE.out W h) (fun f hf => ⟨hgood f hf, by have := hs.items f hf; omega⟩))
      have HRf := Lib.hid (fun W (h : Below w.heap.size w W) => refFind13_any a n cap x k W (HE.out W h))
      generalize intO (firstS (fun i => if mem (nthF k i).1 x = true then some i else none) k.length) = F at *
      have Hsame := Lib.hid (fun (l : List Iv) (h1 : l.Perm (flatK k)) (h2 : AscLo l) => seg_same hcan h1 h2)
      have HV := Lib.hid hv
      have Hlt := Lib.hid (show ∀ s ∈ segL k, s.1 < 18446744073709551616 ∧ s.2 < 18446744073709551616 from fun s hs => by
        obtain ⟨-, -, h3⟩ := segTo_ok k k.length (Nat.le_refl _)
        obtain ⟨p, hp, rfl⟩ := List.mem_map.1 hs
        exact (hk _ (nthF_mem (h3 p hp).1)).items _ (h3 p hp).2)
      have Hsl := Lib.hid (show (segL k).length ≤ 240 from by
        rw [segL_len]
        have := segTo_len k k.length (Nat.le_refl _)
        rw [List.take_length] at this
        unfold segK
        omega)
      have Hsm := Lib.hid (show ∀ y ∈ (segK k).map (·.2), y ≤ 9223372036854775807 from fun y hy => by
        obtain ⟨-, -, h3⟩ := segTo_ok k k.length (Nat.le_refl _)
        obtain ⟨p, hp, rfl⟩ := List.mem_map.1 hy
        have := (h3 p hp).1
        omega)
      have Hzm := Lib.hid (show ((segK k).map (·.2)).map (fun x : Nat => (x : Int)) = segZ k from by unfold segZ; rw [List.map_map]; rfl)
      have each : ∀ i, i < n → ∃ q : Value × Value, (∀ W, Below w.heap.size w W → ∃ bb oo, a = some ⟨bb, oo, none⟩ ∧ W.cell? ⟨bb, oo + i * 2, none⟩ = some q.1 ∧ W.cell? ⟨bb, oo + i * 2 + 1, none⟩ = some q.2) ∧ (∃ x m c, q.1 = .slice x m c) ∧ ∃ y m c, q.2 = .slice y m c ∧ ∀ W, Below w.heap.size w W → Ents W y m c (nthF k i).2 := fun i hi => by
        obtain ⟨bb, oo, rfl⟩ := hE.some (by omega)
        obtain ⟨x, m, c, y, m', c', hq⟩ := hE.fix hi
        exact ⟨(.slice x m c, .slice y m' c'), fun W h => ⟨bb, oo, rfl, (hq W h).1, (hq W h).2.2.1⟩, ⟨x, m, c, rfl⟩, y, m', c', rfl, fun W h => (hq W h).2.2.2⟩
      obtain ⟨q, hq⟩ := Deep.choose_lt each
      have Hq := Lib.hid hq
      have Hlen := Lib.hid hlen
      have hn12 : n ≤ 12 := by omega
      clear each hq hgood hRt hFew hf hall hs hv hc hk hcan hb1 hb2 h240 h12
      go_enter Tryz.func3, Tryz.ntmps3
      go_wp2_with fail
      refine HF.out.mono ?_
      rintro e w0 ⟨rfl, hb0⟩
      have Hb0 := Lib.hid hb0; clear hb0
      go_wp2_with fail
      refine (HRt.out _ Hb0.out).mono ?_
      rintro e w1 ⟨rfl, hb1⟩
      have Hb1 := Lib.hid (Hb0.out.trans (hb1.mono Hb0.out.size)); clear hb1
      go_wp2_with fail
      refine (HSg.out _ Hb1.out).mono ?_
      rintro e w2 ⟨⟨l, al, cl, gi, rfl, hp, hasc, hI, hix⟩, hb2⟩
      obtain ⟨e1, e2⟩ := Hsame.out l hp hasc
      obtain rfl : l = segL k := e1
      rw [e2] at hix
      obtain ⟨ai, ci, eai, hJ⟩ := i64s_own hix
      cases eai
      have hPl : (segX (segK k)).length = (segL k).length := by rw [segL_len]; simp [segX]
      have HO2 := Lib.hid (fun W (h : Below w2.heap.size w2 W) => show W.ownsRow w1.heap.size 3 1 (.slice (some ⟨gi, 0, none⟩) (segL k).length (segL k).length) (segX (segK k)).length (i64C (segX (segK k))) from by rw [hPl]; exact own_below hix h)
      have hP240 : (segX (segK k)).length ≤ 1000 := by rw [hPl]; have := Hsl.out; omega
      have Hb2 := Lib.hid (Hb1.out.trans (hb2.mono Hb1.out.size))
      have HI2 := Lib.hid (fun W (h : Below w2.heap.size w2 W) => hI.below h)
      have HZ2 := Lib.hid (fun W (h : Below w2.heap.size w2 W) => show Zs W _ _ _ (segZ k) from by have := (hJ.below h).zs Hsm.out; rwa [Hzm.out] at this)
      clear hp hasc hI hix hJ hb2 e2
      go_wp2_with fail
      refine (HSr.out _ Hb2.out).mono ?_
      rintro e w3 ⟨⟨v, u, rfl, ho⟩, hb3⟩
      obtain ⟨av, cv, rfl, hI3⟩ := ivs_own ho.ivs Hlt.out
      have HO3 := Lib.hid (fun W (h : Below w3.heap.size w3 W) => show W.ownsRow w2.heap.size 3 1 u (segX (segK k)).length (i64C (segX (segK k))) from by rw [hPl, segL_len]; exact own_below ho.idx h)
      have Hq3 := Lib.hid hb3
      have Hb3 := Lib.hid (Hb2.out.trans (hb3.mono Hb2.out.size))
      have HS := Lib.hid (refSame_any _ _ _ _ _ _ (segL k) (segL k) w3 (HI2.out _ hb3) hI3)
      rw [show decide (segL k = segL k) = true from decide_eq_true rfl] at HS
      clear ho hI3 hb3
      go_wp2_with fail
      refine HS.out.mono ?_
      rintro e w4 ⟨rfl, hb4⟩
      have Hq4 := Lib.hid (Hq3.out.trans (hb4.mono Hq3.out.size))
      have HEq := Lib.hid (equalI_any _ _ _ _ _ _ w4 (HO2.out _ Hq4.out) (HO3.out _ hb4) hP240 hP240)
      have Hb4 := Lib.hid (Hb3.out.trans (hb4.mono Hb3.out.size)); clear hb4
      rw [show decide (segX (segK k) = segX (segK k)) = true from decide_eq_true rfl] at HEq
      go_wp2_with fail
      refine HEq.out.mono ?_
      rintro e w5 ⟨rfl, hb5⟩
      have Hq5 := Lib.hid (Hq4.out.trans (hb5.mono Hq4.out.size))
      have Hb5 := Lib.hid (Hb4.out.trans (hb5.mono Hb4.out.size)); clear hb5 HS HEq
      go_wp2_with fail
      refine (HCf.out _ Hb5.out).mono ?_
      rintro e w6 ⟨rfl, hb6⟩
      have Hq6 := Lib.hid (Hq5.out.trans (hb6.mono Hq5.out.size))
      have Hb6 := Lib.hid (Hb5.out.trans (hb6.mono Hb5.out.size)); clear hb6
      go_wp2_with fail
      refine (HRf.out _ Hb6.out).mono ?_
      rintro e w7 ⟨rfl, hb7⟩
      have Hq7 := Lib.hid (Hq6.out.trans (hb7.mono Hq6.out.size))
      have Hb7 := Lib.hid (Hb6.out.trans (hb7.mono Hb6.out.size)); clear hb7
      obtain ⟨w8, hw8⟩ : ∃ w8 : World, w8 = w7 := ⟨_, rfl⟩
      rw [← hw8] at Hq7 Hb7 ⊢
      clear hw8
      go_wp2
      go_loopw [9, 11, 54] (fun v _ i wr => ∃ d : Nat, d ≤ n ∧ i = .int .i64 d ∧ Below w8.heap.size w8 wr ∧ Hid (wr.ownsRow w8.heap.size 37 1 v d (((List.range n).map fun i => (q i).2).take d))) (fun _ _ i _ => n - (intOf i).toNat)
      case atStart => exact ⟨0, by omega, rfl, Below.refl _ _, World.ownsRow_nil _ _ _ _⟩
      case round =>
        obtain ⟨d, hd, rfl, hb, ho⟩ := hrel
        have Hb := Lib.hid (Hb7.out.trans (hb.mono Hb7.out.size))
        have Hb' := Lib.hid hb
        clear hb
        by_cases hdn : d < n
        · obtain ⟨hc, ⟨xa, xm, xc, hxe⟩, y, m, c, hy, -⟩ := Hq.out d hdn
          obtain ⟨bb, oo, rfl, q1, q2⟩ := hc _ Hb.out
          have hst : ((List.range n).map fun i => (q i).2).take (d + 1) = ((List.range n).map fun i => (q i).2).take d ++ [(q d).2] := by
            rw [List.take_succ_eq_append_getElem (by simpa using hdn)]
            simp
          rw [hy] at q2 hst
          rw [hxe] at q1
          have Hst := Lib.hid hst
          have hal : Below wr.heap.size wr ((wr.alloc (.cells #[.slice xa xm xc, .slice y m c] 39)).alloc (.cells #[.slice y m c] 37)) := ((Below.refl _ _).alloc (Nat.le_refl _) _).alloc (by simp) _
          obtain ⟨v', w9, hrun, ho9, hg9⟩ := run_append_vec w8.heap.size _ d _ (own_below ho.out hal) (some ⟨wr.heap.size + 1, 0, none⟩) 1 y m c (rd_block (heap_at_new _ _ _ (by simp)) rfl rfl) (by omega) (by have := Hb'.out.size; simp; omega)
          have Ho9 := Lib.hid ho9
          have Hb9 := Lib.hid (Below.grown (B := w8.heap.size) (Hb'.out.trans (hal.mono Hb'.out.size)) hg9 (by have := Hb'.out.size; simp; omega) (fun j hj => (ho.out.lt j hj).1))
          have Hrun := Lib.hid hrun
          have h0 : (0 : Int) ≤ d := by omega
          have h04 : (d : Int) < (n : Int) := by omega
          clear hc hy hxe hst hal hrun ho9 hg9
          go_wp2_with (at_builtin; refine wpList_append_hr _ _ 35 rfl rfl _ _ rfl rfl _ _ Hrun.out ?_)
          go_roundw
          case rel => exact ⟨d + 1, by omega, by go_num, Hb9.out, by rw [Hst.out]; exact Ho9.out⟩
          case measure => simp [intOf]; omega
        · obtain rfl : d = n := by omega
          have ho' := ho.out
          rw [List.take_of_length_le (by simp)] at ho'
          obtain ⟨av', cv', rfl, hVs⟩ := vecs_own (vs := k.map (·.2)) ho' (by simpa using Hlen.out) (fun i hi => by
            obtain ⟨-, -, y, m, c, hy, hE⟩ := Hq.out i hi
            refine ⟨y, m, c, by simp [hi, hy], ?_⟩
            have e : nthV (k.map (·.2)) i = (nthF k i).2 := by rw [nthV_get (by rw [List.length_map, Hlen.out]; exact hi), nthF_get (by rw [Hlen.out]; exact hi)]; simp
            rw [e]
            exact hE _ Hb.out)
          have hb29 := Hq7.out.trans (Hb'.out.mono Hq7.out.size)
          have hB := canBuild_any _ _ _ d _ _ _ _ _ (k.map (·.2)) (segL k) (segZ k) wr hVs (HI2.out _ hb29) (HZ2.out _ hb29) (HR.out _ Hb.out).door (HR.out _ Hb.out).codes (fun v hv => by
            obtain ⟨f, hf, rfl⟩ := List.mem_map.1 hv
            exact HV.out f hf) (by omega) (by have := Hsl.out; omega)
          rw [Hbe.out, Hbr.out] at hB
          simp only [errVal] at hB
          have HB := Lib.hid hB
          clear hB hVs ho' ho
          go_wp2_with fail
          refine HB.out.mono ?_
          rintro e w10 ⟨⟨a', n', c', rfl, hK⟩, hb10⟩
          have HK := Lib.hid (fun W (h : Below w10.heap.size w10 W) => hK.below h)
          have Hb10 := Lib.hid (Hb.out.trans (hb10.mono Hb.out.size)); clear hb10 hK
          go_wp2_with fail
          refine (alive_any _ (HR.out _ Hb10.out)).mono ?_
          rintro e w11 ⟨rfl, hb11⟩
          have Hb11 := Lib.hid (Hb10.out.trans (hb11.mono Hb10.out.size))
          have HS := Lib.hid (same_refl (HK.out _ hb11) (HE.out _ Hb11.out))
          clear hb11
          go_wp2_with fail
          refine HS.out.mono ?_
          rintro e w12 ⟨rfl, hb12⟩
          have Hb12 := Lib.hid (Hb11.out.trans (hb12.mono Hb11.out.size)); clear hb12
          go_wp2_with fail
          go_ret
          exact ⟨rfl, Hb12.out⟩

end Go.Proofs.YtkkdlgcfcbaibaaGreatDoor
end
