/-
  Walk: kenningref04.Parse.
-/
import Derived.Test.YtbiohohclnaocaaGreatDoorRgSplit
import Derived.Test.YtbiohohclnaocaaGreatDoorRgValue
import Derived.Test.YtbiohohclnaocaaGreatDoorRgParse
import Derived.Test.YtbiohohclnaocaaGreatDoorRgRef2
namespace Go.Proofs.YtbiohohclnaocaaGreatDoor
open Go.RowKit
set_option linter.unusedVariables false

theorem firstS_succ {α : Type} (f : Nat → Option α) (k : Nat) : firstS f (k + 1) = match firstS f k with | some x => some x | none => f k := by
  unfold firstS
  rw [List.range_succ, List.findSome?_append]
  cases (List.range k).findSome? f with
  | some x => rfl
  | none => simp

theorem contains_pcs (p : Txt) : Lib.contains p [45] = decide (2 ≤ (pcs 45 p).length) := by
  rcases split_at 45 p with h | ⟨a, b, rfl, ha⟩
  · rw [contains_none h, pcs_none h]; rfl
  · rw [contains_some b ha, pcs_cut b ha]
    have : 0 < (pcs 45 b).length := List.length_pos_iff.2 (pcs_ne _ _)
    simp only [List.length_cons]
    exact (decide_eq_true (by omega)).symm

theorem digT_all {l : Txt} (h : digT l = true) : l.all isD = true := by
  unfold digT at h
  simp only [Bool.and_eq_true] at h
  exact h.1.2

/-- Where the first doubled number stands, or -1. -/
def dblV (o : Option (Nat × Nat)) : Int := match o with | none => -1 | some x => (x.2 : Int)

theorem partS_15a {p : Txt} (h : 2 < (pcs 45 p).length) : partR p = (15, (0, 0)) := by rw [← partS_eq]; unfold partS; rw [if_pos (.inl h)]
theorem partS_15b {p : Txt} (h : digT (nthT (pcs 45 p) 0) = false) : partR p = (15, (0, 0)) := by rw [← partS_eq]; unfold partS; rw [if_pos (.inr (.inl h))]
theorem partS_15c {p : Txt} (h : digT (nthT (pcs 45 p) ((pcs 45 p).length - 1)) = false) : partR p = (15, (0, 0)) := by rw [← partS_eq]; unfold partS; rw [if_pos (.inr (.inr h))]
theorem partS_num {p : Txt} (h1 : ¬ 2 < (pcs 45 p).length) (h2 : digT (nthT (pcs 45 p) 0) = true) (h3 : digT (nthT (pcs 45 p) ((pcs 45 p).length - 1)) = true) :
    partR p = numP (nthT (pcs 45 p) 0) (nthT (pcs 45 p) ((pcs 45 p).length - 1)) := by
  rw [← partS_eq]
  unfold partS
  rw [if_neg]
  · rfl
  · rintro (h | h | h)
    · exact h1 h
    · have h' : digT (nthT (pcs 45 p) 0) = false := h
      rw [h2] at h'; cases h'
    · have h' : digT (nthT (pcs 45 p) ((pcs 45 p).length - 1)) = false := h
      rw [h3] at h'; cases h'

/-- What ref Parse answers. -/
def RefParseRes (s : Txt) (base : Nat) (e : Ending) (w' : World) : Prop :=
  ∃ v, e = .returned (.tuple #[v, .int .i64 (errCode (errOf (parseL s).2)), .int .i64 (errAt (errOf (parseL s).2))]) ∧ w'.ownsRow base 31 2 v (parseL s).1.length (ivC (parseL s).1)

theorem refParse_err {s : Txt} {base : Nat} {e : Ending} {w' : World} {c i : Nat} (h : parseL s = ([], some (c, i))) (he : e = .returned (.tuple #[.slice none 0 0, .int .i64 (c : Int), .int .i64 (i : Int)])) : RefParseRes s base e w' :=
  ⟨.slice none 0 0, by rw [he, h]; rfl, by rw [h]; exact World.ownsRow_nil _ _ _ _⟩

set_option maxRecDepth 20000 in
set_option maxHeartbeats 8000000 in
theorem refParse_any (s : Txt) (w : World) (hs : s.length ≤ 100000) :
    Calls Tryz.prog 27 #[strV s] w fun e w' => RefParseRes s w.heap.size e w' ∧ Below w.heap.size w w' := by
  by_cases h0 : s = noneT
  · subst h0
    go_enter Tryz.func27, Tryz.ntmps27
    go_wp2
    refine bodyPost_ret (v := .tuple #[.slice none 0 0, .int .i64 0, .int .i64 (-1)]) (by simp [results, Tryz.results27, go_sem]) rfl ?_
    exact ⟨⟨_, rfl, World.ownsRow_nil _ _ _ _⟩, Below.refl _ _⟩
  · have Hdef := Lib.hid (show parseL s = (match partsE (pcs 44 s) with
      | some x => ([], some x)
      | none => match ck (partsL (pcs 44 s)) with
        | some x => ([], some x)
        | none => match dblE (pcs 44 s) with
          | some x => ([], some x)
          | none => (partsL (pcs 44 s), none)) from by unfold parseL; rw [if_neg h0]; rfl)
    have hSp := Lib.hid (fun W => refSplit_any s 44 (by omega) W)
    have Hpl := Lib.hid (fun p (hp : p ∈ pcs 44 s) => Nat.le_trans (pcs_len 44 s p hp) hs)
    have Hpn := Lib.hid (show (pcs 44 s).length ≤ 100001 from by
      have h1 := count_bytes s
      have h2 := Lib.countB_le ⟨#[44]⟩ (by decide) (⟨s.toArray⟩ : ByteArray).size ⟨s.toArray⟩ (Nat.le_refl _)
      simp [ByteArray.size] at h2
      omega)
    have hb0 : (s == [110, 111, 110, 101]) = false := by rw [beq_eq_false_iff_ne]; exact h0
    generalize pcs 44 s = ls at *
    go_enter Tryz.func27, Tryz.ntmps27
    go_wp2_with fail
    refine (hSp.out _).mono ?_
    rintro e w1 ⟨⟨v1, rfl, ho1⟩, hb1⟩
    obtain ⟨aP, cP, rfl, hP⟩ := strs_own ho1
    have Hb1 := Lib.hid hb1
    have Hz1 := Lib.hid hb1.size
    obtain ⟨n, hn⟩ : ∃ n, n = ls.length := ⟨_, rfl⟩
    have Hn := Lib.hid hn
    rw [← hn] at hP Hpn ⊢
    have HP := Lib.hid hP
    have hnn := Hpn.out
    clear hSp h0 hb0 hb1 ho1 hP hn
    go_wp2
    go_loopw [5, 6, 8, 9, 10, 11, 12, 13] (fun v dv i _ _ _ _ _ wr => ∃ k : Nat, k ≤ n ∧ i = .int .i64 k ∧ dv = .int .i64 (dblV (firstS (dblAt ls) k)) ∧ Below w1.heap.size w1 wr ∧ Hid (∀ j, j < k → partAt ls j = none) ∧ Hid (wr.ownsRow w1.heap.size 31 2 v k (ivC (partsL (ls.take k))))) (fun _ _ i _ _ _ _ _ _ => n - (intOf i).toNat)
    case atStart => exact ⟨0, by omega, rfl, rfl, Below.refl _ _, (fun j h => by omega), World.ownsRow_nil _ _ _ _⟩
    case round =>
      obtain ⟨k, hk, rfl, rfl, hb, ht, ho⟩ := hrel
      have Hb := Lib.hid hb; clear hb
      by_cases hkn : k < n
      · have hkl : k < ls.length := by rw [← Hn.out]; exact hkn
        obtain ⟨bS, oS, rfl, hcS⟩ := (HP.out.below Hb.out).cells (by omega)
        have hs1 := hcS k hkn
        have hpm : nthT ls k ∈ ls := by rw [nthT_get hkl]; exact List.getElem_mem _
        have hpl := Hpl.out _ hpm
        have hSp := Lib.hid (fun W => refSplit_any (nthT ls k) 45 (by omega) W)
        have hin : partAt ls k = if (partR (nthT ls k)).1 = 0 then none else some ((partR (nthT ls k)).1, k) := rfl
        have hdb : dblAt ls k = if (partR (nthT ls k)).2.1 = (partR (nthT ls k)).2.2 ∧ Lib.contains (nthT ls k) [45] = true then some (15, k) else none := rfl
        have Htk := Lib.hid (show partsL (ls.take (k + 1)) = partsL (ls.take k) ++ [(partR (nthT ls k)).2] from by
          unfold partsL
          rw [List.take_succ_eq_append_getElem hkl, List.map_append, nthT_get hkl]; rfl)
        have Hfs := Lib.hid (firstS_succ (dblAt ls) k)
        have Hme : ∀ c, (partR (nthT ls k)) = (c, (0, 0)) → c ≠ 0 → parseL s = ([], some (c, k)) := fun c h1 h2 => by
          have : partsE ls = some (c, k) := firstS_some (by rw [← Hn.out]; exact hkn) ht.out (by rw [hin, h1]; exact if_neg h2)
          rw [Hdef.out, this]
        have Hlt := Lib.hid (partR_lt (s := nthT ls k))
        have HEl := Lib.hid (fun q (hq : q ∈ pcs 45 (nthT ls k)) => Nat.le_trans (pcs_len 45 _ q hq) hpl)
        have hE0 : 0 < (pcs 45 (nthT ls k)).length := List.length_pos_iff.2 (pcs_ne _ _)
        have hEn : (pcs 45 (nthT ls k)).length ≤ 1000000 := by
          have h1 := count_pcs 45 ((nthT ls k).length + 1) (nthT ls k) (by omega)
          have h2 := Lib.countB_le ⟨#[45]⟩ (by decide) (⟨(nthT ls k).toArray⟩ : ByteArray).size ⟨(nthT ls k).toArray⟩ (Nat.le_refl _)
          have h3 : Lib.countB ⟨(nthT ls k).toArray⟩ ⟨#[45]⟩ + 1 = (pcs 45 (nthT ls k)).length := h1
          simp [ByteArray.size] at h2
          omega
        have Hct := Lib.hid (contains_pcs (nthT ls k))
        have P1 := Lib.hid (fun h => partS_15a (p := nthT ls k) h)
        have P2 := Lib.hid (fun h => partS_15b (p := nthT ls k) h)
        have P3 := Lib.hid (fun h => partS_15c (p := nthT ls k) h)
        have P4 := Lib.hid (fun h1 h2 h3 => partS_num (p := nthT ls k) h1 h2 h3)
        have Hin := Lib.hid hin
        have Hdb := Lib.hid hdb
        have HMe := Lib.hid Hme
        clear hcS hkl hpm hpl hin hdb Hme
        generalize nthT ls k = p at *
        go_wp2_with fail
        refine (hSp.out _).mono ?_
        rintro e w2 ⟨⟨v2, rfl, ho2⟩, hb2⟩
        obtain ⟨aE, cE, rfl, hE⟩ := strs_own ho2
        have HE := Lib.hid (fun W (h : Below w2.heap.size w2 W) => hE.below h)
        have Hb2 := Lib.hid (Hb.out.trans (hb2.mono Hb.out.size))
        have Hw2 := Lib.hid (Hb1.out.trans (Hb2.out.mono Hz1.out))
        have Ho2 := Lib.hid (own_below ho.out hb2)
        clear hb2 ho2 hE hs1 hSp
        generalize pcs 45 p = E at *
        obtain ⟨m, hm⟩ : ∃ m, m = E.length := ⟨_, rfl⟩
        have Hm := Lib.hid hm
        rw [← hm] at HE hE0 hEn P1 P3 P4 Hct ⊢
        clear hm
        by_cases hm2 : 2 < m
        · have Hp := Lib.hid (HMe.out 15 (P1.out hm2) (by omega))
          have hgt : decide (2 < (m : Int)) = true := by rw [decide_eq_true_iff]; omega
          go_wp2_with fail
          refine bodyPost_ret (v := .tuple #[.slice none 0 0, .int .i64 15, .int .i64 k]) (by simp [results, Tryz.results27, go_sem]) rfl ?_
          exact ⟨refParse_err Hp.out rfl, Hw2.out⟩
        · obtain ⟨bE, oE, rfl, hcE⟩ := (HE.out w2 (Below.refl _ _)).cells hE0
          have hgt : decide (2 < (m : Int)) = false := by rw [decide_eq_false_iff_not]; omega
          have hc0 := hcE 0 hE0
          have hc9 := hcE (m - 1) (by omega)
          rw [Nat.add_zero] at hc0
          have HC0 := Lib.hid (fun W (h : Below w2.heap.size w2 W) => (h.cell (p := ⟨bE, oE, none⟩) (cell_lt hc0)).trans hc0)
          have HC9 := Lib.hid (fun W (h : Below w2.heap.size w2 W) => (h.cell (p := ⟨bE, oE + (m - 1), none⟩) (cell_lt hc9)).trans hc9)
          have hm0 : (0 : Int) < (m : Int) := by omega
          have hsub : IntKind.i64.wrap ((m : Int) - 1) = (m : Int) - 1 := by rw [IntKind.wrap_i64]; omega
          have h01 : 0 ≤ (m : Int) - 1 := by omega
          have h02 : ((m : Int) - 1).toNat = m - 1 := by omega
          have h03 : (m : Int) - 1 < (m : Int) := by omega
          have He0 : (nthT E 0).length ≤ 1000000 := by
            have := HEl.out (nthT E 0) (by rw [nthT_get (by rw [← Hm.out]; exact hE0)]; exact List.getElem_mem _)
            omega
          have He9 : (nthT E (m - 1)).length ≤ 1000000 := by
            have := HEl.out (nthT E (m - 1)) (by rw [nthT_get (by rw [← Hm.out]; omega)]; exact List.getElem_mem _)
            omega
          have hD0 := Lib.hid (fun W => refDigits_any (nthT E 0) He0 W)
          have hD9 := Lib.hid (fun W => refDigits_any (nthT E (m - 1)) He9 W)
          have hV0 := Lib.hid (fun (h : digT (nthT E 0) = true) W => refValue_any (nthT E 0) He0 (digT_all h) W)
          have hV9 := Lib.hid (fun (h : digT (nthT E (m - 1)) = true) W => refValue_any (nthT E (m - 1)) He9 (digT_all h) W)
          clear hcE hc9 He0 He9
          generalize nthT E 0 = t0 at *
          generalize nthT E (m - 1) = t9 at *
          go_wp2_with fail
          refine (hD0.out _).mono ?_
          rintro e w3 ⟨rfl, hb3⟩
          have Hw3 := Lib.hid (Hw2.out.trans (hb3.mono Hw2.out.size))
          have Hc3 := Lib.hid hb3
          clear hb3 hc0
          rcases hd0 : digT t0 with _ | _
          · have Hp := Lib.hid (HMe.out 15 (P2.out hd0) (by omega))
            clear hd0
            go_wp2_with fail
            refine bodyPost_ret (v := .tuple #[.slice none 0 0, .int .i64 15, .int .i64 k]) (by simp [results, Tryz.results27, go_sem]) rfl ?_
            exact ⟨refParse_err Hp.out rfl, Hw3.out⟩
          · have Hd0 := Lib.hid hd0
            clear hd0
            have c9 := HC9.out _ Hc3.out
            go_wp2_with fail
            refine (hD9.out _).mono ?_
            rintro e w4 ⟨rfl, hb4⟩
            have Hw4 := Lib.hid (Hw3.out.trans (hb4.mono Hw3.out.size))
            have Hc4 := Lib.hid (Hc3.out.trans (hb4.mono Hc3.out.size))
            clear hb4 c9
            rcases hd9 : digT t9 with _ | _
            · have Hp := Lib.hid (HMe.out 15 (P3.out hd9) (by omega))
              clear hd9
              go_wp2_with fail
              refine bodyPost_ret (v := .tuple #[.slice none 0 0, .int .i64 15, .int .i64 k]) (by simp [results, Tryz.results27, go_sem]) rfl ?_
              exact ⟨refParse_err Hp.out rfl, Hw4.out⟩
            · have Hd9 := Lib.hid hd9
              clear hd9
              have Hnum := Lib.hid (P4.out hm2 Hd0.out Hd9.out)
              have c0 := HC0.out _ Hc4.out
              go_wp2_with fail
              refine (hV0.out Hd0.out _).mono ?_
              rintro e w5 ⟨rfl, hb5⟩
              have Hw5 := Lib.hid (Hw4.out.trans (hb5.mono Hw4.out.size))
              have Hc5 := Lib.hid (Hc4.out.trans (hb5.mono Hc4.out.size))
              clear hb5 c0
              have c9 := HC9.out _ Hc5.out
              rcases h1 : numT 0 t0 with _ | x
              · have Hp := Lib.hid (HMe.out 8 (Hnum.out.trans (numP_no1 h1)) (by omega))
                simp only [valV]
                go_wp2_with fail
                refine (hV9.out Hd9.out _).mono ?_
                rintro e w6 ⟨rfl, hb6⟩
                have Hw6 := Lib.hid (Hw5.out.trans (hb6.mono Hw5.out.size))
                clear hb6 c9 h1
                rcases h2 : numT 0 t9 with _ | y
                all_goals
                  simp only [valV]
                  clear h2
                  go_wp2_with fail
                  refine bodyPost_ret (v := .tuple #[.slice none 0 0, .int .i64 8, .int .i64 k]) (by simp [results, Tryz.results27, go_sem]) rfl ?_
                  exact ⟨refParse_err Hp.out rfl, Hw6.out⟩
              · have H1 := Lib.hid h1
                clear h1
                simp only [valV]
                go_wp2_with fail
                refine (hV9.out Hd9.out _).mono ?_
                rintro e w6 ⟨rfl, hb6⟩
                have Hw6 := Lib.hid (Hw5.out.trans (hb6.mono Hw5.out.size))
                have Hc6 := Lib.hid (Hc5.out.trans (hb6.mono Hc5.out.size))
                clear hb6 c9
                rcases h2 : numT 0 t9 with _ | y
                · have Hp := Lib.hid (HMe.out 8 (Hnum.out.trans (numP_no2 h2)) (by omega))
                  simp only [valV]
                  clear h2
                  go_wp2_with fail
                  refine bodyPost_ret (v := .tuple #[.slice none 0 0, .int .i64 8, .int .i64 k]) (by simp [results, Tryz.results27, go_sem]) rfl ?_
                  exact ⟨refParse_err Hp.out rfl, Hw6.out⟩
                · have Hpr := Lib.hid (show partR p = (0, (x, y)) from Hnum.out.trans (numP_yes H1.out h2))
                  clear h2
                  simp only [valV]
                  have Hnone := Lib.hid (show partAt ls k = none from by rw [Hin.out, Hpr.out]; rfl)
                  have Hdk := Lib.hid (show dblAt ls k = if x = y ∧ Lib.contains p [45] = true then some (15, k) else none from by rw [Hdb.out, Hpr.out])
                  rw [Hpr.out] at Hlt
                  have Ho6 := Lib.hid (own_below Ho2.out Hc6.out)
                  have Hbw6 := Lib.hid (Hb2.out.trans (Hc6.out.mono Hb2.out.size))
                  have HA := Lib.hid (Hbw6.out.alloc Hbw6.out.size (.cells #[.int .u64 x, .int .u64 y] 31))
                  obtain ⟨v', w7, hr, ho7, hg7⟩ := run_append_iv w1.heap.size u5 k (partsL (ls.take k)) (Ho6.out.alloc (.cells #[.int .u64 x, .int .u64 y] 31)) (some ⟨w6.heap.size, 0, none⟩) 1 1 [(x, y)] (rd_block (heap_at_new _ _ _ rfl) rfl rfl) (by omega) (by have := Hbw6.out.size; simp; omega)
                  have Ho7 := Lib.hid ho7
                  have Hb7 := Lib.hid (HA.out.grown hg7 (by have := Hbw6.out.size; simp; omega) (fun k hk => (Ho6.out.lt k hk).1))
                  clear ho7 hg7
                  rcases hDk : firstS (dblAt ls) k with _ | z
                  · rw [hDk] at Hfs
                    have Hnx := Lib.hid (show firstS (dblAt ls) (k + 1) = dblAt ls k from Hfs.out)
                    clear hDk
                    simp only [dblV]
                    by_cases hmm : m = 2
                    · subst hmm
                      rw [show decide (2 ≤ 2) = true from rfl] at Hct
                      by_cases hxy : x = y
                      · have Hnext := Lib.hid (show firstS (dblAt ls) (k + 1) = some (15, k) from by rw [Hnx.out, Hdk.out]; exact if_pos ⟨hxy, Hct.out⟩)
                        have heq : ((x : Int) == (y : Int)) = true := by rw [beq_iff_eq]; omega
                        have heqn : (x == y) = true := by rw [beq_iff_eq]; exact hxy
                        clear hxy
                        go_wp2_with (at_builtin; refine wpList_append_hr _ _ 23 rfl rfl _ _ rfl rfl _ _ hr ?_)
                        go_roundw
                        case rel => exact ⟨k + 1, by omega, by go_num, by rw [Hnext.out]; rfl, Hb7.out, (fun j hj => by
                          rcases Nat.lt_or_ge j k with h | h
                          · exact ht.out j h
                          · rw [show j = k by omega]; exact Hnone.out), by rw [Htk.out, Hpr.out]; exact Ho7.out⟩
                        case measure => simp [intOf]; omega
                      · have Hnext := Lib.hid (show firstS (dblAt ls) (k + 1) = none from by rw [Hnx.out, Hdk.out]; exact if_neg (fun h => hxy h.1))
                        have heq : ((x : Int) == (y : Int)) = false := by rw [beq_eq_false_iff_ne]; omega
                        have heqn : (x == y) = false := by rw [beq_eq_false_iff_ne]; exact hxy
                        clear hxy
                        go_wp2_with (at_builtin; refine wpList_append_hr _ _ 23 rfl rfl _ _ rfl rfl _ _ hr ?_)
                        go_roundw
                        case rel => exact ⟨k + 1, by omega, by go_num, by rw [Hnext.out]; rfl, Hb7.out, (fun j hj => by
                          rcases Nat.lt_or_ge j k with h | h
                          · exact ht.out j h
                          · rw [show j = k by omega]; exact Hnone.out), by rw [Htk.out, Hpr.out]; exact Ho7.out⟩
                        case measure => simp [intOf]; omega
                    · have Hnext := Lib.hid (show firstS (dblAt ls) (k + 1) = none from by
                        rw [Hnx.out, Hdk.out]
                        refine if_neg (fun h => ?_)
                        have h2 := h.2
                        rw [Hct.out] at h2
                        have := of_decide_eq_true h2
                        omega)
                      have heq : ((m : Int) == 2) = false := by rw [beq_eq_false_iff_ne]; omega
                      go_wp2_with (at_builtin; refine wpList_append_hr _ _ 23 rfl rfl _ _ rfl rfl _ _ hr ?_)
                      go_roundw
                      case rel => exact ⟨k + 1, by omega, by go_num, by rw [Hnext.out]; rfl, Hb7.out, (fun j hj => by
                        rcases Nat.lt_or_ge j k with h | h
                        · exact ht.out j h
                        · rw [show j = k by omega]; exact Hnone.out), by rw [Htk.out, Hpr.out]; exact Ho7.out⟩
                      case measure => simp [intOf]; omega
                  · obtain ⟨z1, z2⟩ := z
                    rw [hDk] at Hfs
                    have Hnext := Lib.hid (show firstS (dblAt ls) (k + 1) = some (z1, z2) from Hfs.out)
                    clear hDk
                    simp only [dblV]
                    have hz2 : decide ((z2 : Int) < 0) = false := by rw [decide_eq_false_iff_not]; omega
                    by_cases hmm : m = 2
                    · subst hmm
                      by_cases hxy : x = y
                      · have heq : ((x : Int) == (y : Int)) = true := by rw [beq_iff_eq]; omega
                        have heqn : (x == y) = true := by rw [beq_iff_eq]; exact hxy
                        clear hxy
                        go_wp2_with (at_builtin; refine wpList_append_hr _ _ 23 rfl rfl _ _ rfl rfl _ _ hr ?_)
                        go_roundw
                        case rel => exact ⟨k + 1, by omega, by go_num, by rw [Hnext.out]; rfl, Hb7.out, (fun j hj => by
                          rcases Nat.lt_or_ge j k with h | h
                          · exact ht.out j h
                          · rw [show j = k by omega]; exact Hnone.out), by rw [Htk.out, Hpr.out]; exact Ho7.out⟩
                        case measure => simp [intOf]; omega
                      · have heq : ((x : Int) == (y : Int)) = false := by rw [beq_eq_false_iff_ne]; omega
                        have heqn : (x == y) = false := by rw [beq_eq_false_iff_ne]; exact hxy
                        clear hxy
                        go_wp2_with (at_builtin; refine wpList_append_hr _ _ 23 rfl rfl _ _ rfl rfl _ _ hr ?_)
                        go_roundw
                        case rel => exact ⟨k + 1, by omega, by go_num, by rw [Hnext.out]; rfl, Hb7.out, (fun j hj => by
                          rcases Nat.lt_or_ge j k with h | h
                          · exact ht.out j h
                          · rw [show j = k by omega]; exact Hnone.out), by rw [Htk.out, Hpr.out]; exact Ho7.out⟩
                        case measure => simp [intOf]; omega
                    · have heq : ((m : Int) == 2) = false := by rw [beq_eq_false_iff_ne]; omega
                      go_wp2_with (at_builtin; refine wpList_append_hr _ _ 23 rfl rfl _ _ rfl rfl _ _ hr ?_)
                      go_roundw
                      case rel => exact ⟨k + 1, by omega, by go_num, by rw [Hnext.out]; rfl, Hb7.out, (fun j hj => by
                        rcases Nat.lt_or_ge j k with h | h
                        · exact ht.out j h
                        · rw [show j = k by omega]; exact Hnone.out), by rw [Htk.out, Hpr.out]; exact Ho7.out⟩
                      case measure => simp [intOf]; omega
      · obtain rfl : k = n := by omega
        have hout := ho.out
        rw [List.take_of_length_le (by rw [Hn.out]; exact Nat.le_refl _)] at hout
        have hpe : partsE ls = none := firstS_none (by rw [← Hn.out]; exact ht.out)
        rw [hpe] at Hdef
        dsimp only at Hdef
        obtain ⟨aL, cL, rfl, hI⟩ := ivs_own hout (partsL_lt ls)
        have Hck := Lib.hid (refCheck_any aL k cL (partsL ls) wr hI)
        have Hout := Lib.hid (own_mono hout Hz1.out)
        have Hde := Lib.hid (show firstS (dblAt ls) k = dblE ls from by rw [Hn.out]; rfl)
        have HbW := Lib.hid (Hb1.out.trans (Hb.out.mono Hz1.out))
        rw [Hde.out]
        clear hout hpe hI ho
        go_wp2_with fail
        refine Hck.out.mono ?_
        rintro e w2 ⟨rfl, hb2⟩
        have Hw2 := Lib.hid (HbW.out.trans (hb2.mono HbW.out.size))
        have Ho2 := Lib.hid (own_below Hout.out hb2)
        clear hb2 Hck
        rcases hck : ck (partsL ls) with _ | ⟨c, i⟩
        · rw [hck] at Hdef
          dsimp only at Hdef
          clear hck
          simp only [errOf, errCode, errAt]
          rcases hde : dblE ls with _ | ⟨c, i⟩
          · rw [hde] at Hdef
            have Hp := Lib.hid (show parseL s = (partsL ls, none) from Hdef.out)
            clear hde
            simp only [dblV]
            go_wp2_with fail
            refine bodyPost_ret (v := .tuple #[.slice aL k cL, .int .i64 0, .int .i64 (-1)]) (by simp [results, Tryz.results27, go_sem]) rfl ?_
            refine ⟨⟨_, by rw [Hp.out]; rfl, ?_⟩, Hw2.out⟩
            rw [Hp.out]
            have h := Ho2.out
            rw [show (partsL ls).length = k by rw [Hn.out]; simp [partsL]]
            exact h
          · rw [hde] at Hdef
            have hc15 : c = 15 := by
              obtain ⟨j, _, _, hj⟩ := firstS_of_some hde
              unfold dblAt at hj
              split at hj
              · injection hj with hj; injection hj with hj _; exact hj.symm
              · cases hj
            subst hc15
            have Hp := Lib.hid (show parseL s = ([], some (15, i)) from Hdef.out)
            clear hde
            simp only [dblV]
            have h0i : (0 : Int) ≤ (i : Int) := by omega
            go_wp2_with fail
            refine bodyPost_ret (v := .tuple #[.slice none 0 0, .int .i64 15, .int .i64 i]) (by simp [results, Tryz.results27, go_sem]) rfl ?_
            exact ⟨refParse_err Hp.out rfl, Hw2.out⟩
        · rw [hck] at Hdef
          have hc23 : c ≠ 0 := by
            obtain ⟨j, _, _, hj⟩ := firstS_of_some hck
            unfold ckAt at hj
            repeat' split at hj
            all_goals first | (cases hj; done) | (injection hj with hj; injection hj with hj _; omega)
          have Hp := Lib.hid (show parseL s = ([], some (c, i)) from Hdef.out)
          clear hck
          simp only [errOf, errCode, errAt]
          have hne : ((c : Int) != 0) = true := by rw [bne_iff_ne]; omega
          go_wp2_with fail
          refine bodyPost_ret (v := .tuple #[.slice none 0 0, .int .i64 c, .int .i64 i]) (by simp [results, Tryz.results27, go_sem]) rfl ?_
          exact ⟨refParse_err Hp.out rfl, Hw2.out⟩

end Go.Proofs.YtbiohohclnaocaaGreatDoor
