/-
  Walk: ranges.Normal.
-/
import Derived.Test.YtbiohohclnaocaaGreatDoorRgNormP
import Derived.Deep.RegionHeld3
namespace Go.Proofs.YtbiohohclnaocaaGreatDoor
open Go.RowKit
set_option linter.unusedVariables false

/-- What ranges.Normal answers. -/
def NormRes (l : List Iv) (base : Nat) (e : Ending) (w' : World) : Prop :=
  (∃ i, bad l = some (2, i) ∧ e = .returned (.tuple #[.slice none 0 0, errVal (some (2, some (i : Int)))])) ∨
  (bad l = none ∧ ∃ v L, e = .returned (.tuple #[v, errVal none]) ∧ w'.ownsRow base 31 2 v L.length (ivC L) ∧ Good L ∧ (∀ x, mem L x = mem l x) ∧ (∀ t ∈ L, t.1 < 18446744073709551616 ∧ t.2 < 18446744073709551616) ∧ L.length ≤ l.length)

set_option maxRecDepth 20000 in
set_option maxHeartbeats 4000000 in
theorem normal_any (a : Option Addr) (n cap : Nat) (l : List Iv) (w : World) (hI : Ivs w a n cap l) (hD : Door w) (hn : n ≤ 10000) :
    Calls Tryz.prog 15 #[.slice a n cap] w fun e w' => NormRes l w.heap.size e w' ∧ Below w.heap.size w w' := by
  have HD := Lib.hid hD; clear hD
  have HI := Lib.hid hI
  have Hl := Lib.hid hI.len
  clear hI
  go_enter Tryz.func15, Tryz.ntmps15
  go_wp2
  go_loopw [4, 5, 6, 16] (fun _ _ _ i wr => ∃ k : Nat, k ≤ n ∧ i = .int .i64 k ∧ Below w.heap.size w wr ∧ Hid (∀ j, j < k → badAt l j = none)) (fun _ _ _ i _ => n - (intOf i).toNat)
  case atStart => exact ⟨0, by omega, rfl, Below.refl _ _, fun j h => by omega⟩
  case round =>
    obtain ⟨k, hk, rfl, hb, ht⟩ := hrel
    have Hb := Lib.hid hb; clear hb
    by_cases hkn : k < n
    · obtain ⟨bb, oo, rfl, hcell⟩ := (HI.out.below Hb.out).cells (by omega)
      obtain ⟨hc1, hc2⟩ := hcell k hkn
      clear hcell
      have hin : badAt l k = if (nthI l k).2 < (nthI l k).1 then some (2, k) else none := rfl
      generalize hs : nthI l k = s at *
      have Hs := Lib.hid hs; clear hs
      by_cases h2 : s.2 < s.1
      · rw [if_pos h2] at hin
        have Hr := Lib.hid (show bad l = some (2, k) from firstS_some (by rw [Hl.out]; exact hkn) ht.out hin)
        clear hin
        have hC := Lib.hid (fun w => spanCheck_any s w)
        rw [if_pos h2] at hC
        clear h2
        go_wp2_with fail
        refine (hC.out _).mono ?_
        rintro e w1 ⟨rfl, hb1⟩
        have Hb1 := Lib.hid ((Hb.out.alloc Hb.out.size _).trans (hb1.mono (Below.size (Hb.out.alloc Hb.out.size _)))); clear hb1
        simp only [errVal]
        go_wp2_with fail
        refine (code_any (some (2, none)) _ (HD.out.below (Nat.le_refl _) Hb1.out)).mono ?_
        rintro e w2 ⟨rfl, hb2⟩
        have Hb2 := Lib.hid (Hb1.out.trans (hb2.mono Hb1.out.size)); clear hb2
        simp only [errCode]
        go_wp2_with fail
        refine (new_any 2 k _).mono ?_
        rintro e w3 ⟨rfl, rfl⟩
        go_wp2_with fail
        refine bodyPost_ret (v := .tuple #[.slice none 0 0, errVal (errNew 2 k)]) (by simp [results, Tryz.results15, go_sem]) rfl ?_
        exact ⟨.inl ⟨k, Hr.out, rfl⟩, Hb2.out⟩
      · rw [if_neg h2] at hin
        have Hin := Lib.hid hin; clear hin
        have hC := Lib.hid (fun w => spanCheck_any s w)
        rw [if_neg h2] at hC
        clear h2
        go_wp2_with fail
        refine (hC.out _).mono ?_
        rintro e w1 ⟨rfl, hb1⟩
        have Hb1 := Lib.hid ((Hb.out.alloc Hb.out.size _).trans (hb1.mono (Below.size (Hb.out.alloc Hb.out.size _)))); clear hb1
        simp only [errVal]
        go_wp2
        go_roundw
        case rel => exact ⟨k + 1, by omega, by go_num, Hb1.out, fun j hj => by
          rcases Nat.lt_or_ge j k with h | h
          · exact ht.out j h
          · rw [show j = k from (by omega)]; exact Hin.out⟩
        case measure => simp [intOf]; omega
    · obtain rfl : k = n := by omega
      have Hbad := Lib.hid (show bad l = none from firstS_none (by rw [Hl.out]; exact ht.out))
      have HIr := Lib.hid (HI.out.below Hb.out)
      obtain ⟨w0, rfl⟩ : ∃ w0 : World, w0 = wr := ⟨_, rfl⟩
      have Hz0 := Lib.hid Hb.out.size
      obtain ⟨w1, xs1, hr1, ho1, hb1⟩ := run_make_iv w0 w0.heap.size k (by omega) (Nat.le_refl _)
      obtain ⟨w2, hr2, ho2, hb2⟩ := run_copy_iv w0.heap.size w0.heap.size k _ ho1 a cap l (HIr.out.below hb1) 3
      have Hb2 := Lib.hid (hb1.trans hb2)
      have hgl : w0.heap.size < w2.heap.size := (ho2.lt w0.heap.size rfl).2
      have hS := Lib.hid (sortIv_any w0.heap.size k k l w2 Hl.out (holds_own ho2) hgl (by omega))
      have HH := Lib.hid (holds_own ho2)
      clear hb1 hb2 ho1 ho2
      go_wp2_with (at_builtin; refine wpList_copy_hr rfl _ _ 23 23 rfl _ _ rfl rfl _ _ hr2 ?_)
      clear hr1 hr2
      refine hS.out.mono ?_
      rintro e w3 ⟨rfl, l', mm, os, hpm, hal, hw3⟩
      have hs' : l'.toArray.size = l.toArray.size := by simpa using hpm.length_eq
      have hl' : ∀ s ∈ l', s.1 < 18446744073709551616 ∧ s.2 < 18446744073709551616 := fun s hs => HI.out.lt s (hpm.mem_iff.1 hs)
      have hI3 := sorted_cells (m := mm) os HH.out hs' hgl (by simpa using hl') (show l.toArray.size = k by simpa using Hl.out) (by omega)
      have hb3 := below_sorted (n := mm) l'.toArray os (base := w0.heap.size) (g := w0.heap.size) (w := w2) (Nat.le_refl _) (Nat.le_of_lt hgl)
      rw [← hw3] at hI3 hb3
      have Hpre := Lib.hid (preN_ok hal (fun s hs => bad_none Hbad.out s (hpm.mem_iff.1 hs)) hl')
      have Hperm := Lib.hid hpm
      have Hal := Lib.hid hal
      have HI3 := Lib.hid hI3
      have Hb3 := Lib.hid (Hb2.out.trans hb3)
      have Hl3 := Lib.hid (show l'.length = k by rw [hpm.length_eq]; exact Hl.out)
      have Hok := Lib.hid (fun s (hs : s ∈ l') => bad_none Hbad.out s (hpm.mem_iff.1 hs))
      have Hz3 := Lib.hid Hb3.out.size
      clear hw3 hs' hl' hI3 hb3 hpm hal hS HH Hb2 hgl
      go_wp2
      go_loopw [8, 10, 11, 12, 13, 40] (fun v _ _ _ _ i wr => ∃ j : Nat, j ≤ k ∧ i = .int .i64 j ∧ Below w3.heap.size w3 wr ∧ Hid (wr.ownsRow w3.heap.size 31 2 v (preN l' j).length (ivC (preN l' j)))) (fun _ _ _ _ _ i _ => k - (intOf i).toNat)
      case atStart => exact ⟨0, by omega, rfl, Below.refl _ _, World.ownsRow_nil _ _ _ _⟩
      case round =>
        obtain ⟨j, hj, rfl, hb, ho⟩ := hrel
        have Hbj := Lib.hid hb; clear hb
        by_cases hjk : j < k
        · have hjl : j < l'.length := by rw [Hl3.out]; exact hjk
          obtain ⟨p1, p2, p3, p4⟩ := Hpre.out j (by omega)
          have Hst := Lib.hid (preN_succ hjl)
          have hsm : nthI l' j ∈ l' := nthI_mem hjl
          have Hs1 := Lib.hid (Hok.out _ hsm)
          have Hs2 := Lib.hid (HI3.out.lt _ hsm)
          have Hp2 := Lib.hid (fun t (ht : t ∈ preN l' j) => p2 t ht j (Nat.le_refl _) hjl)
          have Hp1 := Lib.hid p1
          have Hp4 := Lib.hid p4
          obtain ⟨bS, oS, eS, hcS⟩ := HI3.out.cells (by omega)
          obtain ⟨hc1, hc2⟩ := hcS j hjk
          cases eS
          have HC1 := Lib.hid (fun w' (h : Below w3.heap.size w3 w') => (h.cell (p := ⟨w0.heap.size, 0 + j * 2, none⟩) (cell_lt hc1)).trans hc1)
          have HC2 := Lib.hid (fun w' (h : Below w3.heap.size w3 w') => (h.cell (p := ⟨w0.heap.size, 0 + j * 2 + 1, none⟩) (cell_lt hc2)).trans hc2)
          clear hcS hc1 hc2 hsm hjl p1 p2 p4
          rw [show 0 + j * 2 = j * 2 from Nat.zero_add _] at HC1 HC2
          have c1 := HC1.out _ Hbj.out
          have c2 := HC2.out _ Hbj.out
          have hm3 := p3
          generalize preN l' j = O at *
          generalize nthI l' j = s at *
          obtain ⟨x, y⟩ := s
          simp only at c1 c2 HC1 HC2 Hs1 Hs2 Hp2
          obtain ⟨aO, cO, rfl, hIO⟩ := ivs_own ho.out Hp4.out
          have HIO := Lib.hid hIO
          have Ho := Lib.hid ho.out
          obtain ⟨M, hM⟩ : ∃ M, M = O.length := ⟨_, rfl⟩
          rw [← hM] at HIO Ho hm3 ⊢
          have HM := Lib.hid hM
          clear hIO ho hM p3
          have Hj1 := Lib.hid (Hbj.out.alloc Hbj.out.size (.cells #[.int .u64 x, .int .u64 y] 31))
          by_cases hM0 : M = 0
          · subst hM0
            obtain rfl : O = [] := List.eq_nil_of_length_eq_zero HM.out.symm
            rw [normStep_nil] at Hst
            obtain ⟨v', w6, hr, ho6, hg6⟩ := run_append_iv w3.heap.size (.slice aO 0 cO) 0 [] ((Ho.out.alloc (.cells #[.int .u64 x, .int .u64 y] 31)).alloc (.cells #[.int .u64 x, .int .u64 y] 31)) (some ⟨wr.heap.size + 1, 0, none⟩) 1 1 [(x, y)] (rd_block (heap_at_new _ _ _ (by simp)) rfl rfl) (by omega) (by have := Hj1.out.size; simp at this ⊢; omega)
            have Ho6 := Lib.hid ho6; clear ho6
            have Hb6 := Lib.hid (Hj1.out.alloc Hj1.out.size (.cells #[.int .u64 x, .int .u64 y] 31) |>.grown hg6 (by have := Hj1.out.size; simp at this ⊢; omega) (fun k hk => (Ho.out.lt k hk).1))
            clear hg6
            go_wp2_with (at_builtin; refine wpList_append_hr _ _ 23 rfl rfl _ _ rfl rfl _ _ hr ?_)
            go_roundw
            case rel => exact ⟨j + 1, by omega, by go_num, Hb6.out, by rw [Hst.out]; exact Ho6.out⟩
            case measure => simp [intOf]; omega
          · obtain ⟨O', t, rfl⟩ : ∃ O' t, O = O' ++ [t] := by
              rcases nil_or_snoc O with rfl | ⟨a, t, rfl⟩
              · exact absurd HM.out hM0
              · exact ⟨a, t, rfl⟩
            have hMl : M = O'.length + 1 := by rw [HM.out, List.length_append]; rfl
            obtain ⟨g, rfl, hgb, hgc, hgl⟩ : ∃ g, aO = some ⟨g, 0, none⟩ ∧ w3.heap.size ≤ g ∧ M ≤ cO ∧ g < wr.heap.size := by
              rcases own_none Ho.out with ⟨_, h, _⟩ | h
              · exact absurd h hM0
              · exact h
            obtain ⟨K, hK⟩ : ∃ K, K = O'.length := ⟨_, rfl⟩
            rw [← hK] at hMl
            have HK := Lib.hid hK
            obtain ⟨e1, e2⟩ := ivC_get (O' ++ [t]) K (by simp; omega)
            have hnt : nthI (O' ++ [t]) K = t := by rw [nthI_get (by simp; omega), List.getElem_append_right (by omega)]; simp [hK]
            rw [hnt] at e1 e2
            have hq1 := (Ho.out.cellAt (K * 2) (by omega)).trans e1
            have hq2 := (Ho.out.cellAt (K * 2 + 1) (by omega)).trans e2
            have hf1 := Ho.out.frozenAt (K * 2)
            have hf2 := Ho.out.frozenAt (K * 2 + 1)
            clear e1 e2 hnt hK
            have htm : t ∈ O' ++ [t] := by simp
            have Htl := Lib.hid (Hp4.out t htm)
            have Htx := Lib.hid (Hp2.out t htm)
            have Htg := Lib.hid ((good_init Hp1.out).2.1)
            have Hrz := Lib.hid (relB_zero (a := t) (b := (x, y)) Htg.out Hs1.out)
            have Hr4 := Lib.hid (show relB t (x, y) ≠ 4 from by
              have h1 := Htx.out
              have h2 := Hs1.out
              have h3 := Htg.out
              unfold relB
              repeat' split
              all_goals simp only at *
              all_goals omega)
            rw [normStep_snoc] at Hst
            have hsub : IntKind.i64.wrap ((M : Int) - 1) = (K : Int) := by rw [IntKind.wrap_i64]; omega
            have h01 : (K : Int) < (M : Int) := by omega
            have HMl := Lib.hid hMl
            clear hMl
            have hA : Below wr.heap.size wr (wr.alloc (.cells #[.int .u64 x, .int .u64 y] 31)) := (Below.refl _ _).alloc (Nat.le_refl _) _
            have q1 := (hA.cell (p := ⟨g, K * 2, none⟩) hgl).trans hq1
            have q2 := (hA.cell (p := ⟨g, K * 2 + 1, none⟩) hgl).trans hq2
            have f1 := (hA.frozen (p := ⟨g, K * 2, none⟩) hgl).trans hf1
            have f2 := (hA.frozen (p := ⟨g, K * 2 + 1, none⟩) hgl).trans hf2
            have q3 : (wr.alloc (.cells #[.int .u64 x, .int .u64 y] 31)).cell? ⟨wr.heap.size, 0, none⟩ = some (.int .u64 x) := by simp [go_sem]
            have q4 : (wr.alloc (.cells #[.int .u64 x, .int .u64 y] 31)).cell? ⟨wr.heap.size, 1, none⟩ = some (.int .u64 y) := by simp [go_sem]
            have HA := Lib.hid hA
            have Hsz := Lib.hid (show wr.heap.size < (wr.alloc (.cells #[.int .u64 x, .int .u64 y] 31)).heap.size from by simp)
            clear hA hq1 hq2 hf1 hf2
            obtain ⟨tx, ty⟩ := t
            simp only at q1 q2 Htx Htg Htl
            have HJ0 := Lib.hid (fun (h : relB (tx, ty) (x, y) = 0) w => join_no (tx, ty) (x, y) w Htl.out Hs2.out (.inl h))
            have HJ1 := Lib.hid (fun (h : relB (tx, ty) (x, y) ≠ 0) w => join_yes (tx, ty) (x, y) w Htl.out Hs2.out h Hr4.out)
            simp only [Nat.min_eq_left Htx.out] at HJ1
            have hgl5 := Nat.lt_trans hgl Hsz.out
            by_cases hr0 : relB (tx, ty) (x, y) = 0
            · rw [if_pos (Hrz.out.1 hr0)] at Hst
              have hJ := Lib.hid (HJ0.out hr0)
              clear HJ0 HJ1 hr0 f1 f2
              go_wp2_with fail
              generalize hW : wr.alloc (.cells #[.int .u64 x, .int .u64 y] 31) = w5 at *
              have HW := Lib.hid hW; clear hW
              have Hw5 := Lib.hid (Hbj.out.trans (HA.out.mono Hbj.out.size))
              have r1 : ∀ w', Below w5.heap.size w5 w' → w'.cell? ⟨g, K * 2, none⟩ = some (.int .u64 tx) := fun w' h => (h.cell (p := ⟨g, K * 2, none⟩) (cell_lt q1)).trans q1
              have r2 : ∀ w', Below w5.heap.size w5 w' → w'.cell? ⟨g, K * 2 + 1, none⟩ = some (.int .u64 ty) := fun w' h => (h.cell (p := ⟨g, K * 2 + 1, none⟩) (cell_lt q2)).trans q2
              have r3 : ∀ w', Below w5.heap.size w5 w' → w'.cell? ⟨wr.heap.size, 0, none⟩ = some (.int .u64 x) := fun w' h => (h.cell (p := ⟨wr.heap.size, 0, none⟩) (cell_lt q3)).trans q3
              have r4 : ∀ w', Below w5.heap.size w5 w' → w'.cell? ⟨wr.heap.size, 1, none⟩ = some (.int .u64 y) := fun w' h => (h.cell (p := ⟨wr.heap.size, 1, none⟩) (cell_lt q4)).trans q4
              have HoW := Lib.hid (fun W (h : Below w5.heap.size w5 W) => own_below Ho.out (HA.out.trans (h.mono HA.out.size)))
              have HbW := Lib.hid (fun W (h : Below w5.heap.size w5 W) => Hw5.out.trans (h.mono Hw5.out.size))
              clear q1 q2 q3 q4
              go_region_held3 (fun w' => Below w5.heap.size w5 w') ((first | assumption | exact (Below.refl _ _).drew | exact Below.alloc (by assumption) (Below.size (by assumption)) _ | exact Below.trans (by assumption) (Below.mono (by assumption) (Below.size (by assumption))) | exact Below.setCell (Below.setCell (by assumption) (by first | exact Nat.le_refl _ | exact Below.size (by assumption)) _) (by first | exact Nat.le_refl _ | exact Below.size (by assumption)) _ | (trace_state; fail))) ((go_at_call 35; refine (hJ.out _).mono ?_; rintro e w6 ⟨rfl, hb6⟩; have hS6 : Below w5.heap.size w5 w6 := Below.trans (by assumption) (hb6.mono (Below.size (by assumption))); first | (have z1 := hb6.cell (p := ⟨w5.heap.size, 0, none⟩) (drew_alloc_lt w5 _); have z2 := hb6.cell (p := ⟨w5.heap.size, 1, none⟩) (drew_alloc_lt w5 _); have z3 := hb6.frozen (p := ⟨w5.heap.size, 0, none⟩) (drew_alloc_lt w5 _); have z4 := hb6.frozen (p := ⟨w5.heap.size, 1, none⟩) (drew_alloc_lt w5 _); simp [go_sem] at z1 z2 z3 z4) | (have z1 := hb6.cell (p := ⟨w5.heap.size, 0, none⟩) (alloc_drew_lt w5 _); have z2 := hb6.cell (p := ⟨w5.heap.size, 1, none⟩) (alloc_drew_lt w5 _); have z3 := hb6.frozen (p := ⟨w5.heap.size, 0, none⟩) (alloc_drew_lt w5 _); have z4 := hb6.frozen (p := ⟨w5.heap.size, 1, none⟩) (alloc_drew_lt w5 _); simp [go_sem] at z1 z2 z3 z4) | skip))
              all_goals
                have hSW := ‹Below w5.heap.size w5 _›
                have hOW := HoW.out _ hSW
                have hBW := HbW.out _ hSW
                go_wp2_with (at_builtin; refine wpList_append_iv rfl (.tmp 63) (.tmp 65) rfl rfl w3.heap.size _ M _ rfl (hOW.alloc _) _ 1 _ [(x, y)] rfl (rd_block (heap_at_new _ _ _ (by simp)) rfl rfl) (by omega) (by have := hBW.size; simp at this ⊢ <;> omega) ?_; intro v' w7 ho7 hg7)
                have Hb7 := Lib.hid (Below.grown (hBW.alloc hBW.size _) hg7 (by have := hBW.size; simp at this ⊢ <;> omega) (fun k hk => (hOW.lt k hk).1))
                go_roundw
                case rel => exact ⟨j + 1, by omega, by go_num, Hb7.out, by
                  rw [Hst.out]
                  rw [show M + 1 = (O' ++ [(tx, ty)] ++ [(x, y)]).length by rw [List.length_append, HM.out]; rfl] at ho7
                  exact ho7⟩
                case measure => simp [intOf]; omega
            · rw [if_neg (fun h => hr0 (Hrz.out.2 h))] at Hst
              have hJ := Lib.hid (HJ1.out hr0)
              clear HJ0 HJ1 hr0
              simp only at hJ Hst
              have Hfz := Lib.hid (show (wr.alloc (.cells #[.int .u64 x, .int .u64 y] 31)).frozen? ⟨g, K * 2, none⟩ = false ∧ (wr.alloc (.cells #[.int .u64 x, .int .u64 y] 31)).frozen? ⟨g, K * 2 + 1, none⟩ = false from ⟨f1, f2⟩)
              generalize max ty y = my at *
              go_wp2_with fail
              generalize hW : wr.alloc (.cells #[.int .u64 x, .int .u64 y] 31) = w5 at *
              have HW := Lib.hid hW; clear hW
              have Hw5 := Lib.hid (Hbj.out.trans (HA.out.mono Hbj.out.size))
              have r1 : ∀ w', Below w5.heap.size w5 w' → w'.cell? ⟨g, K * 2, none⟩ = some (.int .u64 tx) := fun w' h => (h.cell (p := ⟨g, K * 2, none⟩) (cell_lt q1)).trans q1
              have r2 : ∀ w', Below w5.heap.size w5 w' → w'.cell? ⟨g, K * 2 + 1, none⟩ = some (.int .u64 ty) := fun w' h => (h.cell (p := ⟨g, K * 2 + 1, none⟩) (cell_lt q2)).trans q2
              have r3 : ∀ w', Below w5.heap.size w5 w' → w'.cell? ⟨wr.heap.size, 0, none⟩ = some (.int .u64 x) := fun w' h => (h.cell (p := ⟨wr.heap.size, 0, none⟩) (cell_lt q3)).trans q3
              have r4 : ∀ w', Below w5.heap.size w5 w' → w'.cell? ⟨wr.heap.size, 1, none⟩ = some (.int .u64 y) := fun w' h => (h.cell (p := ⟨wr.heap.size, 1, none⟩) (cell_lt q4)).trans q4
              have HoW := Lib.hid (fun W (h : Below w5.heap.size w5 W) => own_below Ho.out (HA.out.trans (h.mono HA.out.size)))
              have HbW := Lib.hid (fun W (h : Below w5.heap.size w5 W) => Hw5.out.trans (h.mono Hw5.out.size))
              have r5 : ∀ w', Below w5.heap.size w5 w' → w'.frozen? ⟨g, K * 2, none⟩ = false := fun w' h => (h.frozen (p := ⟨g, K * 2, none⟩) (cell_lt q1)).trans Hfz.out.1
              have r6 : ∀ w', Below w5.heap.size w5 w' → w'.frozen? ⟨g, K * 2 + 1, none⟩ = false := fun w' h => (h.frozen (p := ⟨g, K * 2 + 1, none⟩) (cell_lt q2)).trans Hfz.out.2
              clear q1 q2 q3 q4 f1 f2
              go_region_held3 (fun w' => Below w5.heap.size w5 w') ((first | assumption | exact (Below.refl _ _).drew | exact Below.alloc (by assumption) (Below.size (by assumption)) _ | exact Below.trans (by assumption) (Below.mono (by assumption) (Below.size (by assumption))) | exact Below.setCell (Below.setCell (by assumption) (by first | exact Nat.le_refl _ | exact Below.size (by assumption)) _) (by first | exact Nat.le_refl _ | exact Below.size (by assumption)) _ | (trace_state; fail))) ((go_at_call 35; refine (hJ.out _).mono ?_; rintro e w6 ⟨rfl, hb6⟩; have hS6 : Below w5.heap.size w5 w6 := Below.trans (by assumption) (hb6.mono (Below.size (by assumption))); first | (have z1 := hb6.cell (p := ⟨w5.heap.size, 0, none⟩) (drew_alloc_lt w5 _); have z2 := hb6.cell (p := ⟨w5.heap.size, 1, none⟩) (drew_alloc_lt w5 _); have z3 := hb6.frozen (p := ⟨w5.heap.size, 0, none⟩) (drew_alloc_lt w5 _); have z4 := hb6.frozen (p := ⟨w5.heap.size, 1, none⟩) (drew_alloc_lt w5 _); simp [go_sem] at z1 z2 z3 z4) | (have z1 := hb6.cell (p := ⟨w5.heap.size, 0, none⟩) (alloc_drew_lt w5 _); have z2 := hb6.cell (p := ⟨w5.heap.size, 1, none⟩) (alloc_drew_lt w5 _); have z3 := hb6.frozen (p := ⟨w5.heap.size, 0, none⟩) (alloc_drew_lt w5 _); have z4 := hb6.frozen (p := ⟨w5.heap.size, 1, none⟩) (alloc_drew_lt w5 _); simp [go_sem] at z1 z2 z3 z4) | skip))
              all_goals
                have hSW := ‹Below w5.heap.size w5 _›
                have hOW := HoW.out _ hSW
                have hBW := HbW.out _ hSW
                have c1 := r1 _ hSW
                have c2 := r2 _ hSW
                have c5 := r5 _ hSW
                have c6 := r6 _ hSW
                go_wp2_with fail
                go_roundw
                case rel => exact ⟨j + 1, by omega, by go_num, Below.setCell (Below.setCell hBW hgb _) hgb _, by
                  rw [Hst.out]
                  have h := ((hOW.stored (K * 2) (.int .u64 tx)).1.stored (K * 2 + 1) (.int .u64 my)).1
                  rw [HK.out, ivC_set2 O' (tx, ty) (tx, my), ← HK.out] at h
                  rw [show (O' ++ [(tx, my)]).length = M by rw [HMl.out, List.length_append, HK.out]; rfl]
                  exact h⟩
                case measure => simp [intOf]; omega
        · obtain rfl : j = k := by omega
          go_wp2
          have hfin := norm_good Hal.out Hok.out
          have e : preN l' j = normL l' := by rw [← preN_all, Hl3.out]
          have ho' := ho.out
          rw [e] at ho'
          have hp := Hpre.out j (by rw [Hl3.out]; exact Nat.le_refl _)
          rw [e] at hp
          refine bodyPost_ret (v := .tuple #[u8, .nilIface]) (by simp [results, Tryz.results15, go_sem]) rfl ?_
          exact ⟨.inr ⟨Hbad.out, _, _, rfl, own_mono ho' (Nat.le_trans Hz0.out Hz3.out), hfin.1, fun x => by rw [hfin.2, mem_perm Hperm.out], hp.2.2.2, by rw [Hl.out]; exact hp.2.2.1⟩, Hb.out.trans ((Hb3.out.trans (Hbj.out.mono Hz3.out)).mono Hz0.out)⟩

end Go.Proofs.YtbiohohclnaocaaGreatDoor
