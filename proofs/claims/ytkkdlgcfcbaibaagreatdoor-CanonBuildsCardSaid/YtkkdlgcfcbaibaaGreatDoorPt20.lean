/- Walks and laws, merged: part 20. -/
import Derived.Test.YtkkdlgcfcbaibaaGreatDoorPt19
import Derived.Test.YtkkdlgcfcbaibaaGreatDoorPt14
import Derived.Test.YtkkdlgcfcbaibaaGreatDoorPt17
import Derived.Test.YtkkdlgcfcbaibaaGreatDoorPt05
import Derived.Test.YtkkdlgcfcbaibaaGreatDoorPt06
section
namespace Go.Proofs.YtkkdlgcfcbaibaaGreatDoor
open Go.RowKit
set_option linter.unusedVariables false

/-- What has been told when k entries, and m holes of the next, are done. -/
def preNum (v : Vec) (k : Nat) : List Nat := v.length :: (v.take k).flatMap numE
theorem preNum_succ {v : Vec} {k : Nat} (h : k < v.length) : preNum v (k + 1) = preNum v k ++ numE (nthE v k) := by
  unfold preNum
  rw [List.take_succ_eq_append_getElem h, List.flatMap_append, nthE_get h]
  simp
theorem preNum_all (v : Vec) : preNum v v.length = numV v := by unfold preNum numV; rw [List.take_length]
theorem preNum_le {v : Vec} {k : Nat} : (preNum v k).length ≤ (numV v).length := by
  unfold preNum numV
  rw [List.length_cons, List.length_cons]
  have h : v.flatMap numE = (v.take k).flatMap numE ++ (v.drop k).flatMap numE := by rw [← List.flatMap_append, List.take_append_drop]
  rw [h, List.length_append]
  omega
theorem numH_snoc (l : List Iv) (k : Nat) (h : k < l.length) : numH (l.take (k + 1)) = numH (l.take k) ++ [(nthI l k).1, (nthI l k).2] := by
  unfold numH
  rw [List.take_succ_eq_append_getElem h, List.flatMap_append, nthI_get h]
  simp
theorem numH_len (l : List Iv) : (numH l).length = 2 * l.length := by
  unfold numH
  induction l with
  | nil => rfl
  | cons s l ih => simp only [List.flatMap_cons, List.length_append, ih, List.length_cons, List.length_nil]; omega

set_option maxRecDepth 20000 in
set_option maxHeartbeats 4000000 in
theorem refNumbers9_any (a : Option Addr) (n cap : Nat) (v : Vec) (w : World) (hE : Ents w a n cap v) (hN : (numV v).length ≤ 900000) :
    Calls Tryz.prog 151 #[.slice a n cap] w fun x w' => (∃ y, x = .returned y ∧ w'.ownsRow w.heap.size 24 1 y (numV v).length (u64C (numV v))) ∧ Below w.heap.size w w' := by
  have HE := Lib.hid hE; have HN := Lib.hid hN
  have Hl := Lib.hid hE.len
  have hm : n ≤ 9223372036854775807 := Nat.le_trans hE.room hE.most
  have hw : IntKind.u64.wrap (n : Int) = (n : Int) := by rw [IntKind.wrap_u64]; omega
  have ho0 := World.ownsRow_lit (e := 24) (size := 1) (base := w.heap.size) w (u64C [n]).toArray 1 (Nat.le_refl _) (by unfold maxLen; omega) rfl
  have Ho0 := Lib.hid ho0
  have hb0 : Below w.heap.size w (w.alloc (.cells (u64C [n]).toArray 24)) := (Below.refl _ _).alloc (Nat.le_refl _) _
  clear hE hN ho0
  go_enter Tryz.func151, Tryz.ntmps151
  go_wp2
  go_loopw [3, 4, 5] (fun y i _ wr => ∃ k : Nat, k ≤ n ∧ i = .int .i64 k ∧ Below w.heap.size w wr ∧ Hid (wr.ownsRow w.heap.size 24 1 y (preNum v k).length (u64C (preNum v k)))) (fun _ i _ _ => n - (intOf i).toNat)
  case atStart => exact ⟨0, by omega, rfl, hb0, by
    have := Ho0.out
    rw [show preNum v 0 = [n] from by unfold preNum; rw [Hl.out]; rfl]
    exact this⟩
  case round =>
    obtain ⟨k, hk, rfl, hb, ho⟩ := hrel
    have Hb := Lib.hid hb; clear hb
    by_cases hkn : k < n
    · have hkv : k < v.length := by rw [Hl.out]; exact hkn
      obtain ⟨bb, oo, rfl⟩ := HE.out.some (by omega)
      obtain ⟨x, m, c, hq⟩ := HE.out.fix hkn
      have Hst := Lib.hid (preNum_succ hkv)
      have Hpl := Lib.hid (preNum_le (v := v) (k := k + 1))
      obtain ⟨-, -, -, hIv⟩ := hq _ (Below.refl _ _)
      have HIv := Lib.hid hIv
      obtain ⟨P1, hP1⟩ : ∃ P1, preNum v (k + 1) = P1 := ⟨_, rfl⟩
      rw [hP1] at Hst Hpl
      have HP1 := Lib.hid hP1
      clear hP1
      generalize preNum v k = P at *
      generalize nthE v k = e at *
      obtain ⟨er, em, eh⟩ := e
      simp only at hq HIv hIv
      have Hel := Lib.hid hIv.len
      have hcm : m ≤ 9223372036854775807 := Nat.le_trans hIv.room hIv.most
      have hwm : IntKind.u64.wrap (m : Int) = (m : Int) := by rw [IntKind.wrap_u64]; omega
      have Hlen := Lib.hid (show P.length + 3 + 2 * m ≤ 900000 from by
        have h1 := Hpl.out
        have h2 := HN.out
        rw [Hst.out, List.length_append] at h1
        simp only [numE, List.length_cons, numH_len, Hel.out] at h1
        omega)
      have hbr : Below w.heap.size w wr := Hb.out
      have r1 : ∀ w', Below w.heap.size wr w' → w'.cell? ⟨bb, oo + k * 3, none⟩ = some (.int .u64 er) := fun w' h => (hq w' (hbr.trans h)).1
      have r2 : ∀ w', Below w.heap.size wr w' → w'.cell? ⟨bb, oo + k * 3 + 1, none⟩ = some (.int .u64 em) := fun w' h => (hq w' (hbr.trans h)).2.1
      have r3 : ∀ w', Below w.heap.size wr w' → w'.cell? ⟨bb, oo + k * 3 + 2, none⟩ = some (.slice x m c) := fun w' h => (hq w' (hbr.trans h)).2.2.1
      have h0 : (0 : Int) ≤ k := by omega
      have h04 : (k : Int) < (n : Int) := by omega
      have HoW := Lib.hid (fun W (h : Below wr.heap.size wr W) => own_below ho.out h)
      clear hIv
      go_wp2_with fail
      have hz : w.heap.size ≤ wr.heap.size := Hb.out.size
      have R3 := Lib.hid (fun w' (h : Below w.heap.size w w') => (hq w' h).2.2.1)
      clear hq
      go_region_held3 (fun w' => Below w.heap.size wr w') (first | assumption | exact (Below.refl _ _).drew | exact Below.alloc (by assumption) (Nat.le_trans hz (Below.size (by assumption))) _) (first
        | (refine step_append_u64 rfl (.tmp 16) (.tmp 34) rfl rfl w.heap.size _ P.length P rfl (HoW.out _ (by first | exact ((Below.refl _ _).alloc (Nat.le_refl _) _).drew | exact ((Below.refl _ _).drew).alloc (by simp) _)) _ 3 _ [er, em, m] rfl (rd_block (by first | exact heap_at_new _ _ _ (by simp) | exact heap_at_old _ _ _ _ (heap_at_new _ _ _ (by simp))) rfl rfl) (by have := Hlen.out; omega) (by simp <;> omega) ?_
           intro v1 w1 ho1 hg1
           have hS1 : Below w.heap.size wr w1 := by
             refine Below.grown (B := w.heap.size) (by assumption) hg1 (by simp <;> omega) ?_
             intro j hj
             exact ((HoW.out wr (Below.refl _ _)).lt j hj).1))
      all_goals
        have Hb1 := Lib.hid (hbr.trans hS1)
        have Ho1 := Lib.hid ho1
        clear hS1 hg1 ho1
        go_wp2
        go_loopw [3, 5] (fun y j wi => ∃ d : Nat, d ≤ m ∧ j = .int .i64 d ∧ Below w.heap.size w wi ∧ Hid (wi.ownsRow w.heap.size 24 1 y (P ++ [er, em, m] ++ numH (eh.take d)).length (u64C (P ++ [er, em, m] ++ numH (eh.take d))))) (fun _ j _ => m - (intOf j).toNat)
        case atStart => exact ⟨0, by omega, rfl, Hb1.out, by
          have := Ho1.out
          rw [show (P ++ [er, em, m] ++ numH (eh.take 0)) = P ++ [er, em, m] from by simp [numH]]
          rw [List.length_append]
          exact this⟩
        case round =>
          obtain ⟨d, hd, rfl, hbi, hoi⟩ := hrel
          have Hbi := Lib.hid hbi; clear hbi
          have s3 := R3.out wr Hbi.out
          have Hel2 := Lib.hid (show d < m → numH (eh.take (d + 1)) = numH (eh.take d) ++ [(nthI eh d).1, (nthI eh d).2] from fun h => numH_snoc eh d (by rw [Hel.out]; exact h))
          have Hnl := Lib.hid (show (P ++ [er, em, m] ++ numH (eh.take d)).length ≤ P.length + 3 + 2 * d from by
            rw [List.length_append, List.length_append, numH_len, List.length_take]
            simp only [List.length_cons, List.length_nil]
            omega)
          by_cases hdm : d < m
          · obtain ⟨hb, ho, rfl, hc⟩ := HIv.out.cells (by omega)
            obtain ⟨c1, c2⟩ := hc d hdm
            clear hc
            have Hel2 := Lib.hid (Hel2.out hdm)
            generalize numH (eh.take d) = N at *
            generalize nthI eh d = p at *
            obtain ⟨px, py⟩ := p
            simp only at c1 c2 Hel2
            have h0d : (0 : Int) ≤ d := by omega
            have h04d : (d : Int) < (m : Int) := by omega
            obtain ⟨wz, hwz⟩ : ∃ wz : World, wz = wr := ⟨_, rfl⟩
            have hz2 : w.heap.size ≤ wr.heap.size := Hbi.out.size
            have s1 : ∀ w', Below w.heap.size wr w' → w'.cell? ⟨bb, oo + k * 3 + 2, none⟩ = some (.slice (some ⟨hb, ho, none⟩) m c) := fun w' h => R3.out w' (Hbi.out.trans h)
            have s4 : ∀ w', Below w.heap.size wr w' → w'.cell? ⟨hb, ho + d * 2, none⟩ = some (.int .u64 px) := fun w' h => ((Hbi.out.trans h).cell (p := ⟨hb, ho + d * 2, none⟩) (cell_lt c1)).trans c1
            have s5 : ∀ w', Below w.heap.size wr w' → w'.cell? ⟨hb, ho + d * 2 + 1, none⟩ = some (.int .u64 py) := fun w' h => ((Hbi.out.trans h).cell (p := ⟨hb, ho + d * 2 + 1, none⟩) (cell_lt c2)).trans c2
            have HoI := Lib.hid (fun W (h : Below wr.heap.size wr W) => own_below hoi.out h)
            clear c1 c2 hwz
            go_wp2_with fail
            clear s3
            go_region_held3 (fun w' => Below w.heap.size wr w') (first | assumption | exact (Below.refl _ _).drew | exact Below.alloc (by assumption) (Nat.le_trans hz2 (Below.size (by assumption))) _) (first
              | (refine step_append_u64 rfl (.tmp 46) (.tmp 65) rfl rfl w.heap.size _ _ (P ++ [er, em, m] ++ N) rfl (HoI.out _ (by first | exact ((Below.refl _ _).alloc (Nat.le_refl _) _).drew | exact ((Below.refl _ _).drew).alloc (by simp) _)) _ 2 _ [px, py] rfl (rd_block (by first | exact heap_at_new _ _ _ (by simp) | exact heap_at_old _ _ _ _ (heap_at_new _ _ _ (by simp))) rfl rfl) (by have := Hlen.out; have := Hnl.out; omega) (by simp <;> omega) ?_
                 intro v2 w2 ho2 hg2
                 have hS2 : Below w.heap.size wr w2 := by
                   refine Below.grown (B := w.heap.size) (by assumption) hg2 (by simp <;> omega) ?_
                   intro j hj
                   exact ((HoI.out wr (Below.refl _ _)).lt j hj).1))
            all_goals
              go_wp2
              go_roundw
              case rel => exact ⟨d + 1, by omega, by go_num, Hbi.out.trans hS2, by
                rw [Hel2.out, ← List.append_assoc]
                rw [List.length_append (bs := [px, py])]
                exact ho2⟩
              case measure => simp [intOf]; omega
          · obtain rfl : d = m := by omega
            have Hoi := Lib.hid hoi.out
            have hall : P ++ [er, em, d] ++ numH (eh.take d) = P1 := by
              rw [Hst.out, List.take_of_length_le (by rw [Hel.out]; exact Nat.le_refl _), List.append_assoc]
              simp only [numE, Hel.out]
              rfl
            rw [hall] at Hoi
            clear hall
            go_wp2
            go_roundw
            case rel => exact ⟨k + 1, by omega, by go_num, Hbi.out, by rw [HP1.out]; exact Hoi.out⟩
            case measure => simp [intOf]; omega
    · obtain rfl : k = n := by omega
      have Ho := Lib.hid ho.out
      rw [← Hl.out, preNum_all] at Ho
      go_wp2
      go_ret
      exact ⟨⟨_, rfl, Ho.out⟩, Hb.out⟩

end Go.Proofs.YtkkdlgcfcbaibaaGreatDoor
end

section
namespace Go.Proofs.YtkkdlgcfcbaibaaGreatDoor
open Go.RowKit
set_option linter.unusedVariables false

theorem drop_nth {l : List Nat} {k : Nat} (h : k < l.length) : l.drop k = nth l k :: l.drop (k + 1) := by
  rw [List.drop_eq_getElem_cons h]
  congr 1
  simp [nth, h]

theorem cmpN_step {p q : List Nat} {k : Nat} (hp : k < p.length) (hq : k < q.length) : cmpN (p.drop k) (q.drop k) = if nth p k < nth q k then -1 else if nth q k < nth p k then 1 else cmpN (p.drop (k + 1)) (q.drop (k + 1)) := by
  rw [drop_nth hp, drop_nth hq]
  rfl
theorem cmpN_end {p q : List Nat} {k : Nat} (hp : k ≤ p.length) (hq : k ≤ q.length) (h : k = p.length ∨ k = q.length) : cmpN (p.drop k) (q.drop k) = if p.length < q.length then -1 else if q.length < p.length then 1 else 0 := by
  rcases h with rfl | rfl
  · rw [List.drop_length]
    by_cases hl : p.length < q.length
    · rw [if_pos hl, drop_nth hl]; rfl
    · have : q.drop p.length = [] := List.drop_eq_nil_of_le (by omega)
      rw [if_neg hl, if_neg (by omega), this]; rfl
  · rw [List.drop_length]
    by_cases hl : q.length < p.length
    · rw [if_neg (by omega), if_pos hl, drop_nth hl]; rfl
    · have : p.drop q.length = [] := List.drop_eq_nil_of_le (by omega)
      rw [if_neg (by omega), if_neg hl, this]; rfl

set_option maxRecDepth 20000 in
set_option maxHeartbeats 4000000 in
theorem refCompare9_any (a d : Option Addr) (n c n' c' : Nat) (v u : Vec) (w : World) (hE : Ents w a n c v) (hF : Ents w d n' c' u) (hN : (numV v).length ≤ 900000) (hM : (numV u).length ≤ 900000)
    (hpl : ∀ x ∈ numV v, x < 18446744073709551616) (hql : ∀ x ∈ numV u, x < 18446744073709551616) :
    Calls Tryz.prog 107 #[.slice a n c, .slice d n' c'] w fun x w' => x = .returned (.int .i64 (cmpV v u)) ∧ Below w.heap.size w w' := by
  have HF := Lib.hid hF; have HN := Lib.hid hN; have HM := Lib.hid hM
  have Hpl := Lib.hid hpl; have Hql := Lib.hid hql
  have hC := Lib.hid (refNumbers9_any a n c v w hE hN)
  have hD := Lib.hid (fun w' (h : Below w.heap.size w w') => refNumbers9_any d n' c' u w' (hF.below h) hM)
  have Hcv := Lib.hid (show cmpV v u = cmpN (numV v) (numV u) from rfl)
  clear hE hF hN hM hpl hql
  generalize numV v = P at *
  generalize numV u = R at *
  generalize cmpV v u = z at *
  go_enter Tryz.func107, Tryz.ntmps107
  go_wp2_with fail
  refine hC.out.mono ?_
  rintro e w1 ⟨⟨y, rfl, ho1⟩, hb1⟩
  have Hb1 := Lib.hid hb1
  obtain ⟨aP, cP, rfl, hU1⟩ := u64s_own ho1 Hpl.out
  clear hb1 ho1
  have HU1 := Lib.hid hU1; clear hU1
  go_wp2_with fail
  refine (hD.out _ Hb1.out).mono ?_
  rintro e w2 ⟨⟨y, rfl, ho2⟩, hb2⟩
  have Hb2 := Lib.hid (Hb1.out.trans (hb2.mono Hb1.out.size))
  obtain ⟨aR, cR, rfl, hU2⟩ := u64s_own ho2 Hql.out
  have HUp := Lib.hid (HU1.out.below hb2)
  clear hb2 ho2
  have HUr := Lib.hid hU2; clear hU2 HU1 hC hD
  obtain ⟨N, hN⟩ : ∃ N, N = P.length := ⟨_, rfl⟩
  obtain ⟨M, hM⟩ : ∃ M, M = R.length := ⟨_, rfl⟩
  rw [← hN] at HN HUp ⊢
  rw [← hM] at HM HUr ⊢
  have HNl := Lib.hid hN; have HMl := Lib.hid hM
  have hNm : N ≤ 9223372036854775807 := Nat.le_trans HUp.out.room HUp.out.most
  clear hN hM
  go_wp2
  go_loopw [7] (fun i wr => ∃ k : Nat, k ≤ N ∧ k ≤ M ∧ i = .int .i64 k ∧ Below w2.heap.size w2 wr ∧ Hid (z = cmpN (P.drop k) (R.drop k))) (fun i _ => N - (intOf i).toNat)
  case atStart => exact ⟨0, by omega, by omega, rfl, Below.refl _ _, (by simpa using Hcv.out : z = cmpN (P.drop 0) (R.drop 0))⟩
  case round =>
    obtain ⟨k, hkN, hkM, rfl, hb, ht⟩ := hrel
    have Hb := Lib.hid hb; clear hb
    have Hbw := Lib.hid (Hb2.out.trans (Hb.out.mono Hb2.out.size))
    have h0 : (0 : Int) ≤ k := by omega
    by_cases h1 : k < N
    · by_cases h2 : k < M
      · have hst := cmpN_step (p := P) (q := R) (k := k) (by rw [← HNl.out]; exact h1) (by rw [← HMl.out]; exact h2)
        have Hst := Lib.hid (ht.out.trans hst)
        obtain ⟨b1, o1, rfl, hc1⟩ := (HUp.out.below Hb.out).cells (by omega)
        obtain ⟨b2, o2, rfl, hc2⟩ := (HUr.out.below Hb.out).cells (by omega)
        have q1 := hc1 k h1
        have q2 := hc2 k h2
        clear hst hc1 hc2
        generalize nth P k = x at *
        generalize nth R k = y at *
        have h01 : (k : Int) < (N : Int) := by omega
        have h02 : (k : Int) < (M : Int) := by omega
        have hcP := HUp.out.room
        have hcR := HUr.out.room
        by_cases hxy : x < y
        · have hd1 : decide ((x : Int) < (y : Int)) = true := by rw [decide_eq_true_iff]; omega
          have hd2 : decide (x < y) = true := by rw [decide_eq_true_iff]; omega
          rw [if_pos hxy] at Hst
          clear hxy
          go_wp2
          go_quiet (fail)
          go_wp2
          go_ret
          exact ⟨by rw [Hst.out]; rfl, by first | exact Hbw.out | exact below_drewN' Hbw.out _⟩
        · have hd1 : decide ((x : Int) < (y : Int)) = false := by rw [decide_eq_false_iff_not]; omega
          have hd2 : decide (x < y) = false := by rw [decide_eq_false_iff_not]; omega
          rw [if_neg hxy] at Hst
          by_cases hyx : y < x
          · have hd3 : decide ((y : Int) < (x : Int)) = true := by rw [decide_eq_true_iff]; omega
            have hd4 : decide (y < x) = true := by rw [decide_eq_true_iff]; omega
            rw [if_pos hyx] at Hst
            clear hxy hyx
            go_wp2
            go_quiet (fail)
            go_wp2
            go_quiet (fail)
            go_wp2
            go_ret
            exact ⟨by rw [Hst.out]; rfl, by first | exact Hbw.out | exact below_drewN' Hbw.out _ | exact below_drewN' (below_drewN' Hbw.out _) _⟩
          · have hd3 : decide ((y : Int) < (x : Int)) = false := by rw [decide_eq_false_iff_not]; omega
            have hd4 : decide (y < x) = false := by rw [decide_eq_false_iff_not]; omega
            rw [if_neg hyx] at Hst
            clear hxy hyx
            go_wp2
            go_quiet (fail)
            go_wp2
            go_quiet (fail)
            go_wp2
            go_roundw
            case rel => exact ⟨k + 1, by omega, by omega, by go_num, by first | exact Hb.out | exact below_drewN' Hb.out _ | exact below_drewN' (below_drewN' Hb.out _) _, Hst.out⟩
            case measure => simp [intOf]; omega
      · obtain rfl : k = M := by omega
        have Hz := Lib.hid (ht.out.trans (cmpN_end (by rw [← HNl.out]; omega) (by rw [← HMl.out]; omega) (.inr HMl.out)))
        rw [← HNl.out, ← HMl.out, if_neg (by omega), if_pos h1] at Hz
        have hd1 : decide ((N : Int) < (k : Int)) = false := by rw [decide_eq_false_iff_not]; omega
        have hd2 : decide ((k : Int) < (N : Int)) = true := by rw [decide_eq_true_iff]; omega
        go_wp2
        go_ret
        exact ⟨by rw [Hz.out]; rfl, Hbw.out⟩
    · obtain rfl : k = N := by omega
      have Hz := Lib.hid (ht.out.trans (cmpN_end (by rw [← HNl.out]; omega) (by rw [← HMl.out]; omega) (.inl HNl.out)))
      rw [← HNl.out, ← HMl.out] at Hz
      by_cases h2 : k < M
      · rw [if_pos h2] at Hz
        have hd1 : decide ((k : Int) < (M : Int)) = true := by rw [decide_eq_true_iff]; omega
        go_wp2
        go_ret
        exact ⟨by rw [Hz.out]; rfl, Hbw.out⟩
      · rw [if_neg h2, if_neg (by omega)] at Hz
        have hd1 : decide ((k : Int) < (M : Int)) = false := by rw [decide_eq_false_iff_not]; omega
        have hd2 : decide ((M : Int) < (k : Int)) = false := by rw [decide_eq_false_iff_not]; omega
        go_wp2
        go_ret
        exact ⟨by rw [Hz.out]; rfl, Hbw.out⟩

/-- The numbers of a vector that fits. -/
theorem fits_num {v : Vec} (h : VecFits v) : (numV v).length ≤ 900000 := by
  have h1 := h.len
  have : ∀ u : Vec, (∀ e ∈ u, e.2.2.length ≤ 500) → (u.flatMap numE).length ≤ u.length * 1003 := by
    intro u
    induction u with
    | nil => intro _; simp
    | cons e u ih =>
      intro hu
      have h2 := ih fun f hf => hu f (List.mem_cons_of_mem _ hf)
      have h3 := hu e List.mem_cons_self
      rw [List.flatMap_cons, List.length_append, List.length_cons]
      simp only [numE, List.length_cons, numH_len]
      omega
  have h4 := this v h.holes
  unfold numV
  rw [List.length_cons]
  omega
theorem lt_num {v : Vec} (h : LtV v) (hf : VecFits v) : ∀ x ∈ numV v, x < 18446744073709551616 := by
  intro x hx
  simp only [numV, List.mem_cons, List.mem_flatMap, numE, numH, List.not_mem_nil, or_false] at hx
  rcases hx with rfl | ⟨e, he, rfl | rfl | rfl | ⟨s, hs, rfl | rfl⟩⟩
  · have := hf.len; omega
  · exact (h e he).rep
  · exact (h e he).max
  · have := hf.holes e he; omega
  · exact ((h e he).holes s hs).1
  · exact ((h e he).holes s hs).2

end Go.Proofs.YtkkdlgcfcbaibaaGreatDoor
end

section
namespace Go.Proofs.YtkkdlgcfcbaibaaGreatDoor
open Go.RowKit
set_option linter.unusedVariables false

end Go.Proofs.YtkkdlgcfcbaibaaGreatDoor
end

section
namespace Go.Proofs.YtkkdlgcfcbaibaaGreatDoor
open Go.RowKit
set_option linter.unusedVariables false

theorem knownAt_pos (v : Vec) (r : Nat) : knownAt v r = match posE v r with | some i => knownL (nthE v i) | none => [] := by
  cases h : posE v r with
  | none =>
    have hn := posE_none h
    unfold knownAt
    rw [List.find?_eq_none.2 (fun e he => by simpa using hn e he)]
  | some i =>
    obtain ⟨k, hk, hf, hs⟩ := firstS_of_some h
    have hi : i = k ∧ (nthE v k).1 = r := by
      split at hs
      · rename_i h2; cases hs; exact ⟨rfl, h2⟩
      · cases hs
    obtain ⟨rfl, hr⟩ := hi
    unfold knownAt
    have : v.find? (fun e => decide (e.1 = r)) = some (nthE v i) := by
      rw [List.find?_eq_some_iff_getElem]
      refine ⟨by simpa using hr, i, hk, (nthE_get hk).symm, fun j hj => ?_⟩
      have h3 := hf j hj
      split at h3
      · cases h3
      · rename_i h4
        rw [nthE_get (by omega)] at h4
        simpa using h4
    rw [this]

theorem knownAt_len {v : Vec} (hl : LtV v) (hF : VecFits v) (r : Nat) : (knownAt v r).length ≤ 501 := by
  rw [knownAt_pos]
  cases h : posE v r with
  | none => simp
  | some i =>
    obtain ⟨hi, -⟩ := posE_some h
    have h1 := hF.holes _ (nthE_mem hi)
    have h2 := hl _ (nthE_mem hi)
    have := knownL_len h2.holes h2.max
    simp only
    omega

theorem below_set3 {B g : Nat} {w W : World} {x y z : Value} (h : Below B w W) (hg : B ≤ g) : Below B w (((W.setCell ⟨g, 0, none⟩ x).setCell ⟨g, 1, none⟩ y).setCell ⟨g, 2, none⟩ z) :=
  ((h.setCell hg _).setCell hg _).setCell hg _

theorem row3_cells {w' : World} {g : Nat} {x y z : Value} {T : TypeId} (hr : w'.heap[g]? = some (.cells #[x, y, z] T)) :
    w'.cell? ⟨g, 0, none⟩ = some x ∧ w'.cell? ⟨g, 1, none⟩ = some y ∧ w'.cell? ⟨g, 2, none⟩ = some z ∧ w'.frozen? ⟨g, 0, none⟩ = false ∧ w'.frozen? ⟨g, 1, none⟩ = false ∧ w'.frozen? ⟨g, 2, none⟩ = false :=
  ⟨cells_cell (i := 0) hr rfl, cells_cell (i := 1) hr rfl, cells_cell (i := 2) hr rfl, by simp [World.frozen?, hr], by simp [World.frozen?, hr], by simp [World.frozen?, hr]⟩

end Go.Proofs.YtkkdlgcfcbaibaaGreatDoor
end

section
namespace Go.Proofs.YtkkdlgcfcbaibaaGreatDoor
open Go.RowKit
set_option linter.unusedVariables false

/-- The cells of a fragment, with its slices for good. -/
theorem Frags.fix {w : World} {b o n cap : Nat} {k : Kno} (h : Frags w (some ⟨b, o, none⟩) n cap k) {i : Nat} (hi : i < n) : ∃ x m c y m' c', ∀ w', Below w.heap.size w w' →
    w'.cell? ⟨b, o + i * 2, none⟩ = some (.slice x m c) ∧ Ivs w' x m c (nthF k i).1 ∧ w'.cell? ⟨b, o + i * 2 + 1, none⟩ = some (.slice y m' c') ∧ Ents w' y m' c' (nthF k i).2 := by
  obtain ⟨b', o', hs, hc⟩ := h.cells (by omega)
  cases hs
  obtain ⟨⟨x, m, c, h1, h2⟩, ⟨y, m', c', h3, h4⟩⟩ := hc i hi
  exact ⟨x, m, c, y, m', c', fun w' hb => ⟨(hb.cell (p := ⟨b, o + i * 2, none⟩) (cell_lt h1)).trans h1, h2.below hb, (hb.cell (p := ⟨b, o + i * 2 + 1, none⟩) (cell_lt h3)).trans h3, h4.below hb⟩⟩
theorem Frags.some {w : World} {a : Option Addr} {n cap : Nat} {k : Kno} (h : Frags w a n cap k) (hn : 0 < n) : ∃ b o, a = some ⟨b, o, none⟩ := by
  obtain ⟨b, o, ha, -⟩ := h.cells hn
  exact ⟨b, o, ha⟩

set_option maxRecDepth 20000 in
set_option maxHeartbeats 2000000 in
theorem refCheck11_any (a : Option Addr) (n cap : Nat) (k : Kno) (w : World) (hE : Frags w a n cap k) :
    Calls Tryz.prog 31 #[.slice a n cap] w fun x w' => x = .returned (.tuple #[.int .i64 (errCode (errOf (ckF k))), .int .i64 (errAt (errOf (ckF k)))]) ∧ Below w.heap.size w w' := by
  have HE := Lib.hid hE
  have Hl := Lib.hid hE.len
  have hm : n ≤ 9223372036854775807 := Nat.le_trans hE.room hE.most
  have Hck := Lib.hid (show ckF k = firstS (ckFAt k) k.length from rfl)
  clear hE
  go_enter Tryz.func31, Tryz.ntmps31
  go_wp2
  go_loopw [4, 5, 6] (fun i _ _ wr => ∃ d : Nat, d ≤ n ∧ i = .int .i64 d ∧ Below w.heap.size w wr ∧ Hid (∀ j, j < d → ckFAt k j = none)) (fun i _ _ _ => n - (intOf i).toNat)
  case atStart => exact ⟨0, by omega, rfl, Below.refl _ _, fun j h => by omega⟩
  case round =>
    obtain ⟨d, hd, rfl, hb, ht⟩ := hrel
    have Hb := Lib.hid hb; clear hb
    by_cases hdn : d < n
    · have hdk : d < k.length := by rw [Hl.out]; exact hdn
      have HEr := Lib.hid (HE.out.below Hb.out)
      obtain ⟨bb, oo, rfl⟩ := HEr.out.some (by omega)
      obtain ⟨x, m, c, y, m', c', hq⟩ := HEr.out.fix hdn
      have Hq := Lib.hid hq
      have Hat := Lib.hid (show ckFAt k d = match ck (nthF k d).1 with | some x => some (x.1, d) | none => match ckV (nthF k d).2 with | some x => some (x.1, d) | none => none from rfl)
      have hC := Lib.hid (fun w' h => refCheck_any x m c (nthF k d).1 w' (hq w' h).2.1)
      have hV := Lib.hid (fun w' h => refCheck9_any y m' c' (nthF k d).2 w' (hq w' h).2.2.2)
      have h0 : (0 : Int) ≤ d := by omega
      have h04 : (d : Int) < (n : Int) := by omega
      obtain ⟨q1, -, q2, -⟩ := hq _ (Below.refl _ _)
      clear hq
      generalize nthF k d = f at *
      cases h : ck f.1 with
      | some z =>
        have hc0 := ck_code h
        obtain ⟨cd, ci⟩ := z
        rw [h] at Hat hC
        simp only [errOf, errCode, errAt] at Hat hC
        have hne : ((cd : Int) != 0) = true := by rw [bne_iff_ne]; simp at hc0; omega
        have heq : ((cd : Int) == 0) = false := by rw [beq_eq_false_iff_ne]; simp at hc0; omega
        have Hr := Lib.hid (firstS_some hdk ht.out Hat.out)
        clear h hc0 hV
        go_wp2_with fail
        refine (hC.out _ (Below.refl _ _)).mono ?_
        rintro z w1 ⟨rfl, hb1⟩
        have Hb1 := Lib.hid hb1; clear hb1
        go_wp2
        go_ret2
        exact ⟨by rw [Hck.out, Hr.out]; rfl, Hb.out.trans (Hb1.out.mono Hb.out.size)⟩
      | none =>
        rw [h] at Hat hC
        simp only [errOf, errCode, errAt] at Hat hC
        clear h
        go_wp2_with fail
        refine (hC.out _ (Below.refl _ _)).mono ?_
        rintro z w1 ⟨rfl, hb1⟩
        have Hb1 := Lib.hid hb1; clear hb1 q1 q2
        obtain ⟨q1, -, q2, -⟩ := Hq.out _ Hb1.out
        have Hw1 := Lib.hid (Hb.out.trans (Hb1.out.mono Hb.out.size))
        cases h : ckV f.2 with
        | some z =>
          have hc0 := ckV_code h
          obtain ⟨cd, ci⟩ := z
          rw [h] at Hat hV
          simp only [errOf, errCode, errAt] at Hat hV
          have hne : ((cd : Int) != 0) = true := by rw [bne_iff_ne]; simp at hc0; omega
          have Hr := Lib.hid (firstS_some hdk ht.out Hat.out)
          clear h hc0
          go_wp2_with fail
          refine (hV.out _ Hb1.out).mono ?_
          rintro z w2 ⟨rfl, hb2⟩
          have Hb2 := Lib.hid hb2; clear hb2
          go_wp2
          go_ret2
          exact ⟨by rw [Hck.out, Hr.out]; rfl, Hw1.out.trans (Hb2.out.mono Hw1.out.size)⟩
        | none =>
          rw [h] at Hat hV
          simp only [errOf, errCode, errAt] at Hat hV
          have Hr := Lib.hid (firstS_step ht.out Hat.out)
          clear h
          go_wp2_with fail
          refine (hV.out _ Hb1.out).mono ?_
          rintro z w2 ⟨rfl, hb2⟩
          have Hb2 := Lib.hid hb2; clear hb2
          go_wp2
          go_roundw
          case rel => exact ⟨d + 1, by omega, by go_num, Hw1.out.trans (Hb2.out.mono Hw1.out.size), Hr.out⟩
          case measure => simp [intOf]; omega
    · obtain rfl : d = n := by omega
      have Hr := Lib.hid (firstS_none (n := k.length) (fun j hj => ht.out j (by rw [← Hl.out]; exact hj)))
      go_wp2
      go_ret2
      exact ⟨by rw [Hck.out, Hr.out]; rfl, by first | exact Hb.out | exact below_drewN' Hb.out _⟩

theorem all_step {p : Nat → Prop} {d : Nat} (h : ∀ j, j < d → p j) (hd : p d) : ∀ j, j < d + 1 → p j := fun j hj => by
  by_cases e : j = d
  · rw [e]; exact hd
  · exact h j (by omega)

def fewF (f : Frg) : Bool := decide (f.1.length ≤ 20) && fewV f.2
def fewK (k : Kno) : Bool := k.all fewF && decide (k.length ≤ 12)

end Go.Proofs.YtkkdlgcfcbaibaaGreatDoor
end

section
namespace Go.Proofs.YtkkdlgcfcbaibaaGreatDoor
open Go.RowKit
set_option linter.unusedVariables false

/-! Slices of ints that are numbers. -/
def i64C (l : List Nat) : List Value := l.map fun x => Value.int .i64 ((x : Nat) : Int)
theorem i64C_append (a b : List Nat) : i64C (a ++ b) = i64C a ++ i64C b := by simp [i64C]
theorem i64C_length (a : List Nat) : (i64C a).length = a.length := by simp [i64C]
theorem i64C_get (l : List Nat) (i : Nat) (h : i < l.length) : (i64C l)[i]? = some (.int .i64 ((nth l i : Nat) : Int)) := by simp [i64C, nth, h]
theorem i64C_one (l : List Nat) : ∀ u ∈ i64C l, u.oneCell' = true := by
  intro u hu
  simp only [i64C, List.mem_map] at hu
  obtain ⟨x, _, rfl⟩ := hu
  rfl

structure I64s (w : World) (a : Option Addr) (n cap : Nat) (l : List Nat) : Prop where
  len : l.length = n
  room : n ≤ cap
  most : cap ≤ 9223372036854775807
  nilc : a = none → cap = 0
  cells : 0 < n → ∃ b o, a = some ⟨b, o, none⟩ ∧ ∀ i, i < n → w.cell? ⟨b, o + i, none⟩ = some (.int .i64 ((nth l i : Nat) : Int))

theorem I64s.below {w w' : World} {a : Option Addr} {n cap : Nat} {l : List Nat} (h : I64s w a n cap l) (hb : Below w.heap.size w w') : I64s w' a n cap l := by
  refine ⟨h.len, h.room, h.most, h.nilc, fun hn => ?_⟩
  obtain ⟨b, o, ha, hc⟩ := h.cells hn
  refine ⟨b, o, ha, fun i hi => ?_⟩
  have := hc i hi
  exact (hb.cell (p := ⟨b, o + i, none⟩) (cell_lt this)).trans this

theorem Tryz.info_int : (Tryz.prog.info? 3).map (fun i => (i.zero, i.size, i.bytes)) = some (some (.int .i64 0), 1, 8) := by kernel_rfl

theorem run_append_i64 {w : World} (base : Nat) (v : Value) (n : Nat) (xs : List Nat) (hown : w.ownsRow base 3 1 v n (i64C xs)) (A : Option Addr) (m c : Nat) (l : List Nat) (hr : Rd w 1 A m (i64C l)) (hb : n + m ≤ 1000000) (hbase : base ≤ w.heap.size) :
    ∃ v' w', (Builtin.append_ #[29, 29] 29 #[v, .slice A m c]).run Tryz.prog w = .ok v' w' ∧ w'.ownsRow base 3 1 v' (n + m) (i64C (xs ++ l)) ∧ w.grownBy w' v.ownBlock := by
  rw [i64C_append]
  exact run_append_rd base _ _ _ _ 1 8 Tryz.underlying29 Tryz.info_int rfl (by omega) v n _ hown A m c _ hr (i64C_one l) (by unfold maxLen; omega) (by omega) hbase

theorem wpList_append_i64 {w : World} {ops : Array Oper} {rest : List Oper} {o : Oper} {a : Act} {Q : Exit → Act → World → Prop} (hgd : o.guard = none) (s x : Operand)
    (ho : o.op = .call { callee := .builtin .append, args := #[s, x], argTypes := #[29, 29] }) (hty : o.type = 29)
    (base : Nat) (v : Value) (n : Nat) (xs : List Nat) (hs : a.eval s = v) (hown : w.ownsRow base 3 1 v n (i64C xs)) (A : Option Addr) (m c : Nat) (l : List Nat) (hx : a.eval x = .slice A m c) (hr : Rd w 1 A m (i64C l)) (hb : n + m ≤ 1000000) (hbase : base ≤ w.heap.size)
    (h : ∀ v' w', w'.ownsRow base 3 1 v' (n + m) (i64C (xs ++ l)) → w.grownBy w' v.ownBlock → wpList Tryz.prog ops Q rest (a.put o.dst v') w') : wpList Tryz.prog ops Q (o :: rest) a w := by
  obtain ⟨v', w', hrun, h1, h2⟩ := run_append_i64 base v n xs hown A m c l hr hb hbase
  exact wpList_append_hr _ _ _ ho (by simp [Region.wanted, hgd]) _ _ hs hx v' w' (by rw [hty]; exact hrun) (h v' w' h1 h2)

end Go.Proofs.YtkkdlgcfcbaibaaGreatDoor
end
