/-
  Walk: kenningref04.Normal.
-/
import Derived.Test.YtbiohohclnaocaaGreatDoorRgStarts
import Derived.Test.YtbiohohclnaocaaGreatDoorRgDoP
namespace Go.Proofs.YtbiohohclnaocaaGreatDoor
open Go.RowKit
set_option linter.unusedVariables false

theorem asc_len : ∀ {L M : List Nat}, Asc L → (∀ y ∈ L, y ∈ M) → L.length ≤ M.length
  | [], M, _, _ => Nat.zero_le _
  | a :: L, M, h, hm => by
    have h1 := asc_len (L := L) (M := M.erase a) h.tail (fun y hy => by
      have := h.lower y hy
      rw [List.mem_erase_of_ne (by omega)]
      exact hm y (List.mem_cons_of_mem _ hy))
    have h2 := List.length_erase_of_mem (hm a (List.mem_cons_self ..))
    have h3 : 0 < M.length := List.length_pos_of_mem (hm a (List.mem_cons_self ..))
    simp only [List.length_cons]
    omega

theorem pcsL_piece (f : Nat → Bool) {L : List Nat} {i : Nat} (h : i < L.length) : (pcsL f L)[i]? = some (pieceOf L i, f (nth L i)) := by
  rw [pcsL_get f h]
  unfold pieceOf
  rfl

theorem takeL_step (f : Nat → Bool) {L : List Nat} {k : Nat} (h : k < L.length) :
    takeL ((pcsL f L).take (k + 1)) [] = if f (nth L k) = true then putL (takeL ((pcsL f L).take k) []) (pieceOf L k) else takeL ((pcsL f L).take k) [] := by
  have hk : k < (pcsL f L).length := by rw [pcsL_len]; exact h
  have e := pcsL_piece f h
  rw [List.getElem?_eq_getElem hk] at e
  have e' : (pcsL f L)[k] = (pieceOf L k, f (nth L k)) := by simpa using e
  rw [List.take_succ_eq_append_getElem hk, takeL_append, e', takeL]
  rfl

theorem pieceOf_lt {L : List Nat} {k : Nat} (h : k < L.length) (hl : ∀ x ∈ L, x < 18446744073709551616) : (pieceOf L k).1 < 18446744073709551616 ∧ (pieceOf L k).2 < 18446744073709551616 := by
  have h1 := hl _ (nth_mem h)
  unfold pieceOf
  split
  · rename_i h2
    have := hl _ (nth_mem h2)
    exact ⟨h1, by simp only; omega⟩
  · exact ⟨h1, by simp only; omega⟩

theorem pcsL_lt (f : Nat → Bool) {L : List Nat} (hl : ∀ x ∈ L, x < 18446744073709551616) (k : Nat) : ∀ p ∈ (pcsL f L).take k, p.1.1 < 18446744073709551616 ∧ p.1.2 < 18446744073709551616 := by
  intro p hp
  obtain ⟨i, hi, rfl⟩ := List.getElem_of_mem (List.mem_of_mem_take hp)
  rw [pcsL_len] at hi
  have e := pcsL_piece f hi
  rw [List.getElem?_eq_getElem (by rw [pcsL_len]; exact hi)] at e
  have e' : (pcsL f L)[i]'(by rw [pcsL_len]; exact hi) = (pieceOf L i, f (nth L i)) := by simpa using e
  rw [e']
  exact pieceOf_lt hi hl

set_option maxRecDepth 20000 in
set_option maxHeartbeats 2000000 in
theorem refNormal_any (a : Option Addr) (n cap : Nat) (l : List Iv) (w : World) (hI : Ivs w a n cap l) (hn : n ≤ 10000) :
    Calls Tryz.prog 26 #[.slice a n cap] w fun e w' =>
      (∃ v L, e = .returned v ∧ w'.ownsRow w.heap.size 31 2 v L.length (ivC L) ∧ Good L ∧ (∀ x, mem L x = mem l x) ∧ ∀ t ∈ L, t.1 < 18446744073709551616 ∧ t.2 < 18446744073709551616) ∧ Below w.heap.size w w' := by
  have HI := Lib.hid hI
  have hA : Below w.heap.size w (w.alloc (.cells #[.slice a n cap] 23)) := (Below.refl _ _).alloc (Nat.le_refl _) _
  have hR : Rls (w.alloc (.cells #[.slice a n cap] 23)) (some ⟨w.heap.size, 0, none⟩) 1 1 [l] := by
    refine ⟨rfl, Nat.le_refl _, by omega, (by intro h; cases h), fun _ => ⟨w.heap.size, 0, rfl, fun i hi => ?_⟩⟩
    obtain rfl : i = 0 := by omega
    refine ⟨a, cap, ?_, ?_⟩
    · rw [World.cell?_alloc_mark]
      show some (Value.slice a n cap) = _
      rw [show ([l].getD 0 []).length = n from hI.len]
    · rw [show ([l].getD 0 []).length = n from hI.len]
      exact hI.below hA
  have hal : (allL [l]).length ≤ 100000 := by
    have := bnds_len l
    rw [hI.len] at this
    simp [allL]
    omega
  have hS := Lib.hid (refStarts_any (some ⟨w.heap.size, 0, none⟩) 1 1 [l] _ hR (by omega) hal)
  have Hal := Lib.hid hal
  have HA := Lib.hid hA
  clear hR hal hI hA
  go_enter Tryz.func26, Tryz.ntmps26
  go_wp2_with fail
  refine hS.out.mono ?_
  rintro e w1 ⟨⟨v, L, rfl, ho, hAs, hmem⟩, hb1⟩
  have Hb1 := Lib.hid (HA.out.trans (hb1.mono HA.out.size)); clear hb1
  have hal : ∀ y, y ∈ allL [l] ↔ y = 0 ∨ y ∈ bnds l := fun y => by simp [allL]
  have hLlt : ∀ x ∈ L, x < 18446744073709551616 := fun x hx => by
    rcases (hal x).1 ((hmem x).1 hx) with rfl | h
    · omega
    · exact bnds_lt HI.out.lt x h
  have hLen : L.length ≤ 100000 := Nat.le_trans (asc_len hAs fun y hy => (hmem y).1 hy) Hal.out
  obtain ⟨aS, cS, rfl, hU⟩ := u64s_own ho hLlt
  have HU := Lib.hid hU
  have hdo := do_good (f := mem l) hAs hLlt ((hmem 0).2 ((hal 0).2 (.inl rfl))) (fun c x h1 h2 h3 => mem_const HI.out.lt h1 h2 fun y hy => h3 y ((hmem y).2 ((hal y).2 (.inr hy)))) (fun x hx => mem_top HI.out.lt hx)
  have Hdo := Lib.hid hdo
  have HAs := Lib.hid hAs
  have HLl := Lib.hid hLlt
  have HIw := Lib.hid (HI.out.below Hb1.out)
  have Hz1 := Lib.hid Hb1.out.size
  obtain ⟨M, hM⟩ : ∃ M, M = L.length := ⟨_, rfl⟩
  rw [← hM] at HU hLen ⊢
  have HM := Lib.hid hM
  clear hM hdo hAs hLlt hU ho hmem hal hS HA Hal
  go_wp2
  go_loopw [4, 5] (fun v i wr => ∃ k : Nat, k ≤ M ∧ i = .int .i64 k ∧ Below w1.heap.size w1 wr ∧ Hid (wr.ownsRow w1.heap.size 31 2 v (takeL ((pcsL (mem l) L).take k) []).length (ivC (takeL ((pcsL (mem l) L).take k) [])))) (fun _ i _ => M - (intOf i).toNat)
  case atStart => exact ⟨0, by omega, rfl, Below.refl _ _, World.ownsRow_nil _ _ _ _⟩
  case round =>
    obtain ⟨k, hk, rfl, hb, ho⟩ := hrel
    have Hb := Lib.hid hb; clear hb
    by_cases hkM : k < M
    · have Hst := Lib.hid (takeL_step (mem l) (L := L) (k := k) (by rw [← HM.out]; exact hkM))
      have Hpl := Lib.hid (pieceOf_lt (L := L) (k := k) (by rw [← HM.out]; exact hkM) HLl.out)
      have Htl := Lib.hid (takeL_lt (out := []) (pcsL_lt (mem l) HLl.out k) (by simp))
      have Htn := Lib.hid (show (takeL ((pcsL (mem l) L).take k) []).length ≤ 100000 from by
        have h1 := takeL_len ((pcsL (mem l) L).take k) []
        have h2 : ((pcsL (mem l) L).take k).length ≤ M := by rw [List.length_take, pcsL_len, ← HM.out]; omega
        simp only [List.length_nil, Nat.zero_add] at h1
        omega)
      have hP := Lib.hid (fun w' (h : Below w1.heap.size w1 w') => refPiece_any aS M cS k L w' (HU.out.below h) hkM (by omega) (fun h2 => by
        have := asc_get HAs.out (i := k) (j := k + 1) (by omega) (by rw [← HM.out]; exact h2)
        omega))
      have hH := Lib.hid (fun w' (h : Below w1.heap.size w1 w') => refHas_any a n cap (nth L k) l w' (HIw.out.below h))
      have hcS := HU.out.cells (by omega)
      obtain ⟨bS, oS, rfl, hcS⟩ := hcS
      have hc := hcS k hkM
      have Hc := Lib.hid (fun w' (h : Below w1.heap.size w1 w') => (h.cell (p := ⟨bS, oS + k, none⟩) (cell_lt hc)).trans hc)
      have hc := Hc.out _ Hb.out
      clear hcS
      generalize htk : takeL ((pcsL (mem l) L).take k) [] = T at *
      have HT := Lib.hid htk
      clear htk
      generalize pieceOf L k = p at *
      generalize nth L k = x at *
      have Hkn := Lib.hid hkM
      go_wp2_with fail
      refine (hH.out _ Hb.out).mono ?_
      rintro e w2 ⟨rfl, hb2⟩
      have Hb2 := Lib.hid (Hb.out.trans (hb2.mono Hb.out.size))
      have Ho2 := Lib.hid (own_below ho.out hb2)
      clear hb2 hc
      by_cases hx : mem l x = true
      · rw [hx] at Hst ⊢
        rw [if_pos rfl] at Hst
        clear hx
        go_wp2_with fail
        refine (hP.out _ Hb2.out).mono ?_
        rintro e w3 ⟨rfl, hb3⟩
        have Hb3 := Lib.hid (Hb2.out.trans (hb3.mono Hb2.out.size))
        have Ho3 := Lib.hid (own_below Ho2.out hb3)
        clear hb3
        go_wp2_with fail
        refine (refPut_any _ _ _ p w1 _ Hb3.out Ho3.out Htn.out Htl.out Hpl.out).mono ?_
        rintro e w4 ⟨⟨v', rfl, ho4⟩, hb4⟩
        have Ho4 := Lib.hid ho4
        have Hb4 := Lib.hid hb4
        clear ho4 hb4
        go_wp2
        go_roundw
        case rel => exact ⟨k + 1, by omega, by go_num, Hb4.out, by rw [Hst.out]; exact Ho4.out⟩
        case measure => simp [intOf]; omega
      · have hx' : mem l x = false := by simpa using hx
        rw [hx'] at Hst ⊢
        rw [if_neg (by simp)] at Hst
        clear hx hx'
        go_wp2
        go_roundw
        case rel => exact ⟨k + 1, by omega, by go_num, Hb2.out, by rw [Hst.out]; exact Ho2.out⟩
        case measure => simp [intOf]; omega
    · obtain rfl : k = M := by omega
      go_wp2
      go_ret
      have e : (pcsL (mem l) L).take k = pcsL (mem l) L := List.take_of_length_le (by rw [pcsL_len, HM.out]; exact Nat.le_refl _)
      have ho' := ho.out
      rw [e] at ho'
      exact ⟨⟨_, _, rfl, own_mono ho' Hz1.out, Hdo.out.1, Hdo.out.2, takeL_lt (by
        have := pcsL_lt (mem l) HLl.out k
        rwa [e] at this) (by simp)⟩, Hb1.out.trans (Hb.out.mono Hz1.out)⟩

end Go.Proofs.YtbiohohclnaocaaGreatDoor
