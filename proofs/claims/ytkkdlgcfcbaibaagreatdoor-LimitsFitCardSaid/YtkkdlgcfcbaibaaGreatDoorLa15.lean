/- Walks and laws, joined: La15. -/
import Derived.Test.YtkkdlgcfcbaibaaGreatDoorLa14
set_option linter.unusedVariables false
namespace Go.Proofs.YtkkdlgcfcbaibaaGreatDoor
section
open Go.RowKit
theorem nth_in {l : List Nat} {k : Nat} (h : k < l.length) : nth l k ∈ l := by
 unfold nth
 rw [List.getD_eq_getElem?_getD, List.getElem?_eq_getElem h]
 exact List.getElem_mem h
theorem asc_nth {l : List Nat} (h : Asc l) {i j : Nat} (hij : i < j) (hj : j < l.length) : nth l i < nth l j := asc_get h hij hj
theorem insA_at {L : List Nat} {x k : Nat} (hA : Asc L) (hk : k ≤ L.length) (h1 : ∀ j, j < k → nth L j < x) (h2 : k < L.length → ¬ nth L k < x) :
 insA L x = if k < L.length ∧ nth L k = x then L else L.take k ++ x :: L.drop k := by
 split
 · rename_i h
   refine asc_ext (insA_asc hA) hA fun y => ?_
   rw [insA_mem]
   constructor
   · rintro (h' | rfl)
     · exact h'
     · rw [← h.2]; exact nth_in h.1
   · exact .inl
 · rename_i h
   obtain ⟨a1, a2⟩ := asc_ins hA (x := x) (k := k) hk (fun h0 => h1 _ (by omega)) (fun t ht hl => by
    have hkl : k < L.length := by omega
    have h3 := h2 hkl
    have h4 : nth L k ≠ x := fun e => h ⟨hkl, e⟩
    by_cases e : t = k
    · rw [e]; omega
    · have := asc_nth hA (i := k) (j := t) (by omega) hl
      omega)
   refine asc_ext (insA_asc hA) a1 fun y => ?_
   rw [insA_mem, a2 y]
theorem firstN_step {L : List Nat} {x k : Nat} (h : ∀ j, j < k → nth L j < x) (hk : nth L k < x) : ∀ j, j < k + 1 → nth L j < x := fun j hj => by
 by_cases e : j = k
 · rw [e]; exact hk
 · exact h j (by omega)
theorem insA_len {L : List Nat} {x : Nat} (hA : Asc L) : (insA L x).length ≤ L.length + 1 := by
 have := asc_len (insA_asc (x := x) hA) (M := x :: L) (fun y hy => by
  rcases insA_mem.1 hy with h | h
  · exact List.mem_cons_of_mem _ h
  · rw [h]; exact List.mem_cons_self)
 simpa using this
theorem rd_none (w : World) (sz : Nat) : Rd w sz none 0 [] := ⟨by simp, fun h => by omega⟩
set_option maxRecDepth 20000 in
set_option maxHeartbeats 4000000 in
theorem refPut10_any (B n x : Nat) (v : Value) (L : List Nat) (w : World) (ho : w.ownsRow B 24 1 v n (u64C L)) (hB : B ≤ w.heap.size) (hA : Asc L) (hl : ∀ y ∈ L, y < 18446744073709551616) (hn : n ≤ 100000) :
 Calls Tryz.prog 206 #[v, .int .u64 x] w fun e w' => (∃ y, e = .returned y ∧ w'.ownsRow B 24 1 y (insA L x).length (u64C (insA L x))) ∧ Below w.heap.size w w' := by
 have hlen : L.length = n := by have := ho.1; rw [u64C_length] at this; omega
 have Ho := Lib.hid ho; have HA := Lib.hid hA; have Hl := Lib.hid hlen
 obtain ⟨a, cap, rfl, hU⟩ := u64s_own ho hl
 have HU := Lib.hid hU
 clear ho hA hl hU hlen
 have hcm : n ≤ cap := HU.out.room
 go_enter Tryz.func206, Tryz.ntmps206
 go_wp2
 go_loopw [5] (fun i wr => ∃ k : Nat, k ≤ n ∧ i = .int .i64 k ∧ Below w.heap.size w wr ∧ Hid (∀ j, j < k → nth L j < x)) (fun i _ => n - (intOf i).toNat)
 case atStart => exact ⟨0, by omega, rfl, Below.refl _ _, fun j h => by omega⟩
 case round =>
  obtain ⟨k, hk, rfl, hb, ht⟩ := hrel
  have Hb := Lib.hid hb; clear hb
  have h0 : (0 : Int) ≤ k := by omega
  have Hr := Lib.hid (own_below Ho.out Hb.out)
  by_cases hkn : k < n
  · obtain ⟨g, rfl, hgb, hgc, hcR⟩ := own_read Hr.out (by omega)
    have q1 := hcR k hkn
    have Hq := Lib.hid (fun w' (h : Below wr.heap.size wr w') => (h.cell (p := ⟨g, k, none⟩) (cell_lt q1)).trans q1)
    clear hcR
    have h01 : (k : Int) < (n : Int) := by omega
    have Hins := Lib.hid (fun h2 => insA_at (x := x) HA.out (k := k) (by rw [Hl.out]; exact hk) ht.out h2)
    rw [Hl.out] at Hins
    have Hst := Lib.hid (fun h => firstN_step (x := x) (L := L) ht.out h)
    generalize nth L k = z at *
    by_cases hzx : z < x
    · have hd : decide ((z : Int) < (x : Int)) = true := by rw [decide_eq_true_iff]; omega
      have hdn : decide (z < x) = true := by rw [decide_eq_true_iff]; exact hzx
      have Hs := Lib.hid (Hst.out hzx)
      clear hzx
      go_wp2
      go_roundw
      case rel => exact ⟨k + 1, by omega, by go_num, Hb.out, Hs.out⟩
      case measure => simp [intOf]; omega
    · have hd : decide ((z : Int) < (x : Int)) = false := by rw [decide_eq_false_iff_not]; omega
      have hdn : decide (z < x) = false := by rw [decide_eq_false_iff_not]; exact hzx
      have Hi := Lib.hid (Hins.out fun _ => hzx)
      clear hzx
      by_cases hz2 : z = x
      · subst hz2
        rw [if_pos ⟨hkn, rfl⟩] at Hi
        go_wp2
        go_ret
        exact ⟨⟨_, rfl, by rw [Hi.out, Hl.out]; exact Hr.out⟩, Hb.out⟩
      · have hne : ((z : Int) == (x : Int)) = false := by rw [beq_eq_false_iff_ne]; omega
        rw [if_neg (fun h => hz2 h.2)] at Hi
        clear hz2
        have Hhd := Lib.hid (show ∀ w', Below wr.heap.size wr w' → Rd w' 1 (some ⟨g, 0, none⟩) k (u64C (L.take k)) from fun w' h => by
         have := own_take (own_below Hr.out h) k hk
         rw [Nat.mul_one, u64C_take] at this
         exact Rd.own this)
        have Htl := Lib.hid (show ∀ w', Below wr.heap.size wr w' → Rd w' 1 (if cap = k then some ⟨g, 0, none⟩ else some ⟨g, k, none⟩) (n - k) (u64C (L.drop k)) from fun w' h => by
         have h1 := (own_drop Hr.out k hk).below h
         split
         · exact ⟨h1.1, fun h0 => by omega⟩
         · exact h1)
        have hkc : k ≤ cap := by omega
        have hzr : w.heap.size ≤ wr.heap.size := Hb.out.size
        go_wp2_with fail
        have q2 := Hq.out
        clear q1
        go_region_held3 (fun w' => Below wr.heap.size wr w') (first | assumption | exact (Below.refl _ _).drew | exact Below.alloc (by assumption) (Below.size (by assumption)) _) (first
         | (refine step_append_u64 rfl (.tmp 33) (.tmp 36) rfl rfl wr.heap.size _ 0 [] rfl (own_empty (by first | exact heap_at_new _ _ _ (by simp) | exact heap_at_old _ _ _ _ (heap_at_new _ _ _ (by simp))) (by simp <;> omega)) _ k _ (L.take k) rfl (Hhd.out _ (by assumption)) (by omega) (by simp <;> omega) ?_
            intro v1 w1 ho1 hg1
            have hS1 : Below wr.heap.size wr w1 := by
             refine Below.grown (B := wr.heap.size) (by assumption) hg1 (by simp <;> omega) ?_
             intro j hj
             simp [Value.ownBlock, Act.eval] at hj
             omega)
         | (refine step_append_u64 rfl (.tmp 37) (.tmp 39) rfl rfl wr.heap.size _ _ _ rfl (by first | exact ho1 | exact ho1.alloc _) _ 1 _ [x] rfl (by first | exact rd_block (heap_at_new _ _ _ (by simp)) rfl rfl | exact rd_grown hg1 (rd_block (by first | exact heap_at_new _ _ _ (by simp) | exact heap_at_old _ _ _ _ (heap_at_new _ _ _ (by simp))) rfl rfl) (by simp [Value.ownBlock, Act.eval]) (by simp <;> omega)) (by omega) (by have := hS1.size; simp <;> omega) ?_
            intro v2 w2 ho2 hg2
            have hS2 : Below wr.heap.size wr w2 := by
             refine Below.grown (B := wr.heap.size) (by assumption) hg2 ?_ (fun j hj => (ho1.lt j hj).1)
             have := hS1.size
             simp <;> omega)
         | (refine step_append_u64 rfl (.tmp 40) (.tmp 43) rfl rfl wr.heap.size _ _ _ rfl ho2 _ (n - k) _ (L.drop k) rfl (Htl.out _ (by assumption)) (by omega) (by have := hS2.size; simp <;> omega) ?_
            intro v3 w3 ho3 hg3
            have hS3 : Below wr.heap.size wr w3 := by
             refine Below.grown (B := wr.heap.size) (by assumption) hg3 ?_ (fun j hj => (ho2.lt j hj).1)
             have := hS2.size
             simp <;> omega))
        all_goals
         go_wp2
         go_ret
         refine ⟨⟨_, rfl, ?_⟩, Hb.out.trans (hS3.mono hzr)⟩
         have e : (insA L x).length = 0 + k + 1 + (n - k) := by rw [Hi.out]; simp [Hl.out]; omega
         rw [e, Hi.out]
         have := own_mono (b := B) ho3 (by omega)
         simpa using this
  · obtain rfl : k = n := by omega
    have Hi := Lib.hid (insA_at (x := x) HA.out (k := k) (by rw [Hl.out]; exact hk) ht.out (fun h => by rw [Hl.out] at h; omega))
    rw [if_neg (fun h => by rw [Hl.out] at h; omega)] at Hi
    rcases own_none Hr.out with ⟨rfl, rfl, rfl⟩ | ⟨g, rfl, -, -, hgl⟩
    · rw [show ((0 : Nat) : Int) = 0 from rfl]
      have hzr : w.heap.size ≤ wr.heap.size := Hb.out.size
      go_wp2_with fail
      go_region_held3 (fun w' => Below wr.heap.size wr w') (first | assumption | exact (Below.refl _ _).drew | exact Below.alloc (by assumption) (Below.size (by assumption)) _) (first
       | (refine step_append_u64 rfl (.tmp 33) (.tmp 36) rfl rfl wr.heap.size _ 0 [] rfl (own_empty (by first | exact heap_at_new _ _ _ (by simp) | exact heap_at_old _ _ _ _ (heap_at_new _ _ _ (by simp))) (by simp <;> omega)) _ 0 _ [] rfl (rd_none _ _) (by omega) (by simp <;> omega) ?_
          intro v1 w1 ho1 hg1
          have hS1 : Below wr.heap.size wr w1 := by
           refine Below.grown (B := wr.heap.size) (by assumption) hg1 (by simp <;> omega) ?_
           intro j hj
           simp [Value.ownBlock, Act.eval] at hj
           omega)
       | (refine step_append_u64 rfl (.tmp 37) (.tmp 39) rfl rfl wr.heap.size _ _ _ rfl (by first | exact ho1 | exact ho1.alloc _) _ 1 _ [x] rfl (by first | exact rd_block (heap_at_new _ _ _ (by simp)) rfl rfl | exact rd_grown hg1 (rd_block (by first | exact heap_at_new _ _ _ (by simp) | exact heap_at_old _ _ _ _ (heap_at_new _ _ _ (by simp))) rfl rfl) (by simp [Value.ownBlock, Act.eval]) (by simp <;> omega)) (by omega) (by have := hS1.size; simp <;> omega) ?_
          intro v2 w2 ho2 hg2
          have hS2 : Below wr.heap.size wr w2 := by
           refine Below.grown (B := wr.heap.size) (by assumption) hg2 ?_ (fun j hj => (ho1.lt j hj).1)
           have := hS1.size
           simp <;> omega)
       | (refine step_append_u64 rfl (.tmp 40) (.tmp 43) rfl rfl wr.heap.size _ _ _ rfl ho2 _ 0 _ [] rfl (rd_none _ _) (by omega) (by have := hS2.size; simp <;> omega) ?_
          intro v3 w3 ho3 hg3
          have hS3 : Below wr.heap.size wr w3 := by
           refine Below.grown (B := wr.heap.size) (by assumption) hg3 ?_ (fun j hj => (ho2.lt j hj).1)
           have := hS2.size
           simp <;> omega))
      all_goals
       go_wp2
       go_ret
       refine ⟨⟨_, rfl, ?_⟩, Hb.out.trans (hS3.mono hzr)⟩
       have e : (insA L x).length = 0 + 0 + 1 + 0 := by rw [Hi.out]; simp [List.length_eq_zero_iff.1 Hl.out]
       rw [e, Hi.out]
       have := own_mono (b := B) ho3 (by omega)
       rw [List.length_eq_zero_iff.1 Hl.out]
       simpa using this
    · skip
      have Hhd := Lib.hid (show ∀ w', Below wr.heap.size wr w' → Rd w' 1 (some ⟨g, 0, none⟩) k (u64C (L.take k)) from fun w' h => by
       have := own_take (own_below Hr.out h) k hk
       rw [Nat.mul_one, u64C_take] at this
       exact Rd.own this)
      have Htl := Lib.hid (show ∀ w', Below wr.heap.size wr w' → Rd w' 1 (if cap = k then some ⟨g, 0, none⟩ else some ⟨g, k, none⟩) 0 (u64C []) from fun w' h => ⟨rfl, fun h0 => by omega⟩)
      have hkc : k ≤ cap := by omega
      have hzr : w.heap.size ≤ wr.heap.size := Hb.out.size
      go_wp2_with fail
      go_region_held3 (fun w' => Below wr.heap.size wr w') (first | assumption | exact (Below.refl _ _).drew | exact Below.alloc (by assumption) (Below.size (by assumption)) _) (first
       | (refine step_append_u64 rfl (.tmp 33) (.tmp 36) rfl rfl wr.heap.size _ 0 [] rfl (own_empty (by first | exact heap_at_new _ _ _ (by simp) | exact heap_at_old _ _ _ _ (heap_at_new _ _ _ (by simp))) (by simp <;> omega)) _ k _ (L.take k) rfl (Hhd.out _ (by assumption)) (by omega) (by simp <;> omega) ?_
          intro v1 w1 ho1 hg1
          have hS1 : Below wr.heap.size wr w1 := by
           refine Below.grown (B := wr.heap.size) (by assumption) hg1 (by simp <;> omega) ?_
           intro j hj
           simp [Value.ownBlock, Act.eval] at hj
           omega)
       | (refine step_append_u64 rfl (.tmp 37) (.tmp 39) rfl rfl wr.heap.size _ _ _ rfl (by first | exact ho1 | exact ho1.alloc _) _ 1 _ [x] rfl (by first | exact rd_block (heap_at_new _ _ _ (by simp)) rfl rfl | exact rd_grown hg1 (rd_block (by first | exact heap_at_new _ _ _ (by simp) | exact heap_at_old _ _ _ _ (heap_at_new _ _ _ (by simp))) rfl rfl) (by simp [Value.ownBlock, Act.eval]) (by simp <;> omega)) (by omega) (by have := hS1.size; simp <;> omega) ?_
          intro v2 w2 ho2 hg2
          have hS2 : Below wr.heap.size wr w2 := by
           refine Below.grown (B := wr.heap.size) (by assumption) hg2 ?_ (fun j hj => (ho1.lt j hj).1)
           have := hS1.size
           simp <;> omega)
       | (refine step_append_u64 rfl (.tmp 40) (.tmp 43) rfl rfl wr.heap.size _ _ _ rfl ho2 _ 0 _ [] rfl (Htl.out _ (by assumption)) (by omega) (by have := hS2.size; simp <;> omega) ?_
          intro v3 w3 ho3 hg3
          have hS3 : Below wr.heap.size wr w3 := by
           refine Below.grown (B := wr.heap.size) (by assumption) hg3 ?_ (fun j hj => (ho2.lt j hj).1)
           have := hS2.size
           simp <;> omega))
      all_goals go_wp2
      all_goals go_ret
      all_goals
       refine ⟨⟨_, rfl, ?_⟩, Hb.out.trans (hS3.mono hzr)⟩
       have hdr : L.drop k = [] := List.drop_eq_nil_of_le (by rw [Hl.out]; exact Nat.le_refl _)
       have e : (insA L x).length = 0 + k + 1 + 0 := by rw [Hi.out, hdr]; simp [Hl.out]
       rw [e, Hi.out, hdr]
       have := own_mono (b := B) ho3 (by omega)
       simpa using this
end
end Go.Proofs.YtkkdlgcfcbaibaaGreatDoor
