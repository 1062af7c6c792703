/- Walks and laws, joined: La16. -/
import Derived.Test.YtkkdlgcfcbaibaaGreatDoorLa15
import Derived.Test.YtkkdlgcfcbaibaaGreatDoorLa10
set_option linter.unusedVariables false
namespace Go.Proofs.YtkkdlgcfcbaibaaGreatDoor
section
open Go.RowKit
theorem knownAt_pos (v : Vec) (r : Nat) : knownAt v r = match posE v r with | some i => knownL (nthE v i) | none => [] := by
 cases h : posE v r with
 | none =>
  have hn := posE_none h
  unfold knownAt
  rw [List.find?_eq_none.2 (fun e he => by simpa using hn e he)]
 | some i =>
  obtain ⟨k, hk, hf, hs⟩ := firstS_of_some h
  have hi : i = k ∧ (nthE v k).1 = r := by
   split at hs
   · rename_i h2; cases hs; exact ⟨rfl, h2⟩
   · cases hs
  obtain ⟨rfl, hr⟩ := hi
  unfold knownAt
  have : v.find? (fun e => decide (e.1 = r)) = some (nthE v i) := by
   rw [List.find?_eq_some_iff_getElem]
   refine ⟨by simpa using hr, i, hk, (nthE_get hk).symm, fun j hj => ?_⟩
   have h3 := hf j hj
   split at h3
   · cases h3
   · rename_i h4
     rw [nthE_get (by omega)] at h4
     simpa using h4
  rw [this]
theorem opL_len_gen (g : Bool → Bool → Bool) (a b : List Iv) : (opL g a b).length ≤ 1 + 2 * a.length + 2 * b.length := by
 unfold opL
 have h1 := takeL_len (pcsL (fun x => g (mem a x) (mem b x)) (sortA (allL [a, b]))) []
 rw [pcsL_len] at h1
 have h2 := asc_len (sortA_asc (allL [a, b])) (M := allL [a, b]) (fun y hy => (sortA_mem _ y).1 hy)
 have h3 := bnds_len a
 have h4 := bnds_len b
 simp [allL] at h1 h2 ⊢
 omega
theorem knownAt_len {v : Vec} (hl : LtV v) (hF : VecFits v) (r : Nat) : (knownAt v r).length ≤ 501 := by
 rw [knownAt_pos]
 cases h : posE v r with
 | none => simp
 | some i =>
  obtain ⟨hi, -⟩ := posE_some h
  have h1 := hF.holes _ (nthE_mem hi)
  have h2 := hl _ (nthE_mem hi)
  have := knownL_len h2.holes h2.max
  simp only
  omega
theorem refKnown10_any (a : Option Addr) (n cap r : Nat) (v : Vec) (w : World) (hE : Ents w a n cap v) (hF : VecFits v) :
 Calls Tryz.prog 207 #[.slice a n cap, .int .u64 r] w fun x w' => OwnIv w.heap.size (knownAt v r) x w' ∧ Below w.heap.size w w' := by
 have hC := Lib.hid (refFind9_any a n cap r v w hE)
 have Hk := Lib.hid (knownAt_pos v r)
 have HE := Lib.hid hE
 have Hl := Lib.hid hE.len
 have HF := Lib.hid hF
 clear hE hF
 cases h : posE v r with
 | none =>
  rw [h] at hC Hk
  simp only [intO] at hC Hk
  clear h
  go_enter Tryz.func207, Tryz.ntmps207
  go_wp2_with fail
  refine hC.out.mono ?_
  rintro e w1 ⟨rfl, hb1⟩
  have Hb1 := Lib.hid hb1; clear hb1
  go_wp2
  go_ret
  exact ⟨⟨_, rfl, by rw [Hk.out]; exact World.ownsRow_nil _ _ _ _⟩, Hb1.out⟩
 | some i =>
  obtain ⟨hi, -⟩ := posE_some h
  rw [h] at hC Hk
  simp only [intO] at hC Hk
  have hin : i < n := by rw [← Hl.out]; exact hi
  have h0 : (0 : Int) ≤ i := by omega
  have h04 : (i : Int) < (n : Int) := by omega
  have hd : decide ((i : Int) < 0) = false := by rw [decide_eq_false_iff_not]; omega
  obtain ⟨bb, oo, rfl⟩ := HE.out.some (by omega)
  obtain ⟨s, m, c, hq⟩ := HE.out.fix hin
  have Hq := Lib.hid hq
  have hlt := HE.out.lt _ (nthE_mem hi)
  have hho := HF.out.holes _ (nthE_mem hi)
  have hk := Lib.hid (fun w' h => refKnown7_any (nthE v i) s m c w' ((hq w' h).2.2.2) hlt.max (by omega))
  clear hlt hho
  generalize nthE v i = e at *
  obtain ⟨er, em, eh⟩ := e
  simp only at Hq hk
  clear h hi hq
  go_enter Tryz.func207, Tryz.ntmps207
  go_wp2_with fail
  refine hC.out.mono ?_
  rintro e w1 ⟨rfl, hb1⟩
  have Hb1 := Lib.hid hb1; clear hb1
  obtain ⟨q1, q2, q3, -⟩ := Hq.out _ Hb1.out
  go_wp2_with fail
  refine (hk.out _ Hb1.out).mono ?_
  rintro e w2 ⟨⟨y, rfl, ho⟩, hb2⟩
  have Hb2 := Lib.hid hb2; have Ho := Lib.hid ho
  clear hb2 ho
  go_wp2
  go_ret
  exact ⟨⟨_, rfl, by rw [Hk.out]; exact own_mono Ho.out Hb1.out.size⟩, Hb1.out.trans (Hb2.out.mono Hb1.out.size)⟩
def repsTo (a : Vec) (k : Nat) (acc : List Nat) : List Nat := ((a.take k).map (·.1)).foldl insA acc
theorem repsTo_succ {a : Vec} {k : Nat} {acc : List Nat} (h : k < a.length) : repsTo a (k + 1) acc = insA (repsTo a k acc) (nthE a k).1 := by
 unfold repsTo
 rw [List.take_succ_eq_append_getElem h, List.map_append, List.foldl_append, nthE_get h]
 rfl
theorem repsTo_len {a : Vec} {acc : List Nat} (hA : Asc acc) : ∀ k, (repsTo a k acc).length ≤ acc.length + k ∧ Asc (repsTo a k acc)
 | 0 => ⟨by simp [repsTo], by simpa [repsTo] using hA⟩
 | k + 1 => by
   obtain ⟨h1, h2⟩ := repsTo_len (a := a) hA k
   by_cases h : k < a.length
   · rw [repsTo_succ h]
     have := insA_len (x := (nthE a k).1) h2
     exact ⟨by omega, insA_asc h2⟩
   · have : repsTo a (k + 1) acc = repsTo a k acc := by unfold repsTo; rw [List.take_of_length_le (by omega), List.take_of_length_le (by omega)]
     rw [this]; exact ⟨by omega, h2⟩
theorem repsTo_mem {a : Vec} {acc : List Nat} (k : Nat) (y : Nat) (h : y ∈ repsTo a k acc) : y ∈ acc ∨ ∃ e ∈ a, e.1 = y := by
 have : ∀ (l : List Nat) (acc : List Nat), y ∈ l.foldl insA acc → y ∈ acc ∨ y ∈ l := by
  intro l
  induction l with
  | nil => intro acc h; exact .inl h
  | cons x l ih =>
   intro acc h
   rcases ih _ h with h | h
   · rcases insA_mem.1 h with h | rfl
     · exact .inl h
     · exact .inr List.mem_cons_self
   · exact .inr (List.mem_cons_of_mem _ h)
 rcases this _ _ h with h | h
 · exact .inl h
 · rw [List.mem_map] at h
   obtain ⟨e, he, rfl⟩ := h
   exact .inr ⟨e, List.mem_of_mem_take he, rfl⟩
theorem repsV_to (a b : Vec) : repsTo b b.length (repsTo a a.length []) = repsV a b := by
 unfold repsTo repsV sortA
 rw [List.take_length, List.take_length, List.foldl_append]
theorem ofRes_keep {base : Nat} {f : Ent} {x : Ending} {w' : World} (h : OfRes base (some f) x w') (hl : Lt64 f.2.2) : ∃ a c, x = .returned (.tuple #[entV f (.slice a f.2.2.length c), .bool true]) ∧
 ∀ w'', (∀ k, base ≤ k → k < w'.heap.size → w''.heap[k]? = w'.heap[k]?) → IvsT w'' 0 a f.2.2.length c f.2.2 := by
 obtain ⟨s, rfl, ho⟩ := h
 obtain ⟨a, c, rfl, -⟩ := ivsT_own (base' := 0) ho hl
 refine ⟨a, c, rfl, fun w'' hk => ?_⟩
 obtain ⟨a', c', e, h⟩ := ivsT_own (base' := 0) (own_same ho hk) hl
 cases e
 exact h
theorem below_set3 {B g : Nat} {w W : World} {x y z : Value} (h : Below B w W) (hg : B ≤ g) : Below B w (((W.setCell ⟨g, 0, none⟩ x).setCell ⟨g, 1, none⟩ y).setCell ⟨g, 2, none⟩ z) :=
 ((h.setCell hg _).setCell hg _).setCell hg _
theorem row3_new {X w' : World} {x y z : Value} {T : TypeId} (h : Below (X.alloc (.cells #[x, y, z] T)).heap.size (X.alloc (.cells #[x, y, z] T)) w') : w'.heap[X.heap.size]? = some (.cells #[x, y, z] T) :=
 (h.block _ (by simp)).trans (row_new rfl)
theorem row3_newd {X w' : World} {x y z : Value} {T : TypeId} (h : Below (X.alloc (.cells #[x, y, z] T)).drew.heap.size (X.alloc (.cells #[x, y, z] T)).drew w') : w'.heap[X.heap.size]? = some (.cells #[x, y, z] T) :=
 (h.block _ (by show X.heap.size < (X.alloc _).heap.size; simp)).trans (row_new rfl)
theorem row3_old {W w' : World} {g : Nat} {x y z : Value} {T : TypeId} (h : Below W.heap.size W w') (hr : W.heap[g]? = some (.cells #[x, y, z] T)) : w'.heap[g]? = some (.cells #[x, y, z] T) :=
 (h.block _ (Array.getElem?_eq_some_iff.1 hr).1).trans hr
theorem row3_cells {w' : World} {g : Nat} {x y z : Value} {T : TypeId} (hr : w'.heap[g]? = some (.cells #[x, y, z] T)) :
 w'.cell? ⟨g, 0, none⟩ = some x ∧ w'.cell? ⟨g, 1, none⟩ = some y ∧ w'.cell? ⟨g, 2, none⟩ = some z ∧ w'.frozen? ⟨g, 0, none⟩ = false ∧ w'.frozen? ⟨g, 1, none⟩ = false ∧ w'.frozen? ⟨g, 2, none⟩ = false :=
 ⟨cells_cell (i := 0) hr rfl, cells_cell (i := 1) hr rfl, cells_cell (i := 2) hr rfl, by simp [World.frozen?, hr], by simp [World.frozen?, hr], by simp [World.frozen?, hr]⟩
set_option maxRecDepth 20000 in
set_option maxHeartbeats 4000000 in
theorem refDo10_any (a d : Option Addr) (n c n' c' op : Nat) (v u : Vec) (w : World) (hE : Ents w a n c v) (hF : Ents w d n' c' u) (hop : op < 3) (fv : VecFits v) (fu : VecFits u) :
 Calls Tryz.prog 180 #[.slice a n c, .slice d n' c', .int .i64 op] w fun x w' => (∃ y, x = .returned y ∧ OwnV w' w.heap.size y (doV (gOf op) v u)) ∧ Below w.heap.size w w' := by
 have HE := Lib.hid hE; have HF := Lib.hid hF
 have Hfv := Lib.hid fv; have Hfu := Lib.hid fu; have Hop := Lib.hid hop
 have Hl := Lib.hid hE.len; have Hl' := Lib.hid hF.len
 have hn3 : n ≤ 300 := by rw [← hE.len]; exact fv.len
 have hn3' : n' ≤ 300 := by rw [← hF.len]; exact fu.len
 clear hE hF fv fu hop
 go_enter Tryz.func180, Tryz.ntmps180
 go_wp2
 go_loopw [7, 8] (fun y i wr => ∃ k : Nat, k ≤ n ∧ i = .int .i64 k ∧ Below w.heap.size w wr ∧ Hid (wr.ownsRow w.heap.size 24 1 y (repsTo v k []).length (u64C (repsTo v k [])))) (fun _ i _ => n - (intOf i).toNat)
 case atStart => exact ⟨0, by omega, rfl, Below.refl _ _, World.ownsRow_nil _ _ _ _⟩
 case round =>
  obtain ⟨k, hk, rfl, hb, ho⟩ := hrel
  have Hb := Lib.hid hb; clear hb
  obtain ⟨hRl, hRa⟩ := repsTo_len (a := v) (acc := []) trivial k
  simp only [List.length_nil, Nat.zero_add] at hRl
  have Hlt := Lib.hid (show ∀ y ∈ repsTo v k [], y < 18446744073709551616 from fun y hy => by
   rcases repsTo_mem k y hy with h | ⟨e, he, rfl⟩
   · cases h
   · exact (HE.out.lt e he).rep)
  by_cases hkn : k < n
  · have hkv : k < v.length := by rw [Hl.out]; exact hkn
    have HEr := Lib.hid (HE.out.below Hb.out)
    obtain ⟨bb, oo, rfl⟩ := HEr.out.some (by omega)
    obtain ⟨q1, -, -⟩ := HEr.out.at hkn _ (Below.refl _ _)
    have Hst := Lib.hid (repsTo_succ (acc := []) hkv)
    have hC := Lib.hid (refPut10_any w.heap.size _ (nthE v k).1 _ _ wr ho.out Hb.out.size hRa Hlt.out (by omega))
    generalize repsTo v k [] = R at *
    generalize (nthE v k).1 = r at *
    have h0 : (0 : Int) ≤ k := by omega
    have h04 : (k : Int) < (n : Int) := by omega
    go_wp2_with fail
    refine hC.out.mono ?_
    rintro e w1 ⟨⟨y, rfl, ho1⟩, hb1⟩
    have Hb1 := Lib.hid (Hb.out.trans (hb1.mono Hb.out.size)); have Ho1 := Lib.hid ho1
    clear hb1 ho1
    go_wp2
    go_roundw
    case rel => exact ⟨k + 1, by omega, by go_num, Hb1.out, by rw [Hst.out]; exact Ho1.out⟩
    case measure => simp [intOf]; omega
  · obtain rfl : k = n := by omega
    have HE2 := Lib.hid (HE.out.below Hb.out); have HF2 := Lib.hid (HF.out.below Hb.out)
    generalize hR0 : repsTo v k [] = R0 at *
    have HR0 := Lib.hid hR0; clear hR0
    obtain ⟨w2, hw2⟩ : ∃ w2 : World, w2 = wr := ⟨_, rfl⟩
    rw [← hw2] at ho Hb HE2 HF2 ⊢
    clear hw2
    go_wp2
    go_loopw [7, 9] (fun y i wr => ∃ j : Nat, j ≤ n' ∧ i = .int .i64 j ∧ Below w.heap.size w wr ∧ Hid (wr.ownsRow w.heap.size 24 1 y (repsTo u j R0).length (u64C (repsTo u j R0)))) (fun _ i _ => n' - (intOf i).toNat)
    case atStart => exact ⟨0, by omega, rfl, Hb.out, by
     have : repsTo u 0 R0 = R0 := rfl
     rw [this]; exact ho.out⟩
    case round =>
     obtain ⟨j, hj, rfl, hb, hoj⟩ := hrel
     have Hbj := Lib.hid hb; clear hb
     obtain ⟨hRl', hRa'⟩ := repsTo_len (a := u) (acc := R0) hRa j
     have Hlt' := Lib.hid (show ∀ y ∈ repsTo u j R0, y < 18446744073709551616 from fun y hy => by
      rcases repsTo_mem j y hy with h | ⟨e, he, rfl⟩
      · exact Hlt.out y h
      · exact (HF.out.lt e he).rep)
     by_cases hjn : j < n'
     · have hjv : j < u.length := by rw [Hl'.out]; exact hjn
       have HFr := Lib.hid (HF.out.below Hbj.out)
       obtain ⟨bb, oo, rfl⟩ := HFr.out.some (by omega)
       obtain ⟨q1, -, -⟩ := HFr.out.at hjn _ (Below.refl _ _)
       have Hst := Lib.hid (repsTo_succ (acc := R0) hjv)
       have hC := Lib.hid (refPut10_any w.heap.size _ (nthE u j).1 _ _ wr hoj.out Hbj.out.size hRa' Hlt'.out (by omega))
       generalize repsTo u j R0 = R at *
       generalize (nthE u j).1 = r at *
       have h0 : (0 : Int) ≤ j := by omega
       have h04 : (j : Int) < (n' : Int) := by omega
       go_wp2_with fail
       refine hC.out.mono ?_
       rintro e w1 ⟨⟨y, rfl, ho1⟩, hb1⟩
       have Hb1 := Lib.hid (Hbj.out.trans (hb1.mono Hbj.out.size)); have Ho1 := Lib.hid ho1
       clear hb1 ho1
       go_wp2
       go_roundw
       case rel => exact ⟨j + 1, by omega, by go_num, Hb1.out, by rw [Hst.out]; exact Ho1.out⟩
       case measure => simp [intOf]; omega
     · obtain rfl : j = n' := by omega
       have hall : repsTo u j R0 = repsV v u := by rw [← HR0.out, ← Hl.out, ← Hl'.out]; exact repsV_to v u
       rw [hall] at hoj hRl' hRa' Hlt'
       generalize hS : repsV v u = S at *
       have HS := Lib.hid hS
       obtain ⟨aS, cS, rfl, hU⟩ := u64s_own hoj.out Hlt'.out
       have HU := Lib.hid hU
       obtain ⟨N, hN⟩ : ∃ N, N = S.length := ⟨_, rfl⟩
       rw [← hN] at HU hRl' ⊢
       have HN := Lib.hid hN
       have Hsl := Lib.hid Hlt'.out
       clear hoj hU hall hS hN Hlt' Hlt
       obtain ⟨w3, hw3⟩ : ∃ w3 : World, w3 = wr := ⟨_, rfl⟩
       rw [← hw3] at Hbj HU ⊢
       clear hw3
       have hN6 : N ≤ 600 := by omega
       obtain ⟨f, hf⟩ : ∃ f : Nat → Option Ent, f = fun r => ofE r (opL (gOf op) (knownAt v r) (knownAt u r)) := ⟨_, rfl⟩
       have hdo : doV (gOf op) v u = S.filterMap f := by rw [hf, ← HS.out]; rfl
       have Hdo := Lib.hid hdo
       have Hfr := Lib.hid (show ∀ r, f r = ofE r (opL (gOf op) (knownAt v r) (knownAt u r)) from fun r => by rw [hf])
       clear hdo hf HS HR0 HE2 HF2
       go_wp2
       go_loopw [10, 11, 12, 13] (fun y i _ _ wr => ∃ k : Nat, k ≤ N ∧ i = .int .i64 k ∧ Below w3.heap.size w3 wr ∧ Hid (OwnV wr w3.heap.size y ((S.take k).filterMap f))) (fun _ i _ _ _ => N - (intOf i).toNat)
       case atStart => exact ⟨0, by omega, rfl, Below.refl _ _, ownV_nil _ _⟩
       case round =>
        obtain ⟨k', hk', rfl, hb, ho⟩ := hrel
        have Hb := Lib.hid hb; clear hb
        have Hb3 := Lib.hid (Hbj.out.trans (Hb.out.mono Hbj.out.size))
        by_cases hkN : k' < N
        · have HUr := Lib.hid (HU.out.below Hb.out)
          obtain ⟨bS, oS, rfl, hcS⟩ := HUr.out.cells (by omega)
          have q1 := hcS k' hkN
          have r1 : ∀ w', Below wr.heap.size wr w' → w'.cell? ⟨bS, oS + k', none⟩ = some (.int .u64 ((nth S k' : Nat) : Int)) := fun w' h => (h.cell (p := ⟨bS, oS + k', none⟩) (cell_lt q1)).trans q1
          clear hcS
          have Hst := Lib.hid (show (S.take (k' + 1)).filterMap f = (S.take k').filterMap f ++ (f (nth S k')).toList from by
           rw [List.take_succ_eq_append_getElem (by rw [← HN.out]; exact hkN), List.filterMap_append]
           have e : S[k']'(by rw [← HN.out]; exact hkN) = nth S k' := by simp [nth, show k' < S.length by rw [← HN.out]; exact hkN]
           rw [e]
           simp only [List.filterMap_cons, List.filterMap_nil]
           cases f (nth S k') <;> rfl)
          have HoL := Lib.hid (show ((S.take k').filterMap f).length ≤ 600 from by
           have := List.length_filterMap_le f (S.take k')
           rw [List.length_take] at this
           omega)
          have hcS2 := HUr.out.room
          have Hfr2 := Lib.hid (Hfr.out (nth S k'))
          generalize (S.take k').filterMap f = T at *
          generalize nth S k' = r at *
          have hK1 := Lib.hid (fun w' (h : Below wr.heap.size wr w') => refKnown10_any a _ c r v w' (HE.out.below (Hb3.out.trans (h.mono Hb3.out.size))) Hfv.out)
          have hK2 := Lib.hid (fun w' (h : Below wr.heap.size wr w') => refKnown10_any d _ c' r u w' (HF.out.below (Hb3.out.trans (h.mono Hb3.out.size))) Hfu.out)
          have hk1 := knownAt_len HE.out.lt Hfv.out r
          have hk2 := knownAt_len HF.out.lt Hfu.out r
          have Hl1 := Lib.hid (knownAt_lt HE.out.lt r)
          have Hl2 := Lib.hid (knownAt_lt HF.out.lt r)
          have hk3 := opL_len_gen (gOf op) (knownAt v r) (knownAt u r)
          have Hl3 := Lib.hid (opL_good (g := gOf op) Hl1.out Hl2.out (gOf_zero op)).2.2
          have Hll := Lib.hid (show 2 * (opL (gOf op) (knownAt v r) (knownAt u r)).length + 3 ≤ 100000 from by omega)
          have hDo := Lib.hid (fun a1 n1 c1 a2 n2 c2 w' (h1 : Ivs w' a1 n1 c1 (knownAt v r)) (h2 : Ivs w' a2 n2 c2 (knownAt u r)) => refDo_any a1 a2 n1 c1 n2 c2 op _ _ w' h1 h2 Hop.out (by omega))
          generalize opL (gOf op) (knownAt v r) (knownAt u r) = L at *
          generalize knownAt v r = L1 at *
          generalize knownAt u r = L2 at *
          have hOf := Lib.hid (fun a1 n1 c1 w' (h1 : Ivs w' a1 n1 c1 L) => refOf7_any r a1 n1 c1 L w' h1 Hll.out)
          have hfl := Lib.hid (fun e (h : ofE r L = some e) => show Lt64 e.2.2 from by
           unfold ofE at h
           split at h
           · cases h
           · cases h
             exact (opL_good (g := gSub) (lt64_one (by omega) (topL_lt Hl3.out)) Hl3.out rfl).2.2)
          have h0 : (0 : Int) ≤ k' := by omega
          have h04 : (k' : Int) < (N : Int) := by omega
          cases hfr : ofE r L with
          | none =>
           rw [Hfr2.out, hfr] at Hst
           rw [hfr] at hOf
           simp only [OfRes, Option.toList, List.append_nil] at hOf Hst
           clear hfr hfl hk1 hk2 hk3 q1
           go_wp2_with fail
           go_cut [12, 13] (fun p ok wc => ok = .bool false ∧ Hid (Below wr.heap.size wr wc))
           case first =>
            go_region_held3 (fun w' => Below wr.heap.size wr w') (first | assumption | exact (Below.refl _ _).drew | exact Below.alloc (by assumption) (Below.size (by assumption)) _ | exact below_set3 (by assumption) (by first | exact Nat.le_refl _ | exact Below.size (by assumption))) (first
            | (go_at_call 207
               first
               | (with_reducible refine (hK1.out _ (by assumption)).mono ?_
                  rintro e w4 ⟨⟨y1, rfl, ho1⟩, hb1⟩
                  have hS1 : Below wr.heap.size wr w4 := Below.trans (by assumption) (hb1.mono (Below.size (by assumption)))
                  obtain ⟨a1, c1, rfl, hI1⟩ := ivs_own ho1 Hl1.out
                  have HI1 := Lib.hid hI1
                  clear ho1 hI1
                  try (first | have HI2 := Lib.hid (HI2.out.below hb1) | have HI2 := Lib.hid ((HI2.out.below ((Below.refl _ _).alloc (Nat.le_refl _) _)).below hb1))
                  first
                  | (have zs : wr.heap.size ≤ _ := Below.size (by assumption)
                     first | have zr := row3_new hb1 | have zr := row3_newd hb1
                     have zz := row3_cells zr
                     have z0 := zz.1; have z1 := zz.2.1; have z2 := zz.2.2.1; have z3 := zz.2.2.2.1; have z4 := zz.2.2.2.2.1; have z5 := zz.2.2.2.2.2
                     clear zz)
                  | (have zr := row3_old hb1 zr
                     have zz := row3_cells zr
                     have z0 := zz.1; have z1 := zz.2.1; have z2 := zz.2.2.1; have z3 := zz.2.2.2.1; have z4 := zz.2.2.2.2.1; have z5 := zz.2.2.2.2.2
                     clear zz)
                  | skip
                  clear hb1)
               | (with_reducible refine (hK2.out _ (by assumption)).mono ?_
                  rintro e w5 ⟨⟨y2, rfl, ho2⟩, hb2⟩
                  have hS2 : Below wr.heap.size wr w5 := Below.trans (by assumption) (hb2.mono (Below.size (by assumption)))
                  obtain ⟨a2, c2, rfl, hI2⟩ := ivs_own ho2 Hl2.out
                  have HI2 := Lib.hid hI2
                  clear ho2 hI2
                  try (first | have HI1 := Lib.hid (HI1.out.below hb2) | have HI1 := Lib.hid ((HI1.out.below ((Below.refl _ _).alloc (Nat.le_refl _) _)).below hb2))
                  first
                  | (have zs : wr.heap.size ≤ _ := Below.size (by assumption)
                     first | have zr := row3_new hb2 | have zr := row3_newd hb2
                     have zz := row3_cells zr
                     have z0 := zz.1; have z1 := zz.2.1; have z2 := zz.2.2.1; have z3 := zz.2.2.2.1; have z4 := zz.2.2.2.2.1; have z5 := zz.2.2.2.2.2
                     clear zz)
                  | (have zr := row3_old hb2 zr
                     have zz := row3_cells zr
                     have z0 := zz.1; have z1 := zz.2.1; have z2 := zz.2.2.1; have z3 := zz.2.2.2.1; have z4 := zz.2.2.2.2.1; have z5 := zz.2.2.2.2.2
                     clear zz)
                  | skip
                  clear hb2))
            | (go_at_call 150
               refine (hDo.out _ _ _ _ _ _ _ (by first | exact HI1.out | exact HI1.out.below ((Below.refl _ _).alloc (Nat.le_refl _) _)) (by first | exact HI2.out | exact HI2.out.below ((Below.refl _ _).alloc (Nat.le_refl _) _))).mono ?_
               rintro e w6 ⟨⟨y3, rfl, ho3⟩, hb3⟩
               have hS3 : Below wr.heap.size wr w6 := Below.trans (by assumption) (hb3.mono (Below.size (by assumption)))
               obtain ⟨a3, c3, rfl, hI3⟩ := ivs_own ho3 Hl3.out
               have HI3 := Lib.hid hI3
               clear ho3 hI3
               first
               | (have zs : wr.heap.size ≤ _ := Below.size (by assumption)
                  first | have zr := row3_new hb3 | have zr := row3_newd hb3
                  have zz := row3_cells zr
                  have z0 := zz.1; have z1 := zz.2.1; have z2 := zz.2.2.1; have z3 := zz.2.2.2.1; have z4 := zz.2.2.2.2.1; have z5 := zz.2.2.2.2.2
                  clear zz)
               | (have zr := row3_old hb3 zr
                  have zz := row3_cells zr
                  have z0 := zz.1; have z1 := zz.2.1; have z2 := zz.2.2.1; have z3 := zz.2.2.2.1; have z4 := zz.2.2.2.2.1; have z5 := zz.2.2.2.2.2
                  clear zz)
               | skip
               clear hb3)
            | (go_at_call 202
               refine (hOf.out _ _ _ _ (by first | exact HI3.out | exact HI3.out.below ((Below.refl _ _).alloc (Nat.le_refl _) _))).mono ?_
               rintro e w7 ⟨hz, hb4⟩
               try (have zl := (Array.getElem?_eq_some_iff.1 zr).1)
               have hS4 : Below wr.heap.size wr w7 := Below.trans (by assumption) (hb4.mono (Below.size (by assumption)))
               subst hz
               first
               | (have zs : wr.heap.size ≤ _ := Below.size (by assumption)
                  first | have zr := row3_new hb4 | have zr := row3_newd hb4
                  have zz := row3_cells zr
                  have z0 := zz.1; have z1 := zz.2.1; have z2 := zz.2.2.1; have z3 := zz.2.2.2.1; have z4 := zz.2.2.2.2.1; have z5 := zz.2.2.2.2.2
                  clear zz)
               | (have zr := row3_old hb4 zr
                  have zz := row3_cells zr
                  have z0 := zz.1; have z1 := zz.2.1; have z2 := zz.2.2.1; have z3 := zz.2.2.2.1; have z4 := zz.2.2.2.2.1; have z5 := zz.2.2.2.2.2
                  clear zz)
               | skip
               clear hb4))
            all_goals go_wp2
            all_goals go_meet
            all_goals exact ⟨rfl, by assumption⟩
           case rest =>
            obtain ⟨rfl, hb2⟩ := hcut
            have Hb5 := Lib.hid (Hb.out.trans (hb2.out.mono Hb.out.size))
            have Ho5 := Lib.hid (ho.out.below hb2.out)
            clear hb2
            go_wp2
            go_roundw
            case rel => exact ⟨k' + 1, by omega, by go_num, Hb5.out, by rw [Hst.out]; exact Ho5.out⟩
            case measure => simp [intOf]; omega
          | some e =>
           have Hel := Lib.hid (hfl.out e hfr)
           rw [Hfr2.out, hfr] at Hst
           rw [hfr] at hOf
           simp only [Option.toList] at Hst
           obtain ⟨er, em, eh⟩ := e
           clear hfr hfl hk1 hk2 hk3 q1
           go_wp2_with fail
           go_cut [12, 13] (fun p ok wc => ok = .bool true ∧ ∃ s, p = .pointer (some ⟨s, 0, none⟩) ∧ Hid (Below wr.heap.size wr wc ∧ wc.cell? ⟨s, 0, none⟩ = some (.int .u64 er) ∧ wc.cell? ⟨s, 1, none⟩ = some (.int .u64 em) ∧ ∃ sa sc, wc.cell? ⟨s, 2, none⟩ = some (.slice sa eh.length sc) ∧ IvsT wc 0 sa eh.length sc eh))
           case first =>
            go_region_held3 (fun w' => Below wr.heap.size wr w') (first | assumption | exact (Below.refl _ _).drew | exact Below.alloc (by assumption) (Below.size (by assumption)) _ | exact below_set3 (by assumption) (by first | exact Nat.le_refl _ | exact Below.size (by assumption))) (first
            | (go_at_call 207
               first
               | (with_reducible refine (hK1.out _ (by assumption)).mono ?_
                  rintro e w4 ⟨⟨y1, rfl, ho1⟩, hb1⟩
                  have hS1 : Below wr.heap.size wr w4 := Below.trans (by assumption) (hb1.mono (Below.size (by assumption)))
                  obtain ⟨a1, c1, rfl, hI1⟩ := ivs_own ho1 Hl1.out
                  have HI1 := Lib.hid hI1
                  clear ho1 hI1
                  try (first | have HI2 := Lib.hid (HI2.out.below hb1) | have HI2 := Lib.hid ((HI2.out.below ((Below.refl _ _).alloc (Nat.le_refl _) _)).below hb1))
                  first
                  | (have zs : wr.heap.size ≤ _ := Below.size (by assumption)
                     first | have zr := row3_new hb1 | have zr := row3_newd hb1
                     have zz := row3_cells zr
                     have z0 := zz.1; have z1 := zz.2.1; have z2 := zz.2.2.1; have z3 := zz.2.2.2.1; have z4 := zz.2.2.2.2.1; have z5 := zz.2.2.2.2.2
                     clear zz)
                  | (have zr := row3_old hb1 zr
                     have zz := row3_cells zr
                     have z0 := zz.1; have z1 := zz.2.1; have z2 := zz.2.2.1; have z3 := zz.2.2.2.1; have z4 := zz.2.2.2.2.1; have z5 := zz.2.2.2.2.2
                     clear zz)
                  | skip
                  clear hb1)
               | (with_reducible refine (hK2.out _ (by assumption)).mono ?_
                  rintro e w5 ⟨⟨y2, rfl, ho2⟩, hb2⟩
                  have hS2 : Below wr.heap.size wr w5 := Below.trans (by assumption) (hb2.mono (Below.size (by assumption)))
                  obtain ⟨a2, c2, rfl, hI2⟩ := ivs_own ho2 Hl2.out
                  have HI2 := Lib.hid hI2
                  clear ho2 hI2
                  try (first | have HI1 := Lib.hid (HI1.out.below hb2) | have HI1 := Lib.hid ((HI1.out.below ((Below.refl _ _).alloc (Nat.le_refl _) _)).below hb2))
                  first
                  | (have zs : wr.heap.size ≤ _ := Below.size (by assumption)
                     first | have zr := row3_new hb2 | have zr := row3_newd hb2
                     have zz := row3_cells zr
                     have z0 := zz.1; have z1 := zz.2.1; have z2 := zz.2.2.1; have z3 := zz.2.2.2.1; have z4 := zz.2.2.2.2.1; have z5 := zz.2.2.2.2.2
                     clear zz)
                  | (have zr := row3_old hb2 zr
                     have zz := row3_cells zr
                     have z0 := zz.1; have z1 := zz.2.1; have z2 := zz.2.2.1; have z3 := zz.2.2.2.1; have z4 := zz.2.2.2.2.1; have z5 := zz.2.2.2.2.2
                     clear zz)
                  | skip
                  clear hb2))
            | (go_at_call 150
               refine (hDo.out _ _ _ _ _ _ _ (by first | exact HI1.out | exact HI1.out.below ((Below.refl _ _).alloc (Nat.le_refl _) _)) (by first | exact HI2.out | exact HI2.out.below ((Below.refl _ _).alloc (Nat.le_refl _) _))).mono ?_
               rintro e w6 ⟨⟨y3, rfl, ho3⟩, hb3⟩
               have hS3 : Below wr.heap.size wr w6 := Below.trans (by assumption) (hb3.mono (Below.size (by assumption)))
               obtain ⟨a3, c3, rfl, hI3⟩ := ivs_own ho3 Hl3.out
               have HI3 := Lib.hid hI3
               clear ho3 hI3
               first
               | (have zs : wr.heap.size ≤ _ := Below.size (by assumption)
                  first | have zr := row3_new hb3 | have zr := row3_newd hb3
                  have zz := row3_cells zr
                  have z0 := zz.1; have z1 := zz.2.1; have z2 := zz.2.2.1; have z3 := zz.2.2.2.1; have z4 := zz.2.2.2.2.1; have z5 := zz.2.2.2.2.2
                  clear zz)
               | (have zr := row3_old hb3 zr
                  have zz := row3_cells zr
                  have z0 := zz.1; have z1 := zz.2.1; have z2 := zz.2.2.1; have z3 := zz.2.2.2.1; have z4 := zz.2.2.2.2.1; have z5 := zz.2.2.2.2.2
                  clear zz)
               | skip
               clear hb3)
            | (go_at_call 202
               refine (hOf.out _ _ _ _ (by first | exact HI3.out | exact HI3.out.below ((Below.refl _ _).alloc (Nat.le_refl _) _))).mono ?_
               rintro e w7 ⟨hz, hb4⟩
               try (have zl := (Array.getElem?_eq_some_iff.1 zr).1)
               have hS4 : Below wr.heap.size wr w7 := Below.trans (by assumption) (hb4.mono (Below.size (by assumption)))
               obtain ⟨sa, sc, rfl, hs⟩ := ofRes_keep hz Hel.out
               have Hs := Lib.hid hs
               have hb4s := Lib.hid (Below.size hb4)
               clear hs hz
               first
               | (have zs : wr.heap.size ≤ _ := Below.size (by assumption)
                  first | have zr := row3_new hb4 | have zr := row3_newd hb4
                  have zz := row3_cells zr
                  have z0 := zz.1; have z1 := zz.2.1; have z2 := zz.2.2.1; have z3 := zz.2.2.2.1; have z4 := zz.2.2.2.2.1; have z5 := zz.2.2.2.2.2
                  clear zz)
               | (have zr := row3_old hb4 zr
                  have zz := row3_cells zr
                  have z0 := zz.1; have z1 := zz.2.1; have z2 := zz.2.2.1; have z3 := zz.2.2.2.1; have z4 := zz.2.2.2.2.1; have z5 := zz.2.2.2.2.2
                  clear zz)
               | skip
               clear hb4))
            all_goals go_wp2
            all_goals go_meet
            all_goals refine ⟨rfl, _, rfl, by assumption, ?_, ?_, sa, sc, ?_, Hs.out _ fun g hg1 hg2 => ?_⟩
            all_goals first
             | (simp [go_sem, z0, z1, z2]; done)
             | (simp [go_sem]; done)
             | exact Below.heap_alloc _ _ _ hg2
             | (rw [Below.heap_setCell _ _ _ _ (by simp at hg1 ⊢ <;> omega), Below.heap_setCell _ _ _ _ (by simp at hg1 ⊢ <;> omega), Below.heap_setCell _ _ _ _ (by simp at hg1 ⊢ <;> omega)]; done)
             | (have := (Array.getElem?_eq_some_iff.1 zr).1
                rw [Below.heap_setCell _ _ _ _ (by simp at hg1 ⊢ <;> omega), Below.heap_setCell _ _ _ _ (by simp at hg1 ⊢ <;> omega), Below.heap_setCell _ _ _ _ (by simp at hg1 ⊢ <;> omega)]; done)
             | (trace_state; fail)
           case rest =>
            obtain ⟨rfl, s, rfl, hcut⟩ := hcut
            obtain ⟨hb2, p1, p2, sa, sc, p3, hs⟩ := hcut.out
            have Hb5 := Lib.hid (Hb.out.trans (hb2.mono Hb.out.size))
            have Ho5 := Lib.hid (ho.out.below hb2)
            have Hs := Lib.hid hs
            have hal : Below wc.heap.size wc (wc.alloc (.cells #[.int .u64 er, .int .u64 em, .slice sa eh.length sc] 71)) := (Below.refl _ _).alloc (Nat.le_refl _) _
            have Hal := Lib.hid hal
            clear hb2 hs hcut hal
            go_wp2_with (at_builtin; refine wpList_append_ent rfl (.tmp 69) (.tmp 71) rfl rfl w3.heap.size _ T rfl (Ho5.out.below Hal.out) _ 1 (er, em, eh) sa eh.length sc (Hs.out.steady (P := fun _ => True) (.of_below Hal.out) trivial) rfl (rd_block (heap_at_new _ _ _ (by simp)) rfl rfl) (by have := HoL.out; omega) (by have := Hb5.out.size; simp; omega) ?_; intro v' w8 ho8 hg8 _)
            have Hb8 := Lib.hid (Below.grown (Hb5.out.trans (Hal.out.mono Hb5.out.size)) hg8 (by have := Hb5.out.size; have := Hal.out.size; omega) (fun k hk => (Ho5.out.lt k hk).1))
            go_roundw
            case rel => exact ⟨k' + 1, by omega, by go_num, Hb8.out, by rw [Hst.out]; exact ho8⟩
            case measure => simp [intOf]; omega
        · obtain rfl : k' = N := by omega
          have Ho := Lib.hid ho.out
          rw [show S.take k' = S from List.take_of_length_le (by rw [← HN.out]; exact Nat.le_refl _)] at Ho
          go_wp2
          go_ret
          exact ⟨⟨_, rfl, by rw [Hdo.out]; exact Ho.out.lower Hbj.out.size⟩, Hb3.out⟩
end
end Go.Proofs.YtkkdlgcfcbaibaaGreatDoor
