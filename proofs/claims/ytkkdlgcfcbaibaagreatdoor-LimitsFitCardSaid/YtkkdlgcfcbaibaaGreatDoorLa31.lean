/- Walks and laws, joined: La31. -/
import Derived.Test.YtkkdlgcfcbaibaaGreatDoorLa13
import Derived.Test.YtkkdlgcfcbaibaaGreatDoorLa25
import Derived.Test.YtkkdlgcfcbaibaaGreatDoorLa30
import Derived.Test.YtkkdlgcfcbaibaaGreatDoorLa29
import Derived.Test.YtkkdlgcfcbaibaaGreatDoorLa18
set_option linter.unusedVariables false
namespace Go.Proofs.YtkkdlgcfcbaibaaGreatDoor
section
open Go.RowKit
def InsF (base : Nat) (v : Value) (n i : Nat) (cs ys : List Value) (w : World) (e : Ending) (w' : World) : Prop :=
 ∃ v', e = .returned v' ∧ w'.ownsRow base 39 2 v' (n + 1) (cs.take (i * 2) ++ (ys ++ cs.drop (i * 2))) ∧ w.grownBy w' v.ownBlock
theorem run_appendF2 {w : World} {ty : TypeId} {a b : Option Addr} {n c m d : Nat} : (Builtin.append_ #[23, 22] ty #[.slice a n c, .slice b m d]).run Tryz.prog w = (Builtin.append_ #[23, 23] ty #[.slice a n c, .slice b m d]).run Tryz.prog w := by
 have h1 := Tryz.underlying23
 have h2 := Tryz.underlying22
 simp [Builtin.append_, run_underlying h1, run_underlying h2]
set_option maxHeartbeats 2000000 in
set_option maxRecDepth 100000 in
theorem insF_end (base : Nat) (v : Value) (n vb : Nat) (cs ys : List Value) (w : World) (ho : w.ownsRow base 39 2 v n cs) (hv : w.heap[vb]? = some (.cells ys.toArray 39 (0, 0))) (hy : ys.length = 2)
 (h1 : ∀ u ∈ ys, u.oneCell' = true) (hn : n + 1 ≤ 1000000) (hb : base ≤ w.heap.size) :
 Calls Tryz.prog 154 #[v, .int .i64 n, .slice (some ⟨vb, 0, none⟩) 1 1] w fun e w' => InsF base v n n cs ys w e w' := by
 have hr : Rd w 2 (some ⟨vb, 0, none⟩) 1 ys := ⟨by omega, fun _ => ⟨vb, 0, rfl, fun j u hu => by rw [Nat.zero_add]; exact cells_cellM hv (by simpa using hu)⟩⟩
 have hrun := fun ty => run_append_rd base 23 ty _ _ 2 48 Tryz.underlying23 Tryz.info_frg rfl (by omega) v n cs ho (some ⟨vb, 0, none⟩) 1 1 ys hr h1 (by unfold maxLen; omega) (by omega) hb
 obtain ⟨v', w', hrun1, h2, h3⟩ := hrun 23
 have hlen := ho.1
 have HR := Lib.hid (show InsF base v n n cs ys w (.returned v') w' from ⟨v', rfl, by rw [List.take_of_length_le (by omega), List.drop_eq_nil_of_le (by omega), List.append_nil]; exact h2, h3⟩)
 obtain ⟨a, c, rfl⟩ : ∃ a c, v = .slice a n c := by
  rcases ho.2 with ⟨rfl, rfl⟩ | ⟨g, cap, cur, rfl, _⟩
  · exact ⟨none, 0, rfl⟩
  · exact ⟨_, cap, rfl⟩
 have hrun2 : (Builtin.append_ #[23, 22] 23 #[.slice a n c, .slice (some ⟨vb, 0, none⟩) 1 1]).run Tryz.prog w = .ok v' w' := by rw [run_appendF2]; exact hrun1
 have hnc : n ≤ c ∧ c ≤ 9223372036854775807 ∧ (a = none ∨ ∃ g, a = some ⟨g, 0, none⟩) := by
  rcases ho.2 with ⟨h, rfl⟩ | ⟨g, cap, cur, h, _, _, h4, h5, _⟩
  · cases h; exact ⟨Nat.le_refl _, by omega, .inl rfl⟩
  · cases h; unfold maxLen at h5; exact ⟨h4, by omega, .inr ⟨g, rfl⟩⟩
 obtain ⟨hnc, hc63, ha⟩ := hnc
 clear hrun hrun1 h2 h3 ho hv hy h1 hr hlen
 rcases ha with rfl | ⟨g, rfl⟩
 · go_enter Tryz.func154, Tryz.ntmps154
   go_wp2_with (at_builtin; refine Lib.wpList_append_run _ rfl _ _ _ _ rfl _ _ rfl rfl _ _ hrun2 ?_)
   go_ret
   exact HR.out
 · go_enter Tryz.func154, Tryz.ntmps154
   go_wp2_with (at_builtin; refine Lib.wpList_append_run _ rfl _ _ _ _ rfl _ _ rfl rfl _ _ hrun2 ?_)
   all_goals (go_ret; exact HR.out)
theorem insF_row {w : World} {base n c g : Nat} {cs : List Value} (ho : w.ownsRow base 39 2 (.slice (some ⟨g, 0, none⟩) n c) n cs) :
 ∃ L : List Value, w.heap[g]? = some (.cells L.toArray 39 (0, 0)) ∧ L.length = c * 2 ∧ L.take (n * 2) = cs ∧ n ≤ c ∧ c ≤ maxLen ∧ base ≤ g ∧ g < w.heap.size := by
 rcases ho.2 with ⟨h, _⟩ | ⟨g', cap, cur, h, h1, h2, h3, h4, h5, h6⟩
 · cases h
 · cases h
   exact ⟨cur.toList, by simpa using h2, by simpa using h5, h6, h3, h4, h1, (Array.getElem?_eq_some_iff.1 h2).1⟩
set_option maxHeartbeats 4000000 in
set_option maxRecDepth 100000 in
theorem insF_shift (base g n c i vb : Nat) (cs ys : List Value) (w : World) (ho : w.ownsRow base 39 2 (.slice (some ⟨g, 0, none⟩) n c) n cs) (hv : w.heap[vb]? = some (.cells ys.toArray 39 (0, 0))) (hne : vb ≠ g) (hy : ys.length = 2)
 (h1c : ∀ u ∈ cs, u.oneCell' = true) (h1 : ∀ u ∈ ys, u.oneCell' = true) (hi : i < n) (hc : n + 1 ≤ c) :
 Calls Tryz.prog 154 #[.slice (some ⟨g, 0, none⟩) n c, .int .i64 i, .slice (some ⟨vb, 0, none⟩) 1 1] w fun e w' => InsF base (.slice (some ⟨g, 0, none⟩) n c) n i cs ys w e w' := by
 obtain ⟨L, hg, hL, hcs, -, hcm, hbg, hgw⟩ := insF_row ho
 have hc63 : c ≤ 9223372036854775807 := by unfold maxLen at hcm; omega
 have hcl := ho.1
 have hsz : (Tryz.prog.info? 39).map (·.size) = some 2 := by
  have h := Tryz.info_frg
  cases hq : Tryz.prog.info? 39 with
  | none => rw [hq] at h; cases h
  | some k => rw [hq] at h; simp at h; simp [h]
 have hov : ∀ off lb cb, (callFunc 186 #[.slice (some ⟨vb, 0, none⟩) 1 1, .slice (some ⟨g, off, none⟩) lb cb]).run Tryz.prog w = .ok (.value (.bool false)) w := fun off lb cb => by
  rw [run_callFunc_extern Tryz.func186 (by kernel_rfl) (by kernel_rfl) (by kernel_rfl) (e := Extern.SlicesOverlaps.overlaps #[22, 22] #[4]) (by kernel_rfl),
   Lib.run_overlaps_apart w 22 4 39 Tryz.underlying22 2 (run_sizeOfM hsz) ⟨vb, 0, none⟩ ⟨g, off, none⟩ 1 1 lb cb hne 39 39 ys.length L.length (by simp [World.shape?, hv]) (by simp [World.shape?, hg]) (by omega) (by simp [World.frozen?, hv]) (by simp [World.frozen?, hv])]
  rfl
 obtain ⟨A, hA⟩ : ∃ A, A = splice L ((i + 1) * 2) (cs.drop (i * 2)) := ⟨_, rfl⟩
 have hAl : A.length = c * 2 := by rw [hA, length_splice _ _ _ (by rw [List.length_drop]; omega), hL]
 have hcp1 : ∀ ty, (Builtin.copy_ #[23, 23] ty #[.slice (some ⟨g, (i + 1) * 2, none⟩) (n + 1 - (i + 1)) (c - (i + 1)), .slice (some ⟨g, i * 2, none⟩) (n + 1 - i) (c - i)]).run Tryz.prog w.drew = .ok (goInt ((n - i : Nat) : Int)) (w.drew.setRow g A.toArray) := fun ty => by
  rw [hA]
  refine run_copy_rowS w.drew _ _ ty 39 2 g _ _ _ _ _ _ L 39 (cs.drop (i * 2)) (n - i) Tryz.underlying23 hsz hg (by simp only [Nat.min_def]; split <;> omega) (by rw [List.length_drop]; omega) (fun j u hj => ?_) (by rw [List.length_drop]; omega) (fun u hu => h1c u (List.mem_of_mem_drop hu))
  rw [List.getElem?_drop] at hj
  show w.cell? _ = _
  rw [add_at]
  refine cells_cellM hg ?_
  rw [← hcs] at hj
  rw [List.getElem?_take] at hj
  split at hj
  · simpa using hj
  · exact absurd hj (by simp)
 obtain ⟨W1, hW1⟩ : ∃ W1, W1 = w.drew.setRow g A.toArray := ⟨_, rfl⟩
 have hg1 : W1.heap[g]? = some (.cells A.toArray 39 (0, 0)) := by rw [hW1]; exact setRow_heap w.drew g _ _ _ _ hg
 have hv1 : W1.heap[vb]? = some (.cells ys.toArray 39 (0, 0)) := by rw [hW1]; exact (setRow_other w.drew g vb _ hne).trans hv
 have hcp2 : ∀ ty, (Builtin.copy_ #[23, 22] ty #[.slice (some ⟨g, i * 2, none⟩) (n + 1 - i) (c - i), .slice (some ⟨vb, 0, none⟩) 1 1]).run Tryz.prog W1 = .ok (goInt ((1 : Nat) : Int)) (W1.setRow g (splice A (i * 2) ys).toArray) := fun ty =>
  run_copy_rowS W1 _ _ ty 39 2 g _ _ _ _ _ _ A 39 ys 1 Tryz.underlying23 hsz hg1 (by simp only [Nat.min_def]; split <;> omega) (by omega) (fun j u hj => by rw [add_at, Nat.zero_add]; exact cells_cellM hv1 (by simpa using hj)) (by omega) h1
 have hE : InsF base (.slice (some ⟨g, 0, none⟩) n c) n i cs ys w (.returned (.slice (some ⟨g, 0, none⟩) (n + 1) c)) (W1.setRow g (splice A (i * 2) ys).toArray) := by
  refine ⟨_, rfl, ⟨by simp; omega, .inr ⟨g, c, _, rfl, hbg, setRow_heap W1 g _ _ _ _ hg1, hc, hcm, by rw [List.size_toArray, length_splice _ _ _ (show i * 2 + ys.length ≤ A.length by omega), hAl], ?_⟩⟩, ?_⟩
  · have h := splice_shift L ys (i * 2) (n * 2) 2 (by omega) hy (by omega)
    rw [hcs] at h
    rw [hA, show (i + 1) * 2 = i * 2 + 2 by omega, show (n + 1) * 2 = n * 2 + 2 by omega]
    simpa using h
  · refine ⟨by rw [hW1]; rfl, by rw [hW1]; rfl, by rw [hW1]; rfl, by rw [hW1]; simp [World.setRow], fun k hk hkr => ?_⟩
    have hkg : k ≠ g := fun e => hkr (by rw [e]; rfl)
    rw [setRow_other W1 g k _ hkg, hW1]
    exact setRow_other w.drew g k _ hkg
 have HE := Lib.hid hE
 rw [← hW1] at hcp1
 have HW1 := Lib.hid hW1
 clear hE hW1 hg1 hv1 hA hAl ho hg hL hcs hcl hv hy h1c h1
 have hz2 : ¬ ((i : Int) = (n : Int)) := by omega
 have hw1 : IntKind.i64.wrap ((i : Int) + 1) = (i : Int) + 1 := by rw [IntKind.wrap_i64]; omega
 have hin : i ≤ n := by omega
 have hb2 : ¬ (c = i + 1) := by omega
 have hb4 : ¬ (c = i) := by omega
 have hb1 : (0 : Int) ≤ (i : Int) + 1 := by omega
 have hb3 : (i : Int) ≤ (n : Int) + 1 := by omega
 have htn : ((i : Int) + 1).toNat = i + 1 := by omega
 go_enter Tryz.func154, Tryz.ntmps154
 go_wp2_with (simp only [hov])
 go_region_law (refine step_copy_hr rfl _ _ 23 23 rfl (.slice (some ⟨g, (i + 1) * 2, none⟩) (n + 1 - (i + 1)) (c - (i + 1))) (.slice (some ⟨g, i * 2, none⟩) (n + 1 - i) (c - i)) (by simp [Act.eval, Act.put] <;> omega) (by simp [Act.eval, Act.put] <;> omega) (hcp1 _) ?_)
 go_wp2_with (at_builtin; refine wpList_copy_hr rfl _ _ 23 22 rfl (.slice (some ⟨g, i * 2, none⟩) (n + 1 - i) (c - i)) (.slice (some ⟨vb, 0, none⟩) 1 1) (by simp [Act.eval, Act.put] <;> omega) (by simp [Act.eval, Act.put]) (hcp2 _) ?_)
 go_ret
 exact HE.out
set_option maxHeartbeats 4000000 in
set_option maxRecDepth 100000 in
theorem insF_grow (base g n c i vb : Nat) (cs ys : List Value) (w : World) (ho : w.ownsRow base 39 2 (.slice (some ⟨g, 0, none⟩) n c) n cs) (hv : w.heap[vb]? = some (.cells ys.toArray 39 (0, 0))) (hy : ys.length = 2)
 (h1c : ∀ u ∈ cs, u.oneCell' = true) (h1 : ∀ u ∈ ys, u.oneCell' = true) (hi : i < n) (hc : c < n + 1) (hn : n + 1 ≤ 1000000) (hb : base ≤ w.heap.size) :
 Calls Tryz.prog 154 #[.slice (some ⟨g, 0, none⟩) n c, .int .i64 i, .slice (some ⟨vb, 0, none⟩) 1 1] w fun e w' => InsF base (.slice (some ⟨g, 0, none⟩) n c) n i cs ys w e w' := by
 obtain ⟨L, hg, hL, hcs, hnc, hcm, hbg, hgw⟩ := insF_row ho
 have hc63 : c ≤ 9223372036854775807 := by unfold maxLen at hcm; omega
 have hcl := ho.1
 have hvw : vb < w.heap.size := (Array.getElem?_eq_some_iff.1 hv).1
 obtain ⟨i0, hi0, hz0, hzs, hzb⟩ := info_parts Tryz.info_frg
 have hsz : (Tryz.prog.info? 39).map (·.size) = some 2 := by rw [hi0]; simp [hzs]
 have hcell : ∀ j v, cs[j]? = some v → w.cell? ⟨g, j, none⟩ = some v := fun j v hj => by
  refine cells_cellM hg ?_
  rw [← hcs, List.getElem?_take] at hj
  split at hj
  · simpa using hj
  · exact absurd hj (by simp)
 have hold : (Builtin.firstCells i0.size i (.slice (some ⟨g, 0, none⟩) i c)).run Tryz.prog w.drew = .ok (cs.take (i * 2)).toArray w.drew := by
  rw [hzs]
  exact run_firstCells_some w.drew 2 i ⟨g, 0, none⟩ i c (cs.take (i * 2)) (by rw [List.length_take]; omega) (fun j v hj => by
   rw [add_at, Nat.zero_add]
   rw [List.getElem?_take] at hj
   split at hj
   · exact hcell j v hj
   · cases hj)
 have hik : i + (n + 1 - i) = n + 1 := by omega
 obtain ⟨G, hG⟩ : ∃ G, G = grownCap w (n + 1) c 39 := ⟨_, rfl⟩
 obtain ⟨Z, hZ⟩ : ∃ Z : List Value, Z = cs.take (i * 2) ++ ((Builtin.zeroCells (Value.cells (.agg #[.slice none 0 0, .slice none 0 0])) (n + 1 - i)).toList ++ (Builtin.zeroCells (Value.cells (.agg #[.slice none 0 0, .slice none 0 0])) (G - (n + 1))).toList) := ⟨_, rfl⟩
 have hrz : ∀ ty, (Builtin.append_ #[23, 3] ty #[.slice (some ⟨g, 0, none⟩) i c, .int .i64 ((n : Int) + 1 - (i : Int))]).run Tryz.prog w =
  .ok (.slice (some ⟨w.heap.size, 0, none⟩) (n + 1) G) (w.drew.alloc (.cells Z.toArray 39)) := fun ty => by
  have h := Lib.run_append_grow_zeros w 23 3 ty 39 i0 _ .i64 .i64 Tryz.underlying23 Tryz.underlying3 hi0 hz0 (some ⟨g, 0, none⟩) i c (cs.take (i * 2)) hold (n + 1 - i) (by omega) (by omega) (by omega) (by omega) (by rw [hzb]; omega) (by rw [hzb, hik]; exact growslice_fits hc (by omega))
  rw [hik, ← hG] at h
  have hZa : (cs.take (i * 2)).toArray ++ Builtin.zeroCells (Value.cells (.agg #[.slice none 0 0, .slice none 0 0])) (n + 1 - i) ++ Builtin.zeroCells (Value.cells (.agg #[.slice none 0 0, .slice none 0 0])) (G - (n + 1)) = Z.toArray := by
   rw [hZ]; apply Array.ext'; simp
  rw [hZa] at h
  rw [show (n : Int) + 1 - (i : Int) = ((n + 1 - i : Nat) : Int) by omega, h]
 have hGn : n + 1 ≤ G := by rw [hG]; exact grownCap_ge w _ _ _
 have hGm : G ≤ maxLen := by rw [hG]; exact grownCap_le_maxLen w (n + 1) c 39 (by unfold maxLen; omega)
 have hG63 : G ≤ 9223372036854775807 := by unfold maxLen at hGm; omega
 have hZl : Z.length = G * 2 := by
  have hz : ∀ k, (Builtin.zeroCells (Value.cells (.agg #[.slice none 0 0, .slice none 0 0])) k).toList.length = k * 2 := fun k => by rw [Array.length_toList, size_zeroCells]; rfl
  rw [hZ, List.length_append, List.length_append, List.length_take, hz, hz]
  omega
 have hZt : Z.take (i * 2) = cs.take (i * 2) := by
  rw [hZ, List.take_append_of_le_length (by rw [List.length_take]; omega)]
  exact List.take_of_length_le (by rw [List.length_take]; omega)
 obtain ⟨W1, hW1⟩ : ∃ W1, W1 = w.drew.alloc (.cells Z.toArray 39) := ⟨_, rfl⟩
 rw [← hW1] at hrz
 have n1 : W1.heap[w.heap.size]? = some (.cells Z.toArray 39 (0, 0)) := by rw [hW1]; exact heap_alloc_new w.drew _
 have o1 : ∀ k, k < w.heap.size → W1.heap[k]? = w.heap[k]? := fun k hk => by rw [hW1]; exact Below.heap_alloc w.drew _ k hk
 have hcpA : ∀ ty, (Builtin.copy_ #[23, 22] ty #[.slice (some ⟨w.heap.size, i * 2, none⟩) (n + 1 - i) (G - i), .slice (some ⟨vb, 0, none⟩) 1 1]).run Tryz.prog W1 = .ok (goInt ((1 : Nat) : Int)) (W1.setRow w.heap.size (splice Z (i * 2) ys).toArray) := fun ty =>
  run_copy_rowS W1 _ _ ty 39 2 w.heap.size _ _ _ _ _ _ Z 39 ys 1 Tryz.underlying23 hsz n1 (by simp only [Nat.min_def]; split <;> omega) (by omega) (fun j u hj => by rw [add_at, Nat.zero_add]; exact cells_cellM ((o1 vb hvw).trans hv) (by simpa using hj)) (by omega) h1
 obtain ⟨W2, hW2⟩ : ∃ W2, W2 = W1.setRow w.heap.size (splice Z (i * 2) ys).toArray := ⟨_, rfl⟩
 rw [← hW2] at hcpA
 have n2 : W2.heap[w.heap.size]? = some (.cells (splice Z (i * 2) ys).toArray 39 (0, 0)) := by rw [hW2]; exact setRow_heap W1 _ _ _ _ _ n1
 have o2 : ∀ k, k < w.heap.size → W2.heap[k]? = w.heap[k]? := fun k hk => by rw [hW2]; exact (setRow_other W1 _ k _ (by omega)).trans (o1 k hk)
 have hl2 : (splice Z (i * 2) ys).length = G * 2 := by rw [length_splice _ _ _ (by omega), hZl]
 have hcpB : ∀ ty, (Builtin.copy_ #[23, 23] ty #[.slice (some ⟨w.heap.size, (i + 1) * 2, none⟩) (n + 1 - (i + 1)) (G - (i + 1)), .slice (some ⟨g, i * 2, none⟩) (n - i) (c - i)]).run Tryz.prog W2.drew = .ok (goInt ((n - i : Nat) : Int)) (W2.drew.setRow w.heap.size (splice (splice Z (i * 2) ys) ((i + 1) * 2) (cs.drop (i * 2))).toArray) := fun ty => by
  refine run_copy_rowS W2.drew _ _ ty 39 2 w.heap.size _ _ _ _ _ _ _ 39 (cs.drop (i * 2)) (n - i) Tryz.underlying23 hsz n2 (by simp only [Nat.min_def]; split <;> omega) (by rw [List.length_drop]; omega) (fun j u hj => ?_) (by rw [List.length_drop]; omega) (fun u hu => h1c u (List.mem_of_mem_drop hu))
  rw [List.getElem?_drop] at hj
  show W2.cell? _ = _
  rw [add_at]
  have h := hcell _ u hj
  simp only [World.cell?, o2 g hgw] at h ⊢
  exact h
 obtain ⟨C, hC⟩ : ∃ C, C = splice (splice Z (i * 2) ys) ((i + 1) * 2) (cs.drop (i * 2)) := ⟨_, rfl⟩
 have hl3 : C.length = G * 2 := by rw [hC, length_splice _ _ _ (by rw [List.length_drop]; omega), hl2]
 have hCt : C.take ((n + 1) * 2) = cs.take (i * 2) ++ (ys ++ cs.drop (i * 2)) := by
  have h := splice_fill Z ys cs (i * 2) (n * 2) 2 (by omega) hcl hy (by omega) hZt
  rw [hC, show (i + 1) * 2 = i * 2 + 2 by omega, show (n + 1) * 2 = n * 2 + 2 by omega]
  exact h
 rw [← hC] at hcpB
 have hE : InsF base (.slice (some ⟨g, 0, none⟩) n c) n i cs ys w (.returned (.slice (some ⟨w.heap.size, 0, none⟩) (n + 1) G)) (W2.drew.setRow w.heap.size C.toArray) := by
  refine ⟨_, rfl, ⟨by simp; omega, .inr ⟨w.heap.size, G, _, rfl, hb, setRow_heap W2.drew _ _ _ _ _ n2, hGn, hGm, by rw [List.size_toArray, hl3], ?_⟩⟩, ?_⟩
  · simpa using hCt
  · refine ⟨by rw [hW2, hW1]; rfl, by rw [hW2, hW1]; rfl, by rw [hW2, hW1]; rfl, by rw [hW2, hW1]; simp [World.setRow], fun k hk hkr => ?_⟩
    rw [setRow_other W2.drew _ k _ (by omega)]
    exact o2 k hk
 have HE := Lib.hid hE
 obtain ⟨W3, hW3⟩ : ∃ W3, W3 = W2.drew.setRow w.heap.size C.toArray := ⟨_, rfl⟩
 rw [← hW3] at hcpB HE
 obtain ⟨N, hN⟩ : ∃ N, N = w.heap.size := ⟨_, rfl⟩
 have hgN : g ≠ N := by omega
 have hvN : vb ≠ N := by omega
 rw [← hN] at hcpA hcpB HE hrz
 clear hE hW3 hN hC hl3 hCt hW2 n2 o2 hl2 hW1 n1 o1 hZ hZl hZt hG hold hcell hcl hcs hL hg ho hv hy h1c h1 hi0 hz0 hzs hzb hsz hb hcm hGm
 have hz2 : ¬ ((i : Int) = (n : Int)) := by omega
 have hz3 : (c : Int) < (n : Int) + 1 := by omega
 have hGi : ¬ (G = i) := by omega
 have hGim : ¬ (G = i + 1) := by omega
 have hci : ¬ (c = i) := by omega
 have hw1 : IntKind.i64.wrap ((i : Int) + 1) = (i : Int) + 1 := by rw [IntKind.wrap_i64]; omega
 have hb1 : (0 : Int) ≤ (i : Int) + 1 := by omega
 have hin : i ≤ n := by omega
 have htn : ((i : Int) + 1).toNat = i + 1 := by omega
 have hb3 : (i : Int) ≤ (n : Int) := by omega
 clear hik
 go_enter Tryz.func154, Tryz.ntmps154
 go_wp2_with (first
  | (at_builtin; refine Lib.wpList_append_run _ rfl _ _ _ _ rfl _ _ rfl rfl _ _ (hrz _) ?_)
  | (at_builtin; refine wpList_copy_hr rfl _ _ 23 22 rfl (.slice (some ⟨N, i * 2, none⟩) (n + 1 - i) (G - i)) (.slice (some ⟨vb, 0, none⟩) 1 1) (by simp [Act.eval, Act.put] <;> omega) (by simp [Act.eval, Act.put]) (hcpA _) ?_))
 go_region_law (refine step_copy_hr rfl _ _ 23 23 rfl (.slice (some ⟨N, (i + 1) * 2, none⟩) (n + 1 - (i + 1)) (G - (i + 1))) (.slice (some ⟨g, i * 2, none⟩) (n - i) (c - i)) (by simp [Act.eval, Act.put] <;> omega) (by simp [Act.eval, Act.put] <;> omega) (hcpB _) ?_)
 go_wp2
 go_ret
 exact HE.out
theorem insertF_any (base : Nat) (v : Value) (n i vb : Nat) (cs ys : List Value) (w : World) (ho : w.ownsRow base 39 2 v n cs) (hv : w.heap[vb]? = some (.cells ys.toArray 39 (0, 0))) (hne : v.ownBlock ≠ some vb) (hy : ys.length = 2)
 (h1c : ∀ u ∈ cs, u.oneCell' = true) (h1 : ∀ u ∈ ys, u.oneCell' = true) (hi : i ≤ n) (hn : n + 1 ≤ 1000000) (hb : base ≤ w.heap.size) :
 Calls Tryz.prog 154 #[v, .int .i64 i, .slice (some ⟨vb, 0, none⟩) 1 1] w fun e w' => InsF base v n i cs ys w e w' := by
 by_cases hin : i = n
 · subst hin; exact insF_end base v _ vb cs ys w ho hv hy h1 hn hb
 · rcases ho.2 with ⟨rfl, rfl⟩ | ⟨g, cap, cur, rfl, _, _, h4, _⟩
   · omega
   · by_cases hc : n + 1 ≤ cap
     · exact insF_shift base g n cap i vb cs ys w ho hv (fun e => hne (by rw [e]; rfl)) hy h1c h1 (by omega) hc
     · exact insF_grow base g n cap i vb cs ys w ho hv hy h1c h1 (by omega) (by omega) hn hb
theorem set_same {α : Type} {l : List α} {i : Nat} {x : α} (h : l[i]? = some x) : l.set i x = l := by
 apply List.ext_getElem?
 intro j
 rw [List.getElem?_set]
 by_cases e : i = j
 · subst e
   rw [if_pos rfl, h]
   split
   · rfl
   · rename_i hl
     rw [List.getElem?_eq_none (by omega)] at h
     cases h
 · rw [if_neg e]
theorem frgC_set1 {ss : List (Value × Value)} {p : Nat} {q : Value × Value} (h : ss[p]? = some q) (x : Value) : (frgC ss).set (p * 2) x = frgC (ss.set p (x, q.2)) := by
 rw [← frgC_set]
 refine (set_same ?_).symm
 rw [List.getElem?_set_ne (by omega)]
 exact (frgC_get h).2
theorem ownK_setI {w : World} {base inner g n c p : Nat} {k : Kno} {ss : List (Value × Value)} (hn : k.length = n) (hp : p < n) (ho : w.ownsRow base 39 2 (.slice (some ⟨g, 0, none⟩) n c) n (frgC ss)) (hh : PartsT w inner k ss) (hb : inner ≤ base) (l : List Iv) (x : Value)
 (hx : IvSl w inner x l) : OwnK (w.setCell ⟨g, p * 2, none⟩ x) base inner (.slice (some ⟨g, 0, none⟩) n c) (k.set p (l, (nthF k p).2)) := by
 have hrow : ∃ C fr, w.heap[g]? = some (.cells C 39 fr) ∧ base ≤ g := by
  rcases ho.2 with ⟨h, _⟩ | ⟨g', cap, cur, h, hg, hr, _⟩
  · cases h
  · cases h; exact ⟨_, _, hr, hg⟩
 obtain ⟨C, fr, hr, hg⟩ := hrow
 obtain ⟨q, hq, -, hy⟩ := hh.2 p (by omega)
 have h1 := (ho.stored (p * 2) x).1
 rw [frgC_set1 hq] at h1
 have s : Steady inner isEnT w (w.setCell ⟨g, p * 2, none⟩ x) := Steady.setCell (a := ⟨g, p * 2, none⟩) hr (Nat.le_trans hb hg) (by rintro (h | h) <;> cases h)
 refine ⟨ss.set p (x, q.2), by rw [List.length_set, hn]; exact h1, ?_⟩
 exact (hh.steady s (.inl rfl) (.inr rfl)).set (hx.steady s (.inl rfl)) (hy.steady s (.inl rfl) (.inr rfl))
theorem frgC_mid (ss : List (Value × Value)) (p : Nat) (x y : Value) : (frgC ss).take (p * 2) ++ ([x, y] ++ (frgC ss).drop (p * 2)) = frgC (ss.take p ++ [(x, y)] ++ ss.drop p) := by
 rw [frgC_take, frgC_drop, frgC_append, frgC_append]
 simp [frgC]
theorem ownK_setBl {w : World} {Bl base : Nat} {x y u : Value} {k : Kno} (h : OwnK w base 0 x k) (hb : w.heap[Bl]? = some (.cells #[y] 160 (0, 0))) (hl : Bl < base) : OwnK (w.setCell ⟨Bl, 0, none⟩ u) base 0 x k := by
 obtain ⟨ss', h1, h2⟩ := h
 have hs5 : Steady 0 isEnT w (w.setCell ⟨Bl, 0, none⟩ u) := Steady.setCell (a := ⟨Bl, 0, none⟩) hb (Nat.zero_le _) (by rintro (h | h) <;> cases h)
 exact ⟨ss', own_same h1 (fun j hj1 hj2 => Below.heap_setCell _ _ _ _ (by simp only; omega)), h2.steady hs5 (.inl rfl) (.inr rfl)⟩
def AddRes (Bl base : Nat) (k : Kno) (w : World) (e : Ending) (w' : World) : Prop :=
 e = .returned (.tuple #[]) ∧ (∃ x', w'.heap[Bl]? = some (.cells #[x'] 160 (0, 0)) ∧ OwnK w' base 0 x' k) ∧ Kept (fun j => j < base ∧ j ≠ Bl) w w'
set_option maxRecDepth 100000 in
set_option maxHeartbeats 8000000 in
theorem listAdd_any (Bl base : Nat) (x : Value) (k : Kno) (f : Frg) (a : Option Addr) (n c : Nat) (b : Option Addr) (m d : Nat) (w : World)
 (hB : w.heap[Bl]? = some (.cells #[x] 160 (0, 0))) (hbl : Bl < base) (hbs : base ≤ w.heap.size) (ho : OwnK w base 0 x k) (hI : Ivs w a n c f.1) (hV : EntsT w 0 b m d f.2)
 (hG : ∀ g ∈ k, GrpF g) (hf : GrpF f) (hA : k.Pairwise VecLt) (fk : ∀ g ∈ k, VecFits g.2) (ff : VecFits f.2) (hn : k.length + 1 ≤ 100000) (hs : isum k + f.1.length ≤ 100000) :
 Calls Tryz.prog 108 #[.pointer (some ⟨Bl, 0, none⟩), .agg #[.slice a n c, .slice b m d]] w (AddRes Bl base (addG k f) w) := by
 have hal : Below w.heap.size w (w.alloc (.cells #[.slice a n c, .slice b m d] 39)) := (Below.refl _ _).alloc (Nat.le_refl _) _
 obtain ⟨wB, hwB⟩ : ∃ wB, wB = w.alloc (.cells #[.slice a n c, .slice b m d] 39) := ⟨_, rfl⟩
 have hrB : wB.heap[w.heap.size]? = some (.cells #[.slice a n c, .slice b m d] 39) := by rw [hwB]; exact row_new rfl
 have hsB : wB.heap.size = w.heap.size + 1 := by rw [hwB]; simp
 rw [← hwB] at hal
 have hBB := (hal.block Bl (by omega)).trans hB
 have hoB := ho.below hal
 have hIB := hI.below hal
 have hVB : EntsT wB 0 b m d f.2 := hV.steady (P := fun _ => True) (.of_below hal) trivial trivial
 obtain ⟨xa, xc, hx, hK⟩ := hoB.frags
 subst hx
 have hKB : Kept (fun j => j < base ∧ j ≠ Bl) w wB := (Kept.refl _ w).below hal
 have hC := Lib.hid (fun w' (h : Below wB.heap.size wB w') => bsK_any xa b k.length xc m d k f.2 w' (hK.below h) (hVB.ents.below h) hA (by omega) fk ff)
 have HwB := Lib.hid hwB
 have HKB := Lib.hid hKB
 have HoB := Lib.hid hoB; have HIB := Lib.hid hIB; have HVB := Lib.hid hVB
 have HBB := Lib.hid hBB; have HrB := Lib.hid hrB; have HsB := Lib.hid hsB
 have HG := Lib.hid hG; have Hf := Lib.hid hf; have Hs := Lib.hid hs
 have hnl := hI.len
 have r0 : ∀ w', Below wB.heap.size wB w' → w'.cell? ⟨Bl, 0, none⟩ = some (.slice xa k.length xc) := fun w' h => cells_cell ((h.block _ (by omega)).trans hBB) rfl
 have r1 : ∀ w', Below wB.heap.size wB w' → w'.cell? ⟨w.heap.size, 0, none⟩ = some (.slice a n c) := fun w' h => cells_cell ((h.block _ (by omega)).trans hrB) rfl
 have r2 : ∀ w', Below wB.heap.size wB w' → w'.cell? ⟨w.heap.size, 1, none⟩ = some (.slice b m d) := fun w' h => cells_cell ((h.block _ (by omega)).trans hrB) rfl
 have R0 := Lib.hid r0; have R1 := Lib.hid r1; have R2 := Lib.hid r2
 clear hB ho hI hV hG hf hA hs hal hBB hoB hIB hVB hK hKB hrB hwB hsB hnl
 go_enter Tryz.func108, Tryz.ntmps108
 go_wp2_with fail
 rw [← HwB.out]
 go_region_held3 (fun w' => Below wB.heap.size wB w') (first | assumption | exact Below.refl _ _ | exact (Below.refl _ _).drew | exact Below.alloc (by assumption) (Below.size (by assumption)) _) (first
  | (go_at_call 152
     refine (hC.out _ (by assumption)).mono ?_
     rintro e w2 ⟨rfl, hb2⟩
     have hS2 : Below wB.heap.size wB w2 := Below.trans (by assumption) (hb2.mono (Below.size (by assumption)))
     clear hb2))
 all_goals
  have Hw2 := Lib.hid hS2
  clear r0 r1 r2 hC hS2
  have hBw : wB.heap.size ≤ w2.heap.size := Hw2.out.size
  have hK2 := (HKB.out.below Hw2.out)
  have HK2 := Lib.hid hK2
  have HBl2 := Lib.hid ((Hw2.out.block Bl (by have := HsB.out; omega)).trans HBB.out)
  have HoK := Lib.hid (HoB.out.below Hw2.out)
  have HI2 := Lib.hid (HIB.out.below Hw2.out)
  have HV2 := Lib.hid (HVB.out.steady (P := fun _ => True) (.of_below Hw2.out) trivial trivial)
  have Hr2 := Lib.hid ((Hw2.out.block w.heap.size (by have := HsB.out; omega)).trans HrB.out)
  have h0 := R0.out _ Hw2.out
  have h1 := R1.out _ Hw2.out
  have h2 := R2.out _ Hw2.out
  have hb2w : base ≤ w2.heap.size := by have := HsB.out; omega
  have hlw2 : w.heap.size < w2.heap.size := by have := HsB.out; omega
  clear hK2
  cases hhit : hitG k f.2 with
  | true =>
   have hadd := addG_hit hhit
   have hpl : posG k f.2 < k.length := by
    rcases Nat.lt_or_ge (posG k f.2) k.length with h | h
    · exact h
    · have := hitG_end (k := k) (v := f.2) (Nat.le_antisymm (posG_le k f.2) h)
      rw [this] at hhit; cases hhit
   have hcm := (posG_at hpl).2
   rw [hhit] at hcm
   have hveq : (nthF k (posG k f.2)).2 = f.2 := cmpV_eq (by simpa using hcm.symm)
   have hgp := HG.out _ (nthF_mem hpl)
   rcases HoK.out.form2 with ⟨he, h9, -, -⟩ | ⟨g, ss, he, -, hgb, hgl, hgc, hgm, hro, hpt⟩
   · omega
   · subst he
     obtain ⟨q, hq, ⟨ia, im, ic, hqe, hiI⟩, -⟩ := hpt.2 (posG k f.2) hpl
     have hcell := hro.cells (g := g) rfl _ _ (frgC_get hq).1
     rw [add_at, Nat.zero_add, hqe] at hcell
     have hsum : (nthF k (posG k f.2)).1.length ≤ isum k := isum_mem (nthF_mem hpl)
     have HU := Lib.hid (fun w' (h : Below w2.heap.size w2 w') => union_any ia a im ic n c (nthF k (posG k f.2)).1 f.1 w' (hiI.ivs.below h) (HI2.out.below h) hgp.good Hf.out.good (by have := Hs.out; omega))
     have HUl := Lib.hid ((opL_good (g := gOr) hgp.items Hf.out.items rfl).2.2)
     have Hset := Lib.hid (show ∀ (w' : World) (y : Value), w'.ownsRow base 39 2 (.slice (some ⟨g, 0, none⟩) k.length xc) k.length (frgC ss) → PartsT w' 0 k ss → IvSl w' 0 y (opL gOr (nthF k (posG k f.2)).1 f.1) → OwnK (w'.setCell ⟨g, posG k f.2 * 2, none⟩ y) base 0 (.slice (some ⟨g, 0, none⟩) k.length xc) (addG k f) from fun w' y h1 h2 h3 => by
      have := ownK_setI rfl hpl h1 h2 (Nat.zero_le _) _ y h3
      rw [hveq] at this
      rw [hadd]
      exact this)
     have Hro := Lib.hid hro; have Hpt := Lib.hid hpt
     have hfz := own_frozen hro (posG k f.2 * 2)
     have HZ := Lib.hid (fun w' (h : Below w2.heap.size w2 w') => And.intro ((h.cell (p := ⟨g, posG k f.2 * 2, none⟩) (cell_lt hcell)).trans hcell) (own_frozen (own_below hro h) (posG k f.2 * 2)))
     have HR0 := Lib.hid (fun w' (h : Below w2.heap.size w2 w') => show w'.cell? ⟨Bl, 0, none⟩ = some (.slice (some ⟨g, 0, none⟩) k.length xc) from cells_cell (i := 0) ((h.block Bl (by omega)).trans HBl2.out) rfl)
     have HR1 := Lib.hid (fun w' (h : Below w2.heap.size w2 w') => show w'.cell? ⟨w.heap.size, 0, none⟩ = some (.slice a n c) from cells_cell (i := 0) ((h.block w.heap.size hlw2).trans Hr2.out) rfl)
     generalize opL gOr (nthF k (posG k f.2)).1 f.1 = U at *
     generalize posG k f.2 = p at *
     have hk63 : (p : Int) < (k.length : Int) := by omega
     clear hro hpt hiI hadd hcm hveq hgp hsum hq
     go_wp2_with fail
     go_region_with (first
      | (go_at_call 71
         refine (HU.out _ (by first | exact Below.refl _ _ | exact (Below.refl _ _).drew)).mono ?_
         rintro e w4 ⟨⟨yu, rfl, hou⟩, hb4⟩
         have hT4 : Below w2.heap.size w2 w4 := ⟨hb4.os, hb4.tape, hb4.output, hb4.size, hb4.block⟩
         obtain ⟨ua, uc, rfl, hIu⟩ := ivsT_own (base' := 0) hou HUl.out
         have HIu := Lib.hid hIu
         have zz := HZ.out w4 hT4
         have z0 := zz.1; have z1 := zz.2
         have z2 := HR0.out w4 hT4; have z3 := HR1.out w4 hT4
         clear zz hb4 hou hIu))
     all_goals go_wp2
     all_goals
      refine bodyPost_ret (results_none rfl _ _ _) rfl ?_
      have hT := Hw2.out.trans (hT4.mono hBw)
      refine ⟨rfl, ⟨_, (Below.heap_setCell _ _ _ _ (by simp only; omega)).trans ((hT4.block Bl (by omega)).trans HBl2.out), Hset.out w4 _ (own_below Hro.out hT4) (Hpt.out.steady (P := fun _ => True) (.of_below hT4) trivial trivial) ⟨_, _, _, rfl, HIu.out⟩⟩, ?_⟩
      exact (HK2.out.below hT4).setCell (fun _ h => by have h1 := h.1; simp only at h1; omega) _
  | false =>
   have hadd := addG_miss hhit
   have hpl := posG_le k f.2
   have HCl := Lib.hid (fun w' (h : Below w2.heap.size w2 w') => cloneIv_any a n c f.1 w' (HI2.out.below h) (by have := Hs.out; rw [← (HI2.out).len]; omega))
   obtain ⟨ss, hro, hpt⟩ := HoK.out
   have Hro := Lib.hid hro; have Hpt := Lib.hid hpt
   have hssl := hpt.1
   have HFi := Lib.hid Hf.out.items
   have HFr := Lib.hid (show ∀ (w' : World) (v' cl : Value), w'.ownsRow base 39 2 v' (k.length + 1) ((frgC ss).take (posG k f.2 * 2) ++ ([cl, .slice b m d] ++ (frgC ss).drop (posG k f.2 * 2))) → PartsT w' 0 k ss → IvSl w' 0 cl f.1 → EnSl w' 0 (.slice b m d) f.2 → OwnK w' base 0 v' (addG k f) from fun w' v' cl h1 h2 h3 h4 => by
    rw [frgC_mid] at h1
    have hl : (addG k f).length = k.length + 1 := by rw [hadd]; simp; omega
    refine ⟨_, by rw [hl]; exact h1, ?_⟩
    rw [hadd]
    have := ((h2.take (posG k f.2)).append (partsT_one (f := f) h3 h4)).append (h2.drop (posG k f.2))
    simpa using this)
   have hone := hpt.one
   have HR0 := Lib.hid (fun w' (h : Below w2.heap.size w2 w') => show w'.heap[Bl]? = some (.cells #[.slice xa k.length xc] 160 (0, 0)) ∧ w'.cell? ⟨Bl, 0, none⟩ = some (.slice xa k.length xc) ∧ w'.cell? ⟨w.heap.size, 1, none⟩ = some (.slice b m d) from And.intro ((h.block Bl (by omega)).trans HBl2.out) (And.intro (cells_cell (i := 0) ((h.block Bl (by omega)).trans HBl2.out) rfl) (cells_cell (i := 1) ((h.block w.heap.size hlw2).trans Hr2.out) rfl)))
   have Hlt := Lib.hid hro.lt
   generalize posG k f.2 = p at *
   have Hone := Lib.hid hone
   clear hro hpt hadd hone
   go_wp2_with fail
   go_region_with (first
    | (go_at_call 82
       refine (HCl.out _ (by first | exact Below.refl _ _ | exact (Below.refl _ _).drew)).mono ?_
       rintro e w4 ⟨⟨yu, rfl, hou⟩, hb4⟩
       have hT4 : Below w2.heap.size w2 w4 := ⟨hb4.os, hb4.tape, hb4.output, hb4.size, hb4.block⟩
       obtain ⟨ua, uc, rfl, hIu⟩ := ivsT_own (base' := 0) hou HFi.out
       have HIu := Lib.hid hIu
       have zz := HR0.out w4 hT4
       have z2 := zz.2.1; have z3 := zz.2.2
       have hBl4 : Bl < w4.heap.size := by have := hT4.size; omega
       have z4 : (w4.alloc (.cells #[.slice ua f.1.length uc, .slice b m d] 39)).cell? ⟨Bl, 0, none⟩ = some (.slice xa k.length xc) := cells_cell (i := 0) (row_old zz.1) rfl
       clear zz hb4 hou hIu)
    | (go_at_call 154
       have hal5 : Below w4.heap.size w4 (w4.alloc (.cells #[.slice ua f.1.length uc, .slice b m d] 39)) := (Below.refl _ _).alloc (Nat.le_refl _) _
       refine (insertF_any base (.slice xa k.length xc) k.length p w4.heap.size (frgC ss) [.slice ua f.1.length uc, .slice b m d] _ (own_below Hro.out (hT4.trans (hal5.mono hT4.size))) (row_new rfl) (fun e => by have := (Hlt.out _ e).2; have := hT4.size; omega) rfl Hone.out (by intro u hu; simp at hu; rcases hu with rfl | rfl <;> rfl) hpl (by omega) (by have := hT4.size; simp; omega)).mono ?_
       rintro e w5 ⟨v5, rfl, ho5, hg5⟩
       have hBl5 : w5.heap[Bl]? = some (.cells #[.slice xa k.length xc] 160 (0, 0)) := (hg5.block Bl (by have := hT4.size; simp; omega) (fun e => by have := (Hlt.out _ e.symm).1; omega)).trans (row_old (HR0.out w4 hT4).1)
       have z5 := box_frozen hBl5
       have z6 := box_cell hBl5
       have HBl5 := Lib.hid hBl5; have Ho5 := Lib.hid ho5; have Hg5 := Lib.hid hg5; have Hal5 := Lib.hid hal5
       obtain ⟨v5a, v5c, rfl⟩ := own_slice ho5
       clear hBl5 ho5 hg5 hal5))
   all_goals go_wp2
   all_goals
    go_end0
    have hst : Steady 0 isEnT w2 w5 := (Steady.of_below (hT4.trans (Hal5.out.mono hT4.size))).trans ((Steady.grown (own_below Hro.out (hT4.trans (Hal5.out.mono hT4.size))) Hg5.out (by rintro (h | h) <;> cases h)).lower (Nat.zero_le _))
    have hst4 : Steady 0 isEnT w4 w5 := (Steady.of_below Hal5.out).trans ((Steady.grown (own_below Hro.out (hT4.trans (Hal5.out.mono hT4.size))) Hg5.out (by rintro (h | h) <;> cases h)).lower (Nat.zero_le _))
    have hOK := HFr.out w5 _ _ Ho5.out (Hpt.out.steady hst (.inl rfl) (.inr rfl)) ⟨_, _, _, rfl, HIu.out.steady hst4 (.inl rfl)⟩ ⟨_, _, _, rfl, HV2.out.steady hst (.inl rfl) (.inr rfl)⟩
    refine ⟨rfl, ⟨_, box_set HBl5.out, ?_⟩, ?_⟩
    · exact ownK_setBl hOK HBl5.out hbl
    · exact (((HK2.out.below (hT4.trans (Hal5.out.mono hT4.size)))).grown Hg5.out (fun j hj hjw hjp => by have := (Hlt.out j hj).1; have := hjp.1; omega)).setCell (fun _ h => h.2 rfl) _
end
end Go.Proofs.YtkkdlgcfcbaibaaGreatDoor
