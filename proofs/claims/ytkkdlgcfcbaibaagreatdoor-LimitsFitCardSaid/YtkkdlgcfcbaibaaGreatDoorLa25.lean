/- Walks and laws, joined: La25. -/
import Derived.Laws.CopyOwn
import Derived.Lib.Overlaps
import Derived.Lib.AppendZerosOnto
import Derived.Shelf.RegionOpenPlain
import Derived.Test.YtkkdlgcfcbaibaaGreatDoorLa04
import Derived.Test.YtkkdlgcfcbaibaaGreatDoorLa24
import Derived.Test.YtkkdlgcfcbaibaaGreatDoorLa08
import Derived.Test.YtkkdlgcfcbaibaaGreatDoorLa13
import Derived.Test.YtkkdlgcfcbaibaaGreatDoorLa14
set_option linter.unusedVariables false
namespace Go.Proofs.YtkkdlgcfcbaibaaGreatDoor
section
open Go.RowKit
theorem cells_cellM {W : World} {g i : Nat} {C : Array Value} {T : TypeId} {fr : Nat × Nat} {v : Value} (h : W.heap[g]? = some (.cells C T fr)) (hv : C[i]? = some v) : W.cell? ⟨g, i, none⟩ = some v := by
 simp [World.cell?, h, hv]
theorem run_sizeOfM {P : Program} {e : TypeId} {sz : Nat} (h : (P.info? e).map (·.size) = some sz) (w : World) : (Go.sizeOf e).run P w = .ok sz w := by
 cases hq : P.info? e with
 | none => simp [hq] at h
 | some i => simp [sizeOf, typeInfo, hq] at h ⊢; exact h
theorem run_copy_rowS {P : Program} (w : World) (dT sT ty elem : TypeId) (sz g o dLen dCap : Nat) (a : Addr) (sLen sCap : Nat) (cur : List Value) (t : TypeId) (cs : List Value) (m : Nat)
 (hu : P.underlying dT = some (.slice elem)) (hs : (P.info? elem).map (·.size) = some sz)
 (hg : w.heap[g]? = some (.cells cur.toArray t (0, 0))) (hm : Nat.min sLen dLen = m) (hn : cs.length = m * sz)
 (hsrc : ∀ j v, cs[j]? = some v → w.cell? (a.add j) = some v) (hfit : o + cs.length ≤ cur.length) (h1 : ∀ v ∈ cs, v.oneCell' = true) :
 (Builtin.copy_ #[dT, sT] ty #[.slice (some ⟨g, o, none⟩) dLen dCap, .slice (some a) sLen sCap]).run P w =
   .ok (goInt m) (w.setRow g (splice cur o cs).toArray) := by
 have hl := run_loadCells_list (P := P) w a cs hsrc
 have hst := run_storeCells_at P g o t cs 0 cur.toArray w hg (by simpa using hfit) h1
 cases hq : P.info? elem with
 | none => simp [hq] at hs
 | some i =>
  have hi : i.size = sz := by simpa [hq] using hs
  rw [hn] at hl
  simp [Builtin.copy_, run_underlying hu, Builtin.lenOf, Builtin.firstCells, sizeOf, typeInfo, hq, hi, hm, hl, hst, splice]
theorem wpList_copy_hr {P : Program} {w : World} {ops : Array Oper} {rest : List Oper} {o : Oper} {a : Act} {Q : Exit → Act → World → Prop} (hgd : o.guard = none) (d s : Operand) (t t' : TypeId)
 (ho : o.op = .call { callee := .builtin .copy, args := #[d, s], argTypes := #[t, t'] }) (v u : Value) (hd : a.eval d = v) (hs : a.eval s = u) {v' : Value} {w' : World}
 (hr : (Builtin.copy_ #[t, t'] o.type #[v, u]).run P w = .ok v' w') (h : wpList P ops Q rest (a.put o.dst v') w') : wpList P ops Q (o :: rest) a w := by
 refine wpList_plain hgd fun _ hK => ?_
 unfold Oper.wp execOp
 simp only [ho, resolve, invoke, builtin, Sem.run_bind, Sem.run_pure, Result.andThen_ok, List.map_toArray, List.map_cons, List.map_nil, hd, hs, hr]
 exact hK _ _ h
theorem step_copy_hr {P : Program} {ops : Array Oper} {o : Oper} {a : Act} {w : World} {K : Act → World → Prop} {Q : Exit → Act → World → Prop} {E : Prop}
 (hg : o.guard = none) (d x : Operand) (dT sT : TypeId) (hop : o.op = Op.call { callee := Callee.builtin Builtin.copy, args := #[d, x], argTypes := #[dT, sT] })
 (v u : Value) (hd : a.eval d = v) (hx : a.eval x = u) {v' : Value} {w' : World} (hr : (Builtin.copy_ #[dT, sT] o.type #[v, u]).run P w = .ok v' w') (hK : K (a.put o.dst v') w') :
 if Region.wanted o (yielded ops a.tmps) = true then Oper.wp P o a w K Q else E := by
 have hw : Region.wanted o (yielded ops a.tmps) = true := by simp [Region.wanted, hg]
 rw [if_pos hw]
 unfold Oper.wp
 simp [execOp, hop, resolve, invoke, builtin, hd, hx, hr, Result.andThen]
 exact hK
theorem splice_shift {α : Type} (cur ys : List α) (p q r : Nat) (hp : p ≤ q) (hy : ys.length = r) (hr : q + r ≤ cur.length) :
 (splice (splice cur (p + r) ((cur.take q).drop p)) p ys).take (q + r) = (cur.take q).take p ++ (ys ++ (cur.take q).drop p) := by
 obtain ⟨A, B, hA, rfl⟩ : ∃ A B, A.length = p ∧ cur = A ++ B := ⟨cur.take p, cur.drop p, by simp; omega, by simp⟩
 obtain ⟨C, D, hC, rfl⟩ : ∃ C D, C.length = q - p ∧ B = C ++ D := ⟨B.take (q - p), B.drop (q - p), by simp at hr ⊢; omega, by simp⟩
 have e1 : (A ++ (C ++ D)).take q = A ++ C := by
  rw [← List.append_assoc, List.take_append_of_le_length (by simp; omega)]
  exact List.take_of_length_le (by simp; omega)
 rw [e1]
 have e2 : (A ++ C).drop p = C := by rw [← hA]; simp
 have e3 : (A ++ C).take p = A := by rw [← hA]; simp
 rw [e2, e3]
 have hl : (splice (A ++ (C ++ D)) (p + r) C).length = (A ++ (C ++ D)).length := length_splice _ _ _ (by simp at hr ⊢; omega)
 obtain ⟨E, hE⟩ : ∃ E, splice (A ++ (C ++ D)) (p + r) C = (A ++ (C ++ D)).take (p + r) ++ (C ++ E) := ⟨_, rfl⟩
 have h4 : (splice (A ++ (C ++ D)) (p + r) C).take p = A := by
  rw [hE, List.take_append_of_le_length (by simp at hr ⊢; omega), List.take_take, Nat.min_eq_left (by omega), ← hA]; simp
 have h5 : (splice (A ++ (C ++ D)) (p + r) C).drop (p + r) = C ++ E := by
  rw [hE]
  have : ((A ++ (C ++ D)).take (p + r)).length = p + r := by simp at hr ⊢; omega
  rw [List.drop_append, this]; simp
 unfold splice at h4 h5 ⊢
 rw [h4, hy, h5]
 have : q + r = (A ++ (ys ++ C)).length := by simp; omega
 rw [this, show A ++ (ys ++ (C ++ E)) = (A ++ (ys ++ C)) ++ E by simp, List.take_left]
theorem splice_fill {α : Type} (Z ys : List α) (xs : List α) (p q r : Nat) (hp : p ≤ q) (hx : xs.length = q) (hy : ys.length = r) (hr : q + r ≤ Z.length) (hz : Z.take p = xs.take p) :
 (splice (splice Z p ys) (p + r) (xs.drop p)).take (q + r) = xs.take p ++ (ys ++ xs.drop p) := by
 have hl1 : (splice Z p ys).length = Z.length := length_splice _ _ _ (by omega)
 have h1 : (splice Z p ys).take (p + r) = Z.take p ++ ys := by
  have : p + r = (Z.take p ++ ys).length := by simp; omega
  unfold splice
  rw [this, ← List.append_assoc, List.take_left]
 have : q + r = (xs.take p ++ (ys ++ xs.drop p)).length := by simp; omega
 generalize splice Z p ys = Y at h1 hl1
 unfold splice
 rw [h1, hz, this, show ∀ T, (xs.take p ++ ys) ++ (xs.drop p ++ T) = (xs.take p ++ (ys ++ xs.drop p)) ++ T from fun T => by simp, List.take_left]
def InsU (base : Nat) (v : Value) (n i : Nat) (cs ys : List Value) (w : World) (e : Ending) (w' : World) : Prop :=
 ∃ v', e = .returned v' ∧ w'.ownsRow base 24 1 v' (n + 1) (cs.take (i) ++ (ys ++ cs.drop (i))) ∧ w.grownBy w' v.ownBlock
theorem run_appendU2 {w : World} {ty : TypeId} {a b : Option Addr} {n c m d : Nat} : (Builtin.append_ #[151, 151] ty #[.slice a n c, .slice b m d]).run Tryz.prog w = (Builtin.append_ #[151, 151] ty #[.slice a n c, .slice b m d]).run Tryz.prog w := by
 have h1 := Tryz.underlying151
 have h2 := Tryz.underlying151
 rfl
set_option maxHeartbeats 2000000 in
set_option maxRecDepth 100000 in
theorem insU_end (base : Nat) (v : Value) (n vb : Nat) (cs ys : List Value) (w : World) (ho : w.ownsRow base 24 1 v n cs) (hv : w.heap[vb]? = some (.cells ys.toArray 24 (0, 0))) (hy : ys.length = 1)
 (h1 : ∀ u ∈ ys, u.oneCell' = true) (hn : n + 1 ≤ 1000000) (hb : base ≤ w.heap.size) :
 Calls Tryz.prog 229 #[v, .int .i64 n, .slice (some ⟨vb, 0, none⟩) 1 1] w fun e w' => InsU base v n n cs ys w e w' := by
 have hr : Rd w 1 (some ⟨vb, 0, none⟩) 1 ys := ⟨by omega, fun _ => ⟨vb, 0, rfl, fun j u hu => by rw [Nat.zero_add]; exact cells_cellM hv (by simpa using hu)⟩⟩
 have hrun := fun ty => run_append_rd base 151 ty _ _ 1 8 Tryz.underlying151 Tryz.info_u64 rfl (by omega) v n cs ho (some ⟨vb, 0, none⟩) 1 1 ys hr h1 (by unfold maxLen; omega) (by omega) hb
 obtain ⟨v', w', hrun1, h2, h3⟩ := hrun 151
 have hlen := ho.1
 have HR := Lib.hid (show InsU base v n n cs ys w (.returned v') w' from ⟨v', rfl, by rw [List.take_of_length_le (by omega), List.drop_eq_nil_of_le (by omega), List.append_nil]; exact h2, h3⟩)
 obtain ⟨a, c, rfl⟩ : ∃ a c, v = .slice a n c := by
  rcases ho.2 with ⟨rfl, rfl⟩ | ⟨g, cap, cur, rfl, _⟩
  · exact ⟨none, 0, rfl⟩
  · exact ⟨_, cap, rfl⟩
 have hrun2 : (Builtin.append_ #[151, 151] 151 #[.slice a n c, .slice (some ⟨vb, 0, none⟩) 1 1]).run Tryz.prog w = .ok v' w' := by rw [run_appendU2]; exact hrun1
 have hnc : n ≤ c ∧ c ≤ 9223372036854775807 ∧ (a = none ∨ ∃ g, a = some ⟨g, 0, none⟩) := by
  rcases ho.2 with ⟨h, rfl⟩ | ⟨g, cap, cur, h, _, _, h4, h5, _⟩
  · cases h; exact ⟨Nat.le_refl _, by omega, .inl rfl⟩
  · cases h; unfold maxLen at h5; exact ⟨h4, by omega, .inr ⟨g, rfl⟩⟩
 obtain ⟨hnc, hc63, ha⟩ := hnc
 clear hrun hrun1 h2 h3 ho hv hy h1 hr hlen
 rcases ha with rfl | ⟨g, rfl⟩
 · go_enter Tryz.func229, Tryz.ntmps229
   go_wp2_with (at_builtin; refine Lib.wpList_append_run _ rfl _ _ _ _ rfl _ _ rfl rfl _ _ hrun2 ?_)
   go_ret
   exact HR.out
 · go_enter Tryz.func229, Tryz.ntmps229
   go_wp2_with (at_builtin; refine Lib.wpList_append_run _ rfl _ _ _ _ rfl _ _ rfl rfl _ _ hrun2 ?_)
   all_goals (go_ret; exact HR.out)
theorem insU_row {w : World} {base n c g : Nat} {cs : List Value} (ho : w.ownsRow base 24 1 (.slice (some ⟨g, 0, none⟩) n c) n cs) :
 ∃ L : List Value, w.heap[g]? = some (.cells L.toArray 24 (0, 0)) ∧ L.length = c * 1 ∧ L.take (n * 1) = cs ∧ n ≤ c ∧ c ≤ maxLen ∧ base ≤ g ∧ g < w.heap.size := by
 rcases ho.2 with ⟨h, _⟩ | ⟨g', cap, cur, h, h1, h2, h3, h4, h5, h6⟩
 · cases h
 · cases h
   exact ⟨cur.toList, by simpa using h2, by simpa using h5, h6, h3, h4, h1, (Array.getElem?_eq_some_iff.1 h2).1⟩
set_option maxHeartbeats 4000000 in
set_option maxRecDepth 100000 in
theorem insU_shift (base g n c i vb : Nat) (cs ys : List Value) (w : World) (ho : w.ownsRow base 24 1 (.slice (some ⟨g, 0, none⟩) n c) n cs) (hv : w.heap[vb]? = some (.cells ys.toArray 24 (0, 0))) (hne : vb ≠ g) (hy : ys.length = 1)
 (h1c : ∀ u ∈ cs, u.oneCell' = true) (h1 : ∀ u ∈ ys, u.oneCell' = true) (hi : i < n) (hc : n + 1 ≤ c) :
 Calls Tryz.prog 229 #[.slice (some ⟨g, 0, none⟩) n c, .int .i64 i, .slice (some ⟨vb, 0, none⟩) 1 1] w fun e w' => InsU base (.slice (some ⟨g, 0, none⟩) n c) n i cs ys w e w' := by
 obtain ⟨L, hg, hL, hcs, -, hcm, hbg, hgw⟩ := insU_row ho
 have hc63 : c ≤ 9223372036854775807 := by unfold maxLen at hcm; omega
 have hcl := ho.1
 have hsz : (Tryz.prog.info? 24).map (·.size) = some 1 := by
  have h := Tryz.info_u64
  cases hq : Tryz.prog.info? 24 with
  | none => rw [hq] at h; cases h
  | some k => rw [hq] at h; simp at h; simp [h]
 have hov : ∀ off lb cb, (callFunc 236 #[.slice (some ⟨vb, 0, none⟩) 1 1, .slice (some ⟨g, off, none⟩) lb cb]).run Tryz.prog w = .ok (.value (.bool false)) w := fun off lb cb => by
  rw [run_callFunc_extern Tryz.func236 (by kernel_rfl) (by kernel_rfl) (by kernel_rfl) (e := Extern.SlicesOverlaps.overlaps #[151, 151] #[4]) (by kernel_rfl),
   Lib.run_overlaps_apart w 151 4 24 Tryz.underlying151 1 (run_sizeOfM hsz) ⟨vb, 0, none⟩ ⟨g, off, none⟩ 1 1 lb cb hne 24 24 ys.length L.length (by simp [World.shape?, hv]) (by simp [World.shape?, hg]) (by omega) (by simp [World.frozen?, hv]) (by simp [World.frozen?, hv])]
  rfl
 obtain ⟨A, hA⟩ : ∃ A, A = splice L ((i + 1)) (cs.drop (i)) := ⟨_, rfl⟩
 have hAl : A.length = c * 1 := by rw [hA, length_splice _ _ _ (by rw [List.length_drop]; omega), hL]
 have hcp1 : ∀ ty, (Builtin.copy_ #[151, 151] ty #[.slice (some ⟨g, (i + 1), none⟩) (n + 1 - (i + 1)) (c - (i + 1)), .slice (some ⟨g, i, none⟩) (n + 1 - i) (c - i)]).run Tryz.prog w.drew = .ok (goInt ((n - i : Nat) : Int)) (w.drew.setRow g A.toArray) := fun ty => by
  rw [hA]
  refine run_copy_rowS w.drew _ _ ty 24 1 g _ _ _ _ _ _ L 24 (cs.drop (i)) (n - i) Tryz.underlying151 hsz hg (by simp only [Nat.min_def]; split <;> omega) (by rw [List.length_drop]; omega) (fun j u hj => ?_) (by rw [List.length_drop]; omega) (fun u hu => h1c u (List.mem_of_mem_drop hu))
  rw [List.getElem?_drop] at hj
  show w.cell? _ = _
  rw [add_at]
  refine cells_cellM hg ?_
  rw [← hcs] at hj
  rw [List.getElem?_take] at hj
  split at hj
  · simpa using hj
  · exact absurd hj (by simp)
 obtain ⟨W1, hW1⟩ : ∃ W1, W1 = w.drew.setRow g A.toArray := ⟨_, rfl⟩
 have hg1 : W1.heap[g]? = some (.cells A.toArray 24 (0, 0)) := by rw [hW1]; exact setRow_heap w.drew g _ _ _ _ hg
 have hv1 : W1.heap[vb]? = some (.cells ys.toArray 24 (0, 0)) := by rw [hW1]; exact (setRow_other w.drew g vb _ hne).trans hv
 have hcp2 : ∀ ty, (Builtin.copy_ #[151, 151] ty #[.slice (some ⟨g, i, none⟩) (n + 1 - i) (c - i), .slice (some ⟨vb, 0, none⟩) 1 1]).run Tryz.prog W1 = .ok (goInt ((1 : Nat) : Int)) (W1.setRow g (splice A (i) ys).toArray) := fun ty =>
  run_copy_rowS W1 _ _ ty 24 1 g _ _ _ _ _ _ A 24 ys 1 Tryz.underlying151 hsz hg1 (by simp only [Nat.min_def]; split <;> omega) (by omega) (fun j u hj => by rw [add_at, Nat.zero_add]; exact cells_cellM hv1 (by simpa using hj)) (by omega) h1
 have hE : InsU base (.slice (some ⟨g, 0, none⟩) n c) n i cs ys w (.returned (.slice (some ⟨g, 0, none⟩) (n + 1) c)) (W1.setRow g (splice A (i) ys).toArray) := by
  refine ⟨_, rfl, ⟨by simp; omega, .inr ⟨g, c, _, rfl, hbg, setRow_heap W1 g _ _ _ _ hg1, hc, hcm, by rw [List.size_toArray, length_splice _ _ _ (show i + ys.length ≤ A.length by omega), hAl], ?_⟩⟩, ?_⟩
  · have h := splice_shift L ys (i) (n * 1) 1 (by omega) hy (by omega)
    rw [hcs] at h
    rw [hA, show (i + 1) = i + 1 by omega, show (n + 1) * 1 = n * 1 + 1 by omega]
    simpa using h
  · refine ⟨by rw [hW1]; rfl, by rw [hW1]; rfl, by rw [hW1]; rfl, by rw [hW1]; simp [World.setRow], fun k hk hkr => ?_⟩
    have hkg : k ≠ g := fun e => hkr (by rw [e]; rfl)
    rw [setRow_other W1 g k _ hkg, hW1]
    exact setRow_other w.drew g k _ hkg
 have HE := Lib.hid hE
 rw [← hW1] at hcp1
 have HW1 := Lib.hid hW1
 clear hE hW1 hg1 hv1 hA hAl ho hg hL hcs hcl hv hy h1c h1
 have hz2 : ¬ ((i : Int) = (n : Int)) := by omega
 have hw1 : IntKind.i64.wrap ((i : Int) + 1) = (i : Int) + 1 := by rw [IntKind.wrap_i64]; omega
 have hin : i ≤ n := by omega
 have hb2 : ¬ (c = i + 1) := by omega
 have hb4 : ¬ (c = i) := by omega
 have hb1 : (0 : Int) ≤ (i : Int) + 1 := by omega
 have hb3 : (i : Int) ≤ (n : Int) + 1 := by omega
 have htn : ((i : Int) + 1).toNat = i + 1 := by omega
 go_enter Tryz.func229, Tryz.ntmps229
 go_wp2_with (simp only [hov])
 go_region_law (refine step_copy_hr rfl _ _ 151 151 rfl (.slice (some ⟨g, (i + 1), none⟩) (n + 1 - (i + 1)) (c - (i + 1))) (.slice (some ⟨g, i, none⟩) (n + 1 - i) (c - i)) (by simp [Act.eval, Act.put] <;> omega) (by simp [Act.eval, Act.put] <;> omega) (hcp1 _) ?_)
 go_wp2_with (at_builtin; refine wpList_copy_hr rfl _ _ 151 151 rfl (.slice (some ⟨g, i, none⟩) (n + 1 - i) (c - i)) (.slice (some ⟨vb, 0, none⟩) 1 1) (by simp [Act.eval, Act.put] <;> omega) (by simp [Act.eval, Act.put]) (hcp2 _) ?_)
 go_ret
 exact HE.out
set_option maxHeartbeats 4000000 in
set_option maxRecDepth 100000 in
theorem insU_grow (base g n c i vb : Nat) (cs ys : List Value) (w : World) (ho : w.ownsRow base 24 1 (.slice (some ⟨g, 0, none⟩) n c) n cs) (hv : w.heap[vb]? = some (.cells ys.toArray 24 (0, 0))) (hy : ys.length = 1)
 (h1c : ∀ u ∈ cs, u.oneCell' = true) (h1 : ∀ u ∈ ys, u.oneCell' = true) (hi : i < n) (hc : c < n + 1) (hn : n + 1 ≤ 1000000) (hb : base ≤ w.heap.size) :
 Calls Tryz.prog 229 #[.slice (some ⟨g, 0, none⟩) n c, .int .i64 i, .slice (some ⟨vb, 0, none⟩) 1 1] w fun e w' => InsU base (.slice (some ⟨g, 0, none⟩) n c) n i cs ys w e w' := by
 obtain ⟨L, hg, hL, hcs, hnc, hcm, hbg, hgw⟩ := insU_row ho
 have hc63 : c ≤ 9223372036854775807 := by unfold maxLen at hcm; omega
 have hcl := ho.1
 have hvw : vb < w.heap.size := (Array.getElem?_eq_some_iff.1 hv).1
 obtain ⟨i0, hi0, hz0, hzs, hzb⟩ := info_parts Tryz.info_u64
 have hsz : (Tryz.prog.info? 24).map (·.size) = some 1 := by rw [hi0]; simp [hzs]
 have hcell : ∀ j v, cs[j]? = some v → w.cell? ⟨g, j, none⟩ = some v := fun j v hj => by
  refine cells_cellM hg ?_
  rw [← hcs, List.getElem?_take] at hj
  split at hj
  · simpa using hj
  · exact absurd hj (by simp)
 have hold : (Builtin.firstCells i0.size i (.slice (some ⟨g, 0, none⟩) i c)).run Tryz.prog w.drew = .ok (cs.take (i)).toArray w.drew := by
  rw [hzs]
  exact run_firstCells_some w.drew 1 i ⟨g, 0, none⟩ i c (cs.take (i)) (by rw [List.length_take]; omega) (fun j v hj => by
   rw [add_at, Nat.zero_add]
   rw [List.getElem?_take] at hj
   split at hj
   · exact hcell j v hj
   · cases hj)
 have hik : i + (n + 1 - i) = n + 1 := by omega
 obtain ⟨G, hG⟩ : ∃ G, G = grownCap w (n + 1) c 24 := ⟨_, rfl⟩
 obtain ⟨Z, hZ⟩ : ∃ Z : List Value, Z = cs.take (i) ++ ((Builtin.zeroCells (Value.cells (.int .u64 0)) (n + 1 - i)).toList ++ (Builtin.zeroCells (Value.cells (.int .u64 0)) (G - (n + 1))).toList) := ⟨_, rfl⟩
 have hrz : ∀ ty, (Builtin.append_ #[151, 3] ty #[.slice (some ⟨g, 0, none⟩) i c, .int .i64 ((n : Int) + 1 - (i : Int))]).run Tryz.prog w =
  .ok (.slice (some ⟨w.heap.size, 0, none⟩) (n + 1) G) (w.drew.alloc (.cells Z.toArray 24)) := fun ty => by
  have h := Lib.run_append_grow_zeros w 151 3 ty 24 i0 _ .i64 .i64 Tryz.underlying151 Tryz.underlying3 hi0 hz0 (some ⟨g, 0, none⟩) i c (cs.take (i)) hold (n + 1 - i) (by omega) (by omega) (by omega) (by omega) (by rw [hzb]; omega) (by rw [hzb, hik]; exact growslice_fits hc (by omega))
  rw [hik, ← hG] at h
  have hZa : (cs.take (i)).toArray ++ Builtin.zeroCells (Value.cells (.int .u64 0)) (n + 1 - i) ++ Builtin.zeroCells (Value.cells (.int .u64 0)) (G - (n + 1)) = Z.toArray := by
   rw [hZ]; apply Array.ext'; simp
  rw [hZa] at h
  rw [show (n : Int) + 1 - (i : Int) = ((n + 1 - i : Nat) : Int) by omega, h]
 have hGn : n + 1 ≤ G := by rw [hG]; exact grownCap_ge w _ _ _
 have hGm : G ≤ maxLen := by rw [hG]; exact grownCap_le_maxLen w (n + 1) c 24 (by unfold maxLen; omega)
 have hG63 : G ≤ 9223372036854775807 := by unfold maxLen at hGm; omega
 have hZl : Z.length = G * 1 := by
  have hz : ∀ k, (Builtin.zeroCells (Value.cells (.int .u64 0)) k).toList.length = k * 1 := fun k => by rw [Array.length_toList, size_zeroCells]; rfl
  rw [hZ, List.length_append, List.length_append, List.length_take, hz, hz]
  omega
 have hZt : Z.take (i) = cs.take (i) := by
  rw [hZ, List.take_append_of_le_length (by rw [List.length_take]; omega)]
  exact List.take_of_length_le (by rw [List.length_take]; omega)
 obtain ⟨W1, hW1⟩ : ∃ W1, W1 = w.drew.alloc (.cells Z.toArray 24) := ⟨_, rfl⟩
 rw [← hW1] at hrz
 have n1 : W1.heap[w.heap.size]? = some (.cells Z.toArray 24 (0, 0)) := by rw [hW1]; exact heap_alloc_new w.drew _
 have o1 : ∀ k, k < w.heap.size → W1.heap[k]? = w.heap[k]? := fun k hk => by rw [hW1]; exact Below.heap_alloc w.drew _ k hk
 have hcpA : ∀ ty, (Builtin.copy_ #[151, 151] ty #[.slice (some ⟨w.heap.size, i, none⟩) (n + 1 - i) (G - i), .slice (some ⟨vb, 0, none⟩) 1 1]).run Tryz.prog W1 = .ok (goInt ((1 : Nat) : Int)) (W1.setRow w.heap.size (splice Z (i) ys).toArray) := fun ty =>
  run_copy_rowS W1 _ _ ty 24 1 w.heap.size _ _ _ _ _ _ Z 24 ys 1 Tryz.underlying151 hsz n1 (by simp only [Nat.min_def]; split <;> omega) (by omega) (fun j u hj => by rw [add_at, Nat.zero_add]; exact cells_cellM ((o1 vb hvw).trans hv) (by simpa using hj)) (by omega) h1
 obtain ⟨W2, hW2⟩ : ∃ W2, W2 = W1.setRow w.heap.size (splice Z (i) ys).toArray := ⟨_, rfl⟩
 rw [← hW2] at hcpA
 have n2 : W2.heap[w.heap.size]? = some (.cells (splice Z (i) ys).toArray 24 (0, 0)) := by rw [hW2]; exact setRow_heap W1 _ _ _ _ _ n1
 have o2 : ∀ k, k < w.heap.size → W2.heap[k]? = w.heap[k]? := fun k hk => by rw [hW2]; exact (setRow_other W1 _ k _ (by omega)).trans (o1 k hk)
 have hl2 : (splice Z (i) ys).length = G * 1 := by rw [length_splice _ _ _ (by omega), hZl]
 have hcpB : ∀ ty, (Builtin.copy_ #[151, 151] ty #[.slice (some ⟨w.heap.size, (i + 1), none⟩) (n + 1 - (i + 1)) (G - (i + 1)), .slice (some ⟨g, i, none⟩) (n - i) (c - i)]).run Tryz.prog W2.drew = .ok (goInt ((n - i : Nat) : Int)) (W2.drew.setRow w.heap.size (splice (splice Z (i) ys) ((i + 1)) (cs.drop (i))).toArray) := fun ty => by
  refine run_copy_rowS W2.drew _ _ ty 24 1 w.heap.size _ _ _ _ _ _ _ 24 (cs.drop (i)) (n - i) Tryz.underlying151 hsz n2 (by simp only [Nat.min_def]; split <;> omega) (by rw [List.length_drop]; omega) (fun j u hj => ?_) (by rw [List.length_drop]; omega) (fun u hu => h1c u (List.mem_of_mem_drop hu))
  rw [List.getElem?_drop] at hj
  show W2.cell? _ = _
  rw [add_at]
  have h := hcell _ u hj
  simp only [World.cell?, o2 g hgw] at h ⊢
  exact h
 obtain ⟨C, hC⟩ : ∃ C, C = splice (splice Z (i) ys) ((i + 1)) (cs.drop (i)) := ⟨_, rfl⟩
 have hl3 : C.length = G * 1 := by rw [hC, length_splice _ _ _ (by rw [List.length_drop]; omega), hl2]
 have hCt : C.take ((n + 1) * 1) = cs.take (i) ++ (ys ++ cs.drop (i)) := by
  have h := splice_fill Z ys cs (i) (n * 1) 1 (by omega) hcl hy (by omega) hZt
  rw [hC, show (i + 1) = i + 1 by omega, show (n + 1) * 1 = n * 1 + 1 by omega]
  exact h
 rw [← hC] at hcpB
 have hE : InsU base (.slice (some ⟨g, 0, none⟩) n c) n i cs ys w (.returned (.slice (some ⟨w.heap.size, 0, none⟩) (n + 1) G)) (W2.drew.setRow w.heap.size C.toArray) := by
  refine ⟨_, rfl, ⟨by simp; omega, .inr ⟨w.heap.size, G, _, rfl, hb, setRow_heap W2.drew _ _ _ _ _ n2, hGn, hGm, by rw [List.size_toArray, hl3], ?_⟩⟩, ?_⟩
  · simpa using hCt
  · refine ⟨by rw [hW2, hW1]; rfl, by rw [hW2, hW1]; rfl, by rw [hW2, hW1]; rfl, by rw [hW2, hW1]; simp [World.setRow], fun k hk hkr => ?_⟩
    rw [setRow_other W2.drew _ k _ (by omega)]
    exact o2 k hk
 have HE := Lib.hid hE
 obtain ⟨W3, hW3⟩ : ∃ W3, W3 = W2.drew.setRow w.heap.size C.toArray := ⟨_, rfl⟩
 rw [← hW3] at hcpB HE
 obtain ⟨N, hN⟩ : ∃ N, N = w.heap.size := ⟨_, rfl⟩
 have hgN : g ≠ N := by omega
 have hvN : vb ≠ N := by omega
 rw [← hN] at hcpA hcpB HE hrz
 clear hE hW3 hN hC hl3 hCt hW2 n2 o2 hl2 hW1 n1 o1 hZ hZl hZt hG hold hcell hcl hcs hL hg ho hv hy h1c h1 hi0 hz0 hzs hzb hsz hb hcm hGm
 have hz2 : ¬ ((i : Int) = (n : Int)) := by omega
 have hz3 : (c : Int) < (n : Int) + 1 := by omega
 have hGi : ¬ (G = i) := by omega
 have hGim : ¬ (G = i + 1) := by omega
 have hci : ¬ (c = i) := by omega
 have hw1 : IntKind.i64.wrap ((i : Int) + 1) = (i : Int) + 1 := by rw [IntKind.wrap_i64]; omega
 have hb1 : (0 : Int) ≤ (i : Int) + 1 := by omega
 have hin : i ≤ n := by omega
 have htn : ((i : Int) + 1).toNat = i + 1 := by omega
 have hb3 : (i : Int) ≤ (n : Int) := by omega
 clear hik
 go_enter Tryz.func229, Tryz.ntmps229
 go_wp2_with (first
  | (at_builtin; refine Lib.wpList_append_run _ rfl _ _ _ _ rfl _ _ rfl rfl _ _ (hrz _) ?_)
  | (at_builtin; refine wpList_copy_hr rfl _ _ 151 151 rfl (.slice (some ⟨N, i, none⟩) (n + 1 - i) (G - i)) (.slice (some ⟨vb, 0, none⟩) 1 1) (by simp [Act.eval, Act.put] <;> omega) (by simp [Act.eval, Act.put]) (hcpA _) ?_))
 go_region_law (refine step_copy_hr rfl _ _ 151 151 rfl (.slice (some ⟨N, (i + 1), none⟩) (n + 1 - (i + 1)) (G - (i + 1))) (.slice (some ⟨g, i, none⟩) (n - i) (c - i)) (by simp [Act.eval, Act.put] <;> omega) (by simp [Act.eval, Act.put] <;> omega) (hcpB _) ?_)
 go_wp2
 go_ret
 exact HE.out
theorem insertU_any (base : Nat) (v : Value) (n i vb : Nat) (cs ys : List Value) (w : World) (ho : w.ownsRow base 24 1 v n cs) (hv : w.heap[vb]? = some (.cells ys.toArray 24 (0, 0))) (hne : v.ownBlock ≠ some vb) (hy : ys.length = 1)
 (h1c : ∀ u ∈ cs, u.oneCell' = true) (h1 : ∀ u ∈ ys, u.oneCell' = true) (hi : i ≤ n) (hn : n + 1 ≤ 1000000) (hb : base ≤ w.heap.size) :
 Calls Tryz.prog 229 #[v, .int .i64 i, .slice (some ⟨vb, 0, none⟩) 1 1] w fun e w' => InsU base v n i cs ys w e w' := by
 by_cases hin : i = n
 · subst hin; exact insU_end base v _ vb cs ys w ho hv hy h1 hn hb
 · rcases ho.2 with ⟨rfl, rfl⟩ | ⟨g, cap, cur, rfl, _, _, h4, _⟩
   · omega
   · by_cases hc : n + 1 ≤ cap
     · exact insU_shift base g n cap i vb cs ys w ho hv (fun e => hne (by rw [e]; rfl)) hy h1c h1 (by omega) hc
     · exact insU_grow base g n cap i vb cs ys w ho hv hy h1c h1 (by omega) (by omega) hn hb
theorem u64C_mid (L : List Nat) (x p : Nat) : (u64C L).take p ++ ([Value.int .u64 (x : Int)] ++ (u64C L).drop p) = u64C (L.take p ++ x :: L.drop p) := by
 simp [u64C, List.map_take, List.map_drop]
set_option maxHeartbeats 1000000 in
theorem addS_any (Br base : Nat) (v : Value) (L : List Nat) (x : Nat) (w : World) (hB : w.heap[Br]? = some (.cells #[v] 269 (0, 0))) (ho : w.ownsRow base 24 1 v L.length (u64C L)) (hbr : Br < base) (hbs : base ≤ w.heap.size)
 (hl : ∀ y ∈ L, y < 18446744073709551616) (hA : Asc L) (hx : x ∉ L) (hn : L.length + 1 ≤ 1000000) :
 Calls Tryz.prog 211 #[.pointer (some ⟨Br, 0, none⟩), .int .u64 x] w fun e w' => e = .returned (.tuple #[]) ∧
  ∃ v', w'.heap[Br]? = some (.cells #[v'] 269 (0, 0)) ∧ w'.ownsRow base 24 1 v' (insA L x).length (u64C (insA L x)) ∧ Kept (fun k => k < base ∧ k ≠ Br) w w' := by
 obtain ⟨a, c, rfl, hU⟩ := u64s_own ho hl
 have Ho := Lib.hid ho; have HA := Lib.hid hA; have Hx := Lib.hid hx
 have HB := Lib.hid hB
 have hBw : Br < w.heap.size := (Array.getElem?_eq_some_iff.1 hB).1
 have q1 := box_cell hB
 have hC := Lib.hid (bsU_any a L.length c x L w hU hA (by omega))
 clear ho hA hx hB hU hl
 go_enter Tryz.func211, Tryz.ntmps211
 go_wp2_with fail
 refine hC.out.mono ?_
 rintro e w1 ⟨⟨p, z, rfl, hp, h1, h2⟩, hw⟩
 have hw := hw.symm
 subst hw
 have HI := Lib.hid (insA_put HA.out Hx.out hp h1 h2)
 clear h1 h2
 have hal : Below w.heap.size w (w.alloc (.cells #[.int .u64 x] 24)) := (Below.refl _ _).alloc (Nat.le_refl _) _
 have hIns := Lib.hid (insertU_any base (.slice a L.length c) L.length p w.heap.size (u64C L) [.int .u64 x] (w.alloc (.cells #[.int .u64 x] 24)) (own_below Ho.out hal) (row_new rfl)
  (fun e => by have := (Ho.out.lt _ e).2; omega) rfl (u64C_one L) (by simp [Value.oneCell']) hp hn (by simp; omega))
 have q2 := row_old (o := .cells #[.int .u64 x] 24) HB.out
 have q3 := box_cell q2
 have Hal := Lib.hid hal
 clear hal q2
 go_wp2_with fail
 refine hIns.out.mono ?_
 rintro e w2 ⟨v', rfl, ho2, hg2⟩
 have hBk : w2.heap[Br]? = some (.cells #[.slice a L.length c] 269 (0, 0)) := by
  refine (hg2.block Br (by simp; omega) (fun e => ?_)).trans (row_old HB.out)
  have := (Ho.out.lt Br e.symm).1
  omega
 have q4 := box_cell hBk
 have q5 := box_frozen hBk
 have HBk := Lib.hid hBk; have Ho2 := Lib.hid ho2; have Hg2 := Lib.hid hg2
 obtain ⟨b', c', rfl⟩ := own_slice ho2
 clear hBk ho2 hg2 q1 q3
 go_wp2
 go_end0
 refine ⟨rfl, _, box_set HBk.out, ?_, ?_⟩
 · rw [HI.out]
   have h := Ho2.out
   rw [u64C_mid] at h
   have hl : (L.take p ++ x :: L.drop p).length = L.length + 1 := by simp; omega
   rw [hl]
   exact own_same h (fun k hk1 hk2 => Below.heap_setCell _ _ _ _ (by simp only; omega))
 · refine Kept.setCell ?_ (by simp) _
   refine ((Kept.refl _ w).alloc _).grown Hg2.out (fun k hk hkw hkb => ?_)
   have := (Ho.out.lt k hk).1
   omega
def HolesA (base : Nat) (ss : List Value) : Prop := ∀ p n c, Value.slice (some p) n c ∈ ss → 0 < n → base ≤ p.block
def OwnV2 (w : World) (base : Nat) (x : Value) (v : Vec) : Prop := ∃ ss, w.ownsRow base 71 3 x v.length (entC v ss) ∧ HolesT w 0 v ss ∧ HolesA base ss
theorem OwnV2.toOwnV {w : World} {base : Nat} {x : Value} {v : Vec} (h : OwnV2 w base x v) : OwnV w base x v := let ⟨ss, h1, h2, _⟩ := h; ⟨ss, h1, h2⟩
theorem ownV2_nil (w : World) (base : Nat) : OwnV2 w base (.slice none 0 0) [] := ⟨[], World.ownsRow_nil .., holesT_nil w 0, fun p n c h => by cases h⟩
theorem OwnV2.lower {w : World} {base base' : Nat} {x : Value} {v : Vec} (h : OwnV2 w base x v) (hb : base' ≤ base) : OwnV2 w base' x v := by
 obtain ⟨ss, ho, hh, ha⟩ := h
 exact ⟨ss, own_mono ho hb, hh, fun p n c h1 h2 => Nat.le_trans hb (ha p n c h1 h2)⟩
theorem OwnV2.lt {w : World} {base : Nat} {v : Value} {vs : Vec} (h : OwnV2 w base v vs) : ∀ k, v.ownBlock = some k → base ≤ k ∧ k < w.heap.size := h.toOwnV.lt
theorem ivsT_same {w w' : World} {a : Option Addr} {n c : Nat} {l : List Iv} (h : IvsT w 0 a n c l) (hs : 0 < n → ∀ p, a = some p → p.block < w.heap.size → w'.heap[p.block]? = w.heap[p.block]?) : IvsT w' 0 a n c l := by
 refine ⟨⟨h.ivs.len, h.ivs.lt, h.ivs.room, h.ivs.most, h.ivs.nilc, fun hn => ?_⟩, fun hn p hp => ?_⟩
 · obtain ⟨b, o, ha, hc⟩ := h.ivs.cells hn
   have hrow := hs hn _ ha (cell_lt (hc 0 hn).1)
   exact ⟨b, o, ha, fun i hi => ⟨(World.cell?_of_block (a := ⟨b, o + i * 2, none⟩) hrow).trans (hc i hi).1, (World.cell?_of_block (a := ⟨b, o + i * 2 + 1, none⟩) hrow).trans (hc i hi).2⟩⟩
 · obtain ⟨b, o, ha, hc⟩ := h.ivs.cells hn
   have hrow := hs hn _ ha (cell_lt (hc 0 hn).1)
   rw [ha] at hp
   cases hp
   rcases h.row hn _ ha with h' | ⟨C, fr, h'⟩
   · omega
   · exact .inr ⟨C, fr, hrow.trans h'⟩
theorem OwnV2.same {w w' : World} {base : Nat} {x : Value} {v : Vec} (h : OwnV2 w base x v) (hk : ∀ k, base ≤ k → k < w.heap.size → w'.heap[k]? = w.heap[k]?) : OwnV2 w' base x v := by
 obtain ⟨ss, ho, hh, ha⟩ := h
 refine ⟨ss, own_same ho hk, ⟨hh.1, fun i hi => ?_⟩, ha⟩
 obtain ⟨a, n, c, h1, h2⟩ := hh.2 i hi
 exact ⟨a, n, c, h1, ivsT_same h2 fun hn p hp hw => hk _ (ha p n c (by rw [← hp]; exact List.mem_of_getElem? h1) hn) hw⟩
theorem OwnV2.below {w w' : World} {base : Nat} {x : Value} {v : Vec} (h : OwnV2 w base x v) (hb : Below w.heap.size w w') : OwnV2 w' base x v := h.same fun k _ hk => hb.block k hk
theorem run_append_ent2 {w : World} (base : Nat) (x : Value) (v : Vec) (e : Ent) (hown : OwnV2 w base x v) (a : Option Addr) (n c : Nat) (hI : IvsT w 0 a n c e.2.2) (hB : 0 < n → ∀ p, a = some p → base ≤ p.block) (A : Option Addr) (cA : Nat)
 (hr : Rd w 3 A 1 [.int .u64 ((e.1 : Nat) : Int), .int .u64 ((e.2.1 : Nat) : Int), .slice a n c]) (hb : v.length + 1 ≤ 1000000) (hbase : base ≤ w.heap.size) :
 ∃ x' w', (Builtin.append_ #[37, 37] 37 #[x, .slice A 1 cA]).run Tryz.prog w = .ok x' w' ∧ OwnV2 w' base x' (v ++ [e]) ∧ w.grownBy w' x.ownBlock := by
 obtain ⟨ss, ho, hh, ha⟩ := hown
 obtain ⟨x', w', h1, h2, h3⟩ := run_append_rd base _ _ _ _ 3 40 Tryz.underlying37 Tryz.info_ent rfl (by omega) x v.length _ ho A 1 cA _ hr (by simp [Value.oneCell']) (by unfold maxLen; omega) (by omega) hbase
 have hs : Steady base isIvT w w' := .grown ho h3 (by intro h; cases h)
 refine ⟨x', w', h1, ⟨ss ++ [.slice a n c], ?_, (hh.steady (hs.lower (Nat.zero_le _)) rfl).snoc (hI.steady (hs.lower (Nat.zero_le _)) rfl), fun p n' c' hm hn' => ?_⟩, h3⟩
 · rw [entC_append hh.1, List.length_append]
   exact h2
 · rcases List.mem_append.1 hm with h | h
   · exact ha p n' c' h hn'
   · rw [List.mem_singleton] at h
     cases h
     exact hB hn' p rfl
theorem wpList_append_ent2 {w : World} {ops : Array Oper} {rest : List Oper} {o : Oper} {a : Act} {Q : Exit → Act → World → Prop} (hgd : o.guard = none) (s x : Operand)
 (ho : o.op = .call { callee := .builtin .append, args := #[s, x], argTypes := #[37, 37] }) (hty : o.type = 37)
 (base : Nat) (v : Value) (vs : Vec) (hs : a.eval s = v) (hown : OwnV2 w base v vs) (A : Option Addr) (c : Nat) (e : Ent) (ea : Option Addr) (en ec : Nat) (hI : IvsT w 0 ea en ec e.2.2) (hB : 0 < en → ∀ p, ea = some p → base ≤ p.block) (hx : a.eval x = .slice A 1 c)
 (hr : Rd w 3 A 1 [.int .u64 ((e.1 : Nat) : Int), .int .u64 ((e.2.1 : Nat) : Int), .slice ea en ec]) (hb : vs.length + 1 ≤ 1000000) (hbase : base ≤ w.heap.size)
 (h : ∀ v' w', OwnV2 w' base v' (vs ++ [e]) → w.grownBy w' v.ownBlock → wpList Tryz.prog ops Q rest (a.put o.dst v') w') : wpList Tryz.prog ops Q (o :: rest) a w := by
 obtain ⟨v', w', hrun, h1, h2⟩ := run_append_ent2 base v vs e hown ea en ec hI hB A c hr hb hbase
 exact wpList_append_hr _ _ _ ho (by simp [Region.wanted, hgd]) _ _ hs hx v' w' (by rw [hty]; exact hrun) (h v' w' h1 h2)
theorem ofRes_own2 {base : Nat} {f : Ent} {x : Ending} {w' : World} (h : OfRes base (some f) x w') (hl : Lt64 f.2.2) : ∃ a c, x = .returned (.tuple #[entV f (.slice a f.2.2.length c), .bool true]) ∧ (∀ b, IvsT w' b a f.2.2.length c f.2.2) ∧ ∀ p, a = some p → base ≤ p.block := by
 obtain ⟨s, rfl, ho⟩ := h
 obtain ⟨a, c, rfl, h0⟩ := ivsT_own (base' := 0) ho hl
 exact ⟨a, c, rfl, fun b => h0.raise (Nat.zero_le _), fun p hp => by subst hp; exact (ho.lt _ rfl).1⟩
end
end Go.Proofs.YtkkdlgcfcbaibaaGreatDoor
