/- Walks and laws, merged: part 27. -/
import Derived.Laws.CopyOwn
import Derived.Lib.Overlaps
import Derived.Lib.AppendZerosOnto
import Derived.Shelf.RegionOpenPlain
import Derived.Test.YtkkdlgcfcbaibaaGreatDoorPt21
import Derived.Test.YtkkdlgcfcbaibaaGreatDoorPt05
import Derived.Test.YtkkdlgcfcbaibaaGreatDoorPt19
section
namespace Go.Proofs.YtkkdlgcfcbaibaaGreatDoor
open Go.RowKit
set_option linter.unusedVariables false

set_option maxHeartbeats 1000000 in
theorem cloneIv_any (a : Option Addr) (n c : Nat) (l : List Iv) (w : World) (hI : Ivs w a n c l) (hn : n ≤ 100000) :
    Calls Tryz.prog 82 #[.slice a n c] w fun e w' => OwnIv w.heap.size l e w' ∧ Below w.heap.size w w' := by
  have HI := Lib.hid hI
  have hlen := hI.len
  have hnil := hI.nilc
  have hroom := hI.room
  clear hI
  cases a with
  | none =>
    have hc := hnil rfl
    have hl : l = [] := by apply List.eq_nil_of_length_eq_zero; omega
    subst hl
    have hq : ∀ (w : World) (n c : Nat), (binOp .eql 28 (.slice none n c) (.slice none 0 0)).run Tryz.prog w = .ok (.bool true) w := fun (w : World) (n c : Nat) => Lib.run_eql_slice_nil (P := Tryz.prog) w 28 73 none n c 0 0 Tryz.underlying28
    clear hnil HI hc hlen hroom
    go_enter Tryz.func82, Tryz.ntmps82
    go_wp2
    go_ret
    exact ⟨⟨_, rfl, World.ownsRow_nil _ _ _ _⟩, Below.refl _ _⟩
  | some p =>
    have hal : Below w.heap.size w (w.alloc (.cells #[] 73)) := (Below.refl _ _).alloc (Nat.le_refl _) _
    have Hal := Lib.hid hal
    have Ho := Lib.hid (own_empty (w := w.alloc (.cells #[] 73)) (base := w.heap.size) (e := 73) (sz := 2) (row_new rfl) (Nat.le_refl _))
    have Hr := Lib.hid ((HI.out.below hal).rd)
    have hq : ∀ (w : World) (n c : Nat), (binOp .eql 28 (.slice (some p) n c) (.slice none 0 0)).run Tryz.prog w = .ok (.bool false) w := fun (w : World) (n c : Nat) => Lib.run_eql_slice_nil (P := Tryz.prog) w 28 73 (some p) n c 0 0 Tryz.underlying28
    clear hal hnil HI
    go_enter Tryz.func82, Tryz.ntmps82
    go_wp2_with (at_builtin; refine wpList_append_ivs rfl _ _ rfl rfl w.heap.size _ 0 [] rfl Ho.out _ n c l rfl Hr.out (by omega) (by simp) ?_; intro v' w8 ho8 hg8)
    have Hb8 := Lib.hid (Below.grown Hal.out hg8 (by simp) (fun k hk => by cases hk; exact Nat.le_refl _))
    go_ret
    exact ⟨⟨v', rfl, by rw [hlen]; simpa using ho8⟩, Hb8.out⟩

end Go.Proofs.YtkkdlgcfcbaibaaGreatDoor
end

section
namespace Go.Proofs.YtkkdlgcfcbaibaaGreatDoor
open Go.RowKit
set_option linter.unusedVariables false

theorem cells_cellM {W : World} {g i : Nat} {C : Array Value} {T : TypeId} {fr : Nat × Nat} {v : Value} (h : W.heap[g]? = some (.cells C T fr)) (hv : C[i]? = some v) : W.cell? ⟨g, i, none⟩ = some v := by
  simp [World.cell?, h, hv]

theorem run_sizeOfM {P : Program} {e : TypeId} {sz : Nat} (h : (P.info? e).map (·.size) = some sz) (w : World) : (Go.sizeOf e).run P w = .ok sz w := by
  cases hq : P.info? e with
  | none => simp [hq] at h
  | some i => simp [sizeOf, typeInfo, hq] at h ⊢; exact h

theorem run_copy_rowS {P : Program} (w : World) (dT sT ty elem : TypeId) (sz g o dLen dCap : Nat) (a : Addr) (sLen sCap : Nat) (cur : List Value) (t : TypeId) (cs : List Value) (m : Nat)
    (hu : P.underlying dT = some (.slice elem)) (hs : (P.info? elem).map (·.size) = some sz)
    (hg : w.heap[g]? = some (.cells cur.toArray t (0, 0))) (hm : Nat.min sLen dLen = m) (hn : cs.length = m * sz)
    (hsrc : ∀ j v, cs[j]? = some v → w.cell? (a.add j) = some v) (hfit : o + cs.length ≤ cur.length) (h1 : ∀ v ∈ cs, v.oneCell' = true) :
    (Builtin.copy_ #[dT, sT] ty #[.slice (some ⟨g, o, none⟩) dLen dCap, .slice (some a) sLen sCap]).run P w =
      .ok (goInt m) (w.setRow g (splice cur o cs).toArray) := by
  have hl := run_loadCells_list (P := P) w a cs hsrc
  have hst := run_storeCells_at P g o t cs 0 cur.toArray w hg (by simpa using hfit) h1
  cases hq : P.info? elem with
  | none => simp [hq] at hs
  | some i =>
    have hi : i.size = sz := by simpa [hq] using hs
    rw [hn] at hl
    simp [Builtin.copy_, run_underlying hu, Builtin.lenOf, Builtin.firstCells, sizeOf, typeInfo, hq, hi, hm, hl, hst, splice]

theorem wpList_copy_hr {P : Program} {w : World} {ops : Array Oper} {rest : List Oper} {o : Oper} {a : Act} {Q : Exit → Act → World → Prop} (hgd : o.guard = none) (d s : Operand) (t t' : TypeId)
    (ho : o.op = .call { callee := .builtin .copy, args := #[d, s], argTypes := #[t, t'] }) (v u : Value) (hd : a.eval d = v) (hs : a.eval s = u) {v' : Value} {w' : World}
    (hr : (Builtin.copy_ #[t, t'] o.type #[v, u]).run P w = .ok v' w') (h : wpList P ops Q rest (a.put o.dst v') w') : wpList P ops Q (o :: rest) a w := by
  refine wpList_plain hgd fun _ hK => ?_
  unfold Oper.wp execOp
  simp only [ho, resolve, invoke, builtin, Sem.run_bind, Sem.run_pure, Result.andThen_ok, List.map_toArray, List.map_cons, List.map_nil, hd, hs, hr]
  exact hK _ _ h

theorem step_copy_hr {P : Program} {ops : Array Oper} {o : Oper} {a : Act} {w : World} {K : Act → World → Prop} {Q : Exit → Act → World → Prop} {E : Prop}
    (hg : o.guard = none) (d x : Operand) (dT sT : TypeId) (hop : o.op = Op.call { callee := Callee.builtin Builtin.copy, args := #[d, x], argTypes := #[dT, sT] })
    (v u : Value) (hd : a.eval d = v) (hx : a.eval x = u) {v' : Value} {w' : World} (hr : (Builtin.copy_ #[dT, sT] o.type #[v, u]).run P w = .ok v' w') (hK : K (a.put o.dst v') w') :
    if Region.wanted o (yielded ops a.tmps) = true then Oper.wp P o a w K Q else E := by
  have hw : Region.wanted o (yielded ops a.tmps) = true := by simp [Region.wanted, hg]
  rw [if_pos hw]
  unfold Oper.wp
  simp [execOp, hop, resolve, invoke, builtin, hd, hx, hr, Result.andThen]
  exact hK

/-- The row behind the two copies of an insertion in place. -/
theorem splice_shift {α : Type} (cur ys : List α) (p q r : Nat) (hp : p ≤ q) (hy : ys.length = r) (hr : q + r ≤ cur.length) :
    (splice (splice cur (p + r) ((cur.take q).drop p)) p ys).take (q + r) = (cur.take q).take p ++ (ys ++ (cur.take q).drop p) := by
  obtain ⟨A, B, hA, rfl⟩ : ∃ A B, A.length = p ∧ cur = A ++ B := ⟨cur.take p, cur.drop p, by simp; omega, by simp⟩
  obtain ⟨C, D, hC, rfl⟩ : ∃ C D, C.length = q - p ∧ B = C ++ D := ⟨B.take (q - p), B.drop (q - p), by simp at hr ⊢; omega, by simp⟩
  have e1 : (A ++ (C ++ D)).take q = A ++ C := by
    rw [← List.append_assoc, List.take_append_of_le_length (by simp; omega)]
    exact List.take_of_length_le (by simp; omega)
  rw [e1]
  have e2 : (A ++ C).drop p = C := by rw [← hA]; simp
  have e3 : (A ++ C).take p = A := by rw [← hA]; simp
  rw [e2, e3]
  have hl : (splice (A ++ (C ++ D)) (p + r) C).length = (A ++ (C ++ D)).length := length_splice _ _ _ (by simp at hr ⊢; omega)
  obtain ⟨E, hE⟩ : ∃ E, splice (A ++ (C ++ D)) (p + r) C = (A ++ (C ++ D)).take (p + r) ++ (C ++ E) := ⟨_, rfl⟩
  have h4 : (splice (A ++ (C ++ D)) (p + r) C).take p = A := by
    rw [hE, List.take_append_of_le_length (by simp at hr ⊢; omega), List.take_take, Nat.min_eq_left (by omega), ← hA]; simp
  have h5 : (splice (A ++ (C ++ D)) (p + r) C).drop (p + r) = C ++ E := by
    rw [hE]
    have : ((A ++ (C ++ D)).take (p + r)).length = p + r := by simp at hr ⊢; omega
    rw [List.drop_append, this]; simp
  unfold splice at h4 h5 ⊢
  rw [h4, hy, h5]
  have : q + r = (A ++ (ys ++ C)).length := by simp; omega
  rw [this, show A ++ (ys ++ (C ++ E)) = (A ++ (ys ++ C)) ++ E by simp, List.take_left]

/-- The row behind the two copies of an insertion into a new row. -/
theorem splice_fill {α : Type} (Z ys : List α) (xs : List α) (p q r : Nat) (hp : p ≤ q) (hx : xs.length = q) (hy : ys.length = r) (hr : q + r ≤ Z.length) (hz : Z.take p = xs.take p) :
    (splice (splice Z p ys) (p + r) (xs.drop p)).take (q + r) = xs.take p ++ (ys ++ xs.drop p) := by
  have hl1 : (splice Z p ys).length = Z.length := length_splice _ _ _ (by omega)
  have h1 : (splice Z p ys).take (p + r) = Z.take p ++ ys := by
    have : p + r = (Z.take p ++ ys).length := by simp; omega
    unfold splice
    rw [this, ← List.append_assoc, List.take_left]
  have : q + r = (xs.take p ++ (ys ++ xs.drop p)).length := by simp; omega
  generalize splice Z p ys = Y at h1 hl1
  unfold splice
  rw [h1, hz, this, show ∀ T, (xs.take p ++ ys) ++ (xs.drop p ++ T) = (xs.take p ++ (ys ++ xs.drop p)) ++ T from fun T => by simp, List.take_left]

end Go.Proofs.YtkkdlgcfcbaibaaGreatDoor
end

section
namespace Go.Proofs.YtkkdlgcfcbaibaaGreatDoor
open Go.RowKit
set_option linter.unusedVariables false

/-- What an insertion hands back. -/
def InsF (base : Nat) (v : Value) (n i : Nat) (cs ys : List Value) (w : World) (e : Ending) (w' : World) : Prop :=
  ∃ v', e = .returned v' ∧ w'.ownsRow base 39 2 v' (n + 1) (cs.take (i * 2) ++ (ys ++ cs.drop (i * 2))) ∧ w.grownBy w' v.ownBlock

theorem run_appendF2 {w : World} {ty : TypeId} {a b : Option Addr} {n c m d : Nat} : (Builtin.append_ #[23, 22] ty #[.slice a n c, .slice b m d]).run Tryz.prog w = (Builtin.append_ #[23, 23] ty #[.slice a n c, .slice b m d]).run Tryz.prog w := by
  have h1 := Tryz.underlying23
  have h2 := Tryz.underlying22
  simp [Builtin.append_, run_underlying h1, run_underlying h2]

set_option maxHeartbeats 2000000 in
set_option maxRecDepth 100000 in
theorem insF_end (base : Nat) (v : Value) (n vb : Nat) (cs ys : List Value) (w : World) (ho : w.ownsRow base 39 2 v n cs) (hv : w.heap[vb]? = some (.cells ys.toArray 39 (0, 0))) (hy : ys.length = 2)
    (h1 : ∀ u ∈ ys, u.oneCell' = true) (hn : n + 1 ≤ 1000000) (hb : base ≤ w.heap.size) :
    Calls Tryz.prog 154 #[v, .int .i64 n, .slice (some ⟨vb, 0, none⟩) 1 1] w fun e w' => InsF base v n n cs ys w e w' := by
  have hr : Rd w 2 (some ⟨vb, 0, none⟩) 1 ys := ⟨by omega, fun _ => ⟨vb, 0, rfl, fun j u hu => by rw [Nat.zero_add]; exact cells_cellM hv (by simpa using hu)⟩⟩
  have hrun := fun ty => run_append_rd base 23 ty _ _ 2 48 Tryz.underlying23 Tryz.info_frg rfl (by omega) v n cs ho (some ⟨vb, 0, none⟩) 1 1 ys hr h1 (by unfold maxLen; omega) (by omega) hb
  obtain ⟨v', w', hrun1, h2, h3⟩ := hrun 23
  have hlen := ho.1
  have HR := Lib.hid (show InsF base v n n cs ys w (.returned v') w' from ⟨v', rfl, by rw [List.take_of_length_le (by omega), List.drop_eq_nil_of_le (by omega), List.append_nil]; exact h2, h3⟩)
  obtain ⟨a, c, rfl⟩ : ∃ a c, v = .slice a n c := by
    rcases ho.2 with ⟨rfl, rfl⟩ | ⟨g, cap, cur, rfl, _⟩
    · exact ⟨none, 0, rfl⟩
    · exact ⟨_, cap, rfl⟩
  have hrun2 : (Builtin.append_ #[23, 22] 23 #[.slice a n c, .slice (some ⟨vb, 0, none⟩) 1 1]).run Tryz.prog w = .ok v' w' := by rw [run_appendF2]; exact hrun1
  have hnc : n ≤ c ∧ c ≤ 9223372036854775807 ∧ (a = none ∨ ∃ g, a = some ⟨g, 0, none⟩) := by
    rcases ho.2 with ⟨h, rfl⟩ | ⟨g, cap, cur, h, _, _, h4, h5, _⟩
    · cases h; exact ⟨Nat.le_refl _, by omega, .inl rfl⟩
    · cases h; unfold maxLen at h5; exact ⟨h4, by omega, .inr ⟨g, rfl⟩⟩
  obtain ⟨hnc, hc63, ha⟩ := hnc
  clear hrun hrun1 h2 h3 ho hv hy h1 hr hlen
  rcases ha with rfl | ⟨g, rfl⟩
  · go_enter Tryz.func154, Tryz.ntmps154
    go_wp2_with (at_builtin; refine Lib.wpList_append_run _ rfl _ _ _ _ rfl _ _ rfl rfl _ _ hrun2 ?_)
    go_ret
    exact HR.out
  · go_enter Tryz.func154, Tryz.ntmps154
    go_wp2_with (at_builtin; refine Lib.wpList_append_run _ rfl _ _ _ _ rfl _ _ rfl rfl _ _ hrun2 ?_)
    all_goals (go_ret; exact HR.out)

/-- A row known whole. -/
theorem insF_row {w : World} {base n c g : Nat} {cs : List Value} (ho : w.ownsRow base 39 2 (.slice (some ⟨g, 0, none⟩) n c) n cs) :
    ∃ L : List Value, w.heap[g]? = some (.cells L.toArray 39 (0, 0)) ∧ L.length = c * 2 ∧ L.take (n * 2) = cs ∧ n ≤ c ∧ c ≤ maxLen ∧ base ≤ g ∧ g < w.heap.size := by
  rcases ho.2 with ⟨h, _⟩ | ⟨g', cap, cur, h, h1, h2, h3, h4, h5, h6⟩
  · cases h
  · cases h
    exact ⟨cur.toList, by simpa using h2, by simpa using h5, h6, h3, h4, h1, (Array.getElem?_eq_some_iff.1 h2).1⟩

set_option maxHeartbeats 4000000 in
set_option maxRecDepth 100000 in
theorem insF_shift (base g n c i vb : Nat) (cs ys : List Value) (w : World) (ho : w.ownsRow base 39 2 (.slice (some ⟨g, 0, none⟩) n c) n cs) (hv : w.heap[vb]? = some (.cells ys.toArray 39 (0, 0))) (hne : vb ≠ g) (hy : ys.length = 2)
    (h1c : ∀ u ∈ cs, u.oneCell' = true) (h1 : ∀ u ∈ ys, u.oneCell' = true) (hi : i < n) (hc : n + 1 ≤ c) :
    Calls Tryz.prog 154 #[.slice (some ⟨g, 0, none⟩) n c, .int .i64 i, .slice (some ⟨vb, 0, none⟩) 1 1] w fun e w' => InsF base (.slice (some ⟨g, 0, none⟩) n c) n i cs ys w e w' := by
  obtain ⟨L, hg, hL, hcs, -, hcm, hbg, hgw⟩ := insF_row ho
  have hc63 : c ≤ 9223372036854775807 := by unfold maxLen at hcm; omega
  have hcl := ho.1
  have hsz : (Tryz.prog.info? 39).map (·.size) = some 2 := by
    have h := Tryz.info_frg
    cases hq : Tryz.prog.info? 39 with
    | none => rw [hq] at h; cases h
    | some k => rw [hq] at h; simp at h; simp [h]
  have hov : ∀ off lb cb, (callFunc 186 #[.slice (some ⟨vb, 0, none⟩) 1 1, .slice (some ⟨g, off, none⟩) lb cb]).run Tryz.prog w = .ok (.value (.bool false)) w := fun off lb cb => by
    rw [run_callFunc_extern Tryz.func186 (by kernel_rfl) (by kernel_rfl) (by kernel_rfl) (e := Extern.SlicesOverlaps.overlaps #[22, 22] #[4]) (by kernel_rfl),
      Lib.run_overlaps_apart w 22 4 39 Tryz.underlying22 2 (run_sizeOfM hsz) ⟨vb, 0, none⟩ ⟨g, off, none⟩ 1 1 lb cb hne 39 39 ys.length L.length (by simp [World.shape?, hv]) (by simp [World.shape?, hg]) (by omega) (by simp [World.frozen?, hv]) (by simp [World.frozen?, hv])]
    rfl
  obtain ⟨A, hA⟩ : ∃ A, A = splice L ((i + 1) * 2) (cs.drop (i * 2)) := ⟨_, rfl⟩
  have hAl : A.length = c * 2 := by rw [hA, length_splice _ _ _ (by rw [List.length_drop]; omega), hL]
  have hcp1 : ∀ ty, (Builtin.copy_ #[23, 23] ty #[.slice (some ⟨g, (i + 1) * 2, none⟩) (n + 1 - (i + 1)) (c - (i + 1)), .slice (some ⟨g, i * 2, none⟩) (n + 1 - i) (c - i)]).run Tryz.prog w.drew = .ok (goInt ((n - i : Nat) : Int)) (w.drew.setRow g A.toArray) := fun ty => by
    rw [hA]
    refine run_copy_rowS w.drew _ _ ty 39 2 g _ _ _ _ _ _ L 39 (cs.drop (i * 2)) (n - i) Tryz.underlying23 hsz hg (by simp only [Nat.min_def]; split <;> omega) (by rw [List.length_drop]; omega) (fun j u hj => ?_) (by rw [List.length_drop]; omega) (fun u hu => h1c u (List.mem_of_mem_drop hu))
    rw [List.getElem?_drop] at hj
    show w.cell? _ = _
    rw [add_at]
    refine cells_cellM hg ?_
    rw [← hcs] at hj
    rw [List.getElem?_take] at hj
    split at hj
    · simpa using hj
    · exact absurd hj (by simp)
  obtain ⟨W1, hW1⟩ : ∃ W1, W1 = w.drew.setRow g A.toArray := ⟨_, rfl⟩
  have hg1 : W1.heap[g]? = some (.cells A.toArray 39 (0, 0)) := by rw [hW1]; exact setRow_heap w.drew g _ _ _ _ hg
  have hv1 : W1.heap[vb]? = some (.cells ys.toArray 39 (0, 0)) := by rw [hW1]; exact (setRow_other w.drew g vb _ hne).trans hv
  have hcp2 : ∀ ty, (Builtin.copy_ #[23, 22] ty #[.slice (some ⟨g, i * 2, none⟩) (n + 1 - i) (c - i), .slice (some ⟨vb, 0, none⟩) 1 1]).run Tryz.prog W1 = .ok (goInt ((1 : Nat) : Int)) (W1.setRow g (splice A (i * 2) ys).toArray) := fun ty =>
    run_copy_rowS W1 _ _ ty 39 2 g _ _ _ _ _ _ A 39 ys 1 Tryz.underlying23 hsz hg1 (by simp only [Nat.min_def]; split <;> omega) (by omega) (fun j u hj => by rw [add_at, Nat.zero_add]; exact cells_cellM hv1 (by simpa using hj)) (by omega) h1
  have hE : InsF base (.slice (some ⟨g, 0, none⟩) n c) n i cs ys w (.returned (.slice (some ⟨g, 0, none⟩) (n + 1) c)) (W1.setRow g (splice A (i * 2) ys).toArray) := by
    refine ⟨_, rfl, ⟨by simp; omega, .inr ⟨g, c, _, rfl, hbg, setRow_heap W1 g _ _ _ _ hg1, hc, hcm, by rw [List.size_toArray, length_splice _ _ _ (show i * 2 + ys.length ≤ A.length by omega), hAl], ?_⟩⟩, ?_⟩
    · have h := splice_shift L ys (i * 2) (n * 2) 2 (by omega) hy (by omega)
      rw [hcs] at h
      rw [hA, show (i + 1) * 2 = i * 2 + 2 by omega, show (n + 1) * 2 = n * 2 + 2 by omega]
      simpa using h
    · refine ⟨by rw [hW1]; rfl, by rw [hW1]; rfl, by rw [hW1]; rfl, by rw [hW1]; simp [World.setRow], fun k hk hkr => ?_⟩
      have hkg : k ≠ g := fun e => hkr (by rw [e]; rfl)
      rw [setRow_other W1 g k _ hkg, hW1]
      exact setRow_other w.drew g k _ hkg
  have HE := Lib.hid hE
  rw [← hW1] at hcp1
  have HW1 := Lib.hid hW1
  clear hE hW1 hg1 hv1 hA hAl ho hg hL hcs hcl hv hy h1c h1
  have hz2 : ¬ ((i : Int) = (n : Int)) := by omega
  have hw1 : IntKind.i64.wrap ((i : Int) + 1) = (i : Int) + 1 := by rw [IntKind.wrap_i64]; omega
  have hin : i ≤ n := by omega
  have hb2 : ¬ (c = i + 1) := by omega
  have hb4 : ¬ (c = i) := by omega
  have hb1 : (0 : Int) ≤ (i : Int) + 1 := by omega
  have hb3 : (i : Int) ≤ (n : Int) + 1 := by omega
  have htn : ((i : Int) + 1).toNat = i + 1 := by omega
  go_enter Tryz.func154, Tryz.ntmps154
  go_wp2_with (simp only [hov])
  go_region_law (refine step_copy_hr rfl _ _ 23 23 rfl (.slice (some ⟨g, (i + 1) * 2, none⟩) (n + 1 - (i + 1)) (c - (i + 1))) (.slice (some ⟨g, i * 2, none⟩) (n + 1 - i) (c - i)) (by simp [Act.eval, Act.put] <;> omega) (by simp [Act.eval, Act.put] <;> omega) (hcp1 _) ?_)
  go_wp2_with (at_builtin; refine wpList_copy_hr rfl _ _ 23 22 rfl (.slice (some ⟨g, i * 2, none⟩) (n + 1 - i) (c - i)) (.slice (some ⟨vb, 0, none⟩) 1 1) (by simp [Act.eval, Act.put] <;> omega) (by simp [Act.eval, Act.put]) (hcp2 _) ?_)
  go_ret
  exact HE.out

set_option maxHeartbeats 4000000 in
set_option maxRecDepth 100000 in
theorem insF_grow (base g n c i vb : Nat) (cs ys : List Value) (w : World) (ho : w.ownsRow base 39 2 (.slice (some ⟨g, 0, none⟩) n c) n cs) (hv : w.heap[vb]? = some (.cells ys.toArray 39 (0, 0))) (hy : ys.length = 2)
    (h1c : ∀ u ∈ cs, u.oneCell' = true) (h1 : ∀ u ∈ ys, u.oneCell' = true) (hi : i < n) (hc : c < n + 1) (hn : n + 1 ≤ 1000000) (hb : base ≤ w.heap.size) :
    Calls Tryz.prog 154 #[.slice (some ⟨g, 0, none⟩) n c, .int .i64 i, .slice (some ⟨vb, 0, none⟩) 1 1] w fun e w' => InsF base (.slice (some ⟨g, 0, none⟩) n c) n i cs ys w e w' := by
  obtain ⟨L, hg, hL, hcs, hnc, hcm, hbg, hgw⟩ := insF_row ho
  have hc63 : c ≤ 9223372036854775807 := by unfold maxLen at hcm; omega
  have hcl := ho.1
  have hvw : vb < w.heap.size := (Array.getElem?_eq_some_iff.1 hv).1
  obtain ⟨i0, hi0, hz0, hzs, hzb⟩ := info_parts Tryz.info_frg
  have hsz : (Tryz.prog.info? 39).map (·.size) = some 2 := by rw [hi0]; simp [hzs]
  have hcell : ∀ j v, cs[j]? = some v → w.cell? ⟨g, j, none⟩ = some v := fun j v hj => by
    refine cells_cellM hg ?_
    rw [← hcs, List.getElem?_take] at hj
    split at hj
    · simpa using hj
    · exact absurd hj (by simp)
  have hold : (Builtin.firstCells i0.size i (.slice (some ⟨g, 0, none⟩) i c)).run Tryz.prog w.drew = .ok (cs.take (i * 2)).toArray w.drew := by
    rw [hzs]
    exact run_firstCells_some w.drew 2 i ⟨g, 0, none⟩ i c (cs.take (i * 2)) (by rw [List.length_take]; omega) (fun j v hj => by
      rw [add_at, Nat.zero_add]
      rw [List.getElem?_take] at hj
      split at hj
      · exact hcell j v hj
      · cases hj)
  have hik : i + (n + 1 - i) = n + 1 := by omega
  obtain ⟨G, hG⟩ : ∃ G, G = grownCap w (n + 1) c 39 := ⟨_, rfl⟩
  obtain ⟨Z, hZ⟩ : ∃ Z : List Value, Z = cs.take (i * 2) ++ ((Builtin.zeroCells (Value.cells (.agg #[.slice none 0 0, .slice none 0 0])) (n + 1 - i)).toList ++ (Builtin.zeroCells (Value.cells (.agg #[.slice none 0 0, .slice none 0 0])) (G - (n + 1))).toList) := ⟨_, rfl⟩
  have hrz : ∀ ty, (Builtin.append_ #[23, 3] ty #[.slice (some ⟨g, 0, none⟩) i c, .int .i64 ((n : Int) + 1 - (i : Int))]).run Tryz.prog w =
      .ok (.slice (some ⟨w.heap.size, 0, none⟩) (n + 1) G) (w.drew.alloc (.cells Z.toArray 39)) := fun ty => by
    have h := Lib.run_append_grow_zeros w 23 3 ty 39 i0 _ .i64 .i64 Tryz.underlying23 Tryz.underlying3 hi0 hz0 (some ⟨g, 0, none⟩) i c (cs.take (i * 2)) hold (n + 1 - i) (by omega) (by omega) (by omega) (by omega) (by rw [hzb]; omega) (by rw [hzb, hik]; exact growslice_fits hc (by omega))
    rw [hik, ← hG] at h
    have hZa : (cs.take (i * 2)).toArray ++ Builtin.zeroCells (Value.cells (.agg #[.slice none 0 0, .slice none 0 0])) (n + 1 - i) ++ Builtin.zeroCells (Value.cells (.agg #[.slice none 0 0, .slice none 0 0])) (G - (n + 1)) = Z.toArray := by
      rw [hZ]; apply Array.ext'; simp
    rw [hZa] at h
    rw [show (n : Int) + 1 - (i : Int) = ((n + 1 - i : Nat) : Int) by omega, h]
  have hGn : n + 1 ≤ G := by rw [hG]; exact grownCap_ge w _ _ _
  have hGm : G ≤ maxLen := by rw [hG]; exact grownCap_le_maxLen w (n + 1) c 39 (by unfold maxLen; omega)
  have hG63 : G ≤ 9223372036854775807 := by unfold maxLen at hGm; omega
  have hZl : Z.length = G * 2 := by
    have hz : ∀ k, (Builtin.zeroCells (Value.cells (.agg #[.slice none 0 0, .slice none 0 0])) k).toList.length = k * 2 := fun k => by rw [Array.length_toList, size_zeroCells]; rfl
    rw [hZ, List.length_append, List.length_append, List.length_take, hz, hz]
    omega
  have hZt : Z.take (i * 2) = cs.take (i * 2) := by
    rw [hZ, List.take_append_of_le_length (by rw [List.length_take]; omega)]
    exact List.take_of_length_le (by rw [List.length_take]; omega)
  obtain ⟨W1, hW1⟩ : ∃ W1, W1 = w.drew.alloc (.cells Z.toArray 39) := ⟨_, rfl⟩
  rw [← hW1] at hrz
  have n1 : W1.heap[w.heap.size]? = some (.cells Z.toArray 39 (0, 0)) := by rw [hW1]; exact heap_alloc_new w.drew _
  have o1 : ∀ k, k < w.heap.size → W1.heap[k]? = w.heap[k]? := fun k hk => by rw [hW1]; exact Below.heap_alloc w.drew _ k hk
  have hcpA : ∀ ty, (Builtin.copy_ #[23, 22] ty #[.slice (some ⟨w.heap.size, i * 2, none⟩) (n + 1 - i) (G - i), .slice (some ⟨vb, 0, none⟩) 1 1]).run Tryz.prog W1 = .ok (goInt ((1 : Nat) : Int)) (W1.setRow w.heap.size (splice Z (i * 2) ys).toArray) := fun ty =>
    run_copy_rowS W1 _ _ ty 39 2 w.heap.size _ _ _ _ _ _ Z 39 ys 1 Tryz.underlying23 hsz n1 (by simp only [Nat.min_def]; split <;> omega) (by omega) (fun j u hj => by rw [add_at, Nat.zero_add]; exact cells_cellM ((o1 vb hvw).trans hv) (by simpa using hj)) (by omega) h1
  obtain ⟨W2, hW2⟩ : ∃ W2, W2 = W1.setRow w.heap.size (splice Z (i * 2) ys).toArray := ⟨_, rfl⟩
  rw [← hW2] at hcpA
  have n2 : W2.heap[w.heap.size]? = some (.cells (splice Z (i * 2) ys).toArray 39 (0, 0)) := by rw [hW2]; exact setRow_heap W1 _ _ _ _ _ n1
  have o2 : ∀ k, k < w.heap.size → W2.heap[k]? = w.heap[k]? := fun k hk => by rw [hW2]; exact (setRow_other W1 _ k _ (by omega)).trans (o1 k hk)
  have hl2 : (splice Z (i * 2) ys).length = G * 2 := by rw [length_splice _ _ _ (by omega), hZl]
  have hcpB : ∀ ty, (Builtin.copy_ #[23, 23] ty #[.slice (some ⟨w.heap.size, (i + 1) * 2, none⟩) (n + 1 - (i + 1)) (G - (i + 1)), .slice (some ⟨g, i * 2, none⟩) (n - i) (c - i)]).run Tryz.prog W2.drew = .ok (goInt ((n - i : Nat) : Int)) (W2.drew.setRow w.heap.size (splice (splice Z (i * 2) ys) ((i + 1) * 2) (cs.drop (i * 2))).toArray) := fun ty => by
    refine run_copy_rowS W2.drew _ _ ty 39 2 w.heap.size _ _ _ _ _ _ _ 39 (cs.drop (i * 2)) (n - i) Tryz.underlying23 hsz n2 (by simp only [Nat.min_def]; split <;> omega) (by rw [List.length_drop]; omega) (fun j u hj => ?_) (by rw [List.length_drop]; omega) (fun u hu => h1c u (List.mem_of_mem_drop hu))
    rw [List.getElem?_drop] at hj
    show W2.cell? _ = _
    rw [add_at]
    have h := hcell _ u hj
    simp only [World.cell?, o2 g hgw] at h ⊢
    exact h
  obtain ⟨C, hC⟩ : ∃ C, C = splice (splice Z (i * 2) ys) ((i + 1) * 2) (cs.drop (i * 2)) := ⟨_, rfl⟩
  have hl3 : C.length = G * 2 := by rw [hC, length_splice _ _ _ (by rw [List.length_drop]; omega), hl2]
  have hCt : C.take ((n + 1) * 2) = cs.take (i * 2) ++ (ys ++ cs.drop (i * 2)) := by
    have h := splice_fill Z ys cs (i * 2) (n * 2) 2 (by omega) hcl hy (by omega) hZt
    rw [hC, show (i + 1) * 2 = i * 2 + 2 by omega, show (n + 1) * 2 = n * 2 + 2 by omega]
    exact h
  rw [← hC] at hcpB
  have hE : InsF base (.slice (some ⟨g, 0, none⟩) n c) n i cs ys w (.returned (.slice (some ⟨w.heap.size, 0, none⟩) (n + 1) G)) (W2.drew.setRow w.heap.size C.toArray) := by
    refine ⟨_, rfl, ⟨by simp; omega, .inr ⟨w.heap.size, G, _, rfl, hb, setRow_heap W2.drew _ _ _ _ _ n2, hGn, hGm, by rw [List.size_toArray, hl3], ?_⟩⟩, ?_⟩
    · simpa using hCt
    · refine ⟨by rw [hW2, hW1]; rfl, by rw [hW2, hW1]; rfl, by rw [hW2, hW1]; rfl, by rw [hW2, hW1]; simp [World.setRow], fun k hk hkr => ?_⟩
      rw [setRow_other W2.drew _ k _ (by omega)]
      exact o2 k hk
  have HE := Lib.hid hE
  obtain ⟨W3, hW3⟩ : ∃ W3, W3 = W2.drew.setRow w.heap.size C.toArray := ⟨_, rfl⟩
  rw [← hW3] at hcpB HE
  obtain ⟨N, hN⟩ : ∃ N, N = w.heap.size := ⟨_, rfl⟩
  have hgN : g ≠ N := by omega
  have hvN : vb ≠ N := by omega
  rw [← hN] at hcpA hcpB HE hrz
  clear hE hW3 hN hC hl3 hCt hW2 n2 o2 hl2 hW1 n1 o1 hZ hZl hZt hG hold hcell hcl hcs hL hg ho hv hy h1c h1 hi0 hz0 hzs hzb hsz hb hcm hGm
  have hz2 : ¬ ((i : Int) = (n : Int)) := by omega
  have hz3 : (c : Int) < (n : Int) + 1 := by omega
  have hGi : ¬ (G = i) := by omega
  have hGim : ¬ (G = i + 1) := by omega
  have hci : ¬ (c = i) := by omega
  have hw1 : IntKind.i64.wrap ((i : Int) + 1) = (i : Int) + 1 := by rw [IntKind.wrap_i64]; omega
  have hb1 : (0 : Int) ≤ (i : Int) + 1 := by omega
  have hin : i ≤ n := by omega
  have htn : ((i : Int) + 1).toNat = i + 1 := by omega
  have hb3 : (i : Int) ≤ (n : Int) := by omega
  clear hik
  go_enter Tryz.func154, Tryz.ntmps154
  go_wp2_with (first
    | (at_builtin; refine Lib.wpList_append_run _ rfl _ _ _ _ rfl _ _ rfl rfl _ _ (hrz _) ?_)
    | (at_builtin; refine wpList_copy_hr rfl _ _ 23 22 rfl (.slice (some ⟨N, i * 2, none⟩) (n + 1 - i) (G - i)) (.slice (some ⟨vb, 0, none⟩) 1 1) (by simp [Act.eval, Act.put] <;> omega) (by simp [Act.eval, Act.put]) (hcpA _) ?_))
  go_region_law (refine step_copy_hr rfl _ _ 23 23 rfl (.slice (some ⟨N, (i + 1) * 2, none⟩) (n + 1 - (i + 1)) (G - (i + 1))) (.slice (some ⟨g, i * 2, none⟩) (n - i) (c - i)) (by simp [Act.eval, Act.put] <;> omega) (by simp [Act.eval, Act.put] <;> omega) (hcpB _) ?_)
  go_wp2
  go_ret
  exact HE.out

/-- slices.Insert of one element. -/
theorem insertF_any (base : Nat) (v : Value) (n i vb : Nat) (cs ys : List Value) (w : World) (ho : w.ownsRow base 39 2 v n cs) (hv : w.heap[vb]? = some (.cells ys.toArray 39 (0, 0))) (hne : v.ownBlock ≠ some vb) (hy : ys.length = 2)
    (h1c : ∀ u ∈ cs, u.oneCell' = true) (h1 : ∀ u ∈ ys, u.oneCell' = true) (hi : i ≤ n) (hn : n + 1 ≤ 1000000) (hb : base ≤ w.heap.size) :
    Calls Tryz.prog 154 #[v, .int .i64 i, .slice (some ⟨vb, 0, none⟩) 1 1] w fun e w' => InsF base v n i cs ys w e w' := by
  by_cases hin : i = n
  · subst hin; exact insF_end base v _ vb cs ys w ho hv hy h1 hn hb
  · rcases ho.2 with ⟨rfl, rfl⟩ | ⟨g, cap, cur, rfl, _, _, h4, _⟩
    · omega
    · by_cases hc : n + 1 ≤ cap
      · exact insF_shift base g n cap i vb cs ys w ho hv (fun e => hne (by rw [e]; rfl)) hy h1c h1 (by omega) hc
      · exact insF_grow base g n cap i vb cs ys w ho hv hy h1c h1 (by omega) (by omega) hn hb

end Go.Proofs.YtkkdlgcfcbaibaaGreatDoor
end
