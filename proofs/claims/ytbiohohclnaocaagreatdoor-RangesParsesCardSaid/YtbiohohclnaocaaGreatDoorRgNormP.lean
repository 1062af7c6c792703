/-
  What the walk of ranges.Normal needs besides the sort: the copy, the prefixes of the joined list.
-/
import Derived.Test.YtbiohohclnaocaaGreatDoorRgSort
import Derived.Test.YtbiohohclnaocaaGreatDoorRgCheck
import Derived.Test.YtbiohohclnaocaaGreatDoorRgJoin
import Derived.Test.YtbiohohclnaocaaGreatDoorRgStarts
import Derived.Laws.IdiomCopy
import Derived.Laws.CopyOwn
namespace Go.Proofs.YtbiohohclnaocaaGreatDoor
open Go.RowKit
set_option linter.unusedVariables false

def badAt (l : List Iv) (i : Nat) : Option (Nat × Nat) := if (nthI l i).2 < (nthI l i).1 then some (2, i) else none
def bad (l : List Iv) : Option (Nat × Nat) := firstS (badAt l) l.length

theorem bad_none {l : List Iv} (h : bad l = none) : ∀ s ∈ l, s.1 ≤ s.2 := by
  intro s hs
  obtain ⟨i, hi, rfl⟩ := List.getElem_of_mem hs
  have := firstS_of_none h i hi
  unfold badAt at this
  split at this
  · cases this
  · rename_i h2
    rw [nthI_get hi] at h2
    omega

/-- The law of a copy whose run is known. -/
theorem wpList_copy_hr {P : Program} {w : World} {ops : Array Oper} {rest : List Oper} {o : Oper} {a : Act} {Q : Exit → Act → World → Prop} (hgd : o.guard = none) (d s : Operand) (dT sT : TypeId)
    (ho : o.op = .call { callee := .builtin .copy, args := #[d, s], argTypes := #[dT, sT] }) (vd vs : Value) (hd : a.eval d = vd) (hs : a.eval s = vs) (v' : Value) (w' : World) (hrun : (Builtin.copy_ #[dT, sT] o.type #[vd, vs]).run P w = .ok v' w')
    (h : wpList P ops Q rest (a.put o.dst v') w') : wpList P ops Q (o :: rest) a w := by
  refine wpList_plain hgd fun K hK => ?_
  unfold Oper.wp
  simp [execOp, ho, resolve, invoke, builtin, hd, hs, hrun, Result.andThen]
  exact hK _ _ h

theorem run_copy_zero {P : Program} (w : World) (dT sT ty elem : TypeId) (size : Nat) (d a : Option Addr) (dLen dCap sLen sCap : Nat) (hu : P.underlying dT = some (.slice elem)) (hs : (P.info? elem).map (·.size) = some size) (hn : Nat.min sLen dLen = 0) :
    (Builtin.copy_ #[dT, sT] ty #[.slice d dLen dCap, .slice a sLen sCap]).run P w = .ok (goInt 0) w := by
  cases hq : P.info? elem with
  | none => simp [hq] at hs
  | some i =>
    have hl : ∀ (x : Addr), (loadCells x 0).run P w = .ok #[] w := fun x => by simpa using run_loadCells_list (P := P) w x [] (by simp)
    cases d <;> cases a <;> simp [Builtin.copy_, run_underlying hu, Builtin.lenOf, Builtin.firstCells, sizeOf, typeInfo, hq, hn, storeCells, hl]

theorem Tryz.size_iv : (Tryz.prog.info? 31).map (·.size) = some 2 := by kernel_rfl

/-- copy(v, l): v the call's own, as long as l. -/
theorem run_copy_iv {w : World} (base g n : Nat) (xs : List Value) (hown : w.ownsRow base 31 2 (.slice (some ⟨g, 0, none⟩) n n) n xs) (a : Option Addr) (cap : Nat) (l : List Iv) (hI : Ivs w a n cap l) (ty : TypeId) :
    ∃ w', (Builtin.copy_ #[23, 23] ty #[.slice (some ⟨g, 0, none⟩) n n, .slice a n cap]).run Tryz.prog w = .ok (goInt n) w' ∧ w'.ownsRow base 31 2 (.slice (some ⟨g, 0, none⟩) n n) n (ivC l) ∧ Below base w w' := by
  have hlen := hI.len
  rcases Nat.eq_zero_or_pos n with rfl | hn
  · have hl : l = [] := List.eq_nil_of_length_eq_zero hlen
    subst hl
    have hx : xs = [] := List.eq_nil_of_length_eq_zero (by simpa using hown.1)
    subst hx
    exact ⟨w, by simpa using run_copy_zero w _ _ ty _ 2 _ a 0 0 0 cap Tryz.underlying23 Tryz.size_iv rfl, hown, Below.refl _ _⟩
  · obtain ⟨b, o, rfl, hc⟩ := hI.cells hn
    rcases hown.2 with ⟨h', _⟩ | ⟨g', cap', cur, h', hb, hg, hnc, hcm, hcs, htake⟩
    · simp at h'
    · simp only [Value.slice.injEq, Option.some.injEq, Addr.mk.injEq, and_true, true_and] at h'
      obtain ⟨rfl, rfl⟩ := h'
      have hlc : (ivC l).length = n * 2 := by rw [ivC_length, hlen]
      have hr := run_copy_sz (P := Tryz.prog) w 23 23 ty 31 g n n ⟨b, o, none⟩ n cap cur 31 (ivC l) 2 Tryz.underlying23 Tryz.size_iv hg (by rw [hlc]; show n * 2 = min n n * 2; rw [Nat.min_self]) (hI.rd.news (by omega)) (by omega) (ivC_one l)
      have e : Nat.min n n = n := Nat.min_self n
      rw [e] at hr
      refine ⟨_, hr, ⟨hlc, .inr ⟨g, n, _, rfl, hb, setRow_heap w g cur _ _ _ hg, Nat.le_refl _, hcm, ?_, ?_⟩⟩, Go.below_setRow (Below.refl _ _) hb _⟩
      · simp [hlc, hcs]
      · rw [List.take_of_length_le (by simp [hlc, hcs])]
        rw [List.toList_toArray, List.drop_eq_nil_of_le (by simp [hlc, hcs]), List.append_nil]

/-- make(api.Ranges, n). -/
theorem run_make_iv (w : World) (base n : Nat) (hn : n ≤ 1000000) (hb : base ≤ w.heap.size) :
    ∃ w' xs, (Instr.makeSlice 23 (.int .i64 (n : Int)) (.int .i64 (n : Int))).run Tryz.prog w = .ok (.slice (some ⟨w.heap.size, 0, none⟩) n n) w' ∧ w'.ownsRow base 31 2 (.slice (some ⟨w.heap.size, 0, none⟩) n n) n xs ∧ Below w.heap.size w w' := by
  obtain ⟨i, hi, hz⟩ := Option.map_eq_some_iff.1 Tryz.info_iv
  simp only [Prod.mk.injEq] at hz
  obtain ⟨h1, h2, h3⟩ := hz
  obtain ⟨w', hr, ho, hg⟩ := run_make_full (P := Tryz.prog) w base 23 31 i _ 2 Tryz.underlying23 hi h1 h2 .i64 .i64 n (by rw [h3]; omega) (by unfold maxLen; omega) hb
  exact ⟨w', _, hr, ho, (Below.refl _ _).grown hg (Nat.le_refl _) (by intro k h; cases h)⟩

theorem alloc_lt (w : World) (o : Obj) : w.heap.size < (w.alloc o).heap.size := by simp
theorem drew_alloc_lt (w : World) (o : Obj) : w.heap.size < (w.drew.alloc o).heap.size := alloc_lt w.drew o
theorem alloc_drew_lt (w : World) (o : Obj) : w.heap.size < (w.alloc o).drew.heap.size := alloc_lt w o

/-- An append at intervals as a step: what it leaves is told to the rest. -/
theorem wpList_append_iv {w : World} {ops : Array Oper} {rest : List Oper} {o : Oper} {a : Act} {Q : Exit → Act → World → Prop} (hgd : o.guard = none) (s x : Operand)
    (ho : o.op = .call { callee := .builtin .append, args := #[s, x], argTypes := #[23, 23] }) (hty : o.type = 23)
    (base : Nat) (v : Value) (n : Nat) (xs : List Iv) (hs : a.eval s = v) (hown : w.ownsRow base 31 2 v n (ivC xs)) (A : Option Addr) (m c : Nat) (l : List Iv) (hx : a.eval x = .slice A m c) (hr : Rd w 2 A m (ivC l)) (hb : n + m ≤ 1000000) (hbase : base ≤ w.heap.size)
    (h : ∀ v' w', w'.ownsRow base 31 2 v' (n + m) (ivC (xs ++ l)) → w.grownBy w' v.ownBlock → wpList Tryz.prog ops Q rest (a.put o.dst v') w') : wpList Tryz.prog ops Q (o :: rest) a w := by
  obtain ⟨v', w', hrun, h1, h2⟩ := run_append_iv base v n xs hown A m c l hr hb hbase
  exact wpList_append_hr _ _ _ ho (by simp [Region.wanted, hgd]) _ _ hs hx v' w' (by rw [hty]; exact hrun) (h v' w' h1 h2)

/-- The joined prefix. -/
def preN (l : List Iv) (k : Nat) : List Iv := (l.take k).foldl normStep []

theorem preN_zero (l : List Iv) : preN l 0 = [] := rfl
theorem preN_succ {l : List Iv} {k : Nat} (h : k < l.length) : preN l (k + 1) = normStep (preN l k) (nthI l k) := by
  unfold preN
  rw [List.take_succ_eq_append_getElem h, List.foldl_append, nthI_get h]
  rfl
theorem preN_all (l : List Iv) : preN l l.length = normL l := by unfold preN normL; rw [List.take_length]

theorem normStep_len (out : List Iv) (s : Iv) : (normStep out s).length ≤ out.length + 1 := by
  rcases nil_or_snoc out with rfl | ⟨a, t, rfl⟩
  · simp [normStep_nil]
  · rw [normStep_snoc]; split <;> simp

theorem preN_ok {l : List Iv} (ha : AscLo l) (hs : ∀ s ∈ l, s.1 ≤ s.2) (hl : ∀ s ∈ l, s.1 < 18446744073709551616 ∧ s.2 < 18446744073709551616) : ∀ k, k ≤ l.length →
    Good (preN l k) ∧ (∀ t ∈ preN l k, ∀ j, k ≤ j → j < l.length → t.1 ≤ (nthI l j).1) ∧ (preN l k).length ≤ k ∧ ∀ t ∈ preN l k, t.1 < 18446744073709551616 ∧ t.2 < 18446744073709551616
  | 0, _ => ⟨trivial, by simp [preN_zero], by simp [preN_zero], by simp [preN_zero]⟩
  | k + 1, h => by
    obtain ⟨h1, h2, h3, h4⟩ := preN_ok ha hs hl k (by omega)
    have hm : nthI l k ∈ l := nthI_mem (by omega)
    rw [preN_succ (by omega)]
    obtain ⟨g1, g2, g3⟩ := normStep_good h1 (hs _ hm) (fun t ht => h2 t ht k (Nat.le_refl _) (by omega))
    refine ⟨g1, fun t ht j hj hjl => ?_, ?_, normStep_lt h4 (hl _ hm)⟩
    · have e1 := g3 t ht
      have e2 := ha k j (by omega) hjl
      omega
    · have := normStep_len (preN l k) (nthI l k)
      omega

theorem ivC_set2 (l : List Iv) (t u : Iv) : ((ivC (l ++ [t])).set (l.length * 2) (.int .u64 ((u.1 : Nat) : Int))).set (l.length * 2 + 1) (.int .u64 ((u.2 : Nat) : Int)) = ivC (l ++ [u]) := by
  rw [ivC_append, ivC_append]
  rw [List.set_append_right _ _ (by rw [ivC_length]; omega), List.set_append_right _ _ (by rw [ivC_length]; omega), ivC_length]
  rw [show l.length * 2 - l.length * 2 = 0 by omega, show l.length * 2 + 1 - l.length * 2 = 1 by omega]
  rfl

end Go.Proofs.YtbiohohclnaocaaGreatDoor
