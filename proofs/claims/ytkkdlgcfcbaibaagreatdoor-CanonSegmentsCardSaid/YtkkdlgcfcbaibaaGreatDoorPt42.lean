/- Walks and laws, merged: part 42. -/
import Derived.Lib.IfaceEq
import Derived.Test.YtkkdlgcfcbaibaaGreatDoorPt41
import Derived.Test.YtkkdlgcfcbaibaaGreatDoorPt08
import Derived.Test.YtkkdlgcfcbaibaaGreatDoorPt02
section
namespace Go.Proofs.YtkkdlgcfcbaibaaGreatDoor
open Go.RowKit
set_option linter.unusedVariables false

/-- One interval is appended to intervals of the call's own: where the row lies then. -/
theorem run_append_iv_at {w : World} (base : Nat) (v : Value) (n : Nat) (xs : List Iv) (hown : w.ownsRow base 73 2 v n (ivC xs)) (A : Option Addr) (c : Nat) (s : Iv) (hr : Rd w 2 A 1 (ivC [s])) (hb : n + 1 ≤ 1000000) (hbase : base ≤ w.heap.size) :
    ∃ v' w', (Builtin.append_ #[28, 28] 28 #[v, .slice A 1 c]).run Tryz.prog w = .ok v' w' ∧ w'.ownsRow base 73 2 v' (n + 1) (ivC (xs ++ [s])) ∧ w.grownBy w' v.ownBlock ∧ ∀ g', v'.ownBlock = some g' → v.ownBlock = some g' ∨ w.heap.size ≤ g' := by
  rcases hown.2 with ⟨rfl, h0⟩ | ⟨g, cap, cur, rfl, hg, hrow, hnc, hcm, hcs, htake⟩
  · have hx : xs = [] := by
      have := hown.1
      rw [ivC_length, h0] at this
      exact List.length_eq_zero_iff.1 (by omega)
    subst h0 hx
    obtain ⟨v', w', h1, h2, h3⟩ := run_append_iv (w := w) w.heap.size (.slice none 0 0) 0 [] (World.ownsRow_nil _ _ _ _) A 1 c [s] hr (by omega) (Nat.le_refl _)
    exact ⟨v', w', h1, own_mono h2 hbase, h3, fun g' e => .inr (h2.lt _ e).1⟩
  · obtain ⟨i, hi, hz, hs, hby⟩ := info_parts Tryz.info_iv
    obtain ⟨b, o, rfl, hc⟩ := hr.2 (by omega)
    by_cases hf : n + 1 ≤ cap
    · obtain ⟨w', r1, r2, r3⟩ := run_append_fits (P := Tryz.prog) w base 28 28 73 i 2 Tryz.underlying28 hi hs g n cap _ hown ⟨b, o, none⟩ 1 c (ivC [s]) rfl (hr.news (by omega)) (ivC_one [s]) hf
      exact ⟨_, w', r1, by rw [ivC_append]; exact r2, r3, fun g' e => .inl e⟩
    · obtain ⟨v', w', r1, r2, r3⟩ := run_append_arg_grows (P := Tryz.prog) w 28 28 73 i _ 2 16 Tryz.underlying28 hi hz hs hby rfl (by omega) ⟨g, 0, none⟩ n cap (ivC xs) hown.1 (fun j u hu => hown.cells (g := g) rfl j u hu) ⟨b, o, none⟩ 1 c (ivC [s]) rfl (hr.news (by omega)) (by omega) (by unfold maxLen; omega) (by omega)
      exact ⟨v', w', r1, by rw [ivC_append]; exact own_mono r2 hbase, ⟨r3.os, r3.tape, r3.output, r3.size, fun k hk _ => r3.block k hk (by simp)⟩, fun g' e => .inr (r2.lt _ e).1⟩

theorem own_row {w w' : World} {base sz n : Nat} {e : TypeId} {v : Value} {xs : List Value} (h : w.ownsRow base e sz v n xs) (hk : ∀ k, v.ownBlock = some k → w'.heap[k]? = w.heap[k]?) : w'.ownsRow base e sz v n xs := by
  refine ⟨h.1, ?_⟩
  rcases h.2 with h2 | ⟨g, cap, cur, hv, hg, hh, r⟩
  · exact .inl h2
  · subst hv
    exact .inr ⟨g, cap, cur, rfl, hg, (hk g rfl).trans hh, r⟩

theorem map_set {β : Type} (f : Nat → β) (n k : Nat) (a : β) : ((List.range n).map f).set k a = (List.range n).map fun i => if i = k then a else f i := by
  refine List.ext_getElem (by simp) fun i h1 h2 => ?_
  rw [List.getElem_set]
  simp only [List.getElem_map, List.getElem_range]
  by_cases h : k = i
  · rw [if_pos h, if_pos h.symm]
  · rw [if_neg h, if_neg (fun e => h e.symm)]

theorem frgC_setA : ∀ (ss : List (Value × Value)) (k : Nat) (x : Value), (frgC ss).set (k * 2) x = frgC (ss.set k (x, (ss.getD k (x, x)).2))
  | [], k, x => by simp [frgC]
  | s :: ss, 0, x => rfl
  | s :: ss, k + 1, x => by
    have e1 : frgC (s :: ss) = s.1 :: s.2 :: frgC ss := rfl
    rw [e1, show (k + 1) * 2 = k * 2 + 1 + 1 by omega, List.set_cons_succ, List.set_cons_succ, frgC_setA ss k x]
    rfl
theorem frgC_setB : ∀ (ss : List (Value × Value)) (k : Nat) (x : Value), (frgC ss).set (k * 2 + 1) x = frgC (ss.set k ((ss.getD k (x, x)).1, x))
  | [], k, x => by simp [frgC]
  | s :: ss, 0, x => rfl
  | s :: ss, k + 1, x => by
    have e1 : frgC (s :: ss) = s.1 :: s.2 :: frgC ss := rfl
    rw [e1, show (k + 1) * 2 + 1 = (k * 2 + 1) + 1 + 1 by omega, List.set_cons_succ, List.set_cons_succ, frgC_setB ss k x]
    rfl

/-- The cells of n fragments, given by what each holds. -/
def frgF (n : Nat) (X Y : Nat → Value) : List Value := frgC ((List.range n).map fun i => (X i, Y i))
def upd {β : Type} (X : Nat → β) (k : Nat) (x : β) : Nat → β := fun i => if i = k then x else X i
theorem upd_at {β : Type} (X : Nat → β) (k : Nat) (x : β) : upd X k x k = x := if_pos rfl
theorem upd_other {β : Type} (X : Nat → β) {k i : Nat} (x : β) (h : i ≠ k) : upd X k x i = X i := if_neg h
theorem frgF_setX {n k : Nat} (hk : k < n) (X Y : Nat → Value) (x : Value) : (frgF n X Y).set (k * 2) x = frgF n (upd X k x) Y := by
  unfold frgF
  rw [frgC_setA, map_set]
  congr 1
  refine List.map_congr_left fun i hi => ?_
  by_cases h : i = k
  · subst h
    simp [upd, hk]
  · simp [upd, h]
theorem frgF_setY {n k : Nat} (hk : k < n) (X Y : Nat → Value) (x : Value) : (frgF n X Y).set (k * 2 + 1) x = frgF n X (upd Y k x) := by
  unfold frgF
  rw [frgC_setB, map_set]
  congr 1
  refine List.map_congr_left fun i hi => ?_
  by_cases h : i = k
  · subst h
    simp [upd, hk]
  · simp [upd, h]
theorem frgF_get {n k : Nat} (hk : k < n) (X Y : Nat → Value) : (frgF n X Y)[k * 2]? = some (X k) ∧ (frgF n X Y)[k * 2 + 1]? = some (Y k) :=
  frgC_get (p := (X k, Y k)) (by simp [hk])

/-- Knowledge that is being laid: the fragments in the row g, each list of items in a row of its own behind those of w2. -/
structure BldM (w2 w : World) (base g n : Nat) (Y : Nat → Value) (L : Nat → List Iv) (X : Nat → Value) : Prop where
  kept : Kept (fun b => b < w2.heap.size ∧ b ≠ g) w2 w
  row : w.ownsRow base 39 2 (.slice (some ⟨g, 0, none⟩) n n) n (frgF n X Y)
  its : ∀ i, i < n → w.ownsRow w2.heap.size 73 2 (X i) (L i).length (ivC (L i))
  apart : ∀ i, i < n → ∀ j, j < n → i ≠ j → ∀ b, (X i).ownBlock = some b → (X j).ownBlock ≠ some b

theorem BldM.cells {w2 w : World} {base g n : Nat} {Y : Nat → Value} {L : Nat → List Iv} {X : Nat → Value} (h : BldM w2 w base g n Y L X) {i : Nat} (hi : i < n) : w.cell? ⟨g, i * 2, none⟩ = some (X i) ∧ w.cell? ⟨g, i * 2 + 1, none⟩ = some (Y i) := by
  obtain ⟨e1, e2⟩ := frgF_get hi X Y
  have c1 := h.row.cells (g := g) rfl _ _ e1
  have c2 := h.row.cells (g := g) rfl _ _ e2
  rw [add_at, Nat.zero_add] at c1 c2
  exact ⟨c1, c2⟩

theorem BldM.below {w2 w w' : World} {base g n : Nat} {Y : Nat → Value} {L : Nat → List Iv} {X : Nat → Value} (h : BldM w2 w base g n Y L X) (hb : Below w.heap.size w w') : BldM w2 w' base g n Y L X :=
  ⟨h.kept.below hb, own_below h.row hb, fun i hi => own_below (h.its i hi) hb, h.apart⟩

/-- One more interval at fragment j. -/
theorem BldM.step {w2 w w' : World} {base g n j : Nat} {Y : Nat → Value} {L L' : Nat → List Iv} {X : Nat → Value} (h : BldM w2 w base g n Y L X) (hj : j < n) (hg : g < w2.heap.size) {v' : Value} {l : List Iv}
    (ho : w'.ownsRow w2.heap.size 73 2 v' l.length (ivC l)) (hgr : w.grownBy w' (X j).ownBlock) (hv : ∀ g', v'.ownBlock = some g' → (X j).ownBlock = some g' ∨ w.heap.size ≤ g') (hL : L' j = l) (hO : ∀ i, i ≠ j → L' i = L i) :
    BldM w2 (w'.setCell ⟨g, j * 2, none⟩ v') base g n Y L' (upd X j v') := by
  have hne : ∀ k, (X j).ownBlock = some k → w2.heap.size ≤ k := fun k hk => ((h.its j hj).lt k hk).1
  have hgw : g < w.heap.size := Nat.lt_of_lt_of_le hg h.kept.size
  have hrow' : w'.ownsRow base 39 2 (.slice (some ⟨g, 0, none⟩) n n) n (frgF n X Y) := own_row h.row fun k hk => by
    have e : k = g := by simpa [Value.ownBlock] using hk.symm
    subst e
    exact hgr.block k hgw fun e => by have := hne k e.symm; omega
  have hset : ∀ k, w2.heap.size ≤ k → (w'.setCell ⟨g, j * 2, none⟩ v').heap[k]? = w'.heap[k]? := fun k hk => Below.heap_setCell _ _ _ _ (by simp only; omega)
  refine ⟨(h.kept.grown hgr fun k hk hl => ?_).setCell (fun _ h => h.2 rfl) _, ?_, fun i hi => ?_, fun i hi i' hi' hii b => ?_⟩
  · have := hne k hk; omega
  · rw [← frgF_setX hj]
    exact (hrow'.stored (j * 2) v').1
  · by_cases e : i = j
    · subst e
      rw [upd_at, hL]
      exact own_row ho fun k hk => hset k (ho.lt k hk).1
    · rw [upd_other _ _ e, hO i e]
      refine own_row (h.its i hi) fun k hk => ?_
      have hkl := (h.its i hi).lt k hk
      rw [hset k hkl.1]
      exact hgr.block k hkl.2 (fun e' => h.apart i hi j hj e k hk e'.symm)
  · by_cases e : i = j
    · subst e
      rw [upd_at, upd_other _ _ (fun e => hii e.symm)]
      intro hb hb'
      have hkl := (h.its i' hi').lt b hb'
      rcases hv b hb with h' | h'
      · exact h.apart i hi i' hi' hii b h' hb'
      · omega
    · rw [upd_other _ _ e]
      intro hb
      by_cases e' : i' = j
      · subst e'
        rw [upd_at]
        intro hb'
        have hkl := (h.its i hi).lt b hb
        rcases hv b hb' with h' | h'
        · exact h.apart i hi i' hi' hii b hb h'
        · omega
      · rw [upd_other _ _ e']
        exact h.apart i hi i' hi' hii b hb

/-- At the start no fragment has an item. -/
theorem bldM_start {w : World} {base g n : Nat} {Y : Nat → Value} (h : w.ownsRow base 39 2 (.slice (some ⟨g, 0, none⟩) n n) n (frgF n (fun _ => .slice none 0 0) Y)) : BldM w w base g n Y (fun _ => []) fun _ => .slice none 0 0 :=
  ⟨Kept.refl _ _, h, fun _ _ => World.ownsRow_nil _ _ _ _, fun i hi j hj _ b h => by simp [Value.ownBlock] at h⟩

/-- Entries that lay in rows of their types stay while Build goes on. -/
theorem enSl_kept {w2 w : World} {base g : Nat} {y : Value} {v : Vec} (h : EnSl w2 base y v) (hk : Kept (fun b => b < w2.heap.size ∧ b ≠ g) w2 w) {C : Array Value} {fr : Nat × Nat} (hg : w2.heap[g]? = some (.cells C 39 fr)) (hb : base ≤ g) : EnSl w base y v := by
  refine h.steady (P := isEnT) ⟨hk.size, fun k hk2 hp => hk.row k hk2 ⟨hk2, fun e => ?_⟩⟩ (.inl rfl) (.inr rfl)
  subst e
  rcases hp with h' | ⟨C', T, fr', hT, h'⟩
  · omega
  · rw [hg] at h'
    cases h'
    rcases hT with h | h <;> cases h

/-- The knowledge that was laid, read. -/
theorem BldM.frags {w2 w : World} {base g n ib : Nat} {Y : Nat → Value} {L : Nat → List Iv} {X : Nat → Value} (h : BldM w2 w base g n Y L X) (hg : base ≤ g) (hib : ib ≤ g) {k : Kno} (hk : k.length = n) (hL : ∀ i, i < n → (nthF k i).1 = L i) (h64 : ∀ i, i < n → Lt64 (L i)) (hY : ∀ i, i < n → EnSl w2 ib (Y i) (nthF k i).2)
    {C : Array Value} {fr : Nat × Nat} (hr : w2.heap[g]? = some (.cells C 39 fr)) : Frags w (some ⟨g, 0, none⟩) n n k := by
  refine ⟨hk, Nat.le_refl _, ?_, (by intro e; cases e), fun hn => ⟨g, 0, rfl, fun i hi => ?_⟩⟩
  · rcases h.row.2 with ⟨h', _⟩ | ⟨g', cap, cur, h', _, _, _, hcm, _⟩
    · cases h'
    · cases h'; unfold maxLen at hcm; omega
  · obtain ⟨c1, c2⟩ := h.cells hi
    rw [Nat.zero_add]
    constructor
    · obtain ⟨a, c, e, hI⟩ := ivs_own (h.its i hi) (h64 i hi)
      rw [e] at c1
      exact ⟨a, _, c, c1, by rw [hL i hi]; exact hI⟩
    · obtain ⟨a, m, c, e, hE⟩ := enSl_kept (hY i hi) h.kept hr hib
      rw [e] at c2
      exact ⟨a, m, c, c2, hE.ents⟩

theorem enSl_none (w : World) (base : Nat) : EnSl w base (.slice none 0 0) [] := ⟨none, 0, 0, rfl, rfl, (fun e he => by cases he), Nat.le_refl _, by omega, fun _ => rfl, (fun h => by omega), fun h => by omega⟩

/-! Lists of vectors. -/
structure Vecs (w : World) (a : Option Addr) (n cap : Nat) (vs : List Vec) : Prop where
  len : vs.length = n
  room : n ≤ cap
  most : cap ≤ 9223372036854775807
  nilc : a = none → cap = 0
  cells : 0 < n → ∃ b o, a = some ⟨b, o, none⟩ ∧ ∀ i, i < n → EnCell w ⟨b, o + i, none⟩ (nthV vs i)
theorem Vecs.below {w w' : World} {a : Option Addr} {n cap : Nat} {vs : List Vec} (h : Vecs w a n cap vs) (hb : Below w.heap.size w w') : Vecs w' a n cap vs := by
  refine ⟨h.len, h.room, h.most, h.nilc, fun hn => ?_⟩
  obtain ⟨b, o, ha, hc⟩ := h.cells hn
  exact ⟨b, o, ha, fun i hi => (hc i hi).below hb⟩
theorem Vecs.fix {w : World} {b o n cap : Nat} {vs : List Vec} (h : Vecs w (some ⟨b, o, none⟩) n cap vs) {i : Nat} (hi : i < n) : ∃ y m c, ∀ w', Below w.heap.size w w' → w'.cell? ⟨b, o + i, none⟩ = some (.slice y m c) ∧ Ents w' y m c (nthV vs i) := by
  obtain ⟨b', o', hs, hc⟩ := h.cells (by omega)
  cases hs
  obtain ⟨y, m, c, h1, h2⟩ := hc i hi
  exact ⟨y, m, c, fun w' hb => ⟨(hb.cell (cell_lt h1)).trans h1, h2.below hb⟩⟩
theorem Vecs.some {w : World} {a : Option Addr} {n cap : Nat} {vs : List Vec} (h : Vecs w a n cap vs) (hn : 0 < n) : ∃ b o, a = some ⟨b, o, none⟩ := by
  obtain ⟨b, o, ha, -⟩ := h.cells hn
  exact ⟨b, o, ha⟩

/-! Lists of ints. -/
structure Zs (w : World) (a : Option Addr) (n cap : Nat) (l : List Int) : Prop where
  len : l.length = n
  room : n ≤ cap
  most : cap ≤ 9223372036854775807
  nilc : a = none → cap = 0
  lt : ∀ x ∈ l, -9223372036854775808 ≤ x ∧ x ≤ 9223372036854775807
  cells : 0 < n → ∃ b o, a = some ⟨b, o, none⟩ ∧ ∀ i, i < n → w.cell? ⟨b, o + i, none⟩ = some (.int .i64 (nthZ l i))
theorem Zs.below {w w' : World} {a : Option Addr} {n cap : Nat} {l : List Int} (h : Zs w a n cap l) (hb : Below w.heap.size w w') : Zs w' a n cap l := by
  refine ⟨h.len, h.room, h.most, h.nilc, h.lt, fun hn => ?_⟩
  obtain ⟨b, o, ha, hc⟩ := h.cells hn
  exact ⟨b, o, ha, fun i hi => (hb.cell (p := ⟨b, o + i, none⟩) (cell_lt (hc i hi))).trans (hc i hi)⟩
theorem I64s.zs {w : World} {a : Option Addr} {n cap : Nat} {l : List Nat} (h : I64s w a n cap l) (hl : ∀ x ∈ l, x ≤ 9223372036854775807) : Zs w a n cap (l.map fun x : Nat => (x : Int)) := by
  refine ⟨by rw [List.length_map]; exact h.len, h.room, h.most, h.nilc, fun x hx => ?_, fun hn => ?_⟩
  · obtain ⟨y, hy, rfl⟩ := List.mem_map.1 hx
    have := hl y hy
    omega
  · obtain ⟨b, o, ha, hc⟩ := h.cells hn
    refine ⟨b, o, ha, fun i hi => ?_⟩
    have e : nthZ (l.map fun x : Nat => (x : Int)) i = ((nth l i : Nat) : Int) := by
      have hi' : i < l.length := by rw [h.len]; exact hi
      rw [nthZ_get (by simpa using hi')]
      simp [nth, hi']
    rw [e]
    exact hc i hi

end Go.Proofs.YtkkdlgcfcbaibaaGreatDoor
end

section
namespace Go.Proofs.YtkkdlgcfcbaibaaGreatDoor
open Go.RowKit Go.Extern.Stop Go.Stop Go.Extern
set_option linter.unusedVariables false

theorem Tryz.methodComparable (h : Value) (w : World) : (Go.method 420 186 (.agg #[h]) "Comparable").run Tryz.prog w = .ok (269, .agg #[h]) w := by kernel_rfl
theorem Tryz.comparableE (w : World) : (ReflectliteType.method (fun t => do Rtype.noPackHeld "Comparable" t; (fun a : TypeInfo => Value.bool a.comparable) <$> typeInfo t) #[.agg #[.pointer (some ⟨2, 50, none⟩)]]).run Tryz.prog w = .ok (.bool true) w := by kernel_rfl
theorem Tryz.asIsE (v : Value) (xT : TypeId) (w : World) : (Instr.typeAssert (.iface 50 v) xT 229 true).run Tryz.prog w = .ok (.tuple #[.nilIface, .bool false]) w :=
  run_typeAssert_lacksB Tryz.underlying229 (by kernel_rfl) (by kernel_rfl) v xT w

theorem eql_errno (c d : Int) (w : World) : (binOp .eql 41 (.iface 50 (.int .i64 c)) (.iface 50 (.int .i64 d))).run Tryz.prog w = .ok (.bool (decide (c = d))) w := by
  exact Lib.run_eql_iface_int w c d Tryz.underlying41 (by kernel_rfl) Tryz.underlying50

set_option maxHeartbeats 4000000 in
theorem is_EE (c d : Int) (w : World) :
    Calls Tryz.prog 134 #[.iface 50 (.int .i64 c), .iface 50 (.int .i64 d), .bool true] w fun e w' => e = .returned (.bool (decide (c = d))) ∧ w = w' := by
  have s1 := Tryz.asIsE
  have s2 := Tryz.asUnE
  have s3 := Tryz.asUmE
  by_cases h : c = d
  · have hq : ∀ w : World, (binOp .eql 41 (.iface 50 (.int .i64 c)) (.iface 50 (.int .i64 d))).run Tryz.prog w = .ok (.bool true) w := fun w => by rw [eql_errno, decide_eq_true h]
    have He := Lib.hid (decide_eq_true h)
    clear h
    go_enter Tryz.func134, Tryz.ntmps134
    go_wp2
    refine wp_loop_rounds 1 ?_
    rw [rounds_succ]
    go_wp2
    go_ret
    exact ⟨by rw [He.out]; rfl, rfl⟩
  · have hq : ∀ w : World, (binOp .eql 41 (.iface 50 (.int .i64 c)) (.iface 50 (.int .i64 d))).run Tryz.prog w = .ok (.bool false) w := fun w => by rw [eql_errno, decide_eq_false h]
    have He := Lib.hid (decide_eq_false h)
    clear h
    go_enter Tryz.func134, Tryz.ntmps134
    go_wp2
    refine wp_loop_rounds 1 ?_
    rw [rounds_succ]
    go_wp2
    go_ret
    exact ⟨by rw [He.out]; rfl, rfl⟩

set_option maxRecDepth 20000 in
set_option maxHeartbeats 4000000 in
theorem Is_code (c d : Int) (w : World) :
    Calls Tryz.prog 79 #[.iface 50 (.int .i64 c), .iface 50 (.int .i64 d)] w fun e w' => e = .returned (.bool (decide (c = d))) ∧ w = w' := by
  have hTO := @run_callFunc_extern Tryz.prog 133 _ ReflectliteType.typeOf Tryz.func133 (by kernel_rfl) (by kernel_rfl) (by kernel_rfl) (by kernel_rfl)
  have hCm := @run_callFunc_extern Tryz.prog 269 _ (ReflectliteType.method (fun t => do Rtype.noPackHeld "Comparable" t; pure (.bool (← typeInfo t).comparable))) Tryz.func269 (by kernel_rfl) (by kernel_rfl) (by kernel_rfl) (by kernel_rfl)
  have tO := Tryz.typeOfE
  have mC := Tryz.methodComparable
  have cE := Tryz.comparableE
  have hC := Lib.hid (is_EE c d)
  go_enter Tryz.func79, Tryz.ntmps79
  go_wp2_with fail
  refine (hC.out _).mono ?_
  rintro e w1 ⟨rfl, rfl⟩
  go_wp2_with fail
  go_ret
  exact ⟨rfl, rfl⟩

set_option maxRecDepth 20000 in
theorem Is_nil (d : Int) (w : World) : Calls Tryz.prog 79 #[.nilIface, .iface 50 (.int .i64 d)] w fun e w' => e = .returned (.bool false) ∧ w = w' := by
  have hq : ∀ w : World, (binOp .eql 41 .nilIface (.iface 50 (.int .i64 d))).run Tryz.prog w = .ok (.bool false) w := fun w => run_eql_iface_nil_left w 50 _ Tryz.underlying41
  go_enter Tryz.func79, Tryz.ntmps79
  go_wp2
  go_ret
  exact ⟨rfl, rfl⟩

end Go.Proofs.YtkkdlgcfcbaibaaGreatDoor
end
