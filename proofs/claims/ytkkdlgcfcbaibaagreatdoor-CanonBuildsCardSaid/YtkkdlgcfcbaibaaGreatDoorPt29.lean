/- Walks and laws, merged: part 29. -/
import Derived.Maps.Own
import Derived.Maps.OwnOps
import Derived.Maps.OwnSet
import Derived.Maps.RangeWalk
import Derived.Maps.Ext
import Derived.Sort.WalkA
import Derived.Sort.WalkA6
import Derived.Sort.WalkB3
import Derived.Sort.WalkC4
import Derived.Sort.WalkD2
import Derived.Sort.Walk7
import Derived.Sort.Walk11
import Derived.Sort.Walk13
import Derived.Sort.WalkA14
import Derived.Sort.AssemblyPlain
import Derived.Deep.DeepCutAuto
import Derived.Deep.CutBlock
import Derived.BigRegion
import Derived.Test.YtkkdlgcfcbaibaaGreatDoorPt15
import Derived.Test.YtkkdlgcfcbaibaaGreatDoorPt14
import Derived.Test.YtkkdlgcfcbaibaaGreatDoorPt10
import Derived.Test.YtkkdlgcfcbaibaaGreatDoorPt16
import Derived.Test.YtkkdlgcfcbaibaaGreatDoorPt26
import Derived.Test.YtkkdlgcfcbaibaaGreatDoorPt11
import Derived.Test.YtkkdlgcfcbaibaaGreatDoorPt01
section
namespace Go.Proofs.YtkkdlgcfcbaibaaGreatDoor
open Go.RowKit Go.Maps
set_option linter.unusedVariables false

def zP : Value := .agg #[.slice none 0 0, .slice none 0 0]
def isSl : Value → Bool
  | .slice _ _ _ => true
  | _ => false
def twoSl : List Value → Bool
  | [x, y] => isSl x && isSl y
  | _ => false
def isP : Value → Bool
  | .agg cs => twoSl cs.toList
  | _ => false
/-- How an element reads: as itself. -/
def rP (v : Value) : Option (DataW Value × List MemPlace) := if isP v = true then some (.held v, []) else none
theorem rP_mk (a : Option Addr) (n c : Nat) (a' : Option Addr) (n' c' : Nat) : rP (.agg #[.slice a n c, .slice a' n' c']) = some (.held (.agg #[.slice a n c, .slice a' n' c']), []) := rfl
theorem rP_held {v u : Value} {ps : List MemPlace} (h : rP v = some (.held u, ps)) : v = u := by
  unfold rP at h
  split at h
  · simp at h; exact h.1
  · cases h
theorem wfU {x : Nat} (h : x < 18446744073709551616) : (Lit.int .u64 (x : Int)).wf = true := by
  simp [Lit.wf, IntKind.min, IntKind.max, IntKind.signed, IntKind.bits]
  omega
theorem u64_bd {n : Int} (h : (Lit.int .u64 n).wf = true) : ∃ x : Nat, n = (x : Int) ∧ x < 18446744073709551616 := by
  simp [Lit.wf, IntKind.min, IntKind.max, IntKind.signed, IntKind.bits] at h
  exact ⟨n.toNat, by omega, by omega⟩

theorem keyU : Maps.Keyed Tryz.prog 24 := int_keyed Tryz.underlying24
theorem keyOfU {x : Nat} (h : x < 18446744073709551616) : keyOf Tryz.prog 24 (.int .u64 (x : Int)) = some (.int .u64 (x : Int)) := keyOf_int_mk Tryz.underlying24 (wfU h)
theorem zeroP (w : World) : (zeroValue 271).run Tryz.prog w = .ok zP w := by kernel_rfl

theorem wpList_lookup_P {w : World} {ops : Array Oper} {rest : List Oper} {o : Oper} {a : Act} {Q : Exit → Act → World → Prop} (hg : o.guard = none) (m x : Operand) (t : TypeId) (hop : o.op = Op.lookup t m x false)
    (ht : Tryz.prog.underlying t = some (.map 24 271)) (b n : Nat) (D : DataW Value) (hm : a.eval m = .map (some b)) (hown : w.ownsMap Tryz.prog 24 rP b n D)
    (r : Nat) (hr : r < 18446744073709551616) (hx : a.eval x = .int .u64 (r : Int)) (u : Value) (hat : D.atKey (.int .u64 (r : Int)) (.held zP) = .held u)
    (h : wpList Tryz.prog ops Q rest (a.put o.dst u) w) : wpList Tryz.prog ops Q (o :: rest) a w := by
  refine wpList_plain hg fun K' hK' => ?_
  obtain ⟨v, ps, hrun, hv⟩ := hown.lookup keyU ht (zeroP w) (zd := .held zP) (zp := []) rfl (keyOfU hr)
  rw [hat] at hv
  obtain rfl := rP_held hv
  unfold Oper.wp
  simp [execOp, hop, hm, hx, hrun, Result.andThen]
  exact hK' _ _ h

/-- The map after some replicas: which keys it has, and what lies at each. -/
structure PairS (w : World) (base B n : Nat) (D : DataW Value) (S : List Nat) (G1 G2 : Nat → List Iv) : Prop where
  own : w.ownsMap Tryz.prog 24 rP B n D
  keys : ∀ r : Nat, Maps.has D (.int .u64 (r : Int)) = decide (r ∈ S)
  vals : ∀ r : Nat, ∃ a n c a' n' c', D.atKey (.int .u64 (r : Int)) (.held zP) = .held (.agg #[.slice a n c, .slice a' n' c']) ∧ IvsT w base a n c (G1 r) ∧ IvsT w base a' n' c' (G2 r)

theorem ivsT_nil (w : World) (base : Nat) : IvsT w base none 0 0 [] := ⟨ivs_nil w, fun h => by omega⟩

theorem PairS.start (w : World) (base : Nat) : PairS (w.alloc (.map #[] 0)) base w.heap.size 0 (.map []) [] (fun _ => []) (fun _ => []) :=
  ⟨World.ownsMap_made _ _ _ _, fun r => rfl, fun r => ⟨none, 0, 0, none, 0, 0, rfl, ivsT_nil _ _, ivsT_nil _ _⟩⟩

theorem PairS.steady {w w' : World} {base B n : Nat} {D : DataW Value} {S : List Nat} {G1 G2 : Nat → List Iv} (h : PairS w base B n D S G1 G2) (hs : Steady base isIvT w w') (hm : w'.ownsMap Tryz.prog 24 rP B n D) : PairS w' base B n D S G1 G2 :=
  ⟨hm, h.keys, fun r => by
    obtain ⟨a, n, c, a', n', c', h1, h2, h3⟩ := h.vals r
    exact ⟨a, n, c, a', n', c', h1, h2.steady hs rfl, h3.steady hs rfl⟩⟩

theorem litU_inj {r x : Nat} (h : r ≠ x) : Lit.int .u64 (r : Int) ≠ Lit.int .u64 (x : Int) := fun e => h (by cases e; rfl)

theorem PairS.put {w w' : World} {base B n m r : Nat} {D : DataW Value} {S : List Nat} {G1 G2 : Nat → List Iv} (h : PairS w base B n D S G1 G2) (hs : Steady base isIvT w w') {a : Option Addr} {k c : Nat} {a' : Option Addr} {k' c' : Nat} {L L' : List Iv}
    (h1 : IvsT w' base a k c L) (h2 : IvsT w' base a' k' c' L') (hown : w'.ownsMap Tryz.prog 24 rP B m (D.put (.int .u64 (r : Int)) (.held (.agg #[.slice a k c, .slice a' k' c'])))) :
    PairS w' base B m (D.put (.int .u64 (r : Int)) (.held (.agg #[.slice a k c, .slice a' k' c']))) (S ++ [r]) (fun x => if x = r then L else G1 x) (fun x => if x = r then L' else G2 x) := by
  have hI := h.own.isMap
  have hk : ∀ x : Nat, WideAt.IsKeyLit (.int .u64 (x : Int)) := fun _ => trivial
  refine ⟨hown, fun x => ?_, fun x => ?_⟩
  · by_cases e : x = r
    · subst e; rw [has_put_same hI (hk _)]; simp
    · rw [has_put_other (litU_inj e), h.keys x]; simp [e]
  · by_cases e : x = r
    · subst e
      exact ⟨a, k, c, a', k', c', atKey_put_same hI (hk _) _ _, by simpa using h1, by simpa using h2⟩
    · obtain ⟨a1, n1, c1, a2, n2, c2, h3, h4, h5⟩ := h.vals x
      exact ⟨a1, n1, c1, a2, n2, c2, by rw [atKey_put_other (litU_inj e)]; exact h3, by simpa [e] using h4.steady hs rfl, by simpa [e] using h5.steady hs rfl⟩

theorem PairS.congr {w : World} {base B n : Nat} {D : DataW Value} {S S' : List Nat} {G1 G2 G1' G2' : Nat → List Iv} (h : PairS w base B n D S G1 G2) (hS : ∀ r, r ∈ S ↔ r ∈ S') (h1 : ∀ r, G1 r = G1' r) (h2 : ∀ r, G2 r = G2' r) : PairS w base B n D S' G1' G2' :=
  ⟨h.own, fun r => by rw [h.keys r]; simp [hS r], fun r => by rw [← h1, ← h2]; exact h.vals r⟩

/-- A map's block is none of the rows. -/
theorem steady_map {w w' : World} {base B n : Nat} {D : DataW Value} (h : w.ownsMap Tryz.prog 24 rP B n D) (hB : base ≤ B) (hg : w.grownBy w' (some B)) (P : TypeId → Prop) : Steady base P w w' := by
  obtain ⟨es, clock, hb, -⟩ := h
  refine ⟨hg.size, fun k hk hp => hg.block k hk fun e => ?_⟩
  cases e
  rcases hp with h' | ⟨C, T, fr, hT, h'⟩
  · omega
  · rw [hb] at h'; cases h'

theorem grown_of_below {w w' : World} (h : Below w.heap.size w w') : w.grownBy w' none := ⟨h.os, h.tape, h.output, h.size, fun k hk _ => h.block k hk⟩

/-! The replicas of a vector, one after the other. -/
theorem knownAt_take {v : Vec} (hA : v.Pairwise RepLt) {j : Nat} (hj : j < v.length) (r : Nat) : knownAt (v.take (j + 1)) r = if r = (nthE v j).1 then knownL (nthE v j) else knownAt (v.take j) r := by
  have hs : v.take (j + 1) = v.take j ++ [nthE v j] := by rw [List.take_succ_eq_append_getElem hj, nthE_get hj]
  unfold knownAt
  rw [hs, List.find?_append]
  by_cases e : r = (nthE v j).1
  · have hn : (v.take j).find? (fun e => decide (e.1 = r)) = none := by
      rw [List.find?_eq_none]
      intro x hx
      obtain ⟨i, hi, rfl⟩ := List.getElem_of_mem hx
      rw [List.length_take] at hi
      have := List.pairwise_iff_getElem.1 hA i j (by omega) hj (by omega)
      rw [List.getElem_take]
      rw [nthE_get hj] at e
      have h2 : (v[i]'(by omega)).1 < v[j].1 := this
      simp only [decide_eq_true_eq]
      omega
    rw [hn, if_pos e]
    simp [e]
  · rw [if_neg e]
    have h2 : [nthE v j].find? (fun e => decide (e.1 = r)) = none := by
      rw [List.find?_eq_none]
      intro x hx
      rw [List.mem_singleton] at hx
      subst hx
      simp only [decide_eq_true_eq]
      omega
    rw [h2]
    cases (v.take j).find? (fun e => decide (e.1 = r)) <;> rfl

theorem reps_take {v : Vec} {j : Nat} (hj : j < v.length) : (v.take (j + 1)).map (·.1) = (v.take j).map (·.1) ++ [(nthE v j).1] := by
  rw [List.take_succ_eq_append_getElem hj, nthE_get hj, List.map_append]; rfl

/-- Element k of an array of slices, as a value. -/
theorem wpList_index_sl {P : Program} {w : World} {ops : Array Oper} {rest : List Oper} {o : Oper} {a : Act} {Q : Exit → Act → World → Prop} (ty : TypeId) (x ix : Operand)
    (ho : o.op = .index ty x ix) (hg : o.guard = none) (cs : Array Value) (k len : Nat) (e e' : TypeId) (v : Value)
    (hx : a.eval x = .agg cs) (hix : a.eval ix = .int .i64 (k : Int)) (hu : P.underlying ty = some (.array len e)) (hk : k < len) (he : P.underlying e = some (.slice e')) (hi : (P.info? e).map (·.size) = some 1)
    (hv : cs[k]? = some v) (h : wpList P ops Q rest (a.put o.dst v) w) : wpList P ops Q (o :: rest) a w := by
  refine wpList_plain hg fun K hK => ?_
  cases hq : P.info? e with
  | none => simp [hq] at hi
  | some i =>
    have hsz : i.size = 1 := by simpa [hq] using hi
    unfold Oper.wp execOp
    simp only [ho, hx, hix, Instr.index, asIntOf, Sem.run_bind, Sem.run_pure, Result.andThen_ok, run_underlying hu]
    have hk' : 0 ≤ (k : Int) ∧ (k : Int) < (len : Int) := ⟨by omega, by omega⟩
    simp [Sem.run_bind, part, isAgg, sizeOf, typeInfo, run_underlying he, hq, hsz, hv, hk']
    exact hK _ _ h

theorem sizeVec : (Tryz.prog.info? 37).map (·.size) = some 1 := by kernel_rfl
theorem sizeRng : (Tryz.prog.info? 28).map (·.size) = some 1 := by kernel_rfl

/-- THE STEP OF A RANGE over a map keyed by numbers. -/
theorem wpList_next_U {H : Type} {w : World} {ops : Array Oper} {rest : List Oper} {o : Oper} {a : Act} {Q : Exit → Act → World → Prop} (hg : o.guard = none) (it : Operand) (hop : o.op = Op.next it false) (R : Value → Option (DataW H × List MemPlace))
    (b r n : Nat) (D : DataW H) (left : Lit → Bool) (cnt : Nat) (hit : a.eval it = .pointer (some ⟨r, 0, none⟩)) (h : w.ranges Tryz.prog 24 R b r n D left cnt)
    (hDone : (∀ kl, left kl = false) → wpList Tryz.prog ops Q rest (a.put o.dst (.tuple #[.bool false])) w)
    (hMore : ∀ (x : Nat) (u : Value) (w' : World) (cnt' : Nat), x < 18446744073709551616 → left (.int .u64 (x : Int)) = true → Maps.has D (.int .u64 (x : Int)) = true →
      w'.ranges Tryz.prog 24 R b r n D (fun z => left z && !z.sameKey (.int .u64 (x : Int))) cnt' → cnt' < cnt → w.grownBy w' (some r) → w'.heap.size = w.heap.size →
      (Instr.entry (.pointer (some ⟨r, 0, none⟩))).run Tryz.prog w' = .ok (.tuple #[.int .u64 (x : Int), u]) w' → wpList Tryz.prog ops Q rest (a.put o.dst (.tuple #[.bool true, .int .u64 (x : Int), u])) w') :
    wpList Tryz.prog ops Q (o :: rest) a w := by
  refine wpList_plain hg fun K' hK' => ?_
  unfold Oper.wp
  rcases h.next keyU o.type with ⟨h0, hl, hrun⟩ | ⟨key, v, kl, y, w', cnt', hkey, hlk, hv, hat, hrun, hrg, hlt, hgr, hsz, hen⟩
  · simp [execOp, hop, hit, hrun, Result.andThen]
    exact hK' _ _ (hDone hl)
  · obtain ⟨x, rfl, rfl, hwx⟩ := Maps.keyOf_int_inv Tryz.underlying24 hkey
    obtain ⟨x, rfl, hx⟩ := u64_bd hwx
    simp [execOp, hop, hit, hrun, Result.andThen]
    exact hK' _ _ (hMore x v w' cnt' hx hlk (has_true_of_atKey hat) hrg hlt hgr hsz hen)

theorem steady_kept {p : Nat → Prop} {base : Nat} {P : TypeId → Prop} {w w' : World} (h : Kept p w w') (hp : ∀ k, k < w.heap.size → (k < base ∨ ∃ C T fr, P T ∧ w.heap[k]? = some (.cells C T fr)) → p k) : Steady base P w w' :=
  ⟨h.size, fun k hk h2 => h.row k hk (hp k hk h2)⟩

theorem knownAt_good {v : Vec} (hl : LtV v) (r : Nat) : Good (knownAt v r) := by
  unfold knownAt
  split
  · rename_i e he
    exact (knownL_good (hl e (List.mem_of_find?_eq_some he))).1
  · trivial

theorem ranges_same {H : Type} {P : Program} {k : TypeId} {R : Value → Option (DataW H × List MemPlace)} {w w' : World} {b r n : Nat} {D : DataW H} {left : Lit → Bool} {cnt : Nat} (h : w.ranges P k R b r n D left cnt)
    (hb : w'.heap[b]? = w.heap[b]?) (hr : w'.heap[r]? = w.heap[r]?) : w'.ranges P k R b r n D left cnt := by
  obtain ⟨es, clock, since, seen, c0, h1, h2, h3, h4, h5, h6⟩ := h
  exact ⟨es, clock, since, seen, c0, hb.trans h1, h2, h3, h4, hr.trans h5, h6⟩

end Go.Proofs.YtkkdlgcfcbaibaaGreatDoor
end

section
namespace Go.Proofs.YtkkdlgcfcbaibaaGreatDoor
open Go.RowKit Go.Maps
set_option linter.unusedVariables false

def bndTo (k : Kno) (d e x : Nat) : Prop := x = 0 ∨ (∃ f ∈ k.take d, x ∈ bnds f.1) ∨ x ∈ bnds ((nthF k d).1.take e)

theorem bndTo_start (k : Kno) (x : Nat) : bndTo k 0 0 x ↔ x = 0 := by simp [bndTo, bnds]
theorem bndTo_all (k : Kno) (x : Nat) : bndTo k k.length 0 x ↔ x ∈ allK k := by
  rw [allK_mem]; simp [bndTo, bnds]
theorem bndTo_next {k : Kno} {d : Nat} (hd : d < k.length) (x : Nat) : bndTo k d (nthF k d).1.length x ↔ bndTo k (d + 1) 0 x := by
  unfold bndTo
  have hs : k.take (d + 1) = k.take d ++ [nthF k d] := by rw [List.take_succ_eq_append_getElem hd, nthF_get hd]
  rw [hs, List.take_length]
  simp [bnds]
theorem bndTo_step {k : Kno} {d e : Nat} (he : e < (nthF k d).1.length) (x : Nat) : bndTo k d (e + 1) x ↔ ((bndTo k d e x ∨ x = (nthI (nthF k d).1 e).1) ∨ ((nthI (nthF k d).1 e).2 < 18446744073709551615 ∧ x = (nthI (nthF k d).1 e).2 + 1)) := by
  unfold bndTo
  rw [List.take_succ_eq_append_getElem he, bnds_append, List.mem_append, ← nthI_get he]
  have : bnds [nthI (nthF k d).1 e] = bnd (nthI (nthF k d).1 e) := by simp [bnds]
  rw [this, mem_bnd]
  simp only [or_assoc]

/-- How an element of the set reads. -/
def rB (v : Value) : Option (DataW Value × List MemPlace) :=
  match v with
  | .bool b => some (.lit (.bool b), [])
  | _ => none

/-- The map as a set of numbers. -/
structure SetS (w : World) (B n : Nat) (D : DataW Value) (S : Nat → Prop) : Prop where
  own : w.ownsMap Tryz.prog 24 rB B n D
  keys : ∀ r : Nat, Maps.has D (.int .u64 (r : Int)) = true ↔ S r

theorem SetS.put {w w' : World} {B n m x : Nat} {D : DataW Value} {S S' : Nat → Prop} (h : SetS w B n D S) (hown : w'.ownsMap Tryz.prog 24 rB B m (D.put (.int .u64 (x : Int)) (.lit (.bool true)))) (hS : ∀ r, S' r ↔ S r ∨ r = x) : SetS w' B m (D.put (.int .u64 (x : Int)) (.lit (.bool true))) S' := by
  refine ⟨hown, fun r => ?_⟩
  rw [hS r]
  by_cases e : r = x
  · subst e; rw [has_put_same h.own.isMap (show WideAt.IsKeyLit (.int .u64 (r : Int)) from trivial)]; simp
  · rw [has_put_other (litU_inj e), h.keys r]; simp [e]
theorem SetS.kept {w w' : World} {B n : Nat} {D : DataW Value} {S : Nat → Prop} (h : SetS w B n D S) (hb : Below w.heap.size w w') : SetS w' B n D S := ⟨h.own.kept (grown_of_below hb) (by simp), h.keys⟩
theorem SetS.congr {w : World} {B n : Nat} {D : DataW Value} {S S' : Nat → Prop} (h : SetS w B n D S) (hS : ∀ r, S r ↔ S' r) : SetS w B n D S' := ⟨h.own, fun r => (h.keys r).trans (hS r)⟩

/-- 'm[k] = v' among the entries of a literal. -/
theorem wpList_insert_own {H : Type} {P : Program} (w : World) {ops : Array Oper} {rest : List Oper} {o : Oper} {a : Act} {Q : Exit → Act → World → Prop}
    (hg : o.guard = none) (m x v : Operand) (t : TypeId) (hop : o.op = Op.insert t m x v)
    (k e : TypeId) (K : Keyed P k) (ht : P.underlying t = some (.map k e)) (R : Value → Option (DataW H × List MemPlace)) (b n : Nat) (D : DataW H)
    (hm : a.eval m = .map (some b)) (hown : w.ownsMap P k R b n D) (hn : n < maxLen) (key val : Value) (kl : Lit) (hx : a.eval x = key) (hv : a.eval v = val) (hkey : keyOf P k key = some kl)
    (d : DataW H) (ps : List MemPlace) (hval : R val = some (d, ps))
    (hK : ∀ w', w'.ownsMap P k R b (n + 1) (D.put kl d) → w.grownBy w' (some b) → wpList P ops Q rest (a.put o.dst undef) w') :
    wpList P ops Q (o :: rest) a w := by
  refine wpList_plain hg fun K' hK' => ?_
  obtain ⟨w', hrun, r1, r2⟩ := hown.update K ht hn hkey hval
  unfold Oper.wp
  simp [execOp, hop, hm, hx, hv, hrun, Result.andThen]
  exact hK' _ _ (hK w' r1 r2)

/-! The set while members are struck. -/
structure Sift (k : Kno) (D : DataW Value) (left : Lit → Bool) : Prop where
  keys : ∀ r : Nat, Maps.has D (.int .u64 (r : Int)) = true ↔ (r ∈ allK k ∧ (left (.int .u64 (r : Int)) = true ∨ r ∈ startsK k))

theorem sameU' (x y : Nat) : Lit.sameKey (.int .u64 (x : Int)) (.int .u64 (y : Int)) = decide (x = y) := by
  by_cases e : x = y
  · subst e; simp [WideAt.sameKey_self (show WideAt.IsKeyLit (.int .u64 (x : Int)) from trivial)]
  · rw [sameKey_ne (litU_inj e), decide_eq_false e]

theorem Sift.start {k : Kno} {D : DataW Value} (h : ∀ r : Nat, Maps.has D (.int .u64 (r : Int)) = true ↔ r ∈ allK k) : Sift k D (Maps.has D) :=
  ⟨fun r => by rw [h r]; constructor
               · exact fun hr => ⟨hr, .inl hr⟩
               · exact fun hr => hr.1⟩
theorem Sift.stay {k : Kno} {D : DataW Value} {left : Lit → Bool} (h : Sift k D left) {x : Nat} (hx : x ∈ startsK k) : Sift k D (fun z => left z && !z.sameKey (.int .u64 (x : Int))) := by
  refine ⟨fun r => ?_⟩
  rw [h.keys r, sameU']
  by_cases e : r = x
  · subst e
    constructor
    · exact fun h1 => ⟨h1.1, .inr hx⟩
    · exact fun h1 => ⟨h1.1, .inr hx⟩
  · simp [e]
theorem Sift.drop {k : Kno} {D : DataW Value} {left : Lit → Bool} (h : Sift k D left) {x : Nat} (hx : x ∉ startsK k) : Sift k (D.del (.int .u64 (x : Int))) (fun z => left z && !z.sameKey (.int .u64 (x : Int))) := by
  refine ⟨fun r => ?_⟩
  rw [sameU']
  by_cases e : r = x
  · subst e
    rw [has_del_same]
    simp [hx]
  · rw [has_del_other (litU_inj e), h.keys r]
    simp [e]
theorem Sift.all {k : Kno} {D : DataW Value} {left : Lit → Bool} (h : Sift k D left) (hl : ∀ kl, left kl = false) (r : Nat) : Maps.has D (.int .u64 (r : Int)) = true ↔ r ∈ startsK k := by
  rw [h.keys r, hl]
  constructor
  · rintro ⟨-, h1 | h1⟩
    · cases h1
    · exact h1
  · exact fun h1 => ⟨(startsK_mem.1 h1).1, .inr h1⟩

/-- The keys collected so far. -/
structure Coll (D : DataW Value) (left : Lit → Bool) (L : List Nat) : Prop where
  nodup : L.Nodup
  mem : ∀ x : Nat, x ∈ L ↔ (Maps.has D (.int .u64 (x : Int)) = true ∧ left (.int .u64 (x : Int)) = false)
theorem Coll.start (D : DataW Value) : Coll D (Maps.has D) [] := ⟨List.nodup_nil, fun x => by cases Maps.has D (.int .u64 (x : Int)) <;> simp⟩
theorem Coll.step {D : DataW Value} {left : Lit → Bool} {L : List Nat} (h : Coll D left L) {x : Nat} (hh : Maps.has D (.int .u64 (x : Int)) = true) (hl : left (.int .u64 (x : Int)) = true) : Coll D (fun z => left z && !z.sameKey (.int .u64 (x : Int))) (L ++ [x]) := by
  have hn : x ∉ L := fun hx => by
    have := ((h.mem x).1 hx).2
    rw [hl] at this; cases this
  refine ⟨List.nodup_append.2 ⟨h.nodup, by simp, fun a ha b hb => by simp at hb; subst hb; exact fun e => hn (e ▸ ha)⟩, fun y => ?_⟩
  rw [List.mem_append, List.mem_singleton, h.mem y, sameU']
  by_cases e : y = x
  · subst e; simp [hh]
  · simp [e]

theorem sorted_asc : ∀ {M : List Nat}, M.Pairwise (· ≤ ·) → M.Nodup → Asc M
  | [], _, _ => trivial
  | a :: l, h, hn => by
    obtain ⟨h1, h2⟩ := List.pairwise_cons.1 h
    obtain ⟨h3, h4⟩ := List.nodup_cons.1 hn
    refine asc_cons (fun y hy => ?_) (sorted_asc h2 h4)
    have := h1 y hy
    have : a ≠ y := fun e => h3 (e ▸ hy)
    omega

theorem coll_sorted {k : Kno} {D : DataW Value} {left : Lit → Bool} {L M : List Nat} (h : Coll D left L) (hl : ∀ kl, left kl = false) (hk : ∀ r : Nat, Maps.has D (.int .u64 (r : Int)) = true ↔ r ∈ startsK k) (hp : M.Perm L) (hM : M.Pairwise (· ≤ ·)) : M = startsK k :=
  asc_ext (sorted_asc hM (hp.nodup_iff.2 h.nodup)) (startsK_asc k) fun x => by rw [hp.mem_iff, h.mem x, hl, ← hk x]; simp

end Go.Proofs.YtkkdlgcfcbaibaaGreatDoor
end

section
namespace Go.Proofs.YtkkdlgcfcbaibaaGreatDoor
open Go.RowKit Go.Shelf
attribute [local go_sem] Oper.semAt_some wide_fn
set_option linter.unusedVariables false

theorem members1_any (B : Nat) (y : Value) (xs : List Nat) (i : Nat) (s1 s2 : Value) (w : World) (ho : w.ownsRow B 3 1 y xs.length (i64C xs)) (hB : B ≤ w.heap.size) (hn : xs.length ≤ 1000) :
    Calls Tryz.prog 192 #[y, .int .i64 ((i : Nat) : Int), .agg #[s1, s2]] w fun e w' => (∃ v, e = .returned v ∧ w'.ownsRow B 3 1 v (xs ++ [i]).length (i64C (xs ++ [i]))) ∧ Below B w w' := by
  have hal : Below w.heap.size w (w.alloc (.cells #[s1, s2] 39)) := (Below.refl _ _).alloc (Nat.le_refl _) _
  have Ho := Lib.hid (own_below ho hal)
  have Hal := Lib.hid (hal.mono hB)
  have Hlt := Lib.hid ((own_below ho hal).lt)
  obtain ⟨ao, co, rfl⟩ := own_slice ho
  clear ho hal
  go_enter Tryz.func192, Tryz.ntmps192
  go_wp2_with (at_builtin; refine wpList_append_i64 rfl (.tmp 7) (.tmp 9) rfl rfl B _ _ xs rfl (Ho.out.alloc _) _ 1 _ [i] rfl (rd_block (heap_at_new _ _ _ (by simp)) rfl rfl) (by omega) (by simp; omega) ?_; intro v' w8 ho8 hg8)
  go_ret
  refine ⟨⟨v', rfl, ?_⟩, Below.grown (B := B) (Hal.out.alloc (by simp; omega) _) hg8 (by simp; omega) (fun k hk => (Hlt.out k hk).1)⟩
  rw [List.length_append]
  exact ho8

set_option maxRecDepth 20000 in
set_option maxHeartbeats 4000000 in
theorem foldMem_any (w0 w : World) (bk bt : Nat) (a : Option Addr) (m c t : Nat) (k : Kno) (hE : Frags w0 a m c k) (hG : ∀ f ∈ k, Good f.1 ∧ f.1.length ≤ 1000000) (hb0 : Below w0.heap.size w0 w) (hm : m ≤ 500)
    (hbk : w.heap[bk]? = some (.cells #[.slice a m c] 23)) (hbt : w.heap[bt]? = some (.cells #[.int .u64 t] 24)) :
    Calls Tryz.prog 191 #[.func (.func 193) #[] #[.pointer (some ⟨bk, 0, none⟩), .pointer (some ⟨bt, 0, none⟩)], .slice none 0 0, .func (.func 192) #[] #[]] w fun e w' =>
      (∃ y, e = .returned y ∧ w'.ownsRow w.heap.size 3 1 y (membersK k t).length (i64C (membersK k t))) ∧ Below w.heap.size w w' := by
  have Hml := Lib.hid (show (membersK k t).length ≤ 500 from by
    have := memTo_len k t k.length
    have h2 : membersK k t = memTo k t k.length := rfl
    rw [h2]
    have := hE.len
    omega)
  have hbkl := (Array.getElem?_eq_some_iff.1 hbk).1
  have hbtl := (Array.getElem?_eq_some_iff.1 hbt).1
  have hs0 := hb0.size
  refine (callsIn_wide (n := 3)).1 ?_
  refine callsIn_of_wp_marks Tryz.func191 rfl trivial ?_ rfl
  simp only [Tryz.ntmps191, List.size_toArray, List.length_cons, List.length_nil, Nat.reduceAdd, Nat.reduceSub, Array.replicate_succ, Array.replicate_zero, List.push_toArray, List.append_toArray, List.nil_append, List.cons_append]
  refine wpIn_wide.2 ?_
  go_wp2
  refine (wpIn_wide (n := 3)).1 ?_
  obtain ⟨C0, hC0⟩ : ∃ C0 : Obj, C0 = .cells #[.slice none 0 0] 29 := ⟨_, rfl⟩
  obtain ⟨C1, hC1⟩ : ∃ C1 : Obj, C1 = .cells #[.func (.func 192) #[] #[]] 246 := ⟨_, rfl⟩
  rw [← hC0, ← hC1]
  obtain ⟨wl, hwl⟩ : ∃ wl : World, wl = (w.alloc C0).alloc C1 := ⟨_, rfl⟩
  rw [← hwl]
  have hsz : wl.heap.size = w.heap.size + 2 := by rw [hwl]; simp
  have hbw : Below w.heap.size w wl := by
    rw [hwl]
    exact ((Below.refl _ w).alloc (Nat.le_refl _) C0).alloc (by simp) C1
  have e0 : wl.heap[w.heap.size]? = some C0 := by rw [hwl]; exact row_old (row_new rfl)
  have e1 : wl.heap[w.heap.size + 1]? = some C1 := by rw [hwl]; exact row_new (by simp)
  clear hwl
  refine wp_range (n := 3) (gf := 193) (lb := #[.pointer (some ⟨bk, 0, none⟩), .pointer (some ⟨bt, 0, none⟩)]) rfl (enters_of Tryz.func193 (by kernel_rfl) rfl)
    (with_seq (3 - 1) w0 wl bk bt a m c t k hE hG (hb0.trans (hbw.mono hs0)) hm ((hbw.block _ hbkl).trans hbk) ((hbw.block _ hbtl).trans hbt))
    (fun x => rfl) (fun k hk => hk.elim) (fun k hk => by omega)
    (fun pre W => Below w.heap.size w W ∧ W.heap[w.heap.size + 1]? = some C1 ∧ ∃ v, W.heap[w.heap.size]? = some (.cells #[v] 29) ∧ W.ownsRow (w.heap.size + 4) 3 1 v (pre.map (·.1)).length (i64C (pre.map (·.1))))
    (fun _ _ _ => False) ?hI (fun _ _ _ _ h _ => h) ⟨hbw, e1, .slice none 0 0, by rw [e0, hC0], World.ownsRow_nil ..⟩ ?round ?done ?stop
  case hI =>
    rintro s A B ⟨h4, h1, v, h2, h3⟩ hk
    have hs := h4.size
    exact ⟨h4.trans (hk.toBelow (fun k hk' => ⟨id, by omega, by omega⟩) (by omega)), (hk.row _ (Array.getElem?_eq_some_iff.1 h1).1 ⟨id, by omega, by omega⟩).trans h1, v, (hk.row _ (Array.getElem?_eq_some_iff.1 h2).1 ⟨id, by omega, by omega⟩).trans h2, own_same h3 (fun k hk1 hk2 => hk.row k hk2 ⟨id, by omega, by omega⟩)⟩
  case round =>
    rintro pre ⟨i, s1, s2⟩ W ⟨⟨rest, hV⟩, hsl⟩ ⟨h4, h1, y, h2, h3⟩ hsW
    obtain ⟨⟨a1, n1, z1, e1', -⟩, a2, n2, z2, e2', -⟩ := hsl (i, s1, s2) (by simp)
    simp only at e1' e2'
    subst e1' e2'
    clear hsl
    rw [hsz] at hsW ⊢
    have hlen : (pre.map (·.1)).length + 1 ≤ 500 := by
      have := Hml.out
      rw [hV, List.length_append, List.map_append, List.length_append] at this
      simp at this ⊢
      omega
    clear hsz hbw e0 e1 hC0 hV hE hG hbk hbt hb0
    simp only [wEnc]
    obtain ⟨q, hq⟩ : ∃ q : Nat, q = W.heap.size := ⟨_, rfl⟩
    gi_wp2
    refine ⟨(Kept.refl _ W).alloc _, fun W2 hk2 hs2 => ?_⟩
    try rw [World.size_alloc] at hs2
    have k1 : Kept (fun k => k ≠ w.heap.size + 2 + 1) W W2 := ((Kept.refl _ W).alloc _).trans hk2
    have b1 : W2.heap[w.heap.size + 1]? = some C1 := (k1.row _ (Array.getElem?_eq_some_iff.1 h1).1 (by omega)).trans h1
    have b2 : W2.heap[w.heap.size]? = some (.cells #[y] 29) := (k1.row _ (Array.getElem?_eq_some_iff.1 h2).1 (by omega)).trans h2
    have b4 : W2.heap[q]? = some (.cells #[.slice a1 n1 z1, .slice a2 n2 z2] 39) := by rw [hq]; exact (hk2.row _ (by simp) (by omega)).trans (row_new rfl)
    have B3 := Lib.hid (own_same h3 (fun k hk1 hk2 => k1.row k hk2 (by omega)))
    have B4 := Lib.hid (h4.trans (k1.toBelow (n := w.heap.size) (fun k hk' => by omega) h4.size))
    rw [← hq]
    have hB4 : w.heap.size + 4 ≤ W2.heap.size := by omega
    have Hb1 := Lib.hid b1; have Hb2 := Lib.hid b2
    rw [hC1] at b1
    have c0 := box_cell b1
    have c1 := box_cell b2
    have c2 : W2.cell? ⟨q, 0, none⟩ = some (.slice a1 n1 z1) := cells_cell (i := 0) b4 rfl
    have c3 : W2.cell? ⟨q, 1, none⟩ = some (.slice a2 n2 z2) := cells_cell (i := 1) b4 rfl
    have HC1 := Lib.hid hC1
    clear k1 hk2 hs2 h1 h2 h3 h4 b1 b2 b4 hq hsW hC1
    have hF := Lib.hid (members1_any (w.heap.size + 4) y (pre.map (·.1)) i (.slice a1 n1 z1) (.slice a2 n2 z2) W2 B3.out hB4 (by omega))
    gi_wp2_with fail
    refine (CallsIn.inRound _ (callsIn_wide.2 hF.out)).mono ?_
    rintro e w3 ⟨⟨v, rfl, ho3⟩, hb3⟩
    have d2 := (hb3.block _ (by omega)).trans Hb2.out
    have d1 := (hb3.block _ (by omega)).trans Hb1.out
    have q5 := box_cell d2
    have q6 := box_frozen d2
    have Hd2 := Lib.hid d2; have Hd1 := Lib.hid d1; have Ho3 := Lib.hid ho3; have Hb3 := Lib.hid hb3
    obtain ⟨av, cv, rfl⟩ := own_slice ho3
    clear c0 c1 c2 c3 d1 d2 ho3 hb3
    gi_wp2
    refine ⟨?_, ?_, ?_, _, box_set Hd2.out, ?_⟩
    · exact ((kept_of_below Hb3.out).mono (fun k _ hk => by omega)).setCell (fun _ => by simp only; omega) _
    · exact (B4.out.trans (Hb3.out.mono (by omega))).setCell (Nat.le_refl _) _
    · have h := Hd1.out
      rw [HC1.out] at h
      exact (Below.heap_setCell _ _ _ _ (by simp)).trans h
    · have h := own_same Ho3.out (w' := w3.setCell ⟨w.heap.size, 0, none⟩ (.slice av (pre.map (·.1) ++ [i]).length cv)) (fun k hk1 hk2 => Below.heap_setCell _ _ _ _ (by simp only; omega))
      simpa using h
  case done =>
    rintro ps W ⟨hS, -⟩ ⟨h4, h1, y, h2, h3⟩ hK
    have q1 := box_cell h2
    rw [← hS] at h3
    have H3 := Lib.hid h3; have H4 := Lib.hid h4
    clear h1 h2 h3 h4 e0 e1 hS
    gi_wp2
    go_wp2
    refine ⟨by simp, .inl ⟨_, _, rfl, run_takeDeferred hK, ?_⟩⟩
    refine ⟨_, results_tmp rfl _ _ _, ⟨y, rfl, ?_⟩, ?_⟩
    · refine own_mono (own_same H3.out (fun k hk1 hk2 => World.putObj_heap_other (by omega))) (by omega)
    · exact (Kept.refl (fun k => k < w.heap.size) W).putObj (fun _ h => by have h' : wl.heap.size < w.heap.size := h; omega) _ |>.toBelow (fun _ h => h) H4.out.size |> H4.out.trans
  case stop =>
    rintro c pre W hV h
    exact h.elim

theorem scoMembers_any (a : Option Addr) (m c t : Nat) (k : Kno) (w : World) (hE : Frags w a m c k) (hG : ∀ f ∈ k, Good f.1 ∧ f.1.length ≤ 1000000) (hm : m ≤ 500) :
    Calls Tryz.prog 157 #[.slice a m c, .int .u64 t] w fun e w' =>
      (∃ y, e = .returned y ∧ w'.ownsRow w.heap.size 3 1 y (membersK k t).length (i64C (membersK k t))) ∧ Below w.heap.size w w' := by
  have hal : Below w.heap.size w ((w.alloc (.cells #[.slice a m c] 23)).alloc (.cells #[.int .u64 t] 24)) := ((Below.refl _ _).alloc (Nat.le_refl _) _).alloc (by simp) _
  have hC := Lib.hid (foldMem_any w ((w.alloc (.cells #[.slice a m c] 23)).alloc (.cells #[.int .u64 t] 24)) w.heap.size (w.heap.size + 1) a m c t k hE hG hal hm (row_old (row_new rfl)) (row_new (by simp)))
  have Hal := Lib.hid hal
  clear hE hG hal
  go_enter Tryz.func157, Tryz.ntmps157
  go_wp2_with fail
  refine (with_any a m c t _).mono ?_
  rintro e w1 ⟨rfl, rfl⟩
  go_wp2_with fail
  refine hC.out.mono ?_
  rintro e w2 ⟨⟨y, rfl, ho⟩, hb⟩
  have Ho := Lib.hid ho; have Hb := Lib.hid hb
  clear ho hb
  go_wp2
  go_ret
  exact ⟨⟨y, rfl, own_mono Ho.out Hal.out.size⟩, Hal.out.trans (Hb.out.mono Hal.out.size)⟩

end Go.Proofs.YtkkdlgcfcbaibaaGreatDoor
end

section
namespace Go.Proofs.YtkkdlgcfcbaibaaGreatDoor
open Go.RowKit
set_option linter.unusedVariables false

/-- The order of the numbers, and how a number lies in a cell. -/
def ltU (x y : Nat) : Bool := decide (x < y)
abbrev encU : Nat → Value := fun x => Value.int .u64 (x : Int)

theorem swoU : Sort.SWO ltU := by
  constructor
  all_goals (intros; simp only [ltU, decide_eq_true_eq, decide_eq_false_iff_not] at *; try omega)

theorem nanU_any (x : Nat) (w : World) : Calls Tryz.prog 74 #[.int .u64 (x : Int)] w fun e w' => e = .returned (.bool false) ∧ w' = w := by
  go_enter Tryz.func74, Tryz.ntmps74
  go_wp2
  go_ret
  exact ⟨by simp, rfl⟩

theorem lessU_any (x y : Nat) (w : World) : Calls Tryz.prog 224 #[.int .u64 (x : Int), .int .u64 (y : Int)] w fun e w' => e = .returned (.bool (ltU x y)) ∧ w' = w := by
  go_enter Tryz.func224, Tryz.ntmps224
  go_wp2_with (go_at_call 74; refine (nanU_any _ _).mono ?_; rintro e w' ⟨rfl, rfl⟩)
  go_ret
  exact ⟨by simp [ltU], rfl⟩

/-- The families of the row's cells. -/
structure CellsU (w : World) (g o : Nat) (d : Array Nat) (n : Nat) (G : Nat → Nat) : Prop where
  cell : ∀ t, t < n → w.cell? ⟨g, o + t, none⟩ = some (.int .u64 (G t : Int))
  froz : ∀ t, t < n → w.frozen? ⟨g, o + t, none⟩ = false
  val : ∀ t, G t = d[t]!

theorem cellsU {w : World} {g o n : Nat} {d : Array Nat} (h : Sort.Holds encU w g o d) (hn : d.size = n) : ∃ G, CellsU w g o d n G :=
  ⟨fun t => d[t]!, fun t ht => (h t (by omega)).1, fun t ht => (h t (by omega)).2, fun t => rfl⟩

theorem holdsU {w wr : World} {g o n : Nat} {d dk : Array Nat} (h : Sort.Holds encU w g o d) (hs : dk.size = d.size) (hw : wr = Sort.putRow encU (Sort.ahead w n) g o dk) : Sort.Holds encU wr g o dk := by
  rw [hw]
  exact Sort.holds_putRow encU _ g o d dk (Sort.holds_ahead encU w n g o d h) hs

/-- Behind q draws and a swap. -/
theorem swapU {w wr : World} {g o m : Nat} {dk : Array Nat} (hw : wr = Sort.putRow encU (Sort.ahead w m) g o dk) (q i j : Nat) (hi : i < dk.size) (hj : j < dk.size) :
    (((wr.drewN q).setCell ⟨g, o + i, none⟩ (encU dk[j]!)).setCell ⟨g, o + j, none⟩ (encU dk[i]!)) = Sort.putRow encU (Sort.ahead w (m + q)) g o (Sort.swp dk i j) := by
  subst hw
  exact swap_worldA encU w m q g o dk i j hi hj

end Go.Proofs.YtkkdlgcfcbaibaaGreatDoor
end
