/- Walks and laws, joined: La24. -/
import Derived.Maps.Own
import Derived.Maps.OwnOps
import Derived.Maps.OwnSet
import Derived.Maps.RangeWalk
import Derived.Maps.Ext
import Derived.LoopN
import Derived.Sort.WalkA
import Derived.Sort.WalkA6
import Derived.Sort.WalkB3
import Derived.Sort.WalkC4
import Derived.Sort.WalkD2
import Derived.Sort.Walk7
import Derived.Sort.Walk11
import Derived.Sort.Walk13
import Derived.Sort.WalkA14
import Derived.Sort.AssemblyPlain
import Derived.Deep.DeepCutAuto
import Derived.Deep.CutBlock
import Derived.BigRegion
import Derived.Test.YtkkdlgcfcbaibaaGreatDoorLa11
import Derived.Test.YtkkdlgcfcbaibaaGreatDoorLa10
import Derived.Test.YtkkdlgcfcbaibaaGreatDoorLa07
import Derived.Test.YtkkdlgcfcbaibaaGreatDoorLa14
import Derived.Test.YtkkdlgcfcbaibaaGreatDoorLa01
import Derived.Test.YtkkdlgcfcbaibaaGreatDoorLa04
set_option linter.unusedVariables false
namespace Go.Proofs.YtkkdlgcfcbaibaaGreatDoor
section
open Go.RowKit Go.Maps
def zP : Value := .agg #[.slice none 0 0, .slice none 0 0]
def isSl : Value → Bool
 | .slice _ _ _ => true
 | _ => false
def twoSl : List Value → Bool
 | [x, y] => isSl x && isSl y
 | _ => false
def isP : Value → Bool
 | .agg cs => twoSl cs.toList
 | _ => false
def rP (v : Value) : Option (DataW Value × List MemPlace) := if isP v = true then some (.held v, []) else none
theorem rP_mk (a : Option Addr) (n c : Nat) (a' : Option Addr) (n' c' : Nat) : rP (.agg #[.slice a n c, .slice a' n' c']) = some (.held (.agg #[.slice a n c, .slice a' n' c']), []) := rfl
theorem rP_held {v u : Value} {ps : List MemPlace} (h : rP v = some (.held u, ps)) : v = u := by
 unfold rP at h
 split at h
 · simp at h; exact h.1
 · cases h
theorem wfU {x : Nat} (h : x < 18446744073709551616) : (Lit.int .u64 (x : Int)).wf = true := by
 simp [Lit.wf, IntKind.min, IntKind.max, IntKind.signed, IntKind.bits]
 omega
theorem u64_bd {n : Int} (h : (Lit.int .u64 n).wf = true) : ∃ x : Nat, n = (x : Int) ∧ x < 18446744073709551616 := by
 simp [Lit.wf, IntKind.min, IntKind.max, IntKind.signed, IntKind.bits] at h
 exact ⟨n.toNat, by omega, by omega⟩
theorem keyU : Maps.Keyed Tryz.prog 24 := int_keyed Tryz.underlying24
theorem keyOfU {x : Nat} (h : x < 18446744073709551616) : keyOf Tryz.prog 24 (.int .u64 (x : Int)) = some (.int .u64 (x : Int)) := keyOf_int_mk Tryz.underlying24 (wfU h)
theorem zeroP (w : World) : (zeroValue 271).run Tryz.prog w = .ok zP w := by kernel_rfl
theorem wpList_lookup_P {w : World} {ops : Array Oper} {rest : List Oper} {o : Oper} {a : Act} {Q : Exit → Act → World → Prop} (hg : o.guard = none) (m x : Operand) (t : TypeId) (hop : o.op = Op.lookup t m x false)
 (ht : Tryz.prog.underlying t = some (.map 24 271)) (b n : Nat) (D : DataW Value) (hm : a.eval m = .map (some b)) (hown : w.ownsMap Tryz.prog 24 rP b n D)
 (r : Nat) (hr : r < 18446744073709551616) (hx : a.eval x = .int .u64 (r : Int)) (u : Value) (hat : D.atKey (.int .u64 (r : Int)) (.held zP) = .held u)
 (h : wpList Tryz.prog ops Q rest (a.put o.dst u) w) : wpList Tryz.prog ops Q (o :: rest) a w := by
 refine wpList_plain hg fun K' hK' => ?_
 obtain ⟨v, ps, hrun, hv⟩ := hown.lookup keyU ht (zeroP w) (zd := .held zP) (zp := []) rfl (keyOfU hr)
 rw [hat] at hv
 obtain rfl := rP_held hv
 unfold Oper.wp
 simp [execOp, hop, hm, hx, hrun, Result.andThen]
 exact hK' _ _ h
structure PairS (w : World) (base B n : Nat) (D : DataW Value) (S : List Nat) (G1 G2 : Nat → List Iv) : Prop where
 own : w.ownsMap Tryz.prog 24 rP B n D
 keys : ∀ r : Nat, Maps.has D (.int .u64 (r : Int)) = decide (r ∈ S)
 vals : ∀ r : Nat, ∃ a n c a' n' c', D.atKey (.int .u64 (r : Int)) (.held zP) = .held (.agg #[.slice a n c, .slice a' n' c']) ∧ IvsT w base a n c (G1 r) ∧ IvsT w base a' n' c' (G2 r)
theorem ivsT_nil (w : World) (base : Nat) : IvsT w base none 0 0 [] := ⟨ivs_nil w, fun h => by omega⟩
theorem PairS.start (w : World) (base : Nat) : PairS (w.alloc (.map #[] 0)) base w.heap.size 0 (.map []) [] (fun _ => []) (fun _ => []) :=
 ⟨World.ownsMap_made _ _ _ _, fun r => rfl, fun r => ⟨none, 0, 0, none, 0, 0, rfl, ivsT_nil _ _, ivsT_nil _ _⟩⟩
theorem PairS.steady {w w' : World} {base B n : Nat} {D : DataW Value} {S : List Nat} {G1 G2 : Nat → List Iv} (h : PairS w base B n D S G1 G2) (hs : Steady base isIvT w w') (hm : w'.ownsMap Tryz.prog 24 rP B n D) : PairS w' base B n D S G1 G2 :=
 ⟨hm, h.keys, fun r => by
  obtain ⟨a, n, c, a', n', c', h1, h2, h3⟩ := h.vals r
  exact ⟨a, n, c, a', n', c', h1, h2.steady hs rfl, h3.steady hs rfl⟩⟩
theorem litU_inj {r x : Nat} (h : r ≠ x) : Lit.int .u64 (r : Int) ≠ Lit.int .u64 (x : Int) := fun e => h (by cases e; rfl)
theorem PairS.put {w w' : World} {base B n m r : Nat} {D : DataW Value} {S : List Nat} {G1 G2 : Nat → List Iv} (h : PairS w base B n D S G1 G2) (hs : Steady base isIvT w w') {a : Option Addr} {k c : Nat} {a' : Option Addr} {k' c' : Nat} {L L' : List Iv}
 (h1 : IvsT w' base a k c L) (h2 : IvsT w' base a' k' c' L') (hown : w'.ownsMap Tryz.prog 24 rP B m (D.put (.int .u64 (r : Int)) (.held (.agg #[.slice a k c, .slice a' k' c'])))) :
 PairS w' base B m (D.put (.int .u64 (r : Int)) (.held (.agg #[.slice a k c, .slice a' k' c']))) (S ++ [r]) (fun x => if x = r then L else G1 x) (fun x => if x = r then L' else G2 x) := by
 have hI := h.own.isMap
 have hk : ∀ x : Nat, WideAt.IsKeyLit (.int .u64 (x : Int)) := fun _ => trivial
 refine ⟨hown, fun x => ?_, fun x => ?_⟩
 · by_cases e : x = r
   · subst e; rw [has_put_same hI (hk _)]; simp
   · rw [has_put_other (litU_inj e), h.keys x]; simp [e]
 · by_cases e : x = r
   · subst e
     exact ⟨a, k, c, a', k', c', atKey_put_same hI (hk _) _ _, by simpa using h1, by simpa using h2⟩
   · obtain ⟨a1, n1, c1, a2, n2, c2, h3, h4, h5⟩ := h.vals x
     exact ⟨a1, n1, c1, a2, n2, c2, by rw [atKey_put_other (litU_inj e)]; exact h3, by simpa [e] using h4.steady hs rfl, by simpa [e] using h5.steady hs rfl⟩
theorem PairS.congr {w : World} {base B n : Nat} {D : DataW Value} {S S' : List Nat} {G1 G2 G1' G2' : Nat → List Iv} (h : PairS w base B n D S G1 G2) (hS : ∀ r, r ∈ S ↔ r ∈ S') (h1 : ∀ r, G1 r = G1' r) (h2 : ∀ r, G2 r = G2' r) : PairS w base B n D S' G1' G2' :=
 ⟨h.own, fun r => by rw [h.keys r]; simp [hS r], fun r => by rw [← h1, ← h2]; exact h.vals r⟩
theorem steady_map {w w' : World} {base B n : Nat} {D : DataW Value} (h : w.ownsMap Tryz.prog 24 rP B n D) (hB : base ≤ B) (hg : w.grownBy w' (some B)) (P : TypeId → Prop) : Steady base P w w' := by
 obtain ⟨es, clock, hb, -⟩ := h
 refine ⟨hg.size, fun k hk hp => hg.block k hk fun e => ?_⟩
 cases e
 rcases hp with h' | ⟨C, T, fr, hT, h'⟩
 · omega
 · rw [hb] at h'; cases h'
theorem grown_of_below {w w' : World} (h : Below w.heap.size w w') : w.grownBy w' none := ⟨h.os, h.tape, h.output, h.size, fun k hk _ => h.block k hk⟩
theorem knownAt_take {v : Vec} (hA : v.Pairwise RepLt) {j : Nat} (hj : j < v.length) (r : Nat) : knownAt (v.take (j + 1)) r = if r = (nthE v j).1 then knownL (nthE v j) else knownAt (v.take j) r := by
 have hs : v.take (j + 1) = v.take j ++ [nthE v j] := by rw [List.take_succ_eq_append_getElem hj, nthE_get hj]
 unfold knownAt
 rw [hs, List.find?_append]
 by_cases e : r = (nthE v j).1
 · have hn : (v.take j).find? (fun e => decide (e.1 = r)) = none := by
    rw [List.find?_eq_none]
    intro x hx
    obtain ⟨i, hi, rfl⟩ := List.getElem_of_mem hx
    rw [List.length_take] at hi
    have := List.pairwise_iff_getElem.1 hA i j (by omega) hj (by omega)
    rw [List.getElem_take]
    rw [nthE_get hj] at e
    have h2 : (v[i]'(by omega)).1 < v[j].1 := this
    simp only [decide_eq_true_eq]
    omega
   rw [hn, if_pos e]
   simp [e]
 · rw [if_neg e]
   have h2 : [nthE v j].find? (fun e => decide (e.1 = r)) = none := by
    rw [List.find?_eq_none]
    intro x hx
    rw [List.mem_singleton] at hx
    subst hx
    simp only [decide_eq_true_eq]
    omega
   rw [h2]
   cases (v.take j).find? (fun e => decide (e.1 = r)) <;> rfl
theorem reps_take {v : Vec} {j : Nat} (hj : j < v.length) : (v.take (j + 1)).map (·.1) = (v.take j).map (·.1) ++ [(nthE v j).1] := by
 rw [List.take_succ_eq_append_getElem hj, nthE_get hj, List.map_append]; rfl
theorem wpList_index_sl {P : Program} {w : World} {ops : Array Oper} {rest : List Oper} {o : Oper} {a : Act} {Q : Exit → Act → World → Prop} (ty : TypeId) (x ix : Operand)
 (ho : o.op = .index ty x ix) (hg : o.guard = none) (cs : Array Value) (k len : Nat) (e e' : TypeId) (v : Value)
 (hx : a.eval x = .agg cs) (hix : a.eval ix = .int .i64 (k : Int)) (hu : P.underlying ty = some (.array len e)) (hk : k < len) (he : P.underlying e = some (.slice e')) (hi : (P.info? e).map (·.size) = some 1)
 (hv : cs[k]? = some v) (h : wpList P ops Q rest (a.put o.dst v) w) : wpList P ops Q (o :: rest) a w := by
 refine wpList_plain hg fun K hK => ?_
 cases hq : P.info? e with
 | none => simp [hq] at hi
 | some i =>
  have hsz : i.size = 1 := by simpa [hq] using hi
  unfold Oper.wp execOp
  simp only [ho, hx, hix, Instr.index, asIntOf, Sem.run_bind, Sem.run_pure, Result.andThen_ok, run_underlying hu]
  have hk' : 0 ≤ (k : Int) ∧ (k : Int) < (len : Int) := ⟨by omega, by omega⟩
  simp [Sem.run_bind, part, isAgg, sizeOf, typeInfo, run_underlying he, hq, hsz, hv, hk']
  exact hK _ _ h
theorem sizeVec : (Tryz.prog.info? 37).map (·.size) = some 1 := by kernel_rfl
theorem sizeRng : (Tryz.prog.info? 28).map (·.size) = some 1 := by kernel_rfl
theorem wpList_next_U {H : Type} {w : World} {ops : Array Oper} {rest : List Oper} {o : Oper} {a : Act} {Q : Exit → Act → World → Prop} (hg : o.guard = none) (it : Operand) (hop : o.op = Op.next it false) (R : Value → Option (DataW H × List MemPlace))
 (b r n : Nat) (D : DataW H) (left : Lit → Bool) (cnt : Nat) (hit : a.eval it = .pointer (some ⟨r, 0, none⟩)) (h : w.ranges Tryz.prog 24 R b r n D left cnt)
 (hDone : (∀ kl, left kl = false) → wpList Tryz.prog ops Q rest (a.put o.dst (.tuple #[.bool false])) w)
 (hMore : ∀ (x : Nat) (u : Value) (w' : World) (cnt' : Nat), x < 18446744073709551616 → left (.int .u64 (x : Int)) = true → Maps.has D (.int .u64 (x : Int)) = true →
   w'.ranges Tryz.prog 24 R b r n D (fun z => left z && !z.sameKey (.int .u64 (x : Int))) cnt' → cnt' < cnt → w.grownBy w' (some r) → w'.heap.size = w.heap.size →
   (Instr.entry (.pointer (some ⟨r, 0, none⟩))).run Tryz.prog w' = .ok (.tuple #[.int .u64 (x : Int), u]) w' → wpList Tryz.prog ops Q rest (a.put o.dst (.tuple #[.bool true, .int .u64 (x : Int), u])) w') :
 wpList Tryz.prog ops Q (o :: rest) a w := by
 refine wpList_plain hg fun K' hK' => ?_
 unfold Oper.wp
 rcases h.next keyU o.type with ⟨h0, hl, hrun⟩ | ⟨key, v, kl, y, w', cnt', hkey, hlk, hv, hat, hrun, hrg, hlt, hgr, hsz, hen⟩
 · simp [execOp, hop, hit, hrun, Result.andThen]
   exact hK' _ _ (hDone hl)
 · obtain ⟨x, rfl, rfl, hwx⟩ := Maps.keyOf_int_inv Tryz.underlying24 hkey
   obtain ⟨x, rfl, hx⟩ := u64_bd hwx
   simp [execOp, hop, hit, hrun, Result.andThen]
   exact hK' _ _ (hMore x v w' cnt' hx hlk (has_true_of_atKey hat) hrg hlt hgr hsz hen)
theorem steady_kept {p : Nat → Prop} {base : Nat} {P : TypeId → Prop} {w w' : World} (h : Kept p w w') (hp : ∀ k, k < w.heap.size → (k < base ∨ ∃ C T fr, P T ∧ w.heap[k]? = some (.cells C T fr)) → p k) : Steady base P w w' :=
 ⟨h.size, fun k hk h2 => h.row k hk (hp k hk h2)⟩
theorem knownAt_good {v : Vec} (hl : LtV v) (r : Nat) : Good (knownAt v r) := by
 unfold knownAt
 split
 · rename_i e he
   exact (knownL_good (hl e (List.mem_of_find?_eq_some he))).1
 · trivial
theorem ranges_same {H : Type} {P : Program} {k : TypeId} {R : Value → Option (DataW H × List MemPlace)} {w w' : World} {b r n : Nat} {D : DataW H} {left : Lit → Bool} {cnt : Nat} (h : w.ranges P k R b r n D left cnt)
 (hb : w'.heap[b]? = w.heap[b]?) (hr : w'.heap[r]? = w.heap[r]?) : w'.ranges P k R b r n D left cnt := by
 obtain ⟨es, clock, since, seen, c0, h1, h2, h3, h4, h5, h6⟩ := h
 exact ⟨es, clock, since, seen, c0, hb.trans h1, h2, h3, h4, hr.trans h5, h6⟩
def PairRes (w : World) (va vb : Vec) (e : Ending) (w' : World) : Prop := ∃ B D, e = .returned (.map (some B)) ∧ w.heap.size ≤ B ∧ PairS w' w.heap.size B 1000 D (repsV va vb) (knownAt va) (knownAt vb)
set_option maxRecDepth 100000 in
set_option maxHeartbeats 8000000 in
theorem pair_any (a b : Option Addr) (n c m d : Nat) (va vb : Vec) (w : World) (hA : Ents w a n c va) (hB : Ents w b m d vb) (fa : VecFits va) (fb : VecFits vb) (ca : ckV va = none) (cb : ckV vb = none) :
 Calls Tryz.prog 210 #[.slice a n c, .slice b m d] w fun e w' => PairRes w va vb e w' ∧ Below w.heap.size w w' := by
 have HA := Lib.hid hA; have HB := Lib.hid hB
 have Hla := Lib.hid hA.len; have Hlb := Lib.hid hB.len
 have hn3 : n ≤ 300 := by rw [← hA.len]; exact fa.len
 have hm3 : m ≤ 300 := by rw [← hB.len]; exact fb.len
 have HFa := Lib.hid fa; have HFb := Lib.hid fb
 have HCa := Lib.hid (ckV_none.1 ca); have HCb := Lib.hid (ckV_none.1 cb)
 have hmm := @run_makeMap Tryz.prog
 obtain ⟨B, hBe⟩ : ∃ B, B = w.heap.size := ⟨_, rfl⟩
 have HBe := Lib.hid hBe
 have Hst := Lib.hid (show PairS (w.alloc (.map #[] 0)) B B 0 (.map []) ((va.take 0).map (·.1)) (knownAt (va.take 0)) (fun _ => []) from by
  rw [hBe]; exact PairS.start w w.heap.size)
 have Hb0 := Lib.hid (show Below B w (w.alloc (.map #[] 0)) from by rw [hBe]; exact (Below.refl _ _).alloc (Nat.le_refl _) _)
 clear hA hB fa fb ca cb
 go_enter Tryz.func210, Tryz.ntmps210
 go_wp2
 rw [← hBe]
 clear hBe
 generalize w.alloc (.map #[] 0) = wm at *
 refine wp_loop_rounds 3 ?_
 rw [rounds_succ]
 go_wp2_with (refine wpList_index_sl _ _ _ rfl rfl _ 0 2 37 71 _ rfl rfl Tryz.underlying282 (by omega) Tryz.underlying37 sizeVec rfl ?_)
 go_loopw [9, 10, 21] (fun _ _ j wr => ∃ k : Nat, k ≤ n ∧ j = .int .i64 k ∧ Hid (Below B w wr ∧ ∃ D, PairS wr B B (k) D ( (va.take k).map (·.1)) (knownAt (va.take k)) (fun _ => []))) (fun _ _ j _ => n - (intOf j).toNat)
 case atStart => exact ⟨0, by omega, rfl, Hb0.out, _, Hst.out⟩
 case round =>
  obtain ⟨k, hk, rfl, hinv⟩ := hrel
  obtain ⟨hb, D, hP⟩ := hinv.out
  by_cases hkn : k < n
  · have hkv : k < va.length := by rw [Hla.out]; exact hkn
    have HEr := Lib.hid (HA.out.below (by rw [← HBe.out]; exact hb))
    obtain ⟨bb, oo, rfl⟩ := HEr.out.some (by omega)
    have hlt := HA.out.lt (nthE va k) (nthE_mem hkv)
    have hho := HFa.out.holes (nthE va k) (nthE_mem hkv)
    have hgd := (ckE_none.1 (HCa.out.2 (nthE va k) (nthE_mem hkv))).1
    have Hrep := Lib.hid (reps_take (v := va) hkv)
    have Hkat := Lib.hid (knownAt_take HCa.out.1 hkv)
    obtain ⟨x, l, cc, hq⟩ := HEr.out.fix hkn
    obtain ⟨q1, q2, q3, q4⟩ := hq _ (Below.refl _ _)
    obtain ⟨a1, n1, c1, a2, n2, c2, hat, hi1, hi2⟩ := hP.vals (nthE va k).1
    generalize he : nthE va k = e at *
    obtain ⟨er, em, eh⟩ := e
    simp only at q1 q2 q3 hat hi1 hi2 hlt
    obtain ⟨A1, hA1⟩ : ∃ A1, A1 = wr.alloc (.cells #[.int .u64 er, .int .u64 em, .slice x l cc] 71) := ⟨_, rfl⟩
    have hal1 : Below wr.heap.size wr A1 := by rw [hA1]; exact (Below.refl _ _).alloc (Nat.le_refl _) _
    have hs1 : A1.heap.size = wr.heap.size + 1 := by rw [hA1]; simp
    obtain ⟨A2, hA2⟩ : ∃ A2, A2 = A1.alloc (.cells #[.slice a1 n1 c1, .slice a2 n2 c2] 271) := ⟨_, rfl⟩
    have hal2 : Below A1.heap.size A1 A2 := by rw [hA2]; exact (Below.refl _ _).alloc (Nat.le_refl _) _
    have hs2 : A2.heap.size = wr.heap.size + 2 := by rw [hA2]; simp [hs1]
    have hal : Below wr.heap.size wr A2 := hal1.trans (hal2.mono (by omega))
    have hr1 : A1.heap[wr.heap.size]? = some (.cells #[.int .u64 er, .int .u64 em, .slice x l cc] 71) := by rw [hA1]; exact row_new rfl
    have hr2 : A2.heap[wr.heap.size + 1]? = some (.cells #[.slice a1 n1 c1, .slice a2 n2 c2] 271) := by rw [hA2]; exact row_new hs1.symm
    have hr1' : A2.heap[wr.heap.size]? = some (.cells #[.int .u64 er, .int .u64 em, .slice x l cc] 71) := (hal2.block _ (by omega)).trans hr1
    have hC := Lib.hid (known_any (er, em, eh) x l cc A2 (q4.below hal) hgd hlt.max (by have := hho; simp only at this ⊢; omega))
    have Hm1 := Lib.hid (hP.own.kept (grown_of_below hal1) (by simp))
    have hm2 := hP.own.kept (grown_of_below hal) (by simp)
    have HP := Lib.hid hP; have Hb := Lib.hid hb
    have Hlt := Lib.hid hlt
    have hrep64 := hlt.rep
    have Hi1 := Lib.hid hi1; have Hi2 := Lib.hid hi2
    have Hr1 := Lib.hid hr1'; have Hr2 := Lib.hid hr2; have Hs1 := Lib.hid hs1; have Hs2 := Lib.hid hs2; have Hal := Lib.hid hal; have Hm2 := Lib.hid hm2
    have y0 := cells_cell (i := 0) hr1 rfl
    have y1 := cells_cell (i := 1) hr1 rfl
    have y2 := cells_cell (i := 2) hr1 rfl
    have z0 := cells_cell (i := 0) hr1' rfl
    have z1 := cells_cell (i := 1) hr1' rfl
    have z2 := cells_cell (i := 2) hr1' rfl
    clear hinv hb hP hq q4 hlt hho hgd hi1 hi2 hal1 hal2 hal hr1 hr2 hr1' hm2 hs1 hs2 he
    subst hA2 hA1
    have h0 : (0 : Int) ≤ k := by omega
    have h04 : (k : Int) < (n : Int) := by omega
    go_wp2_with (at_lookup; refine wpList_lookup_P rfl _ _ _ rfl Tryz.underlying266 B _ D rfl Hm1.out er hrep64 rfl _ hat ?_)
    refine hC.out.mono ?_
    rintro e w3 ⟨⟨v3, rfl, ho3⟩, hb3⟩
    clear y0 y1 y2 z0 z1 z2 q1 q2 q3
    obtain ⟨a3, c3, rfl, hi3⟩ := ivsT_own (base' := B) ho3 (knownL_good Hlt.out).2.2
    have R1 := (hb3.block _ (by have := Hs2.out; omega)).trans Hr1.out
    have R2 := (hb3.block _ (by have := Hs2.out; omega)).trans Hr2.out
    have y0 := cells_cell (i := 0) R1 rfl
    have y1 := cells_cell (i := 1) R1 rfl
    have y2 := cells_cell (i := 2) R1 rfl
    have z0 := cells_cell (i := 0) R2 rfl
    have z1 := cells_cell (i := 1) R2 rfl
    have f0 : w3.frozen? ⟨wr.heap.size + 1, 0, none⟩ = false := by simp [World.frozen?, R2]
    have f1 : w3.frozen? ⟨wr.heap.size + 1, 1, none⟩ = false := by simp [World.frozen?, R2]
    have hBwr : B ≤ wr.heap.size := by have := Hb.out.size; have := HBe.out; omega
    have Hst3 := Lib.hid ((Steady.of_below (base := B) (P := isIvT) (Hal.out.trans (hb3.mono Hal.out.size))).trans (Steady.setCell (a := ⟨wr.heap.size + 1, 0, none⟩) (u := .slice a3 (knownL (er, em, eh)).length c3) R2 (by simp only; omega) (by intro h; cases h)))
    have HmB : B < wr.heap.size := HP.out.own.lt
    have Hm4 := Lib.hid (((Hm2.out.kept (grown_of_below hb3) (by simp)).setCell (a := ⟨wr.heap.size + 1, 0, none⟩) (by simp only; omega) (.slice a3 (knownL (er, em, eh)).length c3)))
    have Hb4 := Lib.hid (((Hb.out.trans ((Hal.out.trans (hb3.mono Hal.out.size)).mono hBwr)).setCell (p := ⟨wr.heap.size + 1, 0, none⟩) (by simp only; omega) (.slice a3 (knownL (er, em, eh)).length c3)))
    have Hi3 := Lib.hid (hi3.steady (Steady.setCell (P := isIvT) (a := ⟨wr.heap.size + 1, 0, none⟩) (u := .slice a3 (knownL (er, em, eh)).length c3) R2 (by simp only; omega) (by intro h; cases h)) rfl)
    have q0 : (w3.setCell ⟨wr.heap.size + 1, 0, none⟩ (.slice a3 (knownL (er, em, eh)).length c3)).cell? ⟨wr.heap.size, 0, none⟩ = some (.int .u64 er) := (World.cell?_of_block (Below.heap_setCell _ _ _ _ (by simp))).trans y0
    generalize hL : knownL (er, em, eh) = L at *
    have HL := Lib.hid hL
    clear hL R1 R2 hb3 ho3 hi3 hC hat
    go_wp2_with (at_mapUpdate; refine wpList_mapUpdate_own _ rfl _ _ _ 266 rfl 24 271 keyU Tryz.underlying266 rP B _ D rfl Hm4.out (by unfold maxLen; omega) _ _ _ rfl rfl (keyOfU hrep64) _ [] (rP_mk _ _ _ _ _ _) ?_; intro w5 ho5 hg5)
    have Hb5 := Lib.hid (Hb4.out.grown hg5 (by have := Hm4.out.lt; omega) (fun k hk => by cases hk; exact Nat.le_refl _))
    have hsm := steady_map Hm4.out (Nat.le_refl _) hg5 isIvT
    have st := Hst3.out.trans hsm
    have H5 := Lib.hid ((HP.out.put st (Hi3.out.steady hsm rfl) (Hi2.out.steady st rfl) ho5).congr (S' :=  (va.take (k + 1)).map (·.1)) (G1' := knownAt (va.take (k + 1))) (G2' := fun _ => []) (fun r => by rw [Hrep.out]) (fun r => (Hkat.out r).symm) (fun r => by split <;> rfl))
    clear hsm st ho5 hg5
    go_roundw
    case rel => exact ⟨k + 1, by omega, by go_num, Hb5.out, _, H5.out⟩
    case measure => simp [intOf]; omega
  · obtain rfl : k = n := by omega
    have Hb1 := Lib.hid hb
    have hall : va.take k = va := List.take_of_length_le (by rw [Hla.out]; exact Nat.le_refl _)
    rw [hall] at hP
    clear hall hinv hb hkn
    have HS1 := Lib.hid (show PairS wr B B (k + 0) D (va.map (·.1) ++ (vb.take 0).map (·.1)) (knownAt va) (knownAt (vb.take 0)) from hP.congr (fun r => by simp) (fun r => rfl) (fun r => rfl))
    clear hP Hst Hb0
    generalize wr = wm at *
    go_wp2
    rw [rounds_succ]
    obtain ⟨k0, hk0⟩ : ∃ k0 : Nat, k0 = k := ⟨_, rfl⟩
    rw [← hk0] at HS1
    have HK0 := Lib.hid hk0
    have hk0n : k0 ≤ 300 := by omega
    clear hk0
    go_wp2_with (refine wpList_index_sl _ _ _ rfl rfl _ 1 2 37 71 _ rfl rfl Tryz.underlying282 (by omega) Tryz.underlying37 sizeVec rfl ?_)
    go_loopw [9, 10, 21] (fun _ _ j wr => ∃ k : Nat, k ≤ m ∧ j = .int .i64 k ∧ Hid (Below B w wr ∧ ∃ D, PairS wr B B (k0 + k) D (va.map (·.1) ++ (vb.take k).map (·.1)) (knownAt va) (knownAt (vb.take k)))) (fun _ _ j _ => m - (intOf j).toNat)
    case atStart => exact ⟨0, by omega, rfl, Hb1.out, D, HS1.out⟩
    case round =>
     obtain ⟨k, hk, rfl, hinv⟩ := hrel
     obtain ⟨hb, D, hP⟩ := hinv.out
     by_cases hkn : k < m
     · have hkv : k < vb.length := by rw [Hlb.out]; exact hkn
       have HEr := Lib.hid (HB.out.below (by rw [← HBe.out]; exact hb))
       obtain ⟨bb, oo, rfl⟩ := HEr.out.some (by omega)
       have hlt := HB.out.lt (nthE vb k) (nthE_mem hkv)
       have hho := HFb.out.holes (nthE vb k) (nthE_mem hkv)
       have hgd := (ckE_none.1 (HCb.out.2 (nthE vb k) (nthE_mem hkv))).1
       have Hrep := Lib.hid (reps_take (v := vb) hkv)
       have Hkat := Lib.hid (knownAt_take HCb.out.1 hkv)
       obtain ⟨x, l, cc, hq⟩ := HEr.out.fix hkn
       obtain ⟨q1, q2, q3, q4⟩ := hq _ (Below.refl _ _)
       obtain ⟨a1, n1, c1, a2, n2, c2, hat, hi1, hi2⟩ := hP.vals (nthE vb k).1
       generalize he : nthE vb k = e at *
       obtain ⟨er, em, eh⟩ := e
       simp only at q1 q2 q3 hat hi1 hi2 hlt
       obtain ⟨A1, hA1⟩ : ∃ A1, A1 = wr.alloc (.cells #[.int .u64 er, .int .u64 em, .slice x l cc] 71) := ⟨_, rfl⟩
       have hal1 : Below wr.heap.size wr A1 := by rw [hA1]; exact (Below.refl _ _).alloc (Nat.le_refl _) _
       have hs1 : A1.heap.size = wr.heap.size + 1 := by rw [hA1]; simp
       obtain ⟨A2, hA2⟩ : ∃ A2, A2 = A1.alloc (.cells #[.slice a1 n1 c1, .slice a2 n2 c2] 271) := ⟨_, rfl⟩
       have hal2 : Below A1.heap.size A1 A2 := by rw [hA2]; exact (Below.refl _ _).alloc (Nat.le_refl _) _
       have hs2 : A2.heap.size = wr.heap.size + 2 := by rw [hA2]; simp [hs1]
       have hal : Below wr.heap.size wr A2 := hal1.trans (hal2.mono (by omega))
       have hr1 : A1.heap[wr.heap.size]? = some (.cells #[.int .u64 er, .int .u64 em, .slice x l cc] 71) := by rw [hA1]; exact row_new rfl
       have hr2 : A2.heap[wr.heap.size + 1]? = some (.cells #[.slice a1 n1 c1, .slice a2 n2 c2] 271) := by rw [hA2]; exact row_new hs1.symm
       have hr1' : A2.heap[wr.heap.size]? = some (.cells #[.int .u64 er, .int .u64 em, .slice x l cc] 71) := (hal2.block _ (by omega)).trans hr1
       have hC := Lib.hid (known_any (er, em, eh) x l cc A2 (q4.below hal) hgd hlt.max (by have := hho; simp only at this ⊢; omega))
       have Hm1 := Lib.hid (hP.own.kept (grown_of_below hal1) (by simp))
       have hm2 := hP.own.kept (grown_of_below hal) (by simp)
       have HP := Lib.hid hP; have Hb := Lib.hid hb
       have Hlt := Lib.hid hlt
       have hrep64 := hlt.rep
       have Hi1 := Lib.hid hi1; have Hi2 := Lib.hid hi2
       have Hr1 := Lib.hid hr1'; have Hr2 := Lib.hid hr2; have Hs1 := Lib.hid hs1; have Hs2 := Lib.hid hs2; have Hal := Lib.hid hal; have Hm2 := Lib.hid hm2
       have y0 := cells_cell (i := 0) hr1 rfl
       have y1 := cells_cell (i := 1) hr1 rfl
       have y2 := cells_cell (i := 2) hr1 rfl
       have z0 := cells_cell (i := 0) hr1' rfl
       have z1 := cells_cell (i := 1) hr1' rfl
       have z2 := cells_cell (i := 2) hr1' rfl
       clear hinv hb hP hq q4 hlt hho hgd hi1 hi2 hal1 hal2 hal hr1 hr2 hr1' hm2 hs1 hs2 he
       subst hA2 hA1
       have h0 : (0 : Int) ≤ k := by omega
       have h04 : (k : Int) < (m : Int) := by omega
       go_wp2_with (at_lookup; refine wpList_lookup_P rfl _ _ _ rfl Tryz.underlying266 B _ D rfl Hm1.out er hrep64 rfl _ hat ?_)
       refine hC.out.mono ?_
       rintro e w3 ⟨⟨v3, rfl, ho3⟩, hb3⟩
       clear y0 y1 y2 z0 z1 z2 q1 q2 q3
       obtain ⟨a3, c3, rfl, hi3⟩ := ivsT_own (base' := B) ho3 (knownL_good Hlt.out).2.2
       have R1 := (hb3.block _ (by have := Hs2.out; omega)).trans Hr1.out
       have R2 := (hb3.block _ (by have := Hs2.out; omega)).trans Hr2.out
       have y0 := cells_cell (i := 0) R1 rfl
       have y1 := cells_cell (i := 1) R1 rfl
       have y2 := cells_cell (i := 2) R1 rfl
       have z0 := cells_cell (i := 0) R2 rfl
       have z1 := cells_cell (i := 1) R2 rfl
       have f0 : w3.frozen? ⟨wr.heap.size + 1, 0, none⟩ = false := by simp [World.frozen?, R2]
       have f1 : w3.frozen? ⟨wr.heap.size + 1, 1, none⟩ = false := by simp [World.frozen?, R2]
       have hBwr : B ≤ wr.heap.size := by have := Hb.out.size; have := HBe.out; omega
       have Hst3 := Lib.hid ((Steady.of_below (base := B) (P := isIvT) (Hal.out.trans (hb3.mono Hal.out.size))).trans (Steady.setCell (a := ⟨wr.heap.size + 1, 1, none⟩) (u := .slice a3 (knownL (er, em, eh)).length c3) R2 (by simp only; omega) (by intro h; cases h)))
       have HmB : B < wr.heap.size := HP.out.own.lt
       have Hm4 := Lib.hid (((Hm2.out.kept (grown_of_below hb3) (by simp)).setCell (a := ⟨wr.heap.size + 1, 1, none⟩) (by simp only; omega) (.slice a3 (knownL (er, em, eh)).length c3)))
       have Hb4 := Lib.hid (((Hb.out.trans ((Hal.out.trans (hb3.mono Hal.out.size)).mono hBwr)).setCell (p := ⟨wr.heap.size + 1, 1, none⟩) (by simp only; omega) (.slice a3 (knownL (er, em, eh)).length c3)))
       have Hi3 := Lib.hid (hi3.steady (Steady.setCell (P := isIvT) (a := ⟨wr.heap.size + 1, 1, none⟩) (u := .slice a3 (knownL (er, em, eh)).length c3) R2 (by simp only; omega) (by intro h; cases h)) rfl)
       have q0 : (w3.setCell ⟨wr.heap.size + 1, 1, none⟩ (.slice a3 (knownL (er, em, eh)).length c3)).cell? ⟨wr.heap.size, 0, none⟩ = some (.int .u64 er) := (World.cell?_of_block (Below.heap_setCell _ _ _ _ (by simp))).trans y0
       generalize hL : knownL (er, em, eh) = L at *
       have HL := Lib.hid hL
       clear hL R1 R2 hb3 ho3 hi3 hC hat
       go_wp2_with (at_mapUpdate; refine wpList_mapUpdate_own _ rfl _ _ _ 266 rfl 24 271 keyU Tryz.underlying266 rP B _ D rfl Hm4.out (by unfold maxLen; omega) _ _ _ rfl rfl (keyOfU hrep64) _ [] (rP_mk _ _ _ _ _ _) ?_; intro w5 ho5 hg5)
       have Hb5 := Lib.hid (Hb4.out.grown hg5 (by have := Hm4.out.lt; omega) (fun k hk => by cases hk; exact Nat.le_refl _))
       have hsm := steady_map Hm4.out (Nat.le_refl _) hg5 isIvT
       have st := Hst3.out.trans hsm
       have H5 := Lib.hid ((HP.out.put st (Hi1.out.steady st rfl) (Hi3.out.steady hsm rfl) ho5).congr (S' := va.map (·.1) ++ (vb.take (k + 1)).map (·.1)) (G1' := knownAt va) (G2' := knownAt (vb.take (k + 1))) (fun r => by rw [Hrep.out, List.append_assoc]) (fun r => by split <;> first | rfl | (rename_i e; rw [e])) (fun r => (Hkat.out r).symm))
       clear hsm st ho5 hg5
       go_roundw
       case rel => exact ⟨k + 1, by omega, by go_num, Hb5.out, _, H5.out⟩
       case measure => simp [intOf]; omega
     · obtain rfl : k = m := by omega
       have Hb1 := Lib.hid hb
       have hall : vb.take k = vb := List.take_of_length_le (by rw [Hlb.out]; exact Nat.le_refl _)
       rw [hall] at hP
       clear hall hinv hb hkn
       have HS2 := Lib.hid hP
       clear hP HS1
       go_wp2
       rw [rounds_succ]
       go_wp2
       go_ret
       refine ⟨⟨B, D, rfl, by rw [HBe.out]; exact Nat.le_refl _, ?_⟩, by rw [← HBe.out]; exact Hb1.out⟩
       rw [← HBe.out]
       have h := HS2.out
       refine PairS.congr ⟨h.own.mono (by omega), h.keys, h.vals⟩ (fun r => ?_) (fun r => rfl) (fun r => rfl)
       unfold repsV
       rw [sortA_mem]
end
section
open Go.RowKit
def ltU (x y : Nat) : Bool := decide (x < y)
abbrev encU : Nat → Value := fun x => Value.int .u64 (x : Int)
theorem swoU : Sort.SWO ltU := by
 constructor
 all_goals (intros; simp only [ltU, decide_eq_true_eq, decide_eq_false_iff_not] at *; try omega)
theorem nanU_any (x : Nat) (w : World) : Calls Tryz.prog 74 #[.int .u64 (x : Int)] w fun e w' => e = .returned (.bool false) ∧ w' = w := by
 go_enter Tryz.func74, Tryz.ntmps74
 go_wp2
 go_ret
 exact ⟨by simp, rfl⟩
theorem lessU_any (x y : Nat) (w : World) : Calls Tryz.prog 224 #[.int .u64 (x : Int), .int .u64 (y : Int)] w fun e w' => e = .returned (.bool (ltU x y)) ∧ w' = w := by
 go_enter Tryz.func224, Tryz.ntmps224
 go_wp2_with (go_at_call 74; refine (nanU_any _ _).mono ?_; rintro e w' ⟨rfl, rfl⟩)
 go_ret
 exact ⟨by simp [ltU], rfl⟩
structure CellsU (w : World) (g o : Nat) (d : Array Nat) (n : Nat) (G : Nat → Nat) : Prop where
 cell : ∀ t, t < n → w.cell? ⟨g, o + t, none⟩ = some (.int .u64 (G t : Int))
 froz : ∀ t, t < n → w.frozen? ⟨g, o + t, none⟩ = false
 val : ∀ t, G t = d[t]!
theorem cellsU {w : World} {g o n : Nat} {d : Array Nat} (h : Sort.Holds encU w g o d) (hn : d.size = n) : ∃ G, CellsU w g o d n G :=
 ⟨fun t => d[t]!, fun t ht => (h t (by omega)).1, fun t ht => (h t (by omega)).2, fun t => rfl⟩
theorem holdsU {w wr : World} {g o n : Nat} {d dk : Array Nat} (h : Sort.Holds encU w g o d) (hs : dk.size = d.size) (hw : wr = Sort.putRow encU (Sort.ahead w n) g o dk) : Sort.Holds encU wr g o dk := by
 rw [hw]
 exact Sort.holds_putRow encU _ g o d dk (Sort.holds_ahead encU w n g o d h) hs
theorem swapU {w wr : World} {g o m : Nat} {dk : Array Nat} (hw : wr = Sort.putRow encU (Sort.ahead w m) g o dk) (q i j : Nat) (hi : i < dk.size) (hj : j < dk.size) :
 (((wr.drewN q).setCell ⟨g, o + i, none⟩ (encU dk[j]!)).setCell ⟨g, o + j, none⟩ (encU dk[i]!)) = Sort.putRow encU (Sort.ahead w (m + q)) g o (Sort.swp dk i j) := by
 subst hw
 exact swap_worldA encU w m q g o dk i j hi hj
theorem isNaNu_any (x : Nat) (w : World) : Calls Tryz.prog 235 #[.int .u64 x] w fun e w' => e = .returned (.bool false) ∧ w' = w := by
 go_enter Tryz.func235, Tryz.ntmps235
 go_wp2
 go_ret
 exact ⟨by simp, rfl⟩
theorem asc_nth2 : ∀ {L : List Nat}, Asc L → ∀ i j, i < j → j < L.length → nth L i < nth L j
 | [], _, i, j, _, hj => by simp at hj
 | a :: l, h, 0, j + 1, _, hj => h.lower _ (by simp at hj; rw [show nth (a :: l) (j + 1) = nth l j from rfl]; simp [nth, hj])
 | a :: l, h, i + 1, j + 1, hij, hj => asc_nth2 h.tail i j (by omega) (by simpa using hj)
set_option maxHeartbeats 4000000 in
set_option maxRecDepth 20000 in
theorem bsU_any (a : Option Addr) (n cap x : Nat) (L : List Nat) (w : World) (hU : U64s w a n cap L) (hA : Asc L) (hn : n ≤ 1000000) :
 Calls Tryz.prog 228 #[.slice a n cap, .int .u64 x] w fun e w' =>
  (∃ (p : Nat) (z : Bool), e = .returned (.tuple #[.int .i64 (p : Int), .bool z]) ∧ p ≤ n ∧ (∀ t, t < p → nth L t < x) ∧ (∀ t, p ≤ t → t < n → x ≤ nth L t)) ∧ w' = w := by
 have HA := Lib.hid hA
 have Hl := Lib.hid hU.len
 have HU := Lib.hid hU
 clear hU hA
 go_enter Tryz.func228, Tryz.ntmps228
 go_wp2
 go_loopw [7, 8, 9] (fun i j _ wr => ∃ p q : Nat, p ≤ q ∧ q ≤ n ∧ i = .int .i64 p ∧ j = .int .i64 q ∧ Hid (wr = w) ∧ Hid ((∀ t, t < p → nth L t < x) ∧ ∀ t, q ≤ t → t < n → x ≤ nth L t)) (fun i j _ _ => (intOf j).toNat - (intOf i).toNat)
 case atStart => exact ⟨0, n, by omega, by omega, rfl, rfl, rfl, fun t ht => by omega, fun t h1 h2 => by omega⟩
 case round =>
  obtain ⟨p, q, hpq, hqn, rfl, rfl, hw, ht⟩ := hrel
  have HUr : U64s wr a n cap L := by rw [hw.out]; exact HU.out
  by_cases hlt : p < q
  · obtain ⟨bb, oo, rfl, hcell⟩ := HUr.cells (by omega)
    obtain ⟨h, hh, hph, hhq⟩ : ∃ h : Nat, ((p : Int) + (q : Int)) / 2 = (h : Int) ∧ p ≤ h ∧ h < q := ⟨(p + q) / 2, by omega, by omega, by omega⟩
    have hhn : h < n := by omega
    have hc1 := hcell h hhn
    clear hcell
    have Hms := Lib.hid (fun t (ht : t < h) => asc_nth2 HA.out t h ht (by rw [Hl.out]; exact hhn))
    have Hms2 := Lib.hid (fun t (ht : h < t) (htl : t < n) => asc_nth2 HA.out h t ht (by rw [Hl.out]; exact htl))
    have hroom := HUr.room
    clear HUr
    generalize hy : nth L h = y at *
    have Hy := Lib.hid hy
    clear hy
    by_cases hlx : y < x
    · have hci : ltU y x = true := by simp [ltU, hlx]
      have Hr := Lib.hid (show ∀ t, t < h + 1 → nth L t < x from by
       intro t htt
       by_cases e : t = h
       · subst e; rw [Hy.out]; exact hlx
       · have h1 := Hms.out t (by omega)
         omega)
      clear hlx
      go_wp2_with (first | (go_at_call 224; refine (lessU_any _ _ _).mono ?_; rintro e w1 ⟨rfl, rfl⟩))
      go_roundw
      case rel => exact ⟨h + 1, q, by omega, by omega, by go_num, rfl, hw, Hr.out, ht.out.2⟩
      case measure => simp [intOf]; omega
    · have hci : ltU y x = false := by simp [ltU]; omega
      have Hr := Lib.hid (show ∀ t, h ≤ t → t < n → x ≤ nth L t from by
       intro t htt htn
       by_cases e : t = h
       · subst e; rw [Hy.out]; omega
       · have h1 := Hms2.out t (by omega) htn
         omega)
      clear hlx
      go_wp2_with (first | (go_at_call 224; refine (lessU_any _ _ _).mono ?_; rintro e w1 ⟨rfl, rfl⟩))
      go_roundw
      case rel => exact ⟨p, h, by omega, by omega, rfl, rfl, hw, ht.out.1, Hr.out⟩
      case measure => simp [intOf]; omega
  · obtain rfl : p = q := by omega
    by_cases hpn : p < n
    · obtain ⟨bb, oo, rfl, hcell⟩ := HUr.cells (by omega)
      have hc1 := hcell p hpn
      have hroom := HUr.room
      clear hcell HUr
      generalize hy : nth L p = y at *
      clear hy
      have hd : decide (p < n) = true := by rw [decide_eq_true_iff]; exact hpn
      by_cases hyx : y = x
      · have hci : ((y : Int) == (x : Int)) = true := by simp [hyx]
        go_wp2_with (first | (go_at_call 235; refine (isNaNu_any _ _).mono ?_; rintro e w1 ⟨rfl, rfl⟩))
        go_ret2
        exact ⟨⟨p, _, rfl, hqn, ht.out.1, ht.out.2⟩, hw.out⟩
      · have hci : ((y : Int) == (x : Int)) = false := by simp; omega
        go_wp2_with (first | (go_at_call 235; refine (isNaNu_any _ _).mono ?_; rintro e w1 ⟨rfl, rfl⟩))
        go_ret2
        exact ⟨⟨p, _, rfl, hqn, ht.out.1, ht.out.2⟩, hw.out⟩
    · have hd : decide (p < n) = false := by rw [decide_eq_false_iff_not]; exact hpn
      clear HUr
      go_wp2_with (first | (go_at_call 235; refine (isNaNu_any _ _).mono ?_; rintro e w1 ⟨rfl, rfl⟩))
      go_ret2
      exact ⟨⟨p, _, rfl, hqn, ht.out.1, ht.out.2⟩, hw.out⟩
theorem insA_put : ∀ {L : List Nat} {x p : Nat}, Asc L → x ∉ L → p ≤ L.length → (∀ t, t < p → nth L t < x) → (∀ t, p ≤ t → t < L.length → x ≤ nth L t) → insA L x = L.take p ++ x :: L.drop p
 | [], x, p, _, _, hp, _, _ => by simp [insA]
 | a :: l, x, 0, _, hx, _, _, h2 => by
   have h3 : x ≤ a := h2 0 (Nat.le_refl _) (by simp)
   have h4 : x ≠ a := fun e => hx (by simp [e])
   rw [insA, if_pos (by omega)]; rfl
 | a :: l, x, p + 1, h, hx, hp, h1, h2 => by
   have h3 : a < x := h1 0 (by omega)
   rw [insA, if_neg (by omega), if_neg (by omega), insA_put (p := p) h.tail (fun hm => hx (by simp [hm])) (by simpa using hp) (fun t ht => h1 (t + 1) (by omega)) (fun t h4 h5 => h2 (t + 1) (by omega) (by simpa using h5))]
   rfl
end
end Go.Proofs.YtkkdlgcfcbaibaaGreatDoor
