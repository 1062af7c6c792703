/-
  Laws for a walk: a whole array stored into a block; an element of an array value at a computed index.
-/
import Derived.Test.YtejcakbkldecmaaDoorKBase
import Derived.Laws.CopyRow
namespace Go.Proofs.YtejcakbkldecmaaDoor
open Go.RowKit
set_option linter.unusedVariables false

theorem wpList_store_row {P : Program} {w : World} {ops : Array Oper} {rest : List Oper} {o : Oper} {a : Act} {Q : Exit → Act → World → Prop} (ty : TypeId) (x y : Operand)
    (ho : o.op = .store ty x y) (hw : Region.wanted o (yielded ops a.tmps) = true) (g : Nat) (cs cur : Array Value) (t : TypeId)
    (hx : a.eval x = .pointer (some ⟨g, 0, none⟩)) (hy : a.eval y = .agg cs) (hg : w.heap[g]? = some (.cells cur t (0, 0))) (hs : cs.size = cur.size) (h1 : ∀ v ∈ cs.toList, v.oneCell' = true)
    (hi : (P.info? ty).map (·.size) = some cs.size) (h : wpList P ops Q rest (a.put o.dst undef) (w.setRow g cs)) : wpList P ops Q (o :: rest) a w := by
  refine wpList_step fun K hK => ?_
  rw [if_pos hw]
  have hr := run_storeCells_at (P := P) g 0 t cs.toList 0 cur w hg (by simp; omega) h1
  have hrow : (cur.toList.take (0 + 0) ++ cs.toList ++ cur.toList.drop (0 + 0 + cs.toList.length)).toArray = cs := by
    have hd : cur.toList.drop (0 + 0 + cs.toList.length) = [] := List.drop_eq_nil_of_le (by simp; omega)
    rw [hd]
    simp
  rw [hrow] at hr
  cases hq : P.info? ty with
  | none => simp [hq] at hi
  | some i =>
    have hsz : i.size = cs.size := by simpa [hq] using hi
    unfold Oper.wp execOp
    simp only [ho, hx, hy, Instr.storeAt, Instr.sureAddr, Sem.run_bind, Sem.run_pure, Result.andThen_ok, storeVar, sizeOf, typeInfo, Value.cells]
    simp [Sem.run_bind, hr, hq, hsz]
    exact hK _ _ h

theorem wpList_index_agg {P : Program} {w : World} {ops : Array Oper} {rest : List Oper} {o : Oper} {a : Act} {Q : Exit → Act → World → Prop} (ty : TypeId) (x ix : Operand)
    (ho : o.op = .index ty x ix) (hw : Region.wanted o (yielded ops a.tmps) = true) (cs : Array Value) (k len : Nat) (e : TypeId) (ik : IntKind) (v : Value)
    (hx : a.eval x = .agg cs) (hix : a.eval ix = .int .i64 (k : Int)) (hu : P.underlying ty = some (.array len e)) (hk : k < len) (he : P.underlying e = some (.int ik)) (hi : (P.info? e).map (·.size) = some 1)
    (hv : cs[k]? = some v) (h : wpList P ops Q rest (a.put o.dst v) w) : wpList P ops Q (o :: rest) a w := by
  refine wpList_step fun K hK => ?_
  rw [if_pos hw]
  cases hq : P.info? e with
  | none => simp [hq] at hi
  | some i =>
    have hsz : i.size = 1 := by simpa [hq] using hi
    unfold Oper.wp execOp
    simp only [ho, hx, hix, Instr.index, asIntOf, Sem.run_bind, Sem.run_pure, Result.andThen_ok, run_underlying hu]
    have hk' : 0 ≤ (k : Int) ∧ (k : Int) < (len : Int) := ⟨by omega, by omega⟩
    simp [Sem.run_bind, part, isAgg, sizeOf, typeInfo, run_underlying he, hq, hsz, hv, hk']
    exact hK _ _ h

end Go.Proofs.YtejcakbkldecmaaDoor
