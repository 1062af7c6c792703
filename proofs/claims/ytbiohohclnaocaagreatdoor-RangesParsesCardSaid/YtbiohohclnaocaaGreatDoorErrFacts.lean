/-
  Closed facts on the entries of internal/reflectlite at this program's types: api.Errno and api.Fault as targets of errors.As.
-/
import Derived.Test.YtbiohohclnaocaaGreatDoorKBase
import Derived.LaidEql
import Derived.Stop.Asserts
import Derived.RowKitTokens
namespace Go.Proofs.YtbiohohclnaocaaGreatDoor
open Go.RowKit Go.Extern.Stop Go.Stop Go.Extern
set_option linter.unusedVariables false

theorem rlm (z : Sem Value) (f : TypeId → Addr → Nat → Nat → Sem Value) (v : Value) :
    ReflectliteValue.method z f #[v] = (do match ← ReflectliteValue.parts v with | none => z | some (t, a, fl) => f t a fl (fl % 32)) := rfl
theorem rls (v x : Value) : ReflectliteValue.set #[v, x] = (do
    let (some (dst, a, fl), some (src, b, _)) := (← ReflectliteValue.parts v, ← ReflectliteValue.parts x)
      | unsupported (.noEntry "extern/(internal/reflectlite.Value).Set.zeroValue")
    if fl / ReflectliteValue.flagAddr % 2 == 0 then unsupported (.noEntry "extern/(internal/reflectlite.Value).Set.unaddressable")
    let val ← loadVar src b
    if ← Rtype.directlyAssignable dst src then storeVar dst a val
    else if ← Rtype.implements dst src then
      if (← Rtype.kind src) == 20 then
        match val with
        | .nilIface => unsupported (.noEntry "extern/reflectlite: a nil value of one interface type handed on as a value of another")
        | _ => storeVar dst a val
      else storeVar dst a (.iface src val)
    else panicString ("reflectlite.Set: value of type " ++ (← Rtype.spelt src) ++ " is not assignable to type " ++ (← Rtype.spelt dst))
    pure (.tuple #[])) := rfl

theorem Tryz.methodKind (h : Value) (w : World) : (Go.method 330 135 (.agg #[h]) "Kind").run Tryz.prog w = .ok (163, h) w := by kernel_rfl
theorem Tryz.methodElem (h : Value) (w : World) : (Go.method 330 135 (.agg #[h]) "Elem").run Tryz.prog w = .ok (176, .agg #[h]) w := by kernel_rfl
theorem Tryz.methodImplements (h : Value) (w : World) : (Go.method 330 135 (.agg #[h]) "Implements").run Tryz.prog w = .ok (177, .agg #[h]) w := by kernel_rfl
theorem Tryz.methodAssignableTo (h : Value) (w : World) : (Go.method 330 135 (.agg #[h]) "AssignableTo").run Tryz.prog w = .ok (174, .agg #[h]) w := by kernel_rfl

/-! ### *api.Errno, api.Errno -/
theorem Tryz.valueOfPE (t : Addr) (w : World) : (ReflectliteValue.unpack (.iface 70 (.pointer (some t)))).run Tryz.prog w
    = .ok (.agg #[.pointer (some ⟨9, 70, none⟩), .pointer (some ⟨w.heap.size, 0, none⟩), .int .u64 150]) (w.alloc (.cells #[.pointer (some t)] 70)) := by kernel_rfl
theorem Tryz.typePE (a : Addr) (w : World) : (ReflectliteValue.methodAny (ReflectliteValue.valueError "reflectlite.Value.Type" 0) (fun t _ _ _ => ReflectliteType.toType t) #[.agg #[.pointer (some ⟨9, 70, none⟩), .pointer (some a), .int .u64 150]]).run Tryz.prog w
    = .ok (.iface 135 (.agg #[.pointer (some ⟨9, 70, none⟩)])) w := by kernel_rfl
theorem Tryz.kindPE (w : World) : ((ReflectliteType.abiMethod fun t => (fun a : Nat => Value.int IntKind.u8 (a : Int)) <$> Rtype.kind t) #[.pointer (some ⟨9, 70, none⟩)]).run Tryz.prog w = .ok (.int .u8 22) w := by kernel_rfl
theorem Tryz.kindE (w : World) : ((ReflectliteType.abiMethod fun t => (fun a : Nat => Value.int IntKind.u8 (a : Int)) <$> Rtype.kind t) #[.pointer (some ⟨9, 42, none⟩)]).run Tryz.prog w = .ok (.int .u8 2) w := by kernel_rfl
theorem Tryz.partsPE (a : Addr) (w : World) : (ReflectliteValue.parts (.agg #[.pointer (some ⟨9, 70, none⟩), .pointer (some a), .int .u64 150])).run Tryz.prog w = .ok (some (70, a, 150)) w := by kernel_rfl
theorem Tryz.isNilPE (a p : Addr) (W : World) (ha : W.cell? a = some (.pointer (some p))) :
    (ReflectliteValue.method (ReflectliteValue.valueError "reflectlite.Value.IsNil" 0) ReflectliteValue.isNil #[.agg #[.pointer (some ⟨9, 70, none⟩), .pointer (some a), .int .u64 150]]).run Tryz.prog W = .ok (.bool false) W := by
  rw [rlm]
  simp only [Sem.run_bind, Tryz.partsPE, Result.andThen]
  simp [ReflectliteValue.isNil, loadVar, isAgg, underlying, Tryz.underlying70, ha, Result.andThen]
theorem Tryz.elemPE (w : World) : (ReflectliteType.method ReflectliteType.elem #[.agg #[.pointer (some ⟨9, 70, none⟩)]]).run Tryz.prog w = .ok (.iface 135 (.agg #[.pointer (some ⟨9, 42, none⟩)])) w := by kernel_rfl
theorem Tryz.implementsE (w : World) : (ReflectliteType.relation "Implements" ReflectliteType.implements_ #[.agg #[.pointer (some ⟨9, 42, none⟩)], .iface 135 (.agg #[.pointer (some ⟨9, 33, none⟩)])]).run Tryz.prog w = .ok (.bool true) w := by kernel_rfl
theorem Tryz.typeOfE (v : Value) (w : World) : (ReflectliteType.typeOf #[.iface 42 v]).run Tryz.prog w = .ok (.iface 135 (.agg #[.pointer (some ⟨9, 42, none⟩)])) w := by kernel_rfl
theorem Tryz.assignableEE (w : World) : (ReflectliteType.relation "AssignableTo" ReflectliteType.assignableTo #[.agg #[.pointer (some ⟨9, 42, none⟩)], .iface 135 (.agg #[.pointer (some ⟨9, 42, none⟩)])]).run Tryz.prog w = .ok (.bool true) w := by kernel_rfl
theorem Tryz.valueOfE (c : Int) (w : World) : (ReflectliteValue.unpack (.iface 42 (.int .i64 c))).run Tryz.prog w
    = .ok (.agg #[.pointer (some ⟨9, 42, none⟩), .pointer (some ⟨w.heap.size, 0, none⟩), .int .u64 130]) (w.alloc (.cells #[.int .i64 c] 42)) := by kernel_rfl
theorem Tryz.elemOfPE (w : World) : (Rtype.elem? 70).run Tryz.prog w = .ok (some 42) w := by kernel_rfl
theorem Tryz.mkE (p : Addr) (w : World) : (ReflectliteValue.mk 42 p ReflectliteValue.flagAddr).run Tryz.prog w = .ok (.agg #[.pointer (some ⟨9, 42, none⟩), .pointer (some p), .int .u64 386]) w := by kernel_rfl
theorem Tryz.elemVPE (a p : Addr) (W : World) (ha : W.cell? a = some (.pointer (some p))) :
    (ReflectliteValue.method (ReflectliteValue.valueError "reflectlite.Value.Elem" 0) ReflectliteValue.elem #[.agg #[.pointer (some ⟨9, 70, none⟩), .pointer (some a), .int .u64 150]]).run Tryz.prog W
      = .ok (.agg #[.pointer (some ⟨9, 42, none⟩), .pointer (some p), .int .u64 386]) W := by
  rw [rlm]
  simp only [Sem.run_bind, Tryz.partsPE, Result.andThen]
  simp [ReflectliteValue.elem, loadVar, isAgg, underlying, Tryz.underlying70, ha, Result.andThen, Tryz.elemOfPE, Tryz.mkE]
theorem Tryz.partsEa (a : Addr) (w : World) : (ReflectliteValue.parts (.agg #[.pointer (some ⟨9, 42, none⟩), .pointer (some a), .int .u64 386])).run Tryz.prog w = .ok (some (42, a, 386)) w := by kernel_rfl
theorem Tryz.partsE (a : Addr) (w : World) : (ReflectliteValue.parts (.agg #[.pointer (some ⟨9, 42, none⟩), .pointer (some a), .int .u64 130])).run Tryz.prog w = .ok (some (42, a, 130)) w := by kernel_rfl
theorem Tryz.directE (w : World) : (Rtype.directlyAssignable 42 42).run Tryz.prog w = .ok true w := by kernel_rfl
theorem Tryz.sizeE (w : World) : (sizeOf 42).run Tryz.prog w = .ok 1 w := by kernel_rfl
theorem Tryz.setE (ta b : Addr) (c : Int) (old : Value) (W : World) (hb : W.cell? b = some (.int .i64 c)) (ht : W.cell? ta = some old) (hf : W.frozen? ta = false) :
    (ReflectliteValue.set #[.agg #[.pointer (some ⟨9, 42, none⟩), .pointer (some ta), .int .u64 386], .agg #[.pointer (some ⟨9, 42, none⟩), .pointer (some b), .int .u64 130]]).run Tryz.prog W
      = .ok (.tuple #[]) (W.setCell ta (.int .i64 c)) := by
  rw [rls]
  simp only [Sem.run_bind, Tryz.partsEa, Tryz.partsE, Result.andThen]
  simp [ReflectliteValue.flagAddr, loadVar, isAgg, underlying, Tryz.underlying42, hb, Result.andThen, Tryz.directE, storeVar, Value.cells, storeCells, Addr.add]
  rw [run_store Tryz.prog W ta _ _ (by rfl)]
  simp [ht, hf]

/-! ### *api.Fault, api.Fault -/
theorem Tryz.valueOfPF (t : Addr) (w : World) : (ReflectliteValue.unpack (.iface 118 (.pointer (some t)))).run Tryz.prog w
    = .ok (.agg #[.pointer (some ⟨9, 118, none⟩), .pointer (some ⟨w.heap.size, 0, none⟩), .int .u64 150]) (w.alloc (.cells #[.pointer (some t)] 118)) := by kernel_rfl
theorem Tryz.typePF (a : Addr) (w : World) : (ReflectliteValue.methodAny (ReflectliteValue.valueError "reflectlite.Value.Type" 0) (fun t _ _ _ => ReflectliteType.toType t) #[.agg #[.pointer (some ⟨9, 118, none⟩), .pointer (some a), .int .u64 150]]).run Tryz.prog w
    = .ok (.iface 135 (.agg #[.pointer (some ⟨9, 118, none⟩)])) w := by kernel_rfl
theorem Tryz.kindPF (w : World) : ((ReflectliteType.abiMethod fun t => (fun a : Nat => Value.int IntKind.u8 (a : Int)) <$> Rtype.kind t) #[.pointer (some ⟨9, 118, none⟩)]).run Tryz.prog w = .ok (.int .u8 22) w := by kernel_rfl
theorem Tryz.kindF (w : World) : ((ReflectliteType.abiMethod fun t => (fun a : Nat => Value.int IntKind.u8 (a : Int)) <$> Rtype.kind t) #[.pointer (some ⟨9, 72, none⟩)]).run Tryz.prog w = .ok (.int .u8 25) w := by kernel_rfl
theorem Tryz.partsPF (a : Addr) (w : World) : (ReflectliteValue.parts (.agg #[.pointer (some ⟨9, 118, none⟩), .pointer (some a), .int .u64 150])).run Tryz.prog w = .ok (some (118, a, 150)) w := by kernel_rfl
theorem Tryz.isNilPF (a p : Addr) (W : World) (ha : W.cell? a = some (.pointer (some p))) :
    (ReflectliteValue.method (ReflectliteValue.valueError "reflectlite.Value.IsNil" 0) ReflectliteValue.isNil #[.agg #[.pointer (some ⟨9, 118, none⟩), .pointer (some a), .int .u64 150]]).run Tryz.prog W = .ok (.bool false) W := by
  rw [rlm]
  simp only [Sem.run_bind, Tryz.partsPF, Result.andThen]
  simp [ReflectliteValue.isNil, loadVar, isAgg, underlying, Tryz.underlying118, ha, Result.andThen]
theorem Tryz.elemPF (w : World) : (ReflectliteType.method ReflectliteType.elem #[.agg #[.pointer (some ⟨9, 118, none⟩)]]).run Tryz.prog w = .ok (.iface 135 (.agg #[.pointer (some ⟨9, 72, none⟩)])) w := by kernel_rfl
theorem Tryz.implementsF (w : World) : (ReflectliteType.relation "Implements" ReflectliteType.implements_ #[.agg #[.pointer (some ⟨9, 72, none⟩)], .iface 135 (.agg #[.pointer (some ⟨9, 33, none⟩)])]).run Tryz.prog w = .ok (.bool true) w := by kernel_rfl
theorem Tryz.typeOfF (v : Value) (w : World) : (ReflectliteType.typeOf #[.iface 72 v]).run Tryz.prog w = .ok (.iface 135 (.agg #[.pointer (some ⟨9, 72, none⟩)])) w := by kernel_rfl
theorem Tryz.assignableFF (w : World) : (ReflectliteType.relation "AssignableTo" ReflectliteType.assignableTo #[.agg #[.pointer (some ⟨9, 72, none⟩)], .iface 135 (.agg #[.pointer (some ⟨9, 72, none⟩)])]).run Tryz.prog w = .ok (.bool true) w := by kernel_rfl
theorem Tryz.assignableFE (w : World) : (ReflectliteType.relation "AssignableTo" ReflectliteType.assignableTo #[.agg #[.pointer (some ⟨9, 72, none⟩)], .iface 135 (.agg #[.pointer (some ⟨9, 42, none⟩)])]).run Tryz.prog w = .ok (.bool false) w := by kernel_rfl
theorem Tryz.assignableEF (w : World) : (ReflectliteType.relation "AssignableTo" ReflectliteType.assignableTo #[.agg #[.pointer (some ⟨9, 42, none⟩)], .iface 135 (.agg #[.pointer (some ⟨9, 72, none⟩)])]).run Tryz.prog w = .ok (.bool false) w := by kernel_rfl
theorem Tryz.valueOfF (c a : Int) (w : World) : (ReflectliteValue.unpack (.iface 72 (.agg #[.int .i64 c, .int .i64 a]))).run Tryz.prog w
    = .ok (.agg #[.pointer (some ⟨9, 72, none⟩), .pointer (some ⟨w.heap.size, 0, none⟩), .int .u64 153]) (w.alloc (.cells #[.int .i64 c, .int .i64 a] 72)) := by kernel_rfl
theorem Tryz.elemOfPF (w : World) : (Rtype.elem? 118).run Tryz.prog w = .ok (some 72) w := by kernel_rfl
theorem Tryz.mkF (p : Addr) (w : World) : (ReflectliteValue.mk 72 p ReflectliteValue.flagAddr).run Tryz.prog w = .ok (.agg #[.pointer (some ⟨9, 72, none⟩), .pointer (some p), .int .u64 409]) w := by kernel_rfl
theorem Tryz.elemVPF (a p : Addr) (W : World) (ha : W.cell? a = some (.pointer (some p))) :
    (ReflectliteValue.method (ReflectliteValue.valueError "reflectlite.Value.Elem" 0) ReflectliteValue.elem #[.agg #[.pointer (some ⟨9, 118, none⟩), .pointer (some a), .int .u64 150]]).run Tryz.prog W
      = .ok (.agg #[.pointer (some ⟨9, 72, none⟩), .pointer (some p), .int .u64 409]) W := by
  rw [rlm]
  simp only [Sem.run_bind, Tryz.partsPF, Result.andThen]
  simp [ReflectliteValue.elem, loadVar, isAgg, underlying, Tryz.underlying118, ha, Result.andThen, Tryz.elemOfPF, Tryz.mkF]
theorem Tryz.partsFa (a : Addr) (w : World) : (ReflectliteValue.parts (.agg #[.pointer (some ⟨9, 72, none⟩), .pointer (some a), .int .u64 409])).run Tryz.prog w = .ok (some (72, a, 409)) w := by kernel_rfl
theorem Tryz.partsF (a : Addr) (w : World) : (ReflectliteValue.parts (.agg #[.pointer (some ⟨9, 72, none⟩), .pointer (some a), .int .u64 153])).run Tryz.prog w = .ok (some (72, a, 153)) w := by kernel_rfl
theorem Tryz.directF (w : World) : (Rtype.directlyAssignable 72 72).run Tryz.prog w = .ok true w := by kernel_rfl
theorem Tryz.infoF : (Tryz.prog.info? 72).map (·.size) = some 2 := by kernel_rfl
theorem Tryz.setF (tb b : Nat) (c a : Int) (o1 o2 : Value) (W : World) (hb0 : W.cell? ⟨b, 0, none⟩ = some (.int .i64 c)) (hb1 : W.cell? ⟨b, 1, none⟩ = some (.int .i64 a))
    (ht0 : W.cell? ⟨tb, 0, none⟩ = some o1) (ht1 : W.cell? ⟨tb, 1, none⟩ = some o2) (hf0 : W.frozen? ⟨tb, 0, none⟩ = false) (hf1 : W.frozen? ⟨tb, 1, none⟩ = false) :
    (ReflectliteValue.set #[.agg #[.pointer (some ⟨9, 72, none⟩), .pointer (some ⟨tb, 0, none⟩), .int .u64 409], .agg #[.pointer (some ⟨9, 72, none⟩), .pointer (some ⟨b, 0, none⟩), .int .u64 153]]).run Tryz.prog W
      = .ok (.tuple #[]) ((W.setCell ⟨tb, 0, none⟩ (.int .i64 c)).setCell ⟨tb, 1, none⟩ (.int .i64 a)) := by
  cases hq : Tryz.prog.info? 72 with
  | none => have := Tryz.infoF; simp [hq] at this
  | some i =>
    have hsz : i.size = 2 := by have := Tryz.infoF; simpa [hq] using this
    rw [rls]
    simp only [Sem.run_bind, Tryz.partsFa, Tryz.partsF, Result.andThen]
    simp [ReflectliteValue.flagAddr, loadVar, isAgg, underlying, Tryz.underlying72, Result.andThen, Tryz.directF, storeVar, Value.cells, storeCells, Addr.add, sizeOf, typeInfo, hq, hsz, loadCells, loadCellsFrom, hb0, hb1]
    have h1 : (W.setCell ⟨tb, 0, none⟩ (.int .i64 c)).cell? ⟨tb, 1, none⟩ = some o2 := by
      rw [World.cell?_setCell_other _ _ _ _ (by simp)]; exact ht1
    have h2 : (W.setCell ⟨tb, 0, none⟩ (.int .i64 c)).frozen? ⟨tb, 1, none⟩ = false := by
      rw [World.frozen?_setCell]; exact hf1
    rw [run_store Tryz.prog W ⟨tb, 0, none⟩ _ _ (by rfl)]
    simp only [ht0, hf0, Bool.false_eq_true, ↓reduceIte]
    rw [run_store Tryz.prog _ ⟨tb, 1, none⟩ _ _ (by rfl)]
    simp [h1, h2]

theorem Tryz.methodUnF (v : Value) (w : World) : (Go.method 330 72 v "Unwrap").run Tryz.prog w = .ok (168, v) w := by kernel_rfl

/-! ### type assertions of errors.as -/
theorem Tryz.asAsE (v : Value) (xT : TypeId) (w : World) : (Instr.typeAssert (.iface 42 v) xT 140 true).run Tryz.prog w = .ok (.tuple #[.nilIface, .bool false]) w :=
  run_typeAssert_lacksB Tryz.underlying140 (by kernel_rfl) (by kernel_rfl) v xT w
theorem Tryz.asAsF (v : Value) (xT : TypeId) (w : World) : (Instr.typeAssert (.iface 72 v) xT 140 true).run Tryz.prog w = .ok (.tuple #[.nilIface, .bool false]) w :=
  run_typeAssert_lacksB Tryz.underlying140 (by kernel_rfl) (by kernel_rfl) v xT w
theorem Tryz.asUnE (v : Value) (xT : TypeId) (w : World) : (Instr.typeAssert (.iface 42 v) xT 143 true).run Tryz.prog w = .ok (.tuple #[.nilIface, .bool false]) w :=
  run_typeAssert_lacksB Tryz.underlying143 (by kernel_rfl) (by kernel_rfl) v xT w
theorem Tryz.asUmE (v : Value) (xT : TypeId) (w : World) : (Instr.typeAssert (.iface 42 v) xT 145 true).run Tryz.prog w = .ok (.tuple #[.nilIface, .bool false]) w :=
  run_typeAssert_lacksB Tryz.underlying145 (by kernel_rfl) (by kernel_rfl) v xT w
theorem Tryz.asUnF (v : Value) (xT : TypeId) (w : World) : (Instr.typeAssert (.iface 72 v) xT 143 true).run Tryz.prog w = .ok (.tuple #[.iface 72 v, .bool true]) w :=
  run_typeAssert_hasB Tryz.underlying143 (by kernel_rfl) v xT w

end Go.Proofs.YtbiohohclnaocaaGreatDoor
