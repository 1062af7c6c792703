/- Walks and laws, merged: part 2. -/
import Derived.LaidEql
import Derived.Stop.Asserts
import Derived.RowKitTokens
import Derived.Test.YtlkchfhcfccaoaaGreatDoorPt01
section
namespace Go.Proofs.YtlkchfhcfccaoaaGreatDoor
open Go.RowKit Go.Extern.Stop Go.Stop Go.Extern
set_option linter.unusedVariables false

theorem rlm (z : Sem Value) (f : TypeId → Addr → Nat → Nat → Sem Value) (v : Value) :
    ReflectliteValue.method z f #[v] = (do match ← ReflectliteValue.parts v with | none => z | some (t, a, fl) => f t a fl (fl % 32)) := rfl
theorem rls (v x : Value) : ReflectliteValue.set #[v, x] = (do
    let (some (dst, a, fl), some (src, b, _)) := (← ReflectliteValue.parts v, ← ReflectliteValue.parts x)
      | unsupported (.noEntry "extern/(internal/reflectlite.Value).Set.zeroValue")
    if fl / ReflectliteValue.flagAddr % 2 == 0 then unsupported (.noEntry "extern/(internal/reflectlite.Value).Set.unaddressable")
    let val ← loadVar src b
    if ← Rtype.directlyAssignable dst src then storeVar dst a val
    else if ← Rtype.implements dst src then
      if (← Rtype.kind src) == 20 then
        match val with
        | .nilIface => unsupported (.noEntry "extern/reflectlite: a nil value of one interface type handed on as a value of another")
        | _ => storeVar dst a val
      else storeVar dst a (.iface src val)
    else panicString ("reflectlite.Set: value of type " ++ (← Rtype.spelt src) ++ " is not assignable to type " ++ (← Rtype.spelt dst))
    pure (.tuple #[])) := rfl

theorem Tryz.methodKind (h : Value) (w : World) : (Go.method 389 166 (.agg #[h]) "Kind").run Tryz.prog w = .ok (231, h) w := by kernel_rfl
theorem Tryz.methodElem (h : Value) (w : World) : (Go.method 389 166 (.agg #[h]) "Elem").run Tryz.prog w = .ok (243, .agg #[h]) w := by kernel_rfl
theorem Tryz.methodImplements (h : Value) (w : World) : (Go.method 389 166 (.agg #[h]) "Implements").run Tryz.prog w = .ok (244, .agg #[h]) w := by kernel_rfl
theorem Tryz.methodAssignableTo (h : Value) (w : World) : (Go.method 389 166 (.agg #[h]) "AssignableTo").run Tryz.prog w = .ok (241, .agg #[h]) w := by kernel_rfl

/-! ### *api.Errno, api.Errno -/
theorem Tryz.valueOfPE (t : Addr) (w : World) : (ReflectliteValue.unpack (.iface 77 (.pointer (some t)))).run Tryz.prog w
    = .ok (.agg #[.pointer (some ⟨2, 77, none⟩), .pointer (some ⟨w.heap.size, 0, none⟩), .int .u64 150]) (w.alloc (.cells #[.pointer (some t)] 77)) := by kernel_rfl
theorem Tryz.typePE (a : Addr) (w : World) : (ReflectliteValue.methodAny (ReflectliteValue.valueError "reflectlite.Value.Type" 0) (fun t _ _ _ => ReflectliteType.toType t) #[.agg #[.pointer (some ⟨2, 77, none⟩), .pointer (some a), .int .u64 150]]).run Tryz.prog w
    = .ok (.iface 166 (.agg #[.pointer (some ⟨2, 77, none⟩)])) w := by kernel_rfl
theorem Tryz.kindPE (w : World) : ((ReflectliteType.abiMethod fun t => (fun a : Nat => Value.int IntKind.u8 (a : Int)) <$> Rtype.kind t) #[.pointer (some ⟨2, 77, none⟩)]).run Tryz.prog w = .ok (.int .u8 22) w := by kernel_rfl
theorem Tryz.kindE (w : World) : ((ReflectliteType.abiMethod fun t => (fun a : Nat => Value.int IntKind.u8 (a : Int)) <$> Rtype.kind t) #[.pointer (some ⟨2, 40, none⟩)]).run Tryz.prog w = .ok (.int .u8 2) w := by kernel_rfl
theorem Tryz.partsPE (a : Addr) (w : World) : (ReflectliteValue.parts (.agg #[.pointer (some ⟨2, 77, none⟩), .pointer (some a), .int .u64 150])).run Tryz.prog w = .ok (some (77, a, 150)) w := by kernel_rfl
theorem Tryz.isNilPE (a p : Addr) (W : World) (ha : W.cell? a = some (.pointer (some p))) :
    (ReflectliteValue.method (ReflectliteValue.valueError "reflectlite.Value.IsNil" 0) ReflectliteValue.isNil #[.agg #[.pointer (some ⟨2, 77, none⟩), .pointer (some a), .int .u64 150]]).run Tryz.prog W = .ok (.bool false) W := by
  rw [rlm]
  simp only [Sem.run_bind, Tryz.partsPE, Result.andThen]
  simp [ReflectliteValue.isNil, loadVar, isAgg, underlying, Tryz.underlying77, ha, Result.andThen]
theorem Tryz.elemPE (w : World) : (ReflectliteType.method ReflectliteType.elem #[.agg #[.pointer (some ⟨2, 77, none⟩)]]).run Tryz.prog w = .ok (.iface 166 (.agg #[.pointer (some ⟨2, 40, none⟩)])) w := by kernel_rfl
theorem Tryz.implementsE (w : World) : (ReflectliteType.relation "Implements" ReflectliteType.implements_ #[.agg #[.pointer (some ⟨2, 40, none⟩)], .iface 166 (.agg #[.pointer (some ⟨2, 36, none⟩)])]).run Tryz.prog w = .ok (.bool true) w := by kernel_rfl
theorem Tryz.typeOfE (v : Value) (w : World) : (ReflectliteType.typeOf #[.iface 40 v]).run Tryz.prog w = .ok (.iface 166 (.agg #[.pointer (some ⟨2, 40, none⟩)])) w := by kernel_rfl
theorem Tryz.assignableEE (w : World) : (ReflectliteType.relation "AssignableTo" ReflectliteType.assignableTo #[.agg #[.pointer (some ⟨2, 40, none⟩)], .iface 166 (.agg #[.pointer (some ⟨2, 40, none⟩)])]).run Tryz.prog w = .ok (.bool true) w := by kernel_rfl
theorem Tryz.valueOfE (c : Int) (w : World) : (ReflectliteValue.unpack (.iface 40 (.int .i64 c))).run Tryz.prog w
    = .ok (.agg #[.pointer (some ⟨2, 40, none⟩), .pointer (some ⟨w.heap.size, 0, none⟩), .int .u64 130]) (w.alloc (.cells #[.int .i64 c] 40)) := by kernel_rfl
theorem Tryz.elemOfPE (w : World) : (Rtype.elem? 77).run Tryz.prog w = .ok (some 40) w := by kernel_rfl
theorem Tryz.mkE (p : Addr) (w : World) : (ReflectliteValue.mk 40 p ReflectliteValue.flagAddr).run Tryz.prog w = .ok (.agg #[.pointer (some ⟨2, 40, none⟩), .pointer (some p), .int .u64 386]) w := by kernel_rfl
theorem Tryz.elemVPE (a p : Addr) (W : World) (ha : W.cell? a = some (.pointer (some p))) :
    (ReflectliteValue.method (ReflectliteValue.valueError "reflectlite.Value.Elem" 0) ReflectliteValue.elem #[.agg #[.pointer (some ⟨2, 77, none⟩), .pointer (some a), .int .u64 150]]).run Tryz.prog W
      = .ok (.agg #[.pointer (some ⟨2, 40, none⟩), .pointer (some p), .int .u64 386]) W := by
  rw [rlm]
  simp only [Sem.run_bind, Tryz.partsPE, Result.andThen]
  simp [ReflectliteValue.elem, loadVar, isAgg, underlying, Tryz.underlying77, ha, Result.andThen, Tryz.elemOfPE, Tryz.mkE]
theorem Tryz.partsEa (a : Addr) (w : World) : (ReflectliteValue.parts (.agg #[.pointer (some ⟨2, 40, none⟩), .pointer (some a), .int .u64 386])).run Tryz.prog w = .ok (some (40, a, 386)) w := by kernel_rfl
theorem Tryz.partsE (a : Addr) (w : World) : (ReflectliteValue.parts (.agg #[.pointer (some ⟨2, 40, none⟩), .pointer (some a), .int .u64 130])).run Tryz.prog w = .ok (some (40, a, 130)) w := by kernel_rfl
theorem Tryz.directE (w : World) : (Rtype.directlyAssignable 40 40).run Tryz.prog w = .ok true w := by kernel_rfl
theorem Tryz.sizeE (w : World) : (sizeOf 40).run Tryz.prog w = .ok 1 w := by kernel_rfl
theorem Tryz.setE (ta b : Addr) (c : Int) (old : Value) (W : World) (hb : W.cell? b = some (.int .i64 c)) (ht : W.cell? ta = some old) (hf : W.frozen? ta = false) :
    (ReflectliteValue.set #[.agg #[.pointer (some ⟨2, 40, none⟩), .pointer (some ta), .int .u64 386], .agg #[.pointer (some ⟨2, 40, none⟩), .pointer (some b), .int .u64 130]]).run Tryz.prog W
      = .ok (.tuple #[]) (W.setCell ta (.int .i64 c)) := by
  rw [rls]
  simp only [Sem.run_bind, Tryz.partsEa, Tryz.partsE, Result.andThen]
  simp [ReflectliteValue.flagAddr, loadVar, isAgg, underlying, Tryz.underlying40, hb, Result.andThen, Tryz.directE, storeVar, Value.cells, storeCells, Addr.add]
  rw [run_store Tryz.prog W ta _ _ (by rfl)]
  simp [ht, hf]

/-! ### *api.Fault, api.Fault -/
theorem Tryz.valueOfPF (t : Addr) (w : World) : (ReflectliteValue.unpack (.iface 122 (.pointer (some t)))).run Tryz.prog w
    = .ok (.agg #[.pointer (some ⟨2, 122, none⟩), .pointer (some ⟨w.heap.size, 0, none⟩), .int .u64 150]) (w.alloc (.cells #[.pointer (some t)] 122)) := by kernel_rfl
theorem Tryz.typePF (a : Addr) (w : World) : (ReflectliteValue.methodAny (ReflectliteValue.valueError "reflectlite.Value.Type" 0) (fun t _ _ _ => ReflectliteType.toType t) #[.agg #[.pointer (some ⟨2, 122, none⟩), .pointer (some a), .int .u64 150]]).run Tryz.prog w
    = .ok (.iface 166 (.agg #[.pointer (some ⟨2, 122, none⟩)])) w := by kernel_rfl
theorem Tryz.kindPF (w : World) : ((ReflectliteType.abiMethod fun t => (fun a : Nat => Value.int IntKind.u8 (a : Int)) <$> Rtype.kind t) #[.pointer (some ⟨2, 122, none⟩)]).run Tryz.prog w = .ok (.int .u8 22) w := by kernel_rfl
theorem Tryz.kindF (w : World) : ((ReflectliteType.abiMethod fun t => (fun a : Nat => Value.int IntKind.u8 (a : Int)) <$> Rtype.kind t) #[.pointer (some ⟨2, 79, none⟩)]).run Tryz.prog w = .ok (.int .u8 25) w := by kernel_rfl
theorem Tryz.partsPF (a : Addr) (w : World) : (ReflectliteValue.parts (.agg #[.pointer (some ⟨2, 122, none⟩), .pointer (some a), .int .u64 150])).run Tryz.prog w = .ok (some (122, a, 150)) w := by kernel_rfl
theorem Tryz.isNilPF (a p : Addr) (W : World) (ha : W.cell? a = some (.pointer (some p))) :
    (ReflectliteValue.method (ReflectliteValue.valueError "reflectlite.Value.IsNil" 0) ReflectliteValue.isNil #[.agg #[.pointer (some ⟨2, 122, none⟩), .pointer (some a), .int .u64 150]]).run Tryz.prog W = .ok (.bool false) W := by
  rw [rlm]
  simp only [Sem.run_bind, Tryz.partsPF, Result.andThen]
  simp [ReflectliteValue.isNil, loadVar, isAgg, underlying, Tryz.underlying122, ha, Result.andThen]
theorem Tryz.elemPF (w : World) : (ReflectliteType.method ReflectliteType.elem #[.agg #[.pointer (some ⟨2, 122, none⟩)]]).run Tryz.prog w = .ok (.iface 166 (.agg #[.pointer (some ⟨2, 79, none⟩)])) w := by kernel_rfl
theorem Tryz.implementsF (w : World) : (ReflectliteType.relation "Implements" ReflectliteType.implements_ #[.agg #[.pointer (some ⟨2, 79, none⟩)], .iface 166 (.agg #[.pointer (some ⟨2, 36, none⟩)])]).run Tryz.prog w = .ok (.bool true) w := by kernel_rfl
theorem Tryz.typeOfF (v : Value) (w : World) : (ReflectliteType.typeOf #[.iface 79 v]).run Tryz.prog w = .ok (.iface 166 (.agg #[.pointer (some ⟨2, 79, none⟩)])) w := by kernel_rfl
theorem Tryz.assignableFF (w : World) : (ReflectliteType.relation "AssignableTo" ReflectliteType.assignableTo #[.agg #[.pointer (some ⟨2, 79, none⟩)], .iface 166 (.agg #[.pointer (some ⟨2, 79, none⟩)])]).run Tryz.prog w = .ok (.bool true) w := by kernel_rfl
theorem Tryz.assignableFE (w : World) : (ReflectliteType.relation "AssignableTo" ReflectliteType.assignableTo #[.agg #[.pointer (some ⟨2, 79, none⟩)], .iface 166 (.agg #[.pointer (some ⟨2, 40, none⟩)])]).run Tryz.prog w = .ok (.bool false) w := by kernel_rfl
theorem Tryz.assignableEF (w : World) : (ReflectliteType.relation "AssignableTo" ReflectliteType.assignableTo #[.agg #[.pointer (some ⟨2, 40, none⟩)], .iface 166 (.agg #[.pointer (some ⟨2, 79, none⟩)])]).run Tryz.prog w = .ok (.bool false) w := by kernel_rfl
theorem Tryz.valueOfF (c a : Int) (w : World) : (ReflectliteValue.unpack (.iface 79 (.agg #[.int .i64 c, .int .i64 a]))).run Tryz.prog w
    = .ok (.agg #[.pointer (some ⟨2, 79, none⟩), .pointer (some ⟨w.heap.size, 0, none⟩), .int .u64 153]) (w.alloc (.cells #[.int .i64 c, .int .i64 a] 79)) := by kernel_rfl
theorem Tryz.elemOfPF (w : World) : (Rtype.elem? 122).run Tryz.prog w = .ok (some 79) w := by kernel_rfl
theorem Tryz.mkF (p : Addr) (w : World) : (ReflectliteValue.mk 79 p ReflectliteValue.flagAddr).run Tryz.prog w = .ok (.agg #[.pointer (some ⟨2, 79, none⟩), .pointer (some p), .int .u64 409]) w := by kernel_rfl
theorem Tryz.elemVPF (a p : Addr) (W : World) (ha : W.cell? a = some (.pointer (some p))) :
    (ReflectliteValue.method (ReflectliteValue.valueError "reflectlite.Value.Elem" 0) ReflectliteValue.elem #[.agg #[.pointer (some ⟨2, 122, none⟩), .pointer (some a), .int .u64 150]]).run Tryz.prog W
      = .ok (.agg #[.pointer (some ⟨2, 79, none⟩), .pointer (some p), .int .u64 409]) W := by
  rw [rlm]
  simp only [Sem.run_bind, Tryz.partsPF, Result.andThen]
  simp [ReflectliteValue.elem, loadVar, isAgg, underlying, Tryz.underlying122, ha, Result.andThen, Tryz.elemOfPF, Tryz.mkF]
theorem Tryz.partsFa (a : Addr) (w : World) : (ReflectliteValue.parts (.agg #[.pointer (some ⟨2, 79, none⟩), .pointer (some a), .int .u64 409])).run Tryz.prog w = .ok (some (79, a, 409)) w := by kernel_rfl
theorem Tryz.partsF (a : Addr) (w : World) : (ReflectliteValue.parts (.agg #[.pointer (some ⟨2, 79, none⟩), .pointer (some a), .int .u64 153])).run Tryz.prog w = .ok (some (79, a, 153)) w := by kernel_rfl
theorem Tryz.directF (w : World) : (Rtype.directlyAssignable 79 79).run Tryz.prog w = .ok true w := by kernel_rfl
theorem Tryz.infoF : (Tryz.prog.info? 79).map (·.size) = some 2 := by kernel_rfl
theorem Tryz.setF (tb b : Nat) (c a : Int) (o1 o2 : Value) (W : World) (hb0 : W.cell? ⟨b, 0, none⟩ = some (.int .i64 c)) (hb1 : W.cell? ⟨b, 1, none⟩ = some (.int .i64 a))
    (ht0 : W.cell? ⟨tb, 0, none⟩ = some o1) (ht1 : W.cell? ⟨tb, 1, none⟩ = some o2) (hf0 : W.frozen? ⟨tb, 0, none⟩ = false) (hf1 : W.frozen? ⟨tb, 1, none⟩ = false) :
    (ReflectliteValue.set #[.agg #[.pointer (some ⟨2, 79, none⟩), .pointer (some ⟨tb, 0, none⟩), .int .u64 409], .agg #[.pointer (some ⟨2, 79, none⟩), .pointer (some ⟨b, 0, none⟩), .int .u64 153]]).run Tryz.prog W
      = .ok (.tuple #[]) ((W.setCell ⟨tb, 0, none⟩ (.int .i64 c)).setCell ⟨tb, 1, none⟩ (.int .i64 a)) := by
  cases hq : Tryz.prog.info? 79 with
  | none => have := Tryz.infoF; simp [hq] at this
  | some i =>
    have hsz : i.size = 2 := by have := Tryz.infoF; simpa [hq] using this
    rw [rls]
    simp only [Sem.run_bind, Tryz.partsFa, Tryz.partsF, Result.andThen]
    simp [ReflectliteValue.flagAddr, loadVar, isAgg, underlying, Tryz.underlying79, Result.andThen, Tryz.directF, storeVar, Value.cells, storeCells, Addr.add, sizeOf, typeInfo, hq, hsz, loadCells, loadCellsFrom, hb0, hb1]
    have h1 : (W.setCell ⟨tb, 0, none⟩ (.int .i64 c)).cell? ⟨tb, 1, none⟩ = some o2 := by
      rw [World.cell?_setCell_other _ _ _ _ (by simp)]; exact ht1
    have h2 : (W.setCell ⟨tb, 0, none⟩ (.int .i64 c)).frozen? ⟨tb, 1, none⟩ = false := by
      rw [World.frozen?_setCell]; exact hf1
    rw [run_store Tryz.prog W ⟨tb, 0, none⟩ _ _ (by rfl)]
    simp only [ht0, hf0, Bool.false_eq_true, ↓reduceIte]
    rw [run_store Tryz.prog _ ⟨tb, 1, none⟩ _ _ (by rfl)]
    simp [h1, h2]

theorem Tryz.methodUnF (v : Value) (w : World) : (Go.method 389 79 v "Unwrap").run Tryz.prog w = .ok (236, v) w := by kernel_rfl

/-! ### type assertions of errors.as -/
theorem Tryz.asAsE (v : Value) (xT : TypeId) (w : World) : (Instr.typeAssert (.iface 40 v) xT 171 true).run Tryz.prog w = .ok (.tuple #[.nilIface, .bool false]) w :=
  run_typeAssert_lacksB Tryz.underlying171 (by kernel_rfl) (by kernel_rfl) v xT w
theorem Tryz.asAsF (v : Value) (xT : TypeId) (w : World) : (Instr.typeAssert (.iface 79 v) xT 171 true).run Tryz.prog w = .ok (.tuple #[.nilIface, .bool false]) w :=
  run_typeAssert_lacksB Tryz.underlying171 (by kernel_rfl) (by kernel_rfl) v xT w
theorem Tryz.asUnE (v : Value) (xT : TypeId) (w : World) : (Instr.typeAssert (.iface 40 v) xT 174 true).run Tryz.prog w = .ok (.tuple #[.nilIface, .bool false]) w :=
  run_typeAssert_lacksB Tryz.underlying174 (by kernel_rfl) (by kernel_rfl) v xT w
theorem Tryz.asUmE (v : Value) (xT : TypeId) (w : World) : (Instr.typeAssert (.iface 40 v) xT 176 true).run Tryz.prog w = .ok (.tuple #[.nilIface, .bool false]) w :=
  run_typeAssert_lacksB Tryz.underlying176 (by kernel_rfl) (by kernel_rfl) v xT w
theorem Tryz.asUnF (v : Value) (xT : TypeId) (w : World) : (Instr.typeAssert (.iface 79 v) xT 174 true).run Tryz.prog w = .ok (.tuple #[.iface 79 v, .bool true]) w :=
  run_typeAssert_hasB Tryz.underlying174 (by kernel_rfl) v xT w

end Go.Proofs.YtlkchfhcfccaoaaGreatDoor
end

section
namespace Go.Proofs.YtlkchfhcfccaoaaGreatDoor
open Go.RowKit Go.Extern.Stop Go.Stop Go.Extern
set_option linter.unusedVariables false

/-- errors.errorType holds the handle of the type error. -/
def Door (w : World) : Prop := w.cell? ⟨1, 0, none⟩ = some (.iface 166 (.agg #[.pointer (some ⟨2, 36, none⟩)]))

theorem Door.below {w w' : World} (h : Door w) {B : Nat} (hB : w.heap.size ≤ B) (hb : Below B w w') : Door w' := by
  unfold Door
  rw [hb.cell (p := ⟨1, 0, none⟩) (Nat.lt_of_lt_of_le (cell_lt h) hB)]
  exact h

theorem grownBy_set (w : World) (p : Addr) (v : Value) : w.grownBy (w.setCell p v) (some p.block) :=
  ⟨rfl, rfl, rfl, by simp [World.setCell], fun k _ hne => Below.heap_setCell _ _ _ _ (fun e => hne (by rw [e]))⟩

set_option maxHeartbeats 4000000 in
/-- errors.as of an api.Errno at a target *api.Errno. -/
theorem as_EE (c : Int) (t A : Addr) (old : Value) (w : World) (hA : w.cell? A = some (.pointer (some t))) (ht : w.cell? t = some old) (hf : w.frozen? t = false) :
    Calls Tryz.prog 86 #[.iface 40 (.int .i64 c), .iface 77 (.pointer (some t)), .agg #[.pointer (some ⟨2, 77, none⟩), .pointer (some A), .int .u64 150], .iface 166 (.agg #[.pointer (some ⟨2, 40, none⟩)])] w
      fun e w' => e = .returned (.bool true) ∧ w.grownBy w' (some t.block) ∧ w'.cell? t = some (.int .i64 c) := by
  have hTO := @run_callFunc_extern Tryz.prog 133 _ ReflectliteType.typeOf Tryz.func133 (by kernel_rfl) (by kernel_rfl) (by kernel_rfl) (by kernel_rfl)
  have hAT := @run_callFunc_extern Tryz.prog 241 _ (ReflectliteType.relation "AssignableTo" ReflectliteType.assignableTo) Tryz.func241 (by kernel_rfl) (by kernel_rfl) (by kernel_rfl) (by kernel_rfl)
  have hEl := @run_callFunc_extern Tryz.prog 134 _ (ReflectliteValue.method (ReflectliteValue.valueError "reflectlite.Value.Elem" 0) ReflectliteValue.elem) Tryz.func134 (by kernel_rfl) (by kernel_rfl) (by kernel_rfl) (by kernel_rfl)
  have hVO := @run_callFunc_extern Tryz.prog 83 _ (fun args => ReflectliteValue.unpack (args.getD 0 (.tuple #[]))) Tryz.func83 (by kernel_rfl) (by kernel_rfl) (by kernel_rfl) (by kernel_rfl)
  have hSt := @run_callFunc_extern Tryz.prog 135 _ ReflectliteValue.set Tryz.func135 (by kernel_rfl) (by kernel_rfl) (by kernel_rfl) (by kernel_rfl)
  have tO := Tryz.typeOfE
  have mA := Tryz.methodAssignableTo
  have aEE := Tryz.assignableEE
  have vE := Tryz.valueOfE
  have hAl : A.block < w.heap.size := cell_lt hA
  have htl : t.block < w.heap.size := cell_lt ht
  have el := Tryz.elemVPE A t (w.alloc (.cells #[.pointer (some ⟨2, 77, none⟩), .pointer (some A), .int .u64 150] 113)) (by rw [World.cell?_alloc_lt _ _ A hAl]; exact hA)
  have st := Tryz.setE t ⟨w.heap.size + 1, 0, none⟩ c old ((w.alloc (.cells #[.pointer (some ⟨2, 77, none⟩), .pointer (some A), .int .u64 150] 113)).alloc (.cells #[.int .i64 c] 40))
    (by rw [World.cell?_alloc_at _ _ _ _ (by simp)]; rfl)
    (by rw [World.cell?_alloc_lt _ _ t (by simp; omega), World.cell?_alloc_lt _ _ t htl]; exact ht)
    (by rw [World.frozen?_alloc_old _ _ t (by simp; omega), World.frozen?_alloc_old _ _ t (Nat.ne_of_lt htl)]; exact hf)
  have hc2 : (((w.alloc (.cells #[.pointer (some ⟨2, 77, none⟩), .pointer (some A), .int .u64 150] 113)).alloc (.cells #[.int .i64 c] 40)).setCell t (.int .i64 c)).cell? t = some (.int .i64 c) :=
    World.cell?_setCell_same _ _ _ (by rw [World.cell?_alloc_lt _ _ t (by simp; omega), World.cell?_alloc_lt _ _ t htl]; exact ht)
  have Hc2 := Lib.hid hc2; clear hc2
  go_enter Tryz.func86, Tryz.ntmps86
  go_wp2
  refine wp_loop_rounds 1 ?_
  rw [rounds_succ]
  go_wp2
  go_ret
  exact ⟨rfl, grownBy_trans (grownBy_trans (World.grownBy_alloc _ _ _) (World.grownBy_alloc _ _ _)) (grownBy_set _ _ _), Hc2.out⟩

theorem unwrapF (c a : Int) (w : World) : Calls Tryz.prog 236 #[.agg #[.int .i64 c, .int .i64 a]] w fun e w' => e = .returned (.iface 40 (.int .i64 c)) ∧ w' = w.alloc (.cells #[.int .i64 c, .int .i64 a] 79) := by
  go_enter Tryz.func236, Tryz.ntmps236
  go_wp2
  go_ret
  exact ⟨rfl, rfl⟩

set_option maxHeartbeats 4000000 in
/-- errors.as of an api.Fault at a target *api.Errno: its code. -/
theorem as_EF (c a : Int) (t A : Addr) (old : Value) (w : World) (hA : w.cell? A = some (.pointer (some t))) (ht : w.cell? t = some old) (hf : w.frozen? t = false) :
    Calls Tryz.prog 86 #[.iface 79 (.agg #[.int .i64 c, .int .i64 a]), .iface 77 (.pointer (some t)), .agg #[.pointer (some ⟨2, 77, none⟩), .pointer (some A), .int .u64 150], .iface 166 (.agg #[.pointer (some ⟨2, 40, none⟩)])] w
      fun e w' => e = .returned (.bool true) ∧ w.grownBy w' (some t.block) ∧ w'.cell? t = some (.int .i64 c) := by
  have hTO := @run_callFunc_extern Tryz.prog 133 _ ReflectliteType.typeOf Tryz.func133 (by kernel_rfl) (by kernel_rfl) (by kernel_rfl) (by kernel_rfl)
  have hAT := @run_callFunc_extern Tryz.prog 241 _ (ReflectliteType.relation "AssignableTo" ReflectliteType.assignableTo) Tryz.func241 (by kernel_rfl) (by kernel_rfl) (by kernel_rfl) (by kernel_rfl)
  have hEl := @run_callFunc_extern Tryz.prog 134 _ (ReflectliteValue.method (ReflectliteValue.valueError "reflectlite.Value.Elem" 0) ReflectliteValue.elem) Tryz.func134 (by kernel_rfl) (by kernel_rfl) (by kernel_rfl) (by kernel_rfl)
  have hVO := @run_callFunc_extern Tryz.prog 83 _ (fun args => ReflectliteValue.unpack (args.getD 0 (.tuple #[]))) Tryz.func83 (by kernel_rfl) (by kernel_rfl) (by kernel_rfl) (by kernel_rfl)
  have hSt := @run_callFunc_extern Tryz.prog 135 _ ReflectliteValue.set Tryz.func135 (by kernel_rfl) (by kernel_rfl) (by kernel_rfl) (by kernel_rfl)
  have tO := Tryz.typeOfE
  have tO2 := Tryz.typeOfF
  have mA := Tryz.methodAssignableTo
  have aEE := Tryz.assignableEE
  have aFE := Tryz.assignableFE
  have s1 := Tryz.asAsF
  have s2 := Tryz.asUnF
  have mU := Tryz.methodUnF
  have vE := Tryz.valueOfE
  have hAl : A.block < w.heap.size := cell_lt hA
  have htl : t.block < w.heap.size := cell_lt ht
  have hA2 : ((w.alloc (.cells #[.pointer (some ⟨2, 77, none⟩), .pointer (some A), .int .u64 150] 113)).alloc (.cells #[.int .i64 c, .int .i64 a] 79)).cell? A = some (.pointer (some t)) := by
    rw [World.cell?_alloc_lt _ _ A (by simp; omega), World.cell?_alloc_lt _ _ A hAl]; exact hA
  have ht2 : ((w.alloc (.cells #[.pointer (some ⟨2, 77, none⟩), .pointer (some A), .int .u64 150] 113)).alloc (.cells #[.int .i64 c, .int .i64 a] 79)).cell? t = some old := by
    rw [World.cell?_alloc_lt _ _ t (by simp; omega), World.cell?_alloc_lt _ _ t htl]; exact ht
  have hf2 : ((w.alloc (.cells #[.pointer (some ⟨2, 77, none⟩), .pointer (some A), .int .u64 150] 113)).alloc (.cells #[.int .i64 c, .int .i64 a] 79)).frozen? t = false := by
    rw [World.frozen?_alloc_old _ _ t (by simp; omega), World.frozen?_alloc_old _ _ t (Nat.ne_of_lt htl)]; exact hf
  have el := Tryz.elemVPE A t ((w.alloc (.cells #[.pointer (some ⟨2, 77, none⟩), .pointer (some A), .int .u64 150] 113)).alloc (.cells #[.int .i64 c, .int .i64 a] 79)) hA2
  have st := Tryz.setE t ⟨w.heap.size + 1 + 1, 0, none⟩ c old (((w.alloc (.cells #[.pointer (some ⟨2, 77, none⟩), .pointer (some A), .int .u64 150] 113)).alloc (.cells #[.int .i64 c, .int .i64 a] 79)).alloc (.cells #[.int .i64 c] 40))
    (by rw [World.cell?_alloc_at _ _ _ _ (by simp)]; rfl)
    (by rw [World.cell?_alloc_lt _ _ t (by simp; omega)]; exact ht2)
    (by rw [World.frozen?_alloc_old _ _ t (by simp; omega)]; exact hf2)
  have hc2 : ((((w.alloc (.cells #[.pointer (some ⟨2, 77, none⟩), .pointer (some A), .int .u64 150] 113)).alloc (.cells #[.int .i64 c, .int .i64 a] 79)).alloc (.cells #[.int .i64 c] 40)).setCell t (.int .i64 c)).cell? t = some (.int .i64 c) :=
    World.cell?_setCell_same _ _ _ (by rw [World.cell?_alloc_lt _ _ t (by simp; omega)]; exact ht2)
  have Hc2 := Lib.hid hc2; clear hc2 hA2 ht2 hf2
  go_enter Tryz.func86, Tryz.ntmps86
  go_wp2
  refine wp_loop_rounds 2 ?_
  rw [rounds_succ]
  go_wp2_with fail
  refine (unwrapF c a _).mono ?_
  rintro e w' ⟨rfl, rfl⟩
  go_wp2_with fail
  rw [rounds_succ]
  go_wp2_with fail
  go_ret
  exact ⟨rfl, grownBy_trans (grownBy_trans (grownBy_trans (World.grownBy_alloc _ _ _) (World.grownBy_alloc _ _ _)) (World.grownBy_alloc _ _ _)) (grownBy_set _ _ _), Hc2.out⟩

end Go.Proofs.YtlkchfhcfccaoaaGreatDoor
end

section
namespace Go.Proofs.YtlkchfhcfccaoaaGreatDoor
open Go.RowKit Go.Extern.Stop Go.Stop Go.Extern
set_option linter.unusedVariables false

set_option maxHeartbeats 4000000 in
/-- errors.as of an api.Fault at a target *api.Fault. -/
theorem as_FF (c a : Int) (tb : Nat) (A : Addr) (o1 o2 : Value) (w : World) (hA : w.cell? A = some (.pointer (some ⟨tb, 0, none⟩))) (ht0 : w.cell? ⟨tb, 0, none⟩ = some o1) (ht1 : w.cell? ⟨tb, 1, none⟩ = some o2)
    (hf0 : w.frozen? ⟨tb, 0, none⟩ = false) (hf1 : w.frozen? ⟨tb, 1, none⟩ = false) :
    Calls Tryz.prog 86 #[.iface 79 (.agg #[.int .i64 c, .int .i64 a]), .iface 122 (.pointer (some ⟨tb, 0, none⟩)), .agg #[.pointer (some ⟨2, 122, none⟩), .pointer (some A), .int .u64 150], .iface 166 (.agg #[.pointer (some ⟨2, 79, none⟩)])] w
      fun e w' => e = .returned (.bool true) ∧ w.grownBy w' (some tb) ∧ w'.cell? ⟨tb, 0, none⟩ = some (.int .i64 c) ∧ w'.cell? ⟨tb, 1, none⟩ = some (.int .i64 a) := by
  have hTO := @run_callFunc_extern Tryz.prog 133 _ ReflectliteType.typeOf Tryz.func133 (by kernel_rfl) (by kernel_rfl) (by kernel_rfl) (by kernel_rfl)
  have hAT := @run_callFunc_extern Tryz.prog 241 _ (ReflectliteType.relation "AssignableTo" ReflectliteType.assignableTo) Tryz.func241 (by kernel_rfl) (by kernel_rfl) (by kernel_rfl) (by kernel_rfl)
  have hEl := @run_callFunc_extern Tryz.prog 134 _ (ReflectliteValue.method (ReflectliteValue.valueError "reflectlite.Value.Elem" 0) ReflectliteValue.elem) Tryz.func134 (by kernel_rfl) (by kernel_rfl) (by kernel_rfl) (by kernel_rfl)
  have hVO := @run_callFunc_extern Tryz.prog 83 _ (fun args => ReflectliteValue.unpack (args.getD 0 (.tuple #[]))) Tryz.func83 (by kernel_rfl) (by kernel_rfl) (by kernel_rfl) (by kernel_rfl)
  have hSt := @run_callFunc_extern Tryz.prog 135 _ ReflectliteValue.set Tryz.func135 (by kernel_rfl) (by kernel_rfl) (by kernel_rfl) (by kernel_rfl)
  have tO := Tryz.typeOfF
  have mA := Tryz.methodAssignableTo
  have aFF := Tryz.assignableFF
  have vF := Tryz.valueOfF
  have hAl : A.block < w.heap.size := cell_lt hA
  have htl : tb < w.heap.size := cell_lt ht0
  have el := Tryz.elemVPF A ⟨tb, 0, none⟩ (w.alloc (.cells #[.pointer (some ⟨2, 122, none⟩), .pointer (some A), .int .u64 150] 113)) (by rw [World.cell?_alloc_lt _ _ A hAl]; exact hA)
  have h0 : ((w.alloc (.cells #[.pointer (some ⟨2, 122, none⟩), .pointer (some A), .int .u64 150] 113)).alloc (.cells #[.int .i64 c, .int .i64 a] 79)).cell? ⟨tb, 0, none⟩ = some o1 := by
    rw [World.cell?_alloc_lt _ _ ⟨tb, 0, none⟩ (by simp; omega), World.cell?_alloc_lt _ _ ⟨tb, 0, none⟩ htl]; exact ht0
  have h1 : ((w.alloc (.cells #[.pointer (some ⟨2, 122, none⟩), .pointer (some A), .int .u64 150] 113)).alloc (.cells #[.int .i64 c, .int .i64 a] 79)).cell? ⟨tb, 1, none⟩ = some o2 := by
    rw [World.cell?_alloc_lt _ _ ⟨tb, 1, none⟩ (by simp; omega), World.cell?_alloc_lt _ _ ⟨tb, 1, none⟩ htl]; exact ht1
  have g0 : ((w.alloc (.cells #[.pointer (some ⟨2, 122, none⟩), .pointer (some A), .int .u64 150] 113)).alloc (.cells #[.int .i64 c, .int .i64 a] 79)).frozen? ⟨tb, 0, none⟩ = false := by
    rw [World.frozen?_alloc_old _ _ ⟨tb, 0, none⟩ (by simp; omega), World.frozen?_alloc_old _ _ ⟨tb, 0, none⟩ (Nat.ne_of_lt htl)]; exact hf0
  have g1 : ((w.alloc (.cells #[.pointer (some ⟨2, 122, none⟩), .pointer (some A), .int .u64 150] 113)).alloc (.cells #[.int .i64 c, .int .i64 a] 79)).frozen? ⟨tb, 1, none⟩ = false := by
    rw [World.frozen?_alloc_old _ _ ⟨tb, 1, none⟩ (by simp; omega), World.frozen?_alloc_old _ _ ⟨tb, 1, none⟩ (Nat.ne_of_lt htl)]; exact hf1
  have st := Tryz.setF tb (w.heap.size + 1) c a o1 o2 ((w.alloc (.cells #[.pointer (some ⟨2, 122, none⟩), .pointer (some A), .int .u64 150] 113)).alloc (.cells #[.int .i64 c, .int .i64 a] 79))
    (by rw [World.cell?_alloc_at _ _ _ _ (by simp)]; rfl) (by rw [World.cell?_alloc_at _ _ _ _ (by simp)]; rfl) h0 h1 g0 g1
  have hz : ((w.setCell ⟨tb, 0, none⟩ (.int .i64 c)).setCell ⟨tb, 1, none⟩ (.int .i64 a)).heap.size = w.heap.size := by simp [World.setCell]
  have hc0 : ((((w.setCell ⟨tb, 0, none⟩ (.int .i64 c)).setCell ⟨tb, 1, none⟩ (.int .i64 a)).alloc (.cells #[.pointer (some ⟨2, 122, none⟩), .pointer (some A), .int .u64 150] 113)).alloc (.cells #[.int .i64 c, .int .i64 a] 79)).cell? ⟨tb, 0, none⟩ = some (.int .i64 c) := by
    rw [World.cell?_alloc_lt _ _ ⟨tb, 0, none⟩ (by simp only [World.size_alloc, hz]; omega), World.cell?_alloc_lt _ _ ⟨tb, 0, none⟩ (by rw [hz]; exact htl), World.cell?_setCell_other _ _ _ _ (by simp)]
    exact World.cell?_setCell_same _ _ _ ht0
  have hc1 : ((((w.setCell ⟨tb, 0, none⟩ (.int .i64 c)).setCell ⟨tb, 1, none⟩ (.int .i64 a)).alloc (.cells #[.pointer (some ⟨2, 122, none⟩), .pointer (some A), .int .u64 150] 113)).alloc (.cells #[.int .i64 c, .int .i64 a] 79)).cell? ⟨tb, 1, none⟩ = some (.int .i64 a) := by
    rw [World.cell?_alloc_lt _ _ ⟨tb, 1, none⟩ (by simp only [World.size_alloc, hz]; omega), World.cell?_alloc_lt _ _ ⟨tb, 1, none⟩ (by rw [hz]; exact htl)]
    exact World.cell?_setCell_same _ _ _ (by rw [World.cell?_setCell_other _ _ _ _ (by simp)]; exact ht1)
  have Hc0 := Lib.hid hc0; clear hc0 h0 h1 g0 g1 hz
  have Hc1 := Lib.hid hc1; clear hc1
  go_enter Tryz.func86, Tryz.ntmps86
  go_wp2
  refine wp_loop_rounds 1 ?_
  rw [rounds_succ]
  go_wp2
  go_ret
  exact ⟨rfl, grownBy_trans (grownBy_trans (grownBy_trans (grownBy_set _ ⟨tb, 0, none⟩ _) (grownBy_set _ ⟨tb, 1, none⟩ _)) (World.grownBy_alloc _ _ _)) (World.grownBy_alloc _ _ _), Hc0.out, Hc1.out⟩

set_option maxHeartbeats 4000000 in
/-- errors.as of an api.Errno at a target *api.Fault: no. -/
theorem as_FE (c : Int) (tb : Nat) (A : Addr) (w : World) :
    Calls Tryz.prog 86 #[.iface 40 (.int .i64 c), .iface 122 (.pointer (some ⟨tb, 0, none⟩)), .agg #[.pointer (some ⟨2, 122, none⟩), .pointer (some A), .int .u64 150], .iface 166 (.agg #[.pointer (some ⟨2, 79, none⟩)])] w
      fun e w' => e = .returned (.bool false) ∧ w.grownBy w' none := by
  have hTO := @run_callFunc_extern Tryz.prog 133 _ ReflectliteType.typeOf Tryz.func133 (by kernel_rfl) (by kernel_rfl) (by kernel_rfl) (by kernel_rfl)
  have hAT := @run_callFunc_extern Tryz.prog 241 _ (ReflectliteType.relation "AssignableTo" ReflectliteType.assignableTo) Tryz.func241 (by kernel_rfl) (by kernel_rfl) (by kernel_rfl) (by kernel_rfl)
  have tO := Tryz.typeOfE
  have mA := Tryz.methodAssignableTo
  have aEF := Tryz.assignableEF
  have s1 := Tryz.asAsE
  have s2 := Tryz.asUnE
  have s3 := Tryz.asUmE
  go_enter Tryz.func86, Tryz.ntmps86
  go_wp2
  refine wp_loop_rounds 1 ?_
  rw [rounds_succ]
  go_wp2
  go_ret
  exact ⟨rfl, World.grownBy_alloc _ _ _⟩

end Go.Proofs.YtlkchfhcfccaoaaGreatDoor
end
