/- Part 01. -/
import Derived.Deep.AppendLies
import Derived.RegionTactic
import Derived.OwnWalk
import Derived.Below
import Derived.Deep.RegionHeld3
import Derived.Deep.RegionLaw
import Derived.Laws.Bits64
import Derived.BigRegion
import Derived.Deep.CutBlock
import Derived.Deep.DeepCutAuto
import Derived.LoopIn
import Derived.LoopNIn
import Derived.OwnWalkIn
import Derived.RangeFuncBound
import Derived.RangeFuncCalls
import Derived.RangeFuncLeaves
import Derived.RangeFuncNested
import Derived.RangeFuncRecord
import Derived.Shelf.Abstract
import Derived.Shelf.RegionOpen
import Derived.Sort.CutIn
import Derived.StillTailTactics
import Derived.TacticsInMore
import Derived.Deep.RegionWith
import Derived.LaidEql
import Derived.Stop.Asserts
import Derived.RowKitTokens
import Derived.WalkSpells
import Derived.BigQuiet
import Derived.Test.YtdnipikdddfhfaaGreatDoorRows
import Derived.WalkKit
import Derived.Lib.Hide
import Derived.Lib.SmallJoins
import Derived.Lib.SlBytesConst
import Derived.Shelf.Small.Bits
import Derived.Shelf.Small.Wraps
import Derived.Shelf.Strconv.Itoa0
import Derived.Shelf.Slices.Equal
import Derived.Ground.Names2Prog
import Derived.Shelf.Slices.SearchI
import Derived.Shelf.Slices.Empties2
import Derived.Test.YtdnipikdddfhfaaGreatDoorProg
import Derived.Shelf.SlSortCmp.WholeK
import Derived.Ground.SlsfProg
import Derived.Sort.WalkA
import Derived.Sort.WalkA6
import Derived.Sort.WalkB3
import Derived.Sort.WalkC4
import Derived.Sort.WalkD2
import Derived.Sort.Walk7
import Derived.Sort.Walk11
import Derived.Sort.Walk13
import Derived.Sort.WalkA14
import Derived.Sort.AssemblyPlain
import Derived.Lib.BitFns
import Derived.Laws.BitsAllLaws
set_option linter.unusedVariables false
namespace Go.Proofs.YtdnipikdddfhfaaGreatDoor
section
open Go.RowKit
theorem zx {W:World} {g i:Nat} {C:Array Value} {T:TypeId} {fr:Nat×Nat} {v:Value} (h:W.heap[g]?=some (.cells C T fr)) (hv:C[i]?=some v):W.cell? ⟨g,i,none⟩=some v:=by
 simp only[World.cell?,h];exact hv
theorem zfe {α:Type} {f:Nat→Option α} {k:Nat} (h:∀j,j<k→f j=none) (hk:f k=none):∀j,j<k+1→f j=none:=fun j hj=>by
 by_cases e:j=k
 · rw[e];exact hk
 · exact h j (by omega)
theorem zad (P:Program) (w:World) (a:Addr) (m:Mode) (f:Fn) (t c:Array Value):(store a (.func f t c) m).run P w=stored P w a (.func f t c) m:=run_store P w a _ m rfl
end
section
open Go.RowKit Go.Extern.Stop Go.Stop Go.Extern
theorem rlm (z:Sem Value) (f:TypeId→Addr→Nat→Nat→Sem Value) (v:Value):
 ReflectliteValue.method z f #[v]=(do match ←ReflectliteValue.parts v with | none=>z | some (t,a,fl)=>f t a fl (fl % 32)):=rfl
theorem rls (v x:Value):ReflectliteValue.set #[v,x]=(do
 let (some (dst,a,fl),some (src,b,_)):=(←ReflectliteValue.parts v,←ReflectliteValue.parts x)
  | unsupported (.noEntry "extern/(internal/reflectlite.Value).Set.zeroValue")
 if fl / ReflectliteValue.flagAddr % 2 == 0 then unsupported (.noEntry "extern/(internal/reflectlite.Value).Set.unaddressable")
 let val ←loadVar src b
 if ←Rtype.directlyAssignable dst src then storeVar dst a val
 else if ←Rtype.implements dst src then
  if (←Rtype.kind src) == 20 then
   match val with
   | .nilIface=>unsupported (.noEntry "extern/reflectlite: a nil value of one interface type handed on as a value of another")
   | _=>storeVar dst a val
  else storeVar dst a (.iface src val)
 else panicString ("reflectlite.Set: value of type " ++(←Rtype.spelt src)++ " is not assignable to type " ++(←Rtype.spelt dst))
 pure (.tuple #[])):=rfl
theorem Tryz.methodKind (h:Value) (w:World):(Go.method 520 229 (.agg #[h]) "Kind").run Tryz.prog w=.ok (319,h) w:=by kernel_rfl
theorem Tryz.methodElem (h:Value) (w:World):(Go.method 520 229 (.agg #[h]) "Elem").run Tryz.prog w=.ok (337,.agg #[h]) w:=by kernel_rfl
theorem Tryz.methodImplements (h:Value) (w:World):(Go.method 520 229 (.agg #[h]) "Implements").run Tryz.prog w=.ok (338,.agg #[h]) w:=by kernel_rfl
theorem Tryz.methodAssignableTo (h:Value) (w:World):(Go.method 520 229 (.agg #[h]) "AssignableTo").run Tryz.prog w=.ok (335,.agg #[h]) w:=by kernel_rfl
theorem Tryz.valueOfPE (t:Addr) (w:World):(ReflectliteValue.unpack (.iface 111 (.pointer (some t)))).run Tryz.prog w
 = .ok (.agg #[.pointer (some ⟨1,111,none⟩),.pointer (some ⟨w.heap.size,0,none⟩),.int .u64 150]) (w.alloc (.cells #[.pointer (some t)] 111)):=by kernel_rfl
theorem Tryz.typePE (a:Addr) (w:World):(ReflectliteValue.methodAny (ReflectliteValue.valueError "reflectlite.Value.Type" 0) (fun t _ _ _=>ReflectliteType.toType t) #[.agg #[.pointer (some ⟨1,111,none⟩),.pointer (some a),.int .u64 150]]).run Tryz.prog w
 = .ok (.iface 229 (.agg #[.pointer (some ⟨1,111,none⟩)])) w:=by kernel_rfl
theorem Tryz.kindPE (w:World):((ReflectliteType.abiMethod fun t=>(fun a:Nat=>Value.int IntKind.u8 (a:Int)) <$> Rtype.kind t) #[.pointer (some ⟨1,111,none⟩)]).run Tryz.prog w=.ok (.int .u8 22) w:=by kernel_rfl
theorem Tryz.kindE (w:World):((ReflectliteType.abiMethod fun t=>(fun a:Nat=>Value.int IntKind.u8 (a:Int)) <$> Rtype.kind t) #[.pointer (some ⟨1,35,none⟩)]).run Tryz.prog w=.ok (.int .u8 2) w:=by kernel_rfl
theorem Tryz.partsPE (a:Addr) (w:World):(ReflectliteValue.parts (.agg #[.pointer (some ⟨1,111,none⟩),.pointer (some a),.int .u64 150])).run Tryz.prog w=.ok (some (111,a,150)) w:=by kernel_rfl
theorem Tryz.isNilPE (a p:Addr) (W:World) (ha:W.cell? a=some (.pointer (some p))):
 (ReflectliteValue.method (ReflectliteValue.valueError "reflectlite.Value.IsNil" 0) ReflectliteValue.isNil #[.agg #[.pointer (some ⟨1,111,none⟩),.pointer (some a),.int .u64 150]]).run Tryz.prog W=.ok (.bool false) W:=by
 rw[rlm];simp only[Sem.run_bind,Tryz.partsPE,Result.andThen];simp[ReflectliteValue.isNil,loadVar,isAgg,underlying,Tryz.underlying111,ha,Result.andThen]
theorem Tryz.elemPE (w:World):(ReflectliteType.method ReflectliteType.elem #[.agg #[.pointer (some ⟨1,111,none⟩)]]).run Tryz.prog w=.ok (.iface 229 (.agg #[.pointer (some ⟨1,35,none⟩)])) w:=by kernel_rfl
theorem Tryz.implementsE (w:World):(ReflectliteType.relation "Implements" ReflectliteType.implements_ #[.agg #[.pointer (some ⟨1,35,none⟩)],.iface 229 (.agg #[.pointer (some ⟨1,29,none⟩)])]).run Tryz.prog w=.ok (.bool true) w:=by kernel_rfl
theorem Tryz.typeOfE (v:Value) (w:World):(ReflectliteType.typeOf #[.iface 35 v]).run Tryz.prog w=.ok (.iface 229 (.agg #[.pointer (some ⟨1,35,none⟩)])) w:=by kernel_rfl
theorem Tryz.assignableEE (w:World):(ReflectliteType.relation "AssignableTo" ReflectliteType.assignableTo #[.agg #[.pointer (some ⟨1,35,none⟩)],.iface 229 (.agg #[.pointer (some ⟨1,35,none⟩)])]).run Tryz.prog w=.ok (.bool true) w:=by kernel_rfl
theorem Tryz.valueOfE (c:Int) (w:World):(ReflectliteValue.unpack (.iface 35 (.int .i64 c))).run Tryz.prog w
 = .ok (.agg #[.pointer (some ⟨1,35,none⟩),.pointer (some ⟨w.heap.size,0,none⟩),.int .u64 130]) (w.alloc (.cells #[.int .i64 c] 35)):=by kernel_rfl
theorem Tryz.elemOfPE (w:World):(Rtype.elem? 111).run Tryz.prog w=.ok (some 35) w:=by kernel_rfl
theorem Tryz.mkE (p:Addr) (w:World):(ReflectliteValue.mk 35 p ReflectliteValue.flagAddr).run Tryz.prog w=.ok (.agg #[.pointer (some ⟨1,35,none⟩),.pointer (some p),.int .u64 386]) w:=by kernel_rfl
theorem Tryz.elemVPE (a p:Addr) (W:World) (ha:W.cell? a=some (.pointer (some p))):
 (ReflectliteValue.method (ReflectliteValue.valueError "reflectlite.Value.Elem" 0) ReflectliteValue.elem #[.agg #[.pointer (some ⟨1,111,none⟩),.pointer (some a),.int .u64 150]]).run Tryz.prog W
   = .ok (.agg #[.pointer (some ⟨1,35,none⟩),.pointer (some p),.int .u64 386]) W:=by
 rw[rlm];simp only[Sem.run_bind,Tryz.partsPE,Result.andThen];simp[ReflectliteValue.elem,loadVar,isAgg,underlying,Tryz.underlying111,ha,Result.andThen,Tryz.elemOfPE,Tryz.mkE]
theorem Tryz.partsEa (a:Addr) (w:World):(ReflectliteValue.parts (.agg #[.pointer (some ⟨1,35,none⟩),.pointer (some a),.int .u64 386])).run Tryz.prog w=.ok (some (35,a,386)) w:=by kernel_rfl
theorem Tryz.partsE (a:Addr) (w:World):(ReflectliteValue.parts (.agg #[.pointer (some ⟨1,35,none⟩),.pointer (some a),.int .u64 130])).run Tryz.prog w=.ok (some (35,a,130)) w:=by kernel_rfl
theorem Tryz.directE (w:World):(Rtype.directlyAssignable 35 35).run Tryz.prog w=.ok true w:=by kernel_rfl
theorem Tryz.setE (ta b:Addr) (c:Int) (old:Value) (W:World) (hb:W.cell? b=some (.int .i64 c)) (ht:W.cell? ta=some old) (hf:W.frozen? ta=false):
 (ReflectliteValue.set #[.agg #[.pointer (some ⟨1,35,none⟩),.pointer (some ta),.int .u64 386],.agg #[.pointer (some ⟨1,35,none⟩),.pointer (some b),.int .u64 130]]).run Tryz.prog W
   = .ok (.tuple #[]) (W.setCell ta (.int .i64 c)):=by
 rw[rls];simp only[Sem.run_bind,Tryz.partsEa,Tryz.partsE,Result.andThen];simp[ReflectliteValue.flagAddr,loadVar,isAgg,underlying,Tryz.underlying35,hb,Result.andThen,Tryz.directE,storeVar,Value.cells,storeCells,Addr.add];rw[run_store Tryz.prog W ta _ _ (by rfl)];simp[ht,hf]
theorem Tryz.valueOfPF (t:Addr) (w:World):(ReflectliteValue.unpack (.iface 188 (.pointer (some t)))).run Tryz.prog w
 = .ok (.agg #[.pointer (some ⟨1,188,none⟩),.pointer (some ⟨w.heap.size,0,none⟩),.int .u64 150]) (w.alloc (.cells #[.pointer (some t)] 188)):=by kernel_rfl
theorem Tryz.typePF (a:Addr) (w:World):(ReflectliteValue.methodAny (ReflectliteValue.valueError "reflectlite.Value.Type" 0) (fun t _ _ _=>ReflectliteType.toType t) #[.agg #[.pointer (some ⟨1,188,none⟩),.pointer (some a),.int .u64 150]]).run Tryz.prog w
 = .ok (.iface 229 (.agg #[.pointer (some ⟨1,188,none⟩)])) w:=by kernel_rfl
theorem Tryz.kindPF (w:World):((ReflectliteType.abiMethod fun t=>(fun a:Nat=>Value.int IntKind.u8 (a:Int)) <$> Rtype.kind t) #[.pointer (some ⟨1,188,none⟩)]).run Tryz.prog w=.ok (.int .u8 22) w:=by kernel_rfl
theorem Tryz.kindF (w:World):((ReflectliteType.abiMethod fun t=>(fun a:Nat=>Value.int IntKind.u8 (a:Int)) <$> Rtype.kind t) #[.pointer (some ⟨1,112,none⟩)]).run Tryz.prog w=.ok (.int .u8 25) w:=by kernel_rfl
theorem Tryz.partsPF (a:Addr) (w:World):(ReflectliteValue.parts (.agg #[.pointer (some ⟨1,188,none⟩),.pointer (some a),.int .u64 150])).run Tryz.prog w=.ok (some (188,a,150)) w:=by kernel_rfl
theorem Tryz.isNilPF (a p:Addr) (W:World) (ha:W.cell? a=some (.pointer (some p))):
 (ReflectliteValue.method (ReflectliteValue.valueError "reflectlite.Value.IsNil" 0) ReflectliteValue.isNil #[.agg #[.pointer (some ⟨1,188,none⟩),.pointer (some a),.int .u64 150]]).run Tryz.prog W=.ok (.bool false) W:=by
 rw[rlm];simp only[Sem.run_bind,Tryz.partsPF,Result.andThen];simp[ReflectliteValue.isNil,loadVar,isAgg,underlying,Tryz.underlying188,ha,Result.andThen]
theorem Tryz.elemPF (w:World):(ReflectliteType.method ReflectliteType.elem #[.agg #[.pointer (some ⟨1,188,none⟩)]]).run Tryz.prog w=.ok (.iface 229 (.agg #[.pointer (some ⟨1,112,none⟩)])) w:=by kernel_rfl
theorem Tryz.implementsF (w:World):(ReflectliteType.relation "Implements" ReflectliteType.implements_ #[.agg #[.pointer (some ⟨1,112,none⟩)],.iface 229 (.agg #[.pointer (some ⟨1,29,none⟩)])]).run Tryz.prog w=.ok (.bool true) w:=by kernel_rfl
theorem Tryz.typeOfF (v:Value) (w:World):(ReflectliteType.typeOf #[.iface 112 v]).run Tryz.prog w=.ok (.iface 229 (.agg #[.pointer (some ⟨1,112,none⟩)])) w:=by kernel_rfl
theorem Tryz.assignableFF (w:World):(ReflectliteType.relation "AssignableTo" ReflectliteType.assignableTo #[.agg #[.pointer (some ⟨1,112,none⟩)],.iface 229 (.agg #[.pointer (some ⟨1,112,none⟩)])]).run Tryz.prog w=.ok (.bool true) w:=by kernel_rfl
theorem Tryz.assignableFE (w:World):(ReflectliteType.relation "AssignableTo" ReflectliteType.assignableTo #[.agg #[.pointer (some ⟨1,112,none⟩)],.iface 229 (.agg #[.pointer (some ⟨1,35,none⟩)])]).run Tryz.prog w=.ok (.bool false) w:=by kernel_rfl
theorem Tryz.assignableEF (w:World):(ReflectliteType.relation "AssignableTo" ReflectliteType.assignableTo #[.agg #[.pointer (some ⟨1,35,none⟩)],.iface 229 (.agg #[.pointer (some ⟨1,112,none⟩)])]).run Tryz.prog w=.ok (.bool false) w:=by kernel_rfl
theorem Tryz.valueOfF (c a:Int) (w:World):(ReflectliteValue.unpack (.iface 112 (.agg #[.int .i64 c,.int .i64 a]))).run Tryz.prog w
 = .ok (.agg #[.pointer (some ⟨1,112,none⟩),.pointer (some ⟨w.heap.size,0,none⟩),.int .u64 153]) (w.alloc (.cells #[.int .i64 c,.int .i64 a] 112)):=by kernel_rfl
theorem Tryz.elemOfPF (w:World):(Rtype.elem? 188).run Tryz.prog w=.ok (some 112) w:=by kernel_rfl
theorem Tryz.mkF (p:Addr) (w:World):(ReflectliteValue.mk 112 p ReflectliteValue.flagAddr).run Tryz.prog w=.ok (.agg #[.pointer (some ⟨1,112,none⟩),.pointer (some p),.int .u64 409]) w:=by kernel_rfl
theorem Tryz.elemVPF (a p:Addr) (W:World) (ha:W.cell? a=some (.pointer (some p))):
 (ReflectliteValue.method (ReflectliteValue.valueError "reflectlite.Value.Elem" 0) ReflectliteValue.elem #[.agg #[.pointer (some ⟨1,188,none⟩),.pointer (some a),.int .u64 150]]).run Tryz.prog W
   = .ok (.agg #[.pointer (some ⟨1,112,none⟩),.pointer (some p),.int .u64 409]) W:=by
 rw[rlm];simp only[Sem.run_bind,Tryz.partsPF,Result.andThen];simp[ReflectliteValue.elem,loadVar,isAgg,underlying,Tryz.underlying188,ha,Result.andThen,Tryz.elemOfPF,Tryz.mkF]
theorem Tryz.partsFa (a:Addr) (w:World):(ReflectliteValue.parts (.agg #[.pointer (some ⟨1,112,none⟩),.pointer (some a),.int .u64 409])).run Tryz.prog w=.ok (some (112,a,409)) w:=by kernel_rfl
theorem Tryz.partsF (a:Addr) (w:World):(ReflectliteValue.parts (.agg #[.pointer (some ⟨1,112,none⟩),.pointer (some a),.int .u64 153])).run Tryz.prog w=.ok (some (112,a,153)) w:=by kernel_rfl
theorem Tryz.directF (w:World):(Rtype.directlyAssignable 112 112).run Tryz.prog w=.ok true w:=by kernel_rfl
theorem Tryz.infoF:(Tryz.prog.info? 112).map (·.size)=some 2:=by kernel_rfl
theorem Tryz.setF (tb b:Nat) (c a:Int) (o1 o2:Value) (W:World) (hb0:W.cell? ⟨b,0,none⟩=some (.int .i64 c)) (hb1:W.cell? ⟨b,1,none⟩=some (.int .i64 a))
 (ht0:W.cell? ⟨tb,0,none⟩=some o1) (ht1:W.cell? ⟨tb,1,none⟩=some o2) (hf0:W.frozen? ⟨tb,0,none⟩=false) (hf1:W.frozen? ⟨tb,1,none⟩=false):
 (ReflectliteValue.set #[.agg #[.pointer (some ⟨1,112,none⟩),.pointer (some ⟨tb,0,none⟩),.int .u64 409],.agg #[.pointer (some ⟨1,112,none⟩),.pointer (some ⟨b,0,none⟩),.int .u64 153]]).run Tryz.prog W
   = .ok (.tuple #[]) ((W.setCell ⟨tb,0,none⟩ (.int .i64 c)).setCell ⟨tb,1,none⟩ (.int .i64 a)):=by
 cases hq:Tryz.prog.info? 112 with
 | none=>have:=Tryz.infoF;simp[hq] at this
 | some i=>
  have hsz:i.size=2:=by have:=Tryz.infoF;simpa [hq] using this
  rw[rls];simp only[Sem.run_bind,Tryz.partsFa,Tryz.partsF,Result.andThen];simp[ReflectliteValue.flagAddr,loadVar,isAgg,underlying,Tryz.underlying112,Result.andThen,Tryz.directF,storeVar,Value.cells,storeCells,Addr.add,sizeOf,typeInfo,hq,hsz,loadCells,loadCellsFrom,hb0,hb1]
  have h1:(W.setCell ⟨tb,0,none⟩ (.int .i64 c)).cell? ⟨tb,1,none⟩=some o2:=by
   rw[World.cell?_setCell_other _ _ _ _ (by simp)];exact ht1
  have h2:(W.setCell ⟨tb,0,none⟩ (.int .i64 c)).frozen? ⟨tb,1,none⟩=false:=by
   rw[World.frozen?_setCell];exact hf1
  rw[run_store Tryz.prog W ⟨tb,0,none⟩ _ _ (by rfl)];simp only[ht0,hf0,Bool.false_eq_true,↓reduceIte];rw[run_store Tryz.prog _ ⟨tb,1,none⟩ _ _ (by rfl)];simp[h1,h2]
theorem Tryz.methodUnF (v:Value) (w:World):(Go.method 520 112 v "Unwrap").run Tryz.prog w=.ok (323,v) w:=by kernel_rfl
theorem Tryz.asAsE (v:Value) (xT:TypeId) (w:World):(Instr.typeAssert (.iface 35 v) xT 234 true).run Tryz.prog w=.ok (.tuple #[.nilIface,.bool false]) w:=
 run_typeAssert_lacksB Tryz.underlying234 (by kernel_rfl) (by kernel_rfl) v xT w
theorem Tryz.asAsF (v:Value) (xT:TypeId) (w:World):(Instr.typeAssert (.iface 112 v) xT 234 true).run Tryz.prog w=.ok (.tuple #[.nilIface,.bool false]) w:=
 run_typeAssert_lacksB Tryz.underlying234 (by kernel_rfl) (by kernel_rfl) v xT w
theorem Tryz.asUnE (v:Value) (xT:TypeId) (w:World):(Instr.typeAssert (.iface 35 v) xT 237 true).run Tryz.prog w=.ok (.tuple #[.nilIface,.bool false]) w:=
 run_typeAssert_lacksB Tryz.underlying237 (by kernel_rfl) (by kernel_rfl) v xT w
theorem Tryz.asUmE (v:Value) (xT:TypeId) (w:World):(Instr.typeAssert (.iface 35 v) xT 238 true).run Tryz.prog w=.ok (.tuple #[.nilIface,.bool false]) w:=
 run_typeAssert_lacksB Tryz.underlying238 (by kernel_rfl) (by kernel_rfl) v xT w
theorem Tryz.asUnF (v:Value) (xT:TypeId) (w:World):(Instr.typeAssert (.iface 112 v) xT 237 true).run Tryz.prog w=.ok (.tuple #[.iface 112 v,.bool true]) w:=
 run_typeAssert_hasB Tryz.underlying237 (by kernel_rfl) v xT w
end
end Go.Proofs.YtdnipikdddfhfaaGreatDoor
section
namespace Go.Proofs
open Go.Shelf
def Tryz.lays128_ren:Go.Shelf.Ren:=⟨fun | 128=>224 | n=>n,fun | 51=>136 | 3=>3 | 4=>4 | 46=>194 | 5=>5 | 9=>9 | n=>n,fun | n=>n⟩
theorem Tryz.lays128:Go.Proofs.Lays.n128 Tryz.prog Tryz.lays128_ren:={
 mixed:=by kernel_rfl
 f128:=Tryz.func224.trans (congrArg some (by kernel_rfl))
 t3:=Tryz.underlying3
 a3:=Tryz.isAgg3
 z3:=Tryz.sizeOf3
 v3:=Tryz.zeroValue3
 t4:=Tryz.underlying4
 a4:=Tryz.isAgg4
 z4:=Tryz.sizeOf4
 v4:=Tryz.zeroValue4
 t5:=Tryz.underlying5
 a5:=Tryz.isAgg5
 z5:=Tryz.sizeOf5
 v5:=Tryz.zeroValue5
 t9:=Tryz.underlying9
 a9:=Tryz.isAgg9
 z9:=Tryz.sizeOf9
 v9:=Tryz.zeroValue9
 t46:=Tryz.underlying194
 a46:=Tryz.isAgg194
 z46:=Tryz.sizeOf194
 v46:=Tryz.zeroValue194
 t51:=Tryz.underlying136
 a51:=Tryz.isAgg136
 z51:=Tryz.sizeOf136
 v51:=Tryz.zeroValue136 }
theorem Tryz.bits_Len32 (x:Int) (w:World) (h0:0≤x) (h1:x≤4294967295):
 Calls Tryz.prog 224 #[.int .u32 x] w fun e w'=>e=.returned (.int .i64 (Lib.bitLen x.toNat))∧w'=w:=Any.bits_Len32 Tryz.lays128 x w h0 h1
def Tryz.lays125_ren:Go.Shelf.Ren:=⟨fun | 125=>177 | 128=>224 | 129=>69 | n=>n,fun | 46=>194 | 3=>3 | 51=>136 | 53=>43 | 4=>4 | 5=>5 | 9=>9 | n=>n,fun | n=>n⟩
theorem Tryz.lays125:Go.Proofs.Lays.n125 Tryz.prog Tryz.lays125_ren:={
 mixed:=by kernel_rfl
 f125:=Tryz.func177.trans (congrArg some (by kernel_rfl))
 f128:=Tryz.func224.trans (congrArg some (by kernel_rfl))
 f129:=Tryz.func69.trans (congrArg some (by kernel_rfl))
 t3:=Tryz.underlying3
 a3:=Tryz.isAgg3
 z3:=Tryz.sizeOf3
 v3:=Tryz.zeroValue3
 t4:=Tryz.underlying4
 a4:=Tryz.isAgg4
 z4:=Tryz.sizeOf4
 v4:=Tryz.zeroValue4
 t5:=Tryz.underlying5
 a5:=Tryz.isAgg5
 z5:=Tryz.sizeOf5
 v5:=Tryz.zeroValue5
 t9:=Tryz.underlying9
 a9:=Tryz.isAgg9
 z9:=Tryz.sizeOf9
 v9:=Tryz.zeroValue9
 t46:=Tryz.underlying194
 a46:=Tryz.isAgg194
 z46:=Tryz.sizeOf194
 v46:=Tryz.zeroValue194
 t51:=Tryz.underlying136
 a51:=Tryz.isAgg136
 z51:=Tryz.sizeOf136
 v51:=Tryz.zeroValue136
 t53:=Tryz.underlying43
 a53:=Tryz.isAgg43
 z53:=Tryz.sizeOf43
 v53:=Tryz.zeroValue43 }
theorem Tryz.bits_Len (x:Int) (w:World) (h0:0≤x) (h1:x≤18446744073709551615):
 Calls Tryz.prog 177 #[.int .u64 x] w fun e w'=>e=.returned (.int .i64 (Lib.bitLen x.toNat))∧w'=w:=Any.bits_Len Tryz.lays125 x w h0 h1
def Tryz.lays215_ren:Go.Shelf.Ren:=⟨fun | 215=>261 | n=>n,fun | 3=>3 | 4=>4 | n=>n,fun | n=>n⟩
theorem Tryz.lays215:Go.Proofs.Lays.n215 Tryz.prog Tryz.lays215_ren:={
 mixed:=by kernel_rfl
 f215:=Tryz.func261.trans (congrArg some (by kernel_rfl))
 t3:=Tryz.underlying3
 a3:=Tryz.isAgg3
 z3:=Tryz.sizeOf3
 v3:=Tryz.zeroValue3
 t4:=Tryz.underlying4
 a4:=Tryz.isAgg4
 z4:=Tryz.sizeOf4
 v4:=Tryz.zeroValue4 }
open Go.RowKit in
theorem Tryz.cmp_isNaN_int (x:Int) (w:World):
 Calls Tryz.prog 261 #[.int .i64 x] w fun e w'=>e=.returned (.bool false)∧w'=w:=Any.cmp_isNaN_int Tryz.lays215 x w
def Tryz.lays122_ren:Go.Shelf.Ren:=⟨fun | 122=>232 | 215=>261 | n=>n,fun | 3=>3 | 4=>4 | n=>n,fun | n=>n⟩
theorem Tryz.lays122:Go.Proofs.Lays.n122 Tryz.prog Tryz.lays122_ren:={
 mixed:=by kernel_rfl
 f122:=Tryz.func232.trans (congrArg some (by kernel_rfl))
 f215:=Tryz.func261.trans (congrArg some (by kernel_rfl))
 t3:=Tryz.underlying3
 a3:=Tryz.isAgg3
 z3:=Tryz.sizeOf3
 v3:=Tryz.zeroValue3
 t4:=Tryz.underlying4
 a4:=Tryz.isAgg4
 z4:=Tryz.sizeOf4
 v4:=Tryz.zeroValue4 }
open Go.RowKit in
theorem Tryz.cmp_Compare_int (x y:Int) (w:World):
 Calls Tryz.prog 232 #[.int .i64 x,.int .i64 y] w fun e w'=>e=.returned (.int .i64 (Lib.compareInt x y))∧w'=w:=Any.cmp_Compare_int Tryz.lays122 x y w
def Tryz.lays129_ren:Go.Shelf.Ren:=⟨fun | 129=>69 | n=>n,fun | 53=>43 | 3=>3 | 4=>4 | 46=>194 | 5=>5 | 9=>9 | n=>n,fun | n=>n⟩
theorem Tryz.lays129:Go.Proofs.Lays.n129 Tryz.prog Tryz.lays129_ren:={
 mixed:=by kernel_rfl
 f129:=Tryz.func69.trans (congrArg some (by kernel_rfl))
 t3:=Tryz.underlying3
 a3:=Tryz.isAgg3
 z3:=Tryz.sizeOf3
 v3:=Tryz.zeroValue3
 t4:=Tryz.underlying4
 a4:=Tryz.isAgg4
 z4:=Tryz.sizeOf4
 v4:=Tryz.zeroValue4
 t5:=Tryz.underlying5
 a5:=Tryz.isAgg5
 z5:=Tryz.sizeOf5
 v5:=Tryz.zeroValue5
 t9:=Tryz.underlying9
 a9:=Tryz.isAgg9
 z9:=Tryz.sizeOf9
 v9:=Tryz.zeroValue9
 t46:=Tryz.underlying194
 a46:=Tryz.isAgg194
 z46:=Tryz.sizeOf194
 v46:=Tryz.zeroValue194
 t53:=Tryz.underlying43
 a53:=Tryz.isAgg43
 z53:=Tryz.sizeOf43
 v53:=Tryz.zeroValue43 }
theorem Tryz.bits_Len64 (x:Int) (w:World) (h0:0≤x) (h1:x≤18446744073709551615):
 Calls Tryz.prog 69 #[.int .u64 x] w fun e w'=>e=.returned (.int .i64 (Lib.bitLen x.toNat))∧w'=w:=Any.bits_Len64 Tryz.lays129 x w h0 h1
def Tryz.lays111_ren:Go.Shelf.Ren:=⟨fun | 111=>48 | n=>n,fun | 28=>60 | 3=>3 | 4=>4 | 0=>0 | n=>n,fun | n=>n⟩
theorem Tryz.lays111:Go.Proofs.Lays.n111 Tryz.prog Tryz.lays111_ren:={
 mixed:=by kernel_rfl
 f111:=Tryz.func48.trans (congrArg some (by kernel_rfl))
 t0:=Tryz.underlying0
 a0:=Tryz.isAgg0
 z0:=Tryz.sizeOf0
 v0:=Tryz.zeroValue0
 t3:=Tryz.underlying3
 a3:=Tryz.isAgg3
 z3:=Tryz.sizeOf3
 v3:=Tryz.zeroValue3
 t4:=Tryz.underlying4
 a4:=Tryz.isAgg4
 z4:=Tryz.sizeOf4
 v4:=Tryz.zeroValue4
 t28:=Tryz.underlying60
 a28:=Tryz.isAgg60
 z28:=Tryz.sizeOf60
 v28:=Tryz.zeroValue60 }
open Go.RowKit Go.Lib in
theorem Tryz.slices_Equal_int (b1 o1 n c b2 o2 m d:Nat) (xs ys:List Int) (w:World) (hx:n≤xs.length) (hy:m≤ys.length) (hbig:n≤9223372036854775807) (hbig2:m≤9223372036854775807) (hc1:∀j,j<xs.length→w.cell? ⟨b1,o1+j,none⟩=some (.int .i64 (xs.getD j 0))) (hc2:∀j,j<ys.length→w.cell? ⟨b2,o2+j,none⟩=some (.int .i64 (ys.getD j 0))):
 Calls Tryz.prog 48 #[.slice (some ⟨b1,o1,none⟩) n c,.slice (some ⟨b2,o2,none⟩) m d] w fun e w'=>e=.returned (.bool (xs.take n == ys.take m))∧∃q,w'=w.drewN q:=Any.slices_Equal_int Tryz.lays111 b1 o1 n c b2 o2 m d xs ys w hx hy hbig hbig2 hc1 hc2
open Go.RowKit Go.Lib in
theorem Tryz.slices_Equal_int_empty (a1 a2:Option Addr) (c m d:Nat) (w:World) (hbig2:m≤9223372036854775807):
 Calls Tryz.prog 48 #[.slice a1 0 c,.slice a2 m d] w fun e w'=>e=.returned (.bool (decide (m=0)))∧w'=w:=Any.slices_Equal_int_empty Tryz.lays111 a1 a2 c m d w hbig2
def Tryz.laysNm237_ren:Go.Shelf.Ren:=⟨fun | 37=>261 | n=>n,fun | 3=>3 | 4=>4 | n=>n,fun | n=>n⟩
theorem Tryz.laysNm237:Go.Proofs.Lays2.n37 Tryz.prog Tryz.laysNm237_ren:={
 mixed:=by kernel_rfl
 f37:=Tryz.func261.trans (congrArg some (by kernel_rfl))
 t3:=Tryz.underlying3
 a3:=Tryz.isAgg3
 z3:=Tryz.sizeOf3
 v3:=Tryz.zeroValue3
 t4:=Tryz.underlying4
 a4:=Tryz.isAgg4
 z4:=Tryz.sizeOf4
 v4:=Tryz.zeroValue4 }
open Go.RowKit Go.Lib in
theorem Tryz.cmp_isNaN_int2 (x:Int) (w:World):
 Calls Tryz.prog 261 #[.int .i64 x] w fun e w'=>e=.returned (.bool false)∧w'=w:=Any.cmp_isNaN_int2 Tryz.laysNm237 x w
open Go.RowKit Go.Lib in
theorem Tryz.slices_Equal_int_lens (a1 a2:Option Addr) (n c m d:Nat) (w:World) (hnm:n≠m):
 Calls Tryz.prog 48 #[.slice a1 n c,.slice a2 m d] w fun e w'=>e=.returned (.bool false)∧w'=w:=Any.slices_Equal_int_lens Tryz.lays111 a1 a2 n c m d w hnm
end Go.Proofs
end
section
namespace Go.Proofs
open Go.Shelf
def Tryz.pdqIv_ren:Go.Shelf.Ren:=⟨fun | 14=>176 | 20=>216 | 21=>217 | 22=>218 | 23=>219 | 24=>220 | 25=>221 | 26=>222 | 27=>223 | 46=>253 | 47=>254 | 48=>255 | 49=>256 | 50=>257 | 15=>177 | 57=>271 | 28=>224 | 29=>69 | n=>n,fun | 24=>89 | 22=>90 | 3=>3 | 25=>221 | 4=>4 | 0=>0 | 46=>309 | 45=>308 | 50=>296 | 66=>346 | 39=>194 | 55=>43 | 70=>349 | 76=>370 | 77=>116 | 53=>136 | 5=>5 | 9=>9 | n=>n,fun | n=>n⟩
theorem Tryz.pdqIv:Go.Proofs.SlLaysF0.n14 Tryz.prog Tryz.pdqIv_ren:={
 mixed:=by kernel_rfl
 f14:=⟨Tryz.f176.name,by decide,Tryz.func176.trans (congrArg some (by kernel_rfl))⟩
 f15:=Tryz.func177.trans (congrArg some (by kernel_rfl))
 f20:=⟨Tryz.f216.name,by decide,Tryz.func216.trans (congrArg some (by kernel_rfl))⟩
 f21:=⟨Tryz.f217.name,by decide,Tryz.func217.trans (congrArg some (by kernel_rfl))⟩
 f22:=⟨Tryz.f218.name,by decide,Tryz.func218.trans (congrArg some (by kernel_rfl))⟩
 f23:=⟨Tryz.f219.name,by decide,Tryz.func219.trans (congrArg some (by kernel_rfl))⟩
 f24:=⟨Tryz.f220.name,by decide,Tryz.func220.trans (congrArg some (by kernel_rfl))⟩
 f25:=⟨Tryz.f221.name,by decide,Tryz.func221.trans (congrArg some (by kernel_rfl))⟩
 f26:=⟨Tryz.f222.name,by decide,Tryz.func222.trans (congrArg some (by kernel_rfl))⟩
 f27:=⟨Tryz.f223.name,by decide,Tryz.func223.trans (congrArg some (by kernel_rfl))⟩
 f28:=Tryz.func224.trans (congrArg some (by kernel_rfl))
 f29:=Tryz.func69.trans (congrArg some (by kernel_rfl))
 f46:=⟨Tryz.f253.name,by decide,Tryz.func253.trans (congrArg some (by kernel_rfl))⟩
 f47:=Tryz.func254.trans (congrArg some (by kernel_rfl))
 f48:=Tryz.func255.trans (congrArg some (by kernel_rfl))
 f49:=⟨Tryz.f256.name,by decide,Tryz.func256.trans (congrArg some (by kernel_rfl))⟩
 f50:=⟨Tryz.f257.name,by decide,Tryz.func257.trans (congrArg some (by kernel_rfl))⟩
 f57:=⟨Tryz.f271.name,by decide,Tryz.func271.trans (congrArg some (by kernel_rfl))⟩
 t0:=Tryz.underlying0
 a0:=Tryz.isAgg0
 z0:=Tryz.sizeOf0
 v0:=Tryz.zeroValue0
 t3:=Tryz.underlying3
 a3:=Tryz.isAgg3
 z3:=Tryz.sizeOf3
 v3:=Tryz.zeroValue3
 t4:=Tryz.underlying4
 a4:=Tryz.isAgg4
 z4:=Tryz.sizeOf4
 v4:=Tryz.zeroValue4
 t5:=Tryz.underlying5
 a5:=Tryz.isAgg5
 z5:=Tryz.sizeOf5
 v5:=Tryz.zeroValue5
 t9:=Tryz.underlying9
 a9:=Tryz.isAgg9
 z9:=Tryz.sizeOf9
 v9:=Tryz.zeroValue9
 t22:=Tryz.underlying90
 a22:=Tryz.isAgg90
 z22:=Tryz.sizeOf90
 v22:=Tryz.zeroValue90
 t25:=Tryz.underlying221
 a25:=Tryz.isAgg221
 z25:=Tryz.sizeOf221
 v25:=Tryz.zeroValue221
 t39:=Tryz.underlying194
 a39:=Tryz.isAgg194
 z39:=Tryz.sizeOf194
 v39:=Tryz.zeroValue194
 t45:=Tryz.underlying308
 a45:=Tryz.isAgg308
 z45:=Tryz.sizeOf308
 v45:=Tryz.zeroValue308
 t46:=Tryz.underlying309
 a46:=Tryz.isAgg309
 z46:=Tryz.sizeOf309
 v46:=Tryz.zeroValue309
 t50:=Tryz.underlying296
 a50:=Tryz.isAgg296
 z50:=Tryz.sizeOf296
 v50:=Tryz.zeroValue296
 t53:=Tryz.underlying136
 a53:=Tryz.isAgg136
 z53:=Tryz.sizeOf136
 v53:=Tryz.zeroValue136
 t55:=Tryz.underlying43
 a55:=Tryz.isAgg43
 z55:=Tryz.sizeOf43
 v55:=Tryz.zeroValue43
 t66:=Tryz.underlying346
 a66:=Tryz.isAgg346
 z66:=Tryz.sizeOf346
 v66:=Tryz.zeroValue346
 t70:=Tryz.underlying349
 a70:=Tryz.isAgg349
 z70:=Tryz.sizeOf349
 v70:=Tryz.zeroValue349
 t76:=Tryz.underlying370
 a76:=Tryz.isAgg370
 z76:=Tryz.sizeOf370
 v76:=Tryz.zeroValue370
 t77:=Tryz.underlying116
 a77:=Tryz.isAgg116
 z77:=Tryz.sizeOf116
 v77:=Tryz.zeroValue116 }
end Go.Proofs
end
namespace Go.Proofs.YtdnipikdddfhfaaGreatDoor
section
open Go.RowKit
theorem zit (x:Nat) (w:World):Calls Tryz.prog 178 #[.int .u64 x] w fun e w'=>e=.returned (.bool false)∧w'=w:=by
 go_enter Tryz.func178,Tryz.ntmps178;go_wp2;go_ret;exact⟨by simp,rfl⟩
theorem ziu (x y:Nat) (w:World):Calls Tryz.prog 131 #[.int .u64 x,.int .u64 y] w fun e w'=>e=.returned (.int .i64 (Lib.compareInt (x:Int) (y:Int)))∧w'=w:=by
 unfold Lib.compareInt;by_cases h1:x<y
 · rw[if_pos (by omega)];go_enter Tryz.func131,Tryz.ntmps131;go_wp2_with (go_at_call 178;refine(zit _ _).mono ?_;rintro e w1 ⟨rfl,rfl⟩);go_ret;exact⟨rfl,rfl⟩
 · rw[if_neg (by omega)];by_cases h2:y<x
   · rw[if_pos (by omega)];go_enter Tryz.func131,Tryz.ntmps131;go_wp2_with (go_at_call 178;refine(zit _ _).mono ?_;rintro e w1 ⟨rfl,rfl⟩);go_ret;exact⟨rfl,rfl⟩
   · rw[if_neg (by omega)];go_enter Tryz.func131,Tryz.ntmps131;go_wp2_with (go_at_call 178;refine(zit _ _).mono ?_;rintro e w1 ⟨rfl,rfl⟩);go_ret;exact⟨rfl,rfl⟩
end
section
abbrev Iv:=Nat×Nat
def mem (l:List Iv) (x:Nat):Bool:=l.any fun s=>decide (s.1≤x) && decide (x≤s.2)
theorem mem_iff {l:List Iv} {x:Nat}:mem l x=true↔∃s∈l,s.1≤x∧x≤s.2:=by simp[mem]
theorem zb9 (x:Nat):mem [] x=false:=rfl
theorem mem_cons (s:Iv) (l:List Iv) (x:Nat):mem (s :: l) x=(decide (s.1≤x) && decide (x≤s.2) || mem l x):=rfl
theorem mem_append (a b:List Iv) (x:Nat):mem (a++b) x=(mem a x || mem b x):=by simp[mem]
theorem zdl {l:List Iv} {x:Nat}:mem l x=false↔∀s∈l,¬(s.1≤x∧x≤s.2):=by
 rw[←Bool.not_eq_true,mem_iff];simp
def Good:List Iv→Prop
 | []=>True
 | [s]=>s.1≤s.2
 | s :: t :: l=>s.1≤s.2∧s.2+1<t.1∧Good (t :: l)
theorem Good.tail {s:Iv} {l:List Iv} (h:Good (s :: l)):Good l:=by
 cases l with
 | nil=>trivial
 | cons t l=>exact h.2.2
theorem Good.head {s:Iv} {l:List Iv} (h:Good (s :: l)):s.1≤s.2:=by
 cases l with
 | nil=>exact h
 | cons t l=>exact h.1
theorem Good.lower:∀{s:Iv} {l:List Iv},Good (s :: l)→∀t∈l,s.2+1<t.1
 | s,[],_,t,ht=>by simp at ht
 | s,u :: l,h,t,ht=>by
   rcases List.mem_cons.1 ht with rfl | ht
   · exact h.2.1
   · have h1:=Good.lower h.2.2 t ht;have h2:=h.2.2.head;have h3:=h.2.1;omega
theorem Good.ok:∀{l:List Iv},Good l→∀t∈l,t.1≤t.2
 | [],_,t,ht=>by simp at ht
 | s :: l,h,t,ht=>by
   rcases List.mem_cons.1 ht with rfl | ht
   · exact h.head
   · exact Good.ok h.tail t ht
theorem ziv {s:Iv} {l:List Iv} (h1:s.1≤s.2) (h2:∀t∈l,s.2+1<t.1) (h:Good l):Good (s :: l):=by
 cases l with
 | nil=>exact h1
 | cons t l=>exact⟨h1,h2 t (List.mem_cons_self ..),h⟩
theorem Good.mem_lower {s:Iv} {l:List Iv} (h:Good (s :: l)) {x:Nat} (hx:mem l x=true):s.2+1<x:=by
 obtain⟨t,ht,h1,h2⟩:=mem_iff.1 hx;have:=h.lower t ht;omega
theorem Good.mem_least {s:Iv} {l:List Iv} (h:Good (s :: l)) {x:Nat} (hx:mem (s :: l) x=true):s.1≤x:=by
 obtain⟨t,ht,h1,h2⟩:=mem_iff.1 hx;rcases List.mem_cons.1 ht with rfl | ht
 · exact h1
 · have:=h.lower t ht;have:=h.head;omega
theorem zek {s:Iv} {l:List Iv} {x:Nat} (h1:s.1≤x) (h2:x≤s.2):mem (s :: l) x=true:=
 mem_iff.2 ⟨s,List.mem_cons_self ..,h1,h2⟩
theorem zl2 {s:Iv} {l:List Iv} {x:Nat} (h:mem l x=true):mem (s :: l) x=true:=by
 rw[mem_cons,h,Bool.or_true]
theorem zgj {s:Iv} {l:List Iv} {x:Nat} (h:mem (s :: l) x=true) (hs:s.2<x):mem l x=true:=by
 rw[mem_cons] at h;have:decide (x≤s.2)=false:=by rw[decide_eq_false_iff_not];omega
 rw[this,Bool.and_false,Bool.false_or] at h;exact h
theorem zgk:∀{l l':List Iv},Good l→Good l'→(∀x,mem l x=mem l' x)→l=l'
 | [],[],_,_,_=>rfl
 | [],t :: l',_,h',e=>by
   have:=(e t.1).symm.trans rfl;rw[zb9,zek (Nat.le_refl _) h'.head] at this
   cases this
 | s :: l,[],h,_,e=>by
   have:=e s.1;rw[zb9,zek (Nat.le_refl _) h.head] at this
   cases this
 | s :: l,t :: l',h,h',e=>by
   have e1:s.1=t.1:=by
    have a:=h'.mem_least (x:=s.1) (by rw[←e];exact zek (Nat.le_refl _) h.head);have b:=h.mem_least (x:=t.1) (by rw[e];exact zek (Nat.le_refl _) h'.head);omega
   have k1:=h.head;have k2:=h'.head
   have le1:s.2≤t.2:=by
    refine Nat.le_of_not_lt fun hlt=>?_
    have m:mem (t :: l') (t.2+1)=true:=by rw[←e];exact zek (by omega) (by omega)
    have:=h'.mem_lower (zgj m (by omega));omega
   have le2:t.2≤s.2:=by
    refine Nat.le_of_not_lt fun hlt=>?_
    have m:mem (s :: l) (s.2+1)=true:=by rw[e];exact zek (by omega) (by omega)
    have:=h.mem_lower (zgj m (by omega));omega
   have e2:s.2=t.2:=by omega
   have es:s=t:=Prod.ext e1 e2;subst es;congr 1;refine zgk h.tail h'.tail fun x=>?_
   rw[Bool.eq_iff_iff];constructor
   · intro hm;have:=h.mem_lower hm;exact zgj (by rw[←e];exact zl2 hm) (by omega)
   · intro hm;have:=h'.mem_lower hm;exact zgj (by rw[e];exact zl2 hm) (by omega)
theorem ziw:∀{l:List Iv} {s:Iv},Good l→s.1≤s.2→(∀t∈l,t.2+1<s.1)→Good (l++[s])
 | [],s,_,hs,_=>hs
 | t :: l,s,h,hs,hl=>by
   refine ziv h.head ?_ (ziw h.tail hs fun u hu=>hl u (List.mem_cons_of_mem _ hu));intro u hu;rcases List.mem_append.1 hu with hu | hu
   · exact h.lower u hu
   · simp at hu;subst hu;exact hl t (List.mem_cons_self ..)
theorem zgl:∀{l:List Iv} {s:Iv},Good (l++[s])→Good l∧s.1≤s.2∧∀t∈l,t.2+1<s.1
 | [],s,h=>⟨trivial,h,by simp⟩
 | t :: l,s,h=>by
   obtain⟨h1,h2,h3⟩:=zgl (l:=l) h.tail;refine⟨ziv h.head (fun u hu=>h.lower u (by simp[hu])) h1,h2,?_⟩;intro u hu;rcases List.mem_cons.1 hu with rfl | hu
   · exact h.lower s (by simp)
   · exact h3 u hu
theorem ztr {l:List Iv} {s:Iv} {x:Nat} (h:Good (l++[s])) (hx:s.2≤x):Good (l++[(s.1,x)]):=by
 obtain⟨h1,h2,h3⟩:=zgl h;exact ziw h1 (Nat.le_trans h2 hx) h3
def zbv (l:List Iv) (s:Iv):List Iv:=
 match l.getLast? with
 | none=>[s]
 | some t=>if t.2+1=s.1 then l.dropLast++[(t.1,s.2)] else l++[s]
theorem zel (s:Iv):zbv [] s=[s]:=rfl
theorem zdm (l:List Iv) (t s:Iv):zbv (l++[t]) s=if t.2+1=s.1 then l++[(t.1,s.2)] else l++[t]++[s]:=by
 unfold zbv;simp
theorem zca {α:Type} (l:List α):l=[]∨∃a t,l=a++[t]:=by
 rcases List.eq_nil_or_concat l with h | ⟨a,t,h⟩
 · exact .inl h
 · exact .inr ⟨a,t,by simpa using h⟩
theorem zix {l:List Iv} {s:Iv} (h:Good l) (hs:s.1≤s.2) (hl:∀t∈l,t.2<s.1):Good (zbv l s)∧(∀x,mem (zbv l s) x=(mem l x || (decide (s.1≤x) && decide (x≤s.2))))∧∀t∈zbv l s,t.2≤s.2:=by
 rcases zca l with rfl | ⟨a,t,rfl⟩
 · refine⟨hs,fun x=>?_,?_⟩
   · rw[zel,mem_cons];simp[zb9]
   · intro t ht;simp[zel] at ht;subst ht;exact Nat.le_refl _
 · obtain⟨h1,h2,h3⟩:=zgl h;have ht:=hl t (by simp);rw[zdm];by_cases e:t.2+1=s.1
   · rw[if_pos e];refine⟨ztr h (by omega),fun x=>?_,?_⟩
     · simp only[mem_append,mem_cons,zb9,Bool.or_false];rw[Bool.or_assoc];congr 1;rw[Bool.eq_iff_iff];simp;omega
     · intro u hu;rcases List.mem_append.1 hu with hu | hu
       · have:=hl u (by simp[hu]);omega
       · simp at hu;subst hu;exact Nat.le_refl _
   · rw[if_neg e];refine⟨ziw h hs ?_,fun x=>?_,?_⟩
     · intro u hu;rcases List.mem_append.1 hu with hu | hu
       · have:=h3 u hu;omega
       · simp at hu;subst hu;omega
     · simp only[mem_append,mem_cons,zb9,Bool.or_false]
     · intro u hu;rcases List.mem_append.1 hu with hu | hu
       · have:=hl u hu;omega
       · simp at hu;subst hu;exact Nat.le_refl _
def jx:List (Iv×Bool)→List Iv→List Iv
 | [],out=>out
 | (s,b) :: ps,out=>jx ps (if b then zbv out s else out)
def zff (top:Nat):Nat→List (Iv×Bool)→Prop
 | _,[]=>False
 | a,[(s,_)]=>s.1=a∧s.1≤s.2∧s.2=top
 | a,(s,_) :: p :: ps=>s.1=a∧s.1≤s.2∧s.2<top∧zff top (s.2+1) (p :: ps)
theorem ziy {top:Nat}:∀{ps:List (Iv×Bool)} {a:Nat} {out:List Iv},zff top a ps→Good out→(∀t∈out,t.2<a)→
 Good (jx ps out)∧∀x,mem (jx ps out) x=(mem out x || ps.any fun p=>p.2 && (decide (p.1.1≤x) && decide (x≤p.1.2)))
 | [],a,out,hc,_,_=>hc.elim
 | [(s,b)],a,out,hc,h,hl=>by
   obtain⟨h1,h2,h3⟩:=hc
   cases b with
   | false=>exact⟨h,fun x=>by simp[jx]⟩
   | true=>
    obtain⟨g1,g2,-⟩:=zix h h2 (by rw[h1];exact hl)
    exact⟨g1,fun x=>by simp[jx,g2]⟩
 | (s,b) :: p :: ps,a,out,hc,h,hl=>by
   obtain⟨h1,h2,h3,h4⟩:=hc
   cases b with
   | false=>
    obtain⟨g1,g2⟩:=ziy (out:=out) h4 h (fun t ht=>by have:=hl t ht;omega);refine⟨g1,fun x=>?_⟩;have:=g2 x;rw[jx];simp only[Bool.false_eq_true,if_false];rw[this]
    simp
   | true=>
    obtain⟨k1,k2,k3⟩:=zix h h2 (by rw[h1];exact hl);obtain⟨g1,g2⟩:=ziy (out:=zbv out s) h4 k1 (fun t ht=>by have:=k3 t ht;omega);refine⟨g1,fun x=>?_⟩;have:=g2 x;rw[jx];simp only[if_true];rw[this,k2];simp[Bool.or_assoc]
end
section
open Go.RowKit
def ltU (x y:Nat):Bool:=decide (x<y)
abbrev zc:Nat→Value:=fun x=>Value.int .u64 (x:Int)
theorem zl3:Sort.SWO ltU:=by
 constructor;all_goals (intros;simp only[ltU,decide_eq_true_eq,decide_eq_false_iff_not] at *;try omega)
theorem zts (x:Nat) (w:World):Calls Tryz.prog 178 #[.int .u64 (x:Int)] w fun e w'=>e=.returned (.bool false)∧w'=w:=by
 go_enter Tryz.func178,Tryz.ntmps178;go_wp2;go_ret;exact⟨by simp,rfl⟩
theorem qw (x y:Nat) (w:World):Calls Tryz.prog 283 #[.int .u64 (x:Int),.int .u64 (y:Int)] w fun e w'=>e=.returned (.bool (ltU x y))∧w'=w:=by
 go_enter Tryz.func283,Tryz.ntmps283;go_wp2_with (go_at_call 178;refine(zts _ _).mono ?_;rintro e w' ⟨rfl,rfl⟩);go_ret;exact⟨by simp[ltU],rfl⟩
structure CellsU (w:World) (g o:Nat) (d:Array Nat) (n:Nat) (G:Nat→Nat):Prop where
 cell:∀t,t<n→w.cell? ⟨g,o+t,none⟩=some (.int .u64 (G t:Int))
 froz:∀t,t<n→w.frozen? ⟨g,o+t,none⟩=false
 val:∀t,G t=d[t]!
theorem zgm {w:World} {g o n:Nat} {d:Array Nat} (h:Sort.Holds zc w g o d) (hn:d.size=n):∃G,CellsU w g o d n G:=
 ⟨fun t=>d[t]!,fun t ht=>(h t (by omega)).1,fun t ht=>(h t (by omega)).2,fun t=>rfl⟩
theorem zfg {w wr:World} {g o n:Nat} {d dk:Array Nat} (h:Sort.Holds zc w g o d) (hs:dk.size=d.size) (hw:wr=Sort.putRow zc (Sort.ahead w n) g o dk):Sort.Holds zc wr g o dk:=by
 rw[hw];exact Sort.holds_putRow zc _ g o d dk (Sort.holds_ahead zc w n g o d h) hs
theorem zgn {w wr:World} {g o m:Nat} {dk:Array Nat} (hw:wr=Sort.putRow zc (Sort.ahead w m) g o dk) (q i j:Nat) (hi:i<dk.size) (hj:j<dk.size):
 (((wr.drewN q).setCell ⟨g,o+i,none⟩ (zc dk[j]!)).setCell ⟨g,o+j,none⟩ (zc dk[i]!))=Sort.putRow zc (Sort.ahead w (m+q)) g o (Sort.swp dk i j):=by
 subst hw;exact swap_worldA zc w m q g o dk i j hi hj
end
section
def vbF:Nat→Nat→List Nat
 | 0,x=>[x % 256]
 | k+1,x=>if x<128 then [x] else (x % 128+128) :: vbF k (x / 128)
theorem zbw (k x:Nat):vbF (k+1) x=if x<128 then [x] else (x % 128+128) :: vbF k (x / 128):=rfl
def je (x:Nat):List Nat:=vbF 9 x
theorem zgo (x:Nat):je x=vbF 9 x:=rfl
theorem ziz:∀(k x:Nat),∀b∈vbF k x,b<256
 | 0,x,b,hb=>by simp[vbF] at hb;omega
 | k+1,x,b,hb=>by
   rw[zbw] at hb;split at hb
   · simp at hb;omega
   · rcases List.mem_cons.1 hb with rfl | hb
     · omega
     · exact ziz k (x / 128) b hb
theorem ztt (x:Nat):∀b∈je x,b<256:=ziz 9 x
theorem zfh (k x:Nat):0<(vbF k x).length:=by
 cases k with
 | zero=>simp[vbF]
 | succ k=>rw[zbw];split <;> simp
theorem zgp:∀(k x:Nat),(vbF k x).length≤k+1
 | 0,x=>by simp[vbF]
 | k+1,x=>by
   rw[zbw];split
   · simp
   · have:=zgp k (x / 128);simp;omega
theorem ztu {k x:Nat} (h:1<(vbF k x).length):∃k',k=k'+1∧128≤x∧vbF k x=(x % 128+128) :: vbF k' (x / 128):=by
 cases k with
 | zero=>simp[vbF] at h
 | succ k=>
  rw[zbw] at h ⊢;split at h
  · simp at h
  · rename_i h1;rw[if_neg h1];exact⟨k,rfl,by omega,rfl⟩
theorem ztv {k m:Nat} (h:(vbF k m).length=1):vbF k m=[m % 256]:=by
 cases k with
 | zero=>rfl
 | succ k=>
  rw[zbw] at h ⊢;split at h
  · rename_i h1;rw[if_pos h1];congr 1;omega
  · have:=zfh k (m / 128);rw[List.length_cons] at h;exfalso;omega
theorem zl4:∀n:Fin 128,Lib.bitLen n.val≤7:=by decide +kernel
theorem zl5:∀(k x:Nat),x<2 ^ (7*k+1)→x<18446744073709551616→max 1 ((Lib.bitLen x+6) / 7)=(vbF k x).length
 | 0,x,h,_=>by
   simp at h;have:=zl4 ⟨x,by omega⟩;simp[vbF];simp at this
   omega
 | k+1,x,h,h64=>by
   rw[zbw];split
   · rename_i h1;have:=zl4 ⟨x,h1⟩;simp at this ⊢;omega
   · rename_i h1;have e:2 ^ (7*(k+1)+1)=2 ^ (7*k+1)*128:=by rw[show 7*(k+1)+1=(7*k+1)+7 from by omega,Nat.pow_add]
     rw[e] at h
     have hd:x / 128<2 ^ (7*k+1):=by
      clear e;generalize 2 ^ (7*k+1)=P at*;exact Nat.div_lt_of_lt_mul (by omega)
     have ih:=zl5 k (x / 128) hd (Nat.lt_of_le_of_lt (Nat.div_le_self _ _) h64);have hs:=Lib.bitLen_shift 7 x (by omega) (by simpa using h64);rw[show 2 ^ 7=128 from rfl] at hs;have hp:=zfh k (x / 128);have hz:0<Lib.bitLen (x / 128)∨Lib.bitLen (x / 128)=0:=by omega
     simp only[List.length_cons,←ih,hs];have:(7+Lib.bitLen (x / 128)+6) / 7=(Lib.bitLen (x / 128)+6) / 7+1:=by omega
     rw[this]
     have h0:0<Lib.bitLen (x / 128):=by
      have hne:x / 128≠0:=by omega
      have:=Lib.bitLen_half (x / 128) hne (by have:=Nat.div_le_self x 128;simp;omega);omega
     omega
theorem ztw {x:Nat} (h:x<18446744073709551616):max 1 ((Lib.bitLen x+6) / 7)=(je x).length:=zl5 9 x (by simpa using h) h
theorem ztx:∀x:Fin 256,x.val ||| 128=x.val % 128+128:=by decide +kernel
theorem zty (x:Nat) (hx:x<256):bits .or .u8 (x:Int) 128=((x % 128+128:Nat):Int):=by
 have h:=u8_or_nat x 128 hx (by omega);refine h.trans ?_;congr 1;exact ztx ⟨x,hx⟩
def yf (n c:Nat):Nat:=if (n=9∧1<c)∨(0<n∧c=0) then 2 else if c<128 then 1 else 0
def vp (x n c:Nat):Nat:=x ||| (c % 128*2 ^ (7*n) % 18446744073709551616)
theorem zl6 {x:Nat} (n c:Nat) (h:x<18446744073709551616):vp x n c<18446744073709551616:=by
 have h1:x<2 ^ 64:=by simpa using h
 have h2:c % 128*2 ^ (7*n) % 18446744073709551616<2 ^ 64:=by simpa using Nat.mod_lt (c % 128*2 ^ (7*n)) (show 18446744073709551616>0 by omega)
 simpa [vp] using Nat.or_lt_two_pow h1 h2
def yg:List Nat→Nat→Nat→Nat×Nat×Nat
 | [],j,_=>(0,0,j)
 | c :: l,j,x=>if yf j c=2 then (2,0,j+1) else if yf j c=1 then (1,vp x j c,j+1) else yg l (j+1) (vp x j c)
end
section
open Go.RowKit
def nth (l:List Nat) (k:Nat):Nat:=l.getD k 0
theorem zl7 {l:List Nat} {B:Nat} (h:∀x∈l,x<B) (hB:0<B) (k:Nat):nth l k<B:=by
 unfold nth;rw[List.getD_eq_getElem?_getD];by_cases hk:k<l.length
 · rw[List.getElem?_eq_getElem hk];exact h _ (List.getElem_mem hk)
 · rw[List.getElem?_eq_none (by omega)];exact hB
theorem zi0 (l:List Nat) (k:Nat) (h:k<l.length):l.take (k+1)=l.take k++[nth l k]:=by
 rw[List.take_succ_eq_append_getElem h];simp[nth,h]
def u8s (l:List Nat):List Value:=l.map fun x=>Value.int .u8 ((x:Nat):Int)
theorem zi1 (a b:List Nat):u8s (a++b)=u8s a++u8s b:=by simp[u8s]
theorem zl8 (a:List Nat):(u8s a).length=a.length:=by simp[u8s]
theorem zl9 (l:List Nat) (i:Nat) (h:i<l.length):(u8s l)[i]?=some (.int .u8 ((nth l i:Nat):Int)):=by simp[u8s,nth,h]
theorem ztz {l l':List Nat} {k:Nat} (h:l.take k=l'.take k) (hk:k<l.length) (hk':k<l'.length) (e:nth l k=nth l' k):l.take (k+1)=l'.take (k+1):=by
 rw[zi0 l k hk,zi0 l' k hk',h,e]
theorem zt0 {l l':List Nat} {k:Nat} (e:nth l k≠nth l' k):l≠l':=fun h=>e (by rw[h])
theorem zt1 (w:World):Calls Tryz.prog 182 #[] w fun e w'=>e=.returned (.int .u64 18446744073709551615)∧w=w':=by
 go_enter Tryz.func182,Tryz.ntmps182;go_wp2;go_ret;exact⟨rfl,rfl⟩
def zdn (l:List Nat) (i:Nat):Iv:=if i+1<l.length then (nth l i,nth l (i+1) - 1) else (nth l i,18446744073709551615)
end
section
def bnd (s:Iv):List Nat:=s.1 :: (if s.2<18446744073709551615 then [s.2+1] else [])
def y7 (l:List Iv):List Nat:=l.flatMap bnd
def ve (ls:List (List Iv)):List Nat:=0 :: ls.flatMap y7
theorem zt2 (a b:List Iv):y7 (a++b)=y7 a++y7 b:=by simp[y7]
theorem zi2 (l:List Iv):(y7 l).length≤l.length*2:=by
 induction l with
 | nil=>simp[y7]
 | cons s l ih=>
  have:y7 (s :: l)=bnd s++y7 l:=rfl;rw[this,List.length_append,List.length_cons];have:(bnd s).length≤2:=by unfold bnd;split <;> simp
  omega
def Asc:List Nat→Prop
 | []=>True
 | [_]=>True
 | a :: b :: l=>a<b∧Asc (b :: l)
theorem Asc.tail {a:Nat} {l:List Nat} (h:Asc (a :: l)):Asc l:=by
 cases l with
 | nil=>trivial
 | cons b l=>exact h.2
theorem Asc.lower:∀{a:Nat} {l:List Nat},Asc (a :: l)→∀x∈l,a<x
 | a,[],_,x,hx=>by simp at hx
 | a,b :: l,h,x,hx=>by
   rcases List.mem_cons.1 hx with rfl | hx
   · exact h.1
   · have:=Asc.lower h.2 x hx;have:=h.1;omega
theorem zdo {a:Nat} {l:List Nat} (h:∀x∈l,a<x) (hl:Asc l):Asc (a :: l):=by
 cases l with
 | nil=>trivial
 | cons b l=>exact⟨h b (List.mem_cons_self ..),hl⟩
theorem zma:∀{a b:List Nat},Asc (a++b)→Asc a∧Asc b∧∀x∈a,∀y∈b,x<y
 | [],b,h=>⟨trivial,h,by simp⟩
 | x :: a,b,h=>by
   obtain⟨h1,h2,h3⟩:=zma (a:=a) (b:=b) h.tail;refine⟨zdo (fun y hy=>h.lower y (by simp[hy])) h1,h2,?_⟩;intro z hz y hy;rcases List.mem_cons.1 hz with rfl | hz
   · exact h.lower y (by simp[hy])
   · exact h3 z hz y hy
theorem zc2 {l:List Nat} (h:Asc l) {i j:Nat} (hij:i<j) (hj:j<l.length):nth l i<nth l j:=by
 have e:l=l.take j++l.drop j:=(List.take_append_drop j l).symm;rw[e] at h;obtain⟨_,_,h3⟩:=zma h;refine h3 _ ?_ _ ?_
 · have hi:i<l.length:=by omega
   have:nth l i=(l.take j)[i]'(by simp;omega):=by simp[nth,hi]
   rw[this];exact List.getElem_mem _
 · have:nth l j=(l.drop j)[0]'(by simp;omega):=by simp[nth,hj]
   rw[this];exact List.getElem_mem _
theorem zbb {l:List Nat} {i:Nat} (h:i<l.length):nth l i∈l:=by
 have:nth l i=l[i]:=by simp[nth,h]
 rw[this];exact List.getElem_mem h
theorem zi3 {l:List Nat} {x:Nat} (h:x∈l):∃i,i<l.length∧nth l i=x:=by
 obtain⟨i,hi,rfl⟩:=List.getElem_of_mem h;exact⟨i,hi,by simp[nth,hi]⟩
theorem zi4:∀{l l':List Nat},Asc l→Asc l'→(∀x,x∈l↔x∈l')→l=l'
 | [],[],_,_,_=>rfl
 | [],b :: l',_,_,h=>by have:=(h b).2 (List.mem_cons_self ..);simp at this
 | a :: l,[],_,_,h=>by have:=(h a).1 (List.mem_cons_self ..);simp at this
 | a :: l,b :: l',h1,h2,h=>by
   have e:a=b:=by
    have ha:=(h a).1 (List.mem_cons_self ..);have hb:=(h b).2 (List.mem_cons_self ..);rcases List.mem_cons.1 ha with e | ha
    · exact e
    · rcases List.mem_cons.1 hb with e | hb
      · exact e.symm
      · have:=h2.lower a ha;have:=h1.lower b hb;omega
   subst e;congr 1;refine zi4 h1.tail h2.tail fun x=>?_
   constructor
   · intro hx;have hlt:=h1.lower x hx;rcases List.mem_cons.1 ((h x).1 (List.mem_cons_of_mem _ hx)) with e | h'
     · omega
     · exact h'
   · intro hx;have hlt:=h2.lower x hx;rcases List.mem_cons.1 ((h x).2 (List.mem_cons_of_mem _ hx)) with e | h'
     · omega
     · exact h'
theorem zdp:∀{L M:List Nat},Asc L→(∀y∈L,y∈M)→L.length≤M.length
 | [],M,_,_=>Nat.zero_le _
 | a :: L,M,h,hm=>by
   have h1:=zdp (L:=L) (M:=M.erase a) h.tail (fun y hy=>by
    have:=h.lower y hy;rw[List.mem_erase_of_ne (by omega)];exact hm y (List.mem_cons_of_mem _ hy))
   have h2:=List.length_erase_of_mem (hm a (List.mem_cons_self ..));have h3:0<M.length:=List.length_pos_of_mem (hm a (List.mem_cons_self ..));simp only[List.length_cons];omega
