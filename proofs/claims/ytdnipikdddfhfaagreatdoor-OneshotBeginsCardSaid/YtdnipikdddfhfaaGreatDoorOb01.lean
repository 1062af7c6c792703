/- Part 01. -/
import Derived.BigQuiet
import Derived.Deep.RegionHeld3
import Derived.Deep.AppendLies
import Derived.RegionTactic
import Derived.OwnWalk
import Derived.Below
import Derived.BigRegion
import Derived.Deep.CutBlock
import Derived.Deep.DeepCutAuto
import Derived.LoopIn
import Derived.LoopNIn
import Derived.OwnWalkIn
import Derived.RangeFuncBound
import Derived.RangeFuncCalls
import Derived.RangeFuncLeaves
import Derived.RangeFuncNested
import Derived.RangeFuncRecord
import Derived.Shelf.Abstract
import Derived.Shelf.RegionOpen
import Derived.Sort.CutIn
import Derived.StillTailTactics
import Derived.TacticsInMore
import Derived.Laws.Bits64
import Derived.Deep.RegionWith
import Derived.Deep.RegionLaw
import Derived.LaidEql
import Derived.Stop.Asserts
import Derived.RowKitTokens
import Derived.WalkSpells
import Derived.Test.YtdnipikdddfhfaaGreatDoorRows
import Derived.WalkKit
import Derived.Lib.Hide
import Derived.Lib.SmallJoins
import Derived.Lib.SlBytesConst
import Derived.Shelf.Small.Bits
import Derived.Shelf.Small.Wraps
import Derived.Shelf.Strconv.Itoa0
import Derived.Shelf.Slices.Equal
import Derived.Ground.Names2Prog
import Derived.Shelf.Slices.SearchI
import Derived.Shelf.Slices.Empties2
import Derived.Test.YtdnipikdddfhfaaGreatDoorProg
import Derived.Laws.CopyRow
import Derived.Lib.BitFns
import Derived.Laws.BitsAllLaws
set_option linter.unusedVariables false
namespace Go.Proofs.YtdnipikdddfhfaaGreatDoor
section
open Go.RowKit
theorem j0 {W:World} {g i:Nat} {C:Array Value} {T:TypeId} {fr:Nat×Nat} {v:Value} (h:W.heap[g]?=some (.cells C T fr)) (hv:C[i]?=some v):W.cell? ⟨g,i,none⟩=some v:=by
 simp only[World.cell?,h];exact hv
theorem zc9 {α:Type} {f:Nat→Option α} {k:Nat} (h:∀j,j<k→f j=none) (hk:f k=none):∀j,j<k+1→f j=none:=fun j hj=>by
 by_cases e:j=k
 · rw[e];exact hk
 · exact h j (by omega)
theorem qj (P:Program) (w:World) (a:Addr) (m:Mode) (f:Fn) (t c:Array Value):(store a (.func f t c) m).run P w=stored P w a (.func f t c) m:=run_store P w a _ m rfl
end
section
abbrev Iv:=Nat×Nat
def mem (l:List Iv) (x:Nat):Bool:=l.any fun s=>decide (s.1≤x) && decide (x≤s.2)
theorem mem_iff {l:List Iv} {x:Nat}:mem l x=true↔∃s∈l,s.1≤x∧x≤s.2:=by simp[mem]
theorem mem_cons (s:Iv) (l:List Iv) (x:Nat):mem (s :: l) x=(decide (s.1≤x) && decide (x≤s.2) || mem l x):=rfl
theorem mem_append (a b:List Iv) (x:Nat):mem (a++b) x=(mem a x || mem b x):=by simp[mem]
theorem zlu {l:List Iv} {x:Nat}:mem l x=false↔∀s∈l,¬(s.1≤x∧x≤s.2):=by
 rw[←Bool.not_eq_true,mem_iff];simp
def Good:List Iv→Prop
 | []=>True
 | [s]=>s.1≤s.2
 | s :: t :: l=>s.1≤s.2∧s.2+1<t.1∧Good (t :: l)
theorem Good.tail {s:Iv} {l:List Iv} (h:Good (s :: l)):Good l:=by
 cases l with
 | nil=>trivial
 | cons t l=>exact h.2.2
theorem Good.head {s:Iv} {l:List Iv} (h:Good (s :: l)):s.1≤s.2:=by
 cases l with
 | nil=>exact h
 | cons t l=>exact h.1
theorem Good.lower:∀{s:Iv} {l:List Iv},Good (s :: l)→∀t∈l,s.2+1<t.1
 | s,[],_,t,ht=>by simp at ht
 | s,u :: l,h,t,ht=>by
   rcases List.mem_cons.1 ht with rfl | ht
   · exact h.2.1
   · have h1:=Good.lower h.2.2 t ht;have h2:=h.2.2.head;have h3:=h.2.1;omega
theorem Good.ok:∀{l:List Iv},Good l→∀t∈l,t.1≤t.2
 | [],_,t,ht=>by simp at ht
 | s :: l,h,t,ht=>by
   rcases List.mem_cons.1 ht with rfl | ht
   · exact h.head
   · exact Good.ok h.tail t ht
theorem zlv {s:Iv} {l:List Iv} (h1:s.1≤s.2) (h2:∀t∈l,s.2+1<t.1) (h:Good l):Good (s :: l):=by
 cases l with
 | nil=>exact h1
 | cons t l=>exact⟨h1,h2 t (List.mem_cons_self ..),h⟩
end
section
open Go.RowKit Go.Extern.Stop Go.Stop Go.Extern
theorem rlm (z:Sem Value) (f:TypeId→Addr→Nat→Nat→Sem Value) (v:Value):
 ReflectliteValue.method z f #[v]=(do match ←ReflectliteValue.parts v with | none=>z | some (t,a,fl)=>f t a fl (fl % 32)):=rfl
theorem rls (v x:Value):ReflectliteValue.set #[v,x]=(do
 let (some (dst,a,fl),some (src,b,_)):=(←ReflectliteValue.parts v,←ReflectliteValue.parts x)
  | unsupported (.noEntry "extern/(internal/reflectlite.Value).Set.zeroValue")
 if fl / ReflectliteValue.flagAddr % 2 == 0 then unsupported (.noEntry "extern/(internal/reflectlite.Value).Set.unaddressable")
 let val ←loadVar src b
 if ←Rtype.directlyAssignable dst src then storeVar dst a val
 else if ←Rtype.implements dst src then
  if (←Rtype.kind src) == 20 then
   match val with
   | .nilIface=>unsupported (.noEntry "extern/reflectlite: a nil value of one interface type handed on as a value of another")
   | _=>storeVar dst a val
  else storeVar dst a (.iface src val)
 else panicString ("reflectlite.Set: value of type " ++(←Rtype.spelt src)++ " is not assignable to type " ++(←Rtype.spelt dst))
 pure (.tuple #[])):=rfl
theorem Tryz.methodKind (h:Value) (w:World):(Go.method 520 229 (.agg #[h]) "Kind").run Tryz.prog w=.ok (319,h) w:=by kernel_rfl
theorem Tryz.methodElem (h:Value) (w:World):(Go.method 520 229 (.agg #[h]) "Elem").run Tryz.prog w=.ok (337,.agg #[h]) w:=by kernel_rfl
theorem Tryz.methodImplements (h:Value) (w:World):(Go.method 520 229 (.agg #[h]) "Implements").run Tryz.prog w=.ok (338,.agg #[h]) w:=by kernel_rfl
theorem Tryz.methodAssignableTo (h:Value) (w:World):(Go.method 520 229 (.agg #[h]) "AssignableTo").run Tryz.prog w=.ok (335,.agg #[h]) w:=by kernel_rfl
theorem Tryz.valueOfPE (t:Addr) (w:World):(ReflectliteValue.unpack (.iface 111 (.pointer (some t)))).run Tryz.prog w
 = .ok (.agg #[.pointer (some ⟨1,111,none⟩),.pointer (some ⟨w.heap.size,0,none⟩),.int .u64 150]) (w.alloc (.cells #[.pointer (some t)] 111)):=by kernel_rfl
theorem Tryz.typePE (a:Addr) (w:World):(ReflectliteValue.methodAny (ReflectliteValue.valueError "reflectlite.Value.Type" 0) (fun t _ _ _=>ReflectliteType.toType t) #[.agg #[.pointer (some ⟨1,111,none⟩),.pointer (some a),.int .u64 150]]).run Tryz.prog w
 = .ok (.iface 229 (.agg #[.pointer (some ⟨1,111,none⟩)])) w:=by kernel_rfl
theorem Tryz.kindPE (w:World):((ReflectliteType.abiMethod fun t=>(fun a:Nat=>Value.int IntKind.u8 (a:Int)) <$> Rtype.kind t) #[.pointer (some ⟨1,111,none⟩)]).run Tryz.prog w=.ok (.int .u8 22) w:=by kernel_rfl
theorem Tryz.kindE (w:World):((ReflectliteType.abiMethod fun t=>(fun a:Nat=>Value.int IntKind.u8 (a:Int)) <$> Rtype.kind t) #[.pointer (some ⟨1,35,none⟩)]).run Tryz.prog w=.ok (.int .u8 2) w:=by kernel_rfl
theorem Tryz.partsPE (a:Addr) (w:World):(ReflectliteValue.parts (.agg #[.pointer (some ⟨1,111,none⟩),.pointer (some a),.int .u64 150])).run Tryz.prog w=.ok (some (111,a,150)) w:=by kernel_rfl
theorem Tryz.isNilPE (a p:Addr) (W:World) (ha:W.cell? a=some (.pointer (some p))):
 (ReflectliteValue.method (ReflectliteValue.valueError "reflectlite.Value.IsNil" 0) ReflectliteValue.isNil #[.agg #[.pointer (some ⟨1,111,none⟩),.pointer (some a),.int .u64 150]]).run Tryz.prog W=.ok (.bool false) W:=by
 rw[rlm];simp only[Sem.run_bind,Tryz.partsPE,Result.andThen];simp[ReflectliteValue.isNil,loadVar,isAgg,underlying,Tryz.underlying111,ha,Result.andThen]
theorem Tryz.elemPE (w:World):(ReflectliteType.method ReflectliteType.elem #[.agg #[.pointer (some ⟨1,111,none⟩)]]).run Tryz.prog w=.ok (.iface 229 (.agg #[.pointer (some ⟨1,35,none⟩)])) w:=by kernel_rfl
theorem Tryz.implementsE (w:World):(ReflectliteType.relation "Implements" ReflectliteType.implements_ #[.agg #[.pointer (some ⟨1,35,none⟩)],.iface 229 (.agg #[.pointer (some ⟨1,29,none⟩)])]).run Tryz.prog w=.ok (.bool true) w:=by kernel_rfl
theorem Tryz.typeOfE (v:Value) (w:World):(ReflectliteType.typeOf #[.iface 35 v]).run Tryz.prog w=.ok (.iface 229 (.agg #[.pointer (some ⟨1,35,none⟩)])) w:=by kernel_rfl
theorem Tryz.assignableEE (w:World):(ReflectliteType.relation "AssignableTo" ReflectliteType.assignableTo #[.agg #[.pointer (some ⟨1,35,none⟩)],.iface 229 (.agg #[.pointer (some ⟨1,35,none⟩)])]).run Tryz.prog w=.ok (.bool true) w:=by kernel_rfl
theorem Tryz.valueOfE (c:Int) (w:World):(ReflectliteValue.unpack (.iface 35 (.int .i64 c))).run Tryz.prog w
 = .ok (.agg #[.pointer (some ⟨1,35,none⟩),.pointer (some ⟨w.heap.size,0,none⟩),.int .u64 130]) (w.alloc (.cells #[.int .i64 c] 35)):=by kernel_rfl
theorem Tryz.elemOfPE (w:World):(Rtype.elem? 111).run Tryz.prog w=.ok (some 35) w:=by kernel_rfl
theorem Tryz.mkE (p:Addr) (w:World):(ReflectliteValue.mk 35 p ReflectliteValue.flagAddr).run Tryz.prog w=.ok (.agg #[.pointer (some ⟨1,35,none⟩),.pointer (some p),.int .u64 386]) w:=by kernel_rfl
theorem Tryz.elemVPE (a p:Addr) (W:World) (ha:W.cell? a=some (.pointer (some p))):
 (ReflectliteValue.method (ReflectliteValue.valueError "reflectlite.Value.Elem" 0) ReflectliteValue.elem #[.agg #[.pointer (some ⟨1,111,none⟩),.pointer (some a),.int .u64 150]]).run Tryz.prog W
   = .ok (.agg #[.pointer (some ⟨1,35,none⟩),.pointer (some p),.int .u64 386]) W:=by
 rw[rlm];simp only[Sem.run_bind,Tryz.partsPE,Result.andThen];simp[ReflectliteValue.elem,loadVar,isAgg,underlying,Tryz.underlying111,ha,Result.andThen,Tryz.elemOfPE,Tryz.mkE]
theorem Tryz.partsEa (a:Addr) (w:World):(ReflectliteValue.parts (.agg #[.pointer (some ⟨1,35,none⟩),.pointer (some a),.int .u64 386])).run Tryz.prog w=.ok (some (35,a,386)) w:=by kernel_rfl
theorem Tryz.partsE (a:Addr) (w:World):(ReflectliteValue.parts (.agg #[.pointer (some ⟨1,35,none⟩),.pointer (some a),.int .u64 130])).run Tryz.prog w=.ok (some (35,a,130)) w:=by kernel_rfl
theorem Tryz.directE (w:World):(Rtype.directlyAssignable 35 35).run Tryz.prog w=.ok true w:=by kernel_rfl
theorem Tryz.setE (ta b:Addr) (c:Int) (old:Value) (W:World) (hb:W.cell? b=some (.int .i64 c)) (ht:W.cell? ta=some old) (hf:W.frozen? ta=false):
 (ReflectliteValue.set #[.agg #[.pointer (some ⟨1,35,none⟩),.pointer (some ta),.int .u64 386],.agg #[.pointer (some ⟨1,35,none⟩),.pointer (some b),.int .u64 130]]).run Tryz.prog W
   = .ok (.tuple #[]) (W.setCell ta (.int .i64 c)):=by
 rw[rls];simp only[Sem.run_bind,Tryz.partsEa,Tryz.partsE,Result.andThen];simp[ReflectliteValue.flagAddr,loadVar,isAgg,underlying,Tryz.underlying35,hb,Result.andThen,Tryz.directE,storeVar,Value.cells,storeCells,Addr.add];rw[run_store Tryz.prog W ta _ _ (by rfl)];simp[ht,hf]
theorem Tryz.valueOfPF (t:Addr) (w:World):(ReflectliteValue.unpack (.iface 188 (.pointer (some t)))).run Tryz.prog w
 = .ok (.agg #[.pointer (some ⟨1,188,none⟩),.pointer (some ⟨w.heap.size,0,none⟩),.int .u64 150]) (w.alloc (.cells #[.pointer (some t)] 188)):=by kernel_rfl
theorem Tryz.typePF (a:Addr) (w:World):(ReflectliteValue.methodAny (ReflectliteValue.valueError "reflectlite.Value.Type" 0) (fun t _ _ _=>ReflectliteType.toType t) #[.agg #[.pointer (some ⟨1,188,none⟩),.pointer (some a),.int .u64 150]]).run Tryz.prog w
 = .ok (.iface 229 (.agg #[.pointer (some ⟨1,188,none⟩)])) w:=by kernel_rfl
theorem Tryz.kindPF (w:World):((ReflectliteType.abiMethod fun t=>(fun a:Nat=>Value.int IntKind.u8 (a:Int)) <$> Rtype.kind t) #[.pointer (some ⟨1,188,none⟩)]).run Tryz.prog w=.ok (.int .u8 22) w:=by kernel_rfl
theorem Tryz.kindF (w:World):((ReflectliteType.abiMethod fun t=>(fun a:Nat=>Value.int IntKind.u8 (a:Int)) <$> Rtype.kind t) #[.pointer (some ⟨1,112,none⟩)]).run Tryz.prog w=.ok (.int .u8 25) w:=by kernel_rfl
theorem Tryz.partsPF (a:Addr) (w:World):(ReflectliteValue.parts (.agg #[.pointer (some ⟨1,188,none⟩),.pointer (some a),.int .u64 150])).run Tryz.prog w=.ok (some (188,a,150)) w:=by kernel_rfl
theorem Tryz.isNilPF (a p:Addr) (W:World) (ha:W.cell? a=some (.pointer (some p))):
 (ReflectliteValue.method (ReflectliteValue.valueError "reflectlite.Value.IsNil" 0) ReflectliteValue.isNil #[.agg #[.pointer (some ⟨1,188,none⟩),.pointer (some a),.int .u64 150]]).run Tryz.prog W=.ok (.bool false) W:=by
 rw[rlm];simp only[Sem.run_bind,Tryz.partsPF,Result.andThen];simp[ReflectliteValue.isNil,loadVar,isAgg,underlying,Tryz.underlying188,ha,Result.andThen]
theorem Tryz.elemPF (w:World):(ReflectliteType.method ReflectliteType.elem #[.agg #[.pointer (some ⟨1,188,none⟩)]]).run Tryz.prog w=.ok (.iface 229 (.agg #[.pointer (some ⟨1,112,none⟩)])) w:=by kernel_rfl
theorem Tryz.implementsF (w:World):(ReflectliteType.relation "Implements" ReflectliteType.implements_ #[.agg #[.pointer (some ⟨1,112,none⟩)],.iface 229 (.agg #[.pointer (some ⟨1,29,none⟩)])]).run Tryz.prog w=.ok (.bool true) w:=by kernel_rfl
theorem Tryz.typeOfF (v:Value) (w:World):(ReflectliteType.typeOf #[.iface 112 v]).run Tryz.prog w=.ok (.iface 229 (.agg #[.pointer (some ⟨1,112,none⟩)])) w:=by kernel_rfl
theorem Tryz.assignableFF (w:World):(ReflectliteType.relation "AssignableTo" ReflectliteType.assignableTo #[.agg #[.pointer (some ⟨1,112,none⟩)],.iface 229 (.agg #[.pointer (some ⟨1,112,none⟩)])]).run Tryz.prog w=.ok (.bool true) w:=by kernel_rfl
theorem Tryz.assignableFE (w:World):(ReflectliteType.relation "AssignableTo" ReflectliteType.assignableTo #[.agg #[.pointer (some ⟨1,112,none⟩)],.iface 229 (.agg #[.pointer (some ⟨1,35,none⟩)])]).run Tryz.prog w=.ok (.bool false) w:=by kernel_rfl
theorem Tryz.assignableEF (w:World):(ReflectliteType.relation "AssignableTo" ReflectliteType.assignableTo #[.agg #[.pointer (some ⟨1,35,none⟩)],.iface 229 (.agg #[.pointer (some ⟨1,112,none⟩)])]).run Tryz.prog w=.ok (.bool false) w:=by kernel_rfl
theorem Tryz.valueOfF (c a:Int) (w:World):(ReflectliteValue.unpack (.iface 112 (.agg #[.int .i64 c,.int .i64 a]))).run Tryz.prog w
 = .ok (.agg #[.pointer (some ⟨1,112,none⟩),.pointer (some ⟨w.heap.size,0,none⟩),.int .u64 153]) (w.alloc (.cells #[.int .i64 c,.int .i64 a] 112)):=by kernel_rfl
theorem Tryz.elemOfPF (w:World):(Rtype.elem? 188).run Tryz.prog w=.ok (some 112) w:=by kernel_rfl
theorem Tryz.mkF (p:Addr) (w:World):(ReflectliteValue.mk 112 p ReflectliteValue.flagAddr).run Tryz.prog w=.ok (.agg #[.pointer (some ⟨1,112,none⟩),.pointer (some p),.int .u64 409]) w:=by kernel_rfl
theorem Tryz.elemVPF (a p:Addr) (W:World) (ha:W.cell? a=some (.pointer (some p))):
 (ReflectliteValue.method (ReflectliteValue.valueError "reflectlite.Value.Elem" 0) ReflectliteValue.elem #[.agg #[.pointer (some ⟨1,188,none⟩),.pointer (some a),.int .u64 150]]).run Tryz.prog W
   = .ok (.agg #[.pointer (some ⟨1,112,none⟩),.pointer (some p),.int .u64 409]) W:=by
 rw[rlm];simp only[Sem.run_bind,Tryz.partsPF,Result.andThen];simp[ReflectliteValue.elem,loadVar,isAgg,underlying,Tryz.underlying188,ha,Result.andThen,Tryz.elemOfPF,Tryz.mkF]
theorem Tryz.partsFa (a:Addr) (w:World):(ReflectliteValue.parts (.agg #[.pointer (some ⟨1,112,none⟩),.pointer (some a),.int .u64 409])).run Tryz.prog w=.ok (some (112,a,409)) w:=by kernel_rfl
theorem Tryz.partsF (a:Addr) (w:World):(ReflectliteValue.parts (.agg #[.pointer (some ⟨1,112,none⟩),.pointer (some a),.int .u64 153])).run Tryz.prog w=.ok (some (112,a,153)) w:=by kernel_rfl
theorem Tryz.directF (w:World):(Rtype.directlyAssignable 112 112).run Tryz.prog w=.ok true w:=by kernel_rfl
theorem Tryz.infoF:(Tryz.prog.info? 112).map (·.size)=some 2:=by kernel_rfl
theorem Tryz.setF (tb b:Nat) (c a:Int) (o1 o2:Value) (W:World) (hb0:W.cell? ⟨b,0,none⟩=some (.int .i64 c)) (hb1:W.cell? ⟨b,1,none⟩=some (.int .i64 a))
 (ht0:W.cell? ⟨tb,0,none⟩=some o1) (ht1:W.cell? ⟨tb,1,none⟩=some o2) (hf0:W.frozen? ⟨tb,0,none⟩=false) (hf1:W.frozen? ⟨tb,1,none⟩=false):
 (ReflectliteValue.set #[.agg #[.pointer (some ⟨1,112,none⟩),.pointer (some ⟨tb,0,none⟩),.int .u64 409],.agg #[.pointer (some ⟨1,112,none⟩),.pointer (some ⟨b,0,none⟩),.int .u64 153]]).run Tryz.prog W
   = .ok (.tuple #[]) ((W.setCell ⟨tb,0,none⟩ (.int .i64 c)).setCell ⟨tb,1,none⟩ (.int .i64 a)):=by
 cases hq:Tryz.prog.info? 112 with
 | none=>have:=Tryz.infoF;simp[hq] at this
 | some i=>
  have hsz:i.size=2:=by have:=Tryz.infoF;simpa [hq] using this
  rw[rls];simp only[Sem.run_bind,Tryz.partsFa,Tryz.partsF,Result.andThen];simp[ReflectliteValue.flagAddr,loadVar,isAgg,underlying,Tryz.underlying112,Result.andThen,Tryz.directF,storeVar,Value.cells,storeCells,Addr.add,sizeOf,typeInfo,hq,hsz,loadCells,loadCellsFrom,hb0,hb1]
  have h1:(W.setCell ⟨tb,0,none⟩ (.int .i64 c)).cell? ⟨tb,1,none⟩=some o2:=by
   rw[World.cell?_setCell_other _ _ _ _ (by simp)];exact ht1
  have h2:(W.setCell ⟨tb,0,none⟩ (.int .i64 c)).frozen? ⟨tb,1,none⟩=false:=by
   rw[World.frozen?_setCell];exact hf1
  rw[run_store Tryz.prog W ⟨tb,0,none⟩ _ _ (by rfl)];simp only[ht0,hf0,Bool.false_eq_true,↓reduceIte];rw[run_store Tryz.prog _ ⟨tb,1,none⟩ _ _ (by rfl)];simp[h1,h2]
theorem Tryz.methodUnF (v:Value) (w:World):(Go.method 520 112 v "Unwrap").run Tryz.prog w=.ok (323,v) w:=by kernel_rfl
theorem Tryz.asAsE (v:Value) (xT:TypeId) (w:World):(Instr.typeAssert (.iface 35 v) xT 234 true).run Tryz.prog w=.ok (.tuple #[.nilIface,.bool false]) w:=
 run_typeAssert_lacksB Tryz.underlying234 (by kernel_rfl) (by kernel_rfl) v xT w
theorem Tryz.asAsF (v:Value) (xT:TypeId) (w:World):(Instr.typeAssert (.iface 112 v) xT 234 true).run Tryz.prog w=.ok (.tuple #[.nilIface,.bool false]) w:=
 run_typeAssert_lacksB Tryz.underlying234 (by kernel_rfl) (by kernel_rfl) v xT w
theorem Tryz.asUnE (v:Value) (xT:TypeId) (w:World):(Instr.typeAssert (.iface 35 v) xT 237 true).run Tryz.prog w=.ok (.tuple #[.nilIface,.bool false]) w:=
 run_typeAssert_lacksB Tryz.underlying237 (by kernel_rfl) (by kernel_rfl) v xT w
theorem Tryz.asUmE (v:Value) (xT:TypeId) (w:World):(Instr.typeAssert (.iface 35 v) xT 238 true).run Tryz.prog w=.ok (.tuple #[.nilIface,.bool false]) w:=
 run_typeAssert_lacksB Tryz.underlying238 (by kernel_rfl) (by kernel_rfl) v xT w
theorem Tryz.asUnF (v:Value) (xT:TypeId) (w:World):(Instr.typeAssert (.iface 112 v) xT 237 true).run Tryz.prog w=.ok (.tuple #[.iface 112 v,.bool true]) w:=
 run_typeAssert_hasB Tryz.underlying237 (by kernel_rfl) v xT w
end
end Go.Proofs.YtdnipikdddfhfaaGreatDoor
section
namespace Go.Proofs
open Go.Shelf
def Tryz.lays128_ren:Go.Shelf.Ren:=⟨fun | 128=>224 | n=>n,fun | 51=>136 | 3=>3 | 4=>4 | 46=>194 | 5=>5 | 9=>9 | n=>n,fun | n=>n⟩
theorem Tryz.lays128:Go.Proofs.Lays.n128 Tryz.prog Tryz.lays128_ren:={
 mixed:=by kernel_rfl
 f128:=Tryz.func224.trans (congrArg some (by kernel_rfl))
 t3:=Tryz.underlying3
 a3:=Tryz.isAgg3
 z3:=Tryz.sizeOf3
 v3:=Tryz.zeroValue3
 t4:=Tryz.underlying4
 a4:=Tryz.isAgg4
 z4:=Tryz.sizeOf4
 v4:=Tryz.zeroValue4
 t5:=Tryz.underlying5
 a5:=Tryz.isAgg5
 z5:=Tryz.sizeOf5
 v5:=Tryz.zeroValue5
 t9:=Tryz.underlying9
 a9:=Tryz.isAgg9
 z9:=Tryz.sizeOf9
 v9:=Tryz.zeroValue9
 t46:=Tryz.underlying194
 a46:=Tryz.isAgg194
 z46:=Tryz.sizeOf194
 v46:=Tryz.zeroValue194
 t51:=Tryz.underlying136
 a51:=Tryz.isAgg136
 z51:=Tryz.sizeOf136
 v51:=Tryz.zeroValue136 }
theorem Tryz.bits_Len32 (x:Int) (w:World) (h0:0≤x) (h1:x≤4294967295):
 Calls Tryz.prog 224 #[.int .u32 x] w fun e w'=>e=.returned (.int .i64 (Lib.bitLen x.toNat))∧w'=w:=Any.bits_Len32 Tryz.lays128 x w h0 h1
def Tryz.lays125_ren:Go.Shelf.Ren:=⟨fun | 125=>177 | 128=>224 | 129=>69 | n=>n,fun | 46=>194 | 3=>3 | 51=>136 | 53=>43 | 4=>4 | 5=>5 | 9=>9 | n=>n,fun | n=>n⟩
theorem Tryz.lays125:Go.Proofs.Lays.n125 Tryz.prog Tryz.lays125_ren:={
 mixed:=by kernel_rfl
 f125:=Tryz.func177.trans (congrArg some (by kernel_rfl))
 f128:=Tryz.func224.trans (congrArg some (by kernel_rfl))
 f129:=Tryz.func69.trans (congrArg some (by kernel_rfl))
 t3:=Tryz.underlying3
 a3:=Tryz.isAgg3
 z3:=Tryz.sizeOf3
 v3:=Tryz.zeroValue3
 t4:=Tryz.underlying4
 a4:=Tryz.isAgg4
 z4:=Tryz.sizeOf4
 v4:=Tryz.zeroValue4
 t5:=Tryz.underlying5
 a5:=Tryz.isAgg5
 z5:=Tryz.sizeOf5
 v5:=Tryz.zeroValue5
 t9:=Tryz.underlying9
 a9:=Tryz.isAgg9
 z9:=Tryz.sizeOf9
 v9:=Tryz.zeroValue9
 t46:=Tryz.underlying194
 a46:=Tryz.isAgg194
 z46:=Tryz.sizeOf194
 v46:=Tryz.zeroValue194
 t51:=Tryz.underlying136
 a51:=Tryz.isAgg136
 z51:=Tryz.sizeOf136
 v51:=Tryz.zeroValue136
 t53:=Tryz.underlying43
 a53:=Tryz.isAgg43
 z53:=Tryz.sizeOf43
 v53:=Tryz.zeroValue43 }
theorem Tryz.bits_Len (x:Int) (w:World) (h0:0≤x) (h1:x≤18446744073709551615):
 Calls Tryz.prog 177 #[.int .u64 x] w fun e w'=>e=.returned (.int .i64 (Lib.bitLen x.toNat))∧w'=w:=Any.bits_Len Tryz.lays125 x w h0 h1
def Tryz.lays215_ren:Go.Shelf.Ren:=⟨fun | 215=>261 | n=>n,fun | 3=>3 | 4=>4 | n=>n,fun | n=>n⟩
theorem Tryz.lays215:Go.Proofs.Lays.n215 Tryz.prog Tryz.lays215_ren:={
 mixed:=by kernel_rfl
 f215:=Tryz.func261.trans (congrArg some (by kernel_rfl))
 t3:=Tryz.underlying3
 a3:=Tryz.isAgg3
 z3:=Tryz.sizeOf3
 v3:=Tryz.zeroValue3
 t4:=Tryz.underlying4
 a4:=Tryz.isAgg4
 z4:=Tryz.sizeOf4
 v4:=Tryz.zeroValue4 }
open Go.RowKit in
theorem Tryz.cmp_isNaN_int (x:Int) (w:World):
 Calls Tryz.prog 261 #[.int .i64 x] w fun e w'=>e=.returned (.bool false)∧w'=w:=Any.cmp_isNaN_int Tryz.lays215 x w
def Tryz.lays122_ren:Go.Shelf.Ren:=⟨fun | 122=>232 | 215=>261 | n=>n,fun | 3=>3 | 4=>4 | n=>n,fun | n=>n⟩
theorem Tryz.lays122:Go.Proofs.Lays.n122 Tryz.prog Tryz.lays122_ren:={
 mixed:=by kernel_rfl
 f122:=Tryz.func232.trans (congrArg some (by kernel_rfl))
 f215:=Tryz.func261.trans (congrArg some (by kernel_rfl))
 t3:=Tryz.underlying3
 a3:=Tryz.isAgg3
 z3:=Tryz.sizeOf3
 v3:=Tryz.zeroValue3
 t4:=Tryz.underlying4
 a4:=Tryz.isAgg4
 z4:=Tryz.sizeOf4
 v4:=Tryz.zeroValue4 }
open Go.RowKit in
theorem Tryz.cmp_Compare_int (x y:Int) (w:World):
 Calls Tryz.prog 232 #[.int .i64 x,.int .i64 y] w fun e w'=>e=.returned (.int .i64 (Lib.compareInt x y))∧w'=w:=Any.cmp_Compare_int Tryz.lays122 x y w
def Tryz.lays129_ren:Go.Shelf.Ren:=⟨fun | 129=>69 | n=>n,fun | 53=>43 | 3=>3 | 4=>4 | 46=>194 | 5=>5 | 9=>9 | n=>n,fun | n=>n⟩
theorem Tryz.lays129:Go.Proofs.Lays.n129 Tryz.prog Tryz.lays129_ren:={
 mixed:=by kernel_rfl
 f129:=Tryz.func69.trans (congrArg some (by kernel_rfl))
 t3:=Tryz.underlying3
 a3:=Tryz.isAgg3
 z3:=Tryz.sizeOf3
 v3:=Tryz.zeroValue3
 t4:=Tryz.underlying4
 a4:=Tryz.isAgg4
 z4:=Tryz.sizeOf4
 v4:=Tryz.zeroValue4
 t5:=Tryz.underlying5
 a5:=Tryz.isAgg5
 z5:=Tryz.sizeOf5
 v5:=Tryz.zeroValue5
 t9:=Tryz.underlying9
 a9:=Tryz.isAgg9
 z9:=Tryz.sizeOf9
 v9:=Tryz.zeroValue9
 t46:=Tryz.underlying194
 a46:=Tryz.isAgg194
 z46:=Tryz.sizeOf194
 v46:=Tryz.zeroValue194
 t53:=Tryz.underlying43
 a53:=Tryz.isAgg43
 z53:=Tryz.sizeOf43
 v53:=Tryz.zeroValue43 }
theorem Tryz.bits_Len64 (x:Int) (w:World) (h0:0≤x) (h1:x≤18446744073709551615):
 Calls Tryz.prog 69 #[.int .u64 x] w fun e w'=>e=.returned (.int .i64 (Lib.bitLen x.toNat))∧w'=w:=Any.bits_Len64 Tryz.lays129 x w h0 h1
def Tryz.lays111_ren:Go.Shelf.Ren:=⟨fun | 111=>48 | n=>n,fun | 28=>60 | 3=>3 | 4=>4 | 0=>0 | n=>n,fun | n=>n⟩
theorem Tryz.lays111:Go.Proofs.Lays.n111 Tryz.prog Tryz.lays111_ren:={
 mixed:=by kernel_rfl
 f111:=Tryz.func48.trans (congrArg some (by kernel_rfl))
 t0:=Tryz.underlying0
 a0:=Tryz.isAgg0
 z0:=Tryz.sizeOf0
 v0:=Tryz.zeroValue0
 t3:=Tryz.underlying3
 a3:=Tryz.isAgg3
 z3:=Tryz.sizeOf3
 v3:=Tryz.zeroValue3
 t4:=Tryz.underlying4
 a4:=Tryz.isAgg4
 z4:=Tryz.sizeOf4
 v4:=Tryz.zeroValue4
 t28:=Tryz.underlying60
 a28:=Tryz.isAgg60
 z28:=Tryz.sizeOf60
 v28:=Tryz.zeroValue60 }
open Go.RowKit Go.Lib in
theorem Tryz.slices_Equal_int (b1 o1 n c b2 o2 m d:Nat) (xs ys:List Int) (w:World) (hx:n≤xs.length) (hy:m≤ys.length) (hbig:n≤9223372036854775807) (hbig2:m≤9223372036854775807) (hc1:∀j,j<xs.length→w.cell? ⟨b1,o1+j,none⟩=some (.int .i64 (xs.getD j 0))) (hc2:∀j,j<ys.length→w.cell? ⟨b2,o2+j,none⟩=some (.int .i64 (ys.getD j 0))):
 Calls Tryz.prog 48 #[.slice (some ⟨b1,o1,none⟩) n c,.slice (some ⟨b2,o2,none⟩) m d] w fun e w'=>e=.returned (.bool (xs.take n == ys.take m))∧∃q,w'=w.drewN q:=Any.slices_Equal_int Tryz.lays111 b1 o1 n c b2 o2 m d xs ys w hx hy hbig hbig2 hc1 hc2
open Go.RowKit Go.Lib in
theorem Tryz.slices_Equal_int_empty (a1 a2:Option Addr) (c m d:Nat) (w:World) (hbig2:m≤9223372036854775807):
 Calls Tryz.prog 48 #[.slice a1 0 c,.slice a2 m d] w fun e w'=>e=.returned (.bool (decide (m=0)))∧w'=w:=Any.slices_Equal_int_empty Tryz.lays111 a1 a2 c m d w hbig2
def Tryz.laysNm237_ren:Go.Shelf.Ren:=⟨fun | 37=>261 | n=>n,fun | 3=>3 | 4=>4 | n=>n,fun | n=>n⟩
theorem Tryz.laysNm237:Go.Proofs.Lays2.n37 Tryz.prog Tryz.laysNm237_ren:={
 mixed:=by kernel_rfl
 f37:=Tryz.func261.trans (congrArg some (by kernel_rfl))
 t3:=Tryz.underlying3
 a3:=Tryz.isAgg3
 z3:=Tryz.sizeOf3
 v3:=Tryz.zeroValue3
 t4:=Tryz.underlying4
 a4:=Tryz.isAgg4
 z4:=Tryz.sizeOf4
 v4:=Tryz.zeroValue4 }
open Go.RowKit Go.Lib in
theorem Tryz.cmp_isNaN_int2 (x:Int) (w:World):
 Calls Tryz.prog 261 #[.int .i64 x] w fun e w'=>e=.returned (.bool false)∧w'=w:=Any.cmp_isNaN_int2 Tryz.laysNm237 x w
open Go.RowKit Go.Lib in
theorem Tryz.slices_Equal_int_lens (a1 a2:Option Addr) (n c m d:Nat) (w:World) (hnm:n≠m):
 Calls Tryz.prog 48 #[.slice a1 n c,.slice a2 m d] w fun e w'=>e=.returned (.bool false)∧w'=w:=Any.slices_Equal_int_lens Tryz.lays111 a1 a2 n c m d w hnm
end Go.Proofs
end
namespace Go.Proofs.YtdnipikdddfhfaaGreatDoor
section
open Go.RowKit
theorem zer (x:Nat) (w:World):Calls Tryz.prog 178 #[.int .u64 x] w fun e w'=>e=.returned (.bool false)∧w'=w:=by
 go_enter Tryz.func178,Tryz.ntmps178;go_wp2;go_ret;exact⟨by simp,rfl⟩
theorem zgk (x y:Nat) (w:World):Calls Tryz.prog 131 #[.int .u64 x,.int .u64 y] w fun e w'=>e=.returned (.int .i64 (Lib.compareInt (x:Int) (y:Int)))∧w'=w:=by
 unfold Lib.compareInt;by_cases h1:x<y
 · rw[if_pos (by omega)];go_enter Tryz.func131,Tryz.ntmps131;go_wp2_with (go_at_call 178;refine(zer _ _).mono ?_;rintro e w1 ⟨rfl,rfl⟩);go_ret;exact⟨rfl,rfl⟩
 · rw[if_neg (by omega)];by_cases h2:y<x
   · rw[if_pos (by omega)];go_enter Tryz.func131,Tryz.ntmps131;go_wp2_with (go_at_call 178;refine(zer _ _).mono ?_;rintro e w1 ⟨rfl,rfl⟩);go_ret;exact⟨rfl,rfl⟩
   · rw[if_neg (by omega)];go_enter Tryz.func131,Tryz.ntmps131;go_wp2_with (go_at_call 178;refine(zer _ _).mono ?_;rintro e w1 ⟨rfl,rfl⟩);go_ret;exact⟨rfl,rfl⟩
theorem Tryz.arr4:Tryz.prog.underlying 139=some (.array 4 5):=Tryz.underlying139
theorem Tryz.sz8:(Tryz.prog.info? 5).map (·.size)=some 1:=by kernel_rfl
theorem zlw (d:Nat) (a b:Int) (w:World):(Op.equalIn (d+1) 5 (.int .u8 a) (.int .u8 b)).run Tryz.prog w=.ok (a == b) w:=by
 simp[Op.equalIn,run_underlying Tryz.underlying5]
theorem zlx (cs:Array Value) (i:Nat) (v:Value) (h:cs[i]?=some v) (w:World):(part 5 cs i).run Tryz.prog w=.ok v w:=by
 simp[part,isAgg,run_underlying Tryz.underlying5,h]
theorem zly (d:Nat) (x0 x1 x2 x3 y0 y1 y2 y3:Int) (w:World):(Op.equalIn (d+1+1) 139 (.agg #[.int .u8 x0,.int .u8 x1,.int .u8 x2,.int .u8 x3]) (.agg #[.int .u8 y0,.int .u8 y1,.int .u8 y2,.int .u8 y3])).run Tryz.prog w=.ok (x0 == y0 && (x1 == y1 && (x2 == y2 && x3 == y3))) w:=by
 cases hq:Tryz.prog.info? 5 with
 | none=>have:=Tryz.sz8;simp[hq] at this
 | some i=>
  have hsz:i.size=1:=by have:=Tryz.sz8;simpa [hq] using this
  have e:=fun (a b:Int)=>zlw d a b w
  rw[Op.equalIn];generalize Op.equalIn (d+1)=F at*;simp only[Sem.run_bind,run_underlying Tryz.arr4,Result.andThen,sizeOf,typeInfo];simp[hq,hsz,Std.Legacy.Range.forIn_eq_forIn_range',List.range',zlx,e];by_cases h0:x0=y0 <;> by_cases h1:x1=y1 <;> by_cases h2:x2=y2 <;> by_cases h3:x3=y3 <;> simp[h0,h1,h2,h3]
theorem zb8 (x0 x1 x2 x3 y0 y1 y2 y3:Int) (w:World):(Op.equalIn 10000 139 (.agg #[.int .u8 x0,.int .u8 x1,.int .u8 x2,.int .u8 x3]) (.agg #[.int .u8 y0,.int .u8 y1,.int .u8 y2,.int .u8 y3])).run Tryz.prog w=.ok (x0 == y0 && (x1 == y1 && (x2 == y2 && x3 == y3))) w:=
 zly 9998 x0 x1 x2 x3 y0 y1 y2 y3 w
end
section
def vbF:Nat→Nat→List Nat
 | 0,x=>[x % 256]
 | k+1,x=>if x<128 then [x] else (x % 128+128) :: vbF k (x / 128)
theorem zac (k x:Nat):vbF (k+1) x=if x<128 then [x] else (x % 128+128) :: vbF k (x / 128):=rfl
def zo (x:Nat):List Nat:=vbF 9 x
theorem zb9 (x:Nat):zo x=vbF 9 x:=rfl
theorem zgl:∀(k x:Nat),∀b∈vbF k x,b<256
 | 0,x,b,hb=>by simp[vbF] at hb;omega
 | k+1,x,b,hb=>by
   rw[zac] at hb;split at hb
   · simp at hb;omega
   · rcases List.mem_cons.1 hb with rfl | hb
     · omega
     · exact zgl k (x / 128) b hb
theorem zgm (x:Nat):∀b∈zo x,b<256:=zgl 9 x
theorem zay (k x:Nat):0<(vbF k x).length:=by
 cases k with
 | zero=>simp[vbF]
 | succ k=>rw[zac];split <;> simp
theorem zca:∀(k x:Nat),(vbF k x).length≤k+1
 | 0,x=>by simp[vbF]
 | k+1,x=>by
   rw[zac];split
   · simp
   · have:=zca k (x / 128);simp;omega
theorem zgn {k x:Nat} (h:1<(vbF k x).length):∃k',k=k'+1∧128≤x∧vbF k x=(x % 128+128) :: vbF k' (x / 128):=by
 cases k with
 | zero=>simp[vbF] at h
 | succ k=>
  rw[zac] at h ⊢;split at h
  · simp at h
  · rename_i h1;rw[if_neg h1];exact⟨k,rfl,by omega,rfl⟩
theorem zgo {k m:Nat} (h:(vbF k m).length=1):vbF k m=[m % 256]:=by
 cases k with
 | zero=>rfl
 | succ k=>
  rw[zac] at h ⊢;split at h
  · rename_i h1;rw[if_pos h1];congr 1;omega
  · have:=zay k (m / 128);rw[List.length_cons] at h;exfalso;omega
theorem zgp:∀n:Fin 128,Lib.bitLen n.val≤7:=by decide +kernel
theorem zgq:∀(k x:Nat),x<2 ^ (7*k+1)→x<18446744073709551616→max 1 ((Lib.bitLen x+6) / 7)=(vbF k x).length
 | 0,x,h,_=>by
   simp at h;have:=zgp ⟨x,by omega⟩;simp[vbF];simp at this
   omega
 | k+1,x,h,h64=>by
   rw[zac];split
   · rename_i h1;have:=zgp ⟨x,h1⟩;simp at this ⊢;omega
   · rename_i h1;have e:2 ^ (7*(k+1)+1)=2 ^ (7*k+1)*128:=by rw[show 7*(k+1)+1=(7*k+1)+7 from by omega,Nat.pow_add]
     rw[e] at h
     have hd:x / 128<2 ^ (7*k+1):=by
      clear e;generalize 2 ^ (7*k+1)=P at*;exact Nat.div_lt_of_lt_mul (by omega)
     have ih:=zgq k (x / 128) hd (Nat.lt_of_le_of_lt (Nat.div_le_self _ _) h64);have hs:=Lib.bitLen_shift 7 x (by omega) (by simpa using h64);rw[show 2 ^ 7=128 from rfl] at hs;have hp:=zay k (x / 128);have hz:0<Lib.bitLen (x / 128)∨Lib.bitLen (x / 128)=0:=by omega
     simp only[List.length_cons,←ih,hs];have:(7+Lib.bitLen (x / 128)+6) / 7=(Lib.bitLen (x / 128)+6) / 7+1:=by omega
     rw[this]
     have h0:0<Lib.bitLen (x / 128):=by
      have hne:x / 128≠0:=by omega
      have:=Lib.bitLen_half (x / 128) hne (by have:=Nat.div_le_self x 128;simp;omega);omega
     omega
theorem zlz {x:Nat} (h:x<18446744073709551616):max 1 ((Lib.bitLen x+6) / 7)=(zo x).length:=zgq 9 x (by simpa using h) h
theorem zl0:∀x:Fin 256,x.val ||| 128=x.val % 128+128:=by decide +kernel
theorem zl1 (x:Nat) (hx:x<256):bits .or .u8 (x:Int) 128=((x % 128+128:Nat):Int):=by
 have h:=u8_or_nat x 128 hx (by omega);refine h.trans ?_;congr 1;exact zl0 ⟨x,hx⟩
def zi (n c:Nat):Nat:=if (n=9∧1<c)∨(0<n∧c=0) then 2 else if c<128 then 1 else 0
def zu (x n c:Nat):Nat:=x ||| (c % 128*2 ^ (7*n) % 18446744073709551616)
theorem zcb {x:Nat} (n c:Nat) (h:x<18446744073709551616):zu x n c<18446744073709551616:=by
 have h1:x<2 ^ 64:=by simpa using h
 have h2:c % 128*2 ^ (7*n) % 18446744073709551616<2 ^ 64:=by simpa using Nat.mod_lt (c % 128*2 ^ (7*n)) (show 18446744073709551616>0 by omega)
 simpa [zu] using Nat.or_lt_two_pow h1 h2
def zk:List Nat→Nat→Nat→Nat×Nat×Nat
 | [],j,_=>(0,0,j)
 | c :: l,j,x=>if zi j c=2 then (2,0,j+1) else if zi j c=1 then (1,zu x j c,j+1) else zk l (j+1) (zu x j c)
end
section
open Go.RowKit
def nth (l:List Nat) (k:Nat):Nat:=l.getD k 0
theorem zgr {l:List Nat} {B:Nat} (h:∀x∈l,x<B) (hB:0<B) (k:Nat):nth l k<B:=by
 unfold nth;rw[List.getD_eq_getElem?_getD];by_cases hk:k<l.length
 · rw[List.getElem?_eq_getElem hk];exact h _ (List.getElem_mem hk)
 · rw[List.getElem?_eq_none (by omega)];exact hB
theorem zda (l:List Nat) (k:Nat) (h:k<l.length):l.take (k+1)=l.take k++[nth l k]:=by
 rw[List.take_succ_eq_append_getElem h];simp[nth,h]
def u8s (l:List Nat):List Value:=l.map fun x=>Value.int .u8 ((x:Nat):Int)
theorem zbj (a b:List Nat):u8s (a++b)=u8s a++u8s b:=by simp[u8s]
theorem zcc (a:List Nat):(u8s a).length=a.length:=by simp[u8s]
theorem zes (l:List Nat) (i:Nat) (h:i<l.length):(u8s l)[i]?=some (.int .u8 ((nth l i:Nat):Int)):=by simp[u8s,nth,h]
theorem zl2 {l l':List Nat} {k:Nat} (h:l.take k=l'.take k) (hk:k<l.length) (hk':k<l'.length) (e:nth l k=nth l' k):l.take (k+1)=l'.take (k+1):=by
 rw[zda l k hk,zda l' k hk',h,e]
theorem zl3 {l l':List Nat} {k:Nat} (e:nth l k≠nth l' k):l≠l':=fun h=>e (by rw[h])
theorem zdb (k:FuncId):Fence.wide.fn k=True:=rfl
theorem zl4 {F:Fence} {n:Nat} {P:Program} {w:World} {ops:Array Oper} {rest:List Oper} {o:Oper} {a:Act} {Q:Exit→Act→World→Prop} (hg:o.guard=none) (s x:Operand) (t:TypeId)
 (hop:o.op=Op.call { callee:=Callee.builtin Builtin.append,args:= #[s,x],argTypes:= #[t,t] })
 (v u:Value) (hs:a.eval s=v) (hx:a.eval x=u) (v':Value) (w':World) (hrun:(Builtin.append_ #[t,t] o.type #[v,u]).run P w=.ok v' w')
 (h:wpListIn F n P ops Q rest (a.put o.dst v') w'):wpListIn F n P ops Q (o :: rest) a w:=by
 refine wpListIn_plain hg fun K hK=>?_
 unfold Oper.wpIn;refine⟨?_,?_⟩
 · simp[Oper.about,hop,resolve,Target.leads,Sem.run_pure]
 · rw[Oper.semAt_plain F _ _ (by rw[hop];intro c hc;cases hc)];simp[execOp,hop,resolve,invoke,builtin,hs,hx,hrun,Result.andThen];exact hK _ _ h
theorem vp {w:World} {o:Obj} {k:Nat} (h:k=w.heap.size):(w.alloc o).heap[k]?=some o:=by subst h;exact World.alloc_heap_new w o
theorem zaz {w:World} {o r:Obj} {k:Nat} (h:w.heap[k]?=some r):(w.alloc o).heap[k]?=some r:=(Below.heap_alloc w o k (Array.getElem?_eq_some_iff.1 h).1).trans h
theorem kt {w w':World} {base sz n:Nat} {e:TypeId} {v:Value} {xs:List Value} (h:w.ownsRow base e sz v n xs) (hk:∀k,base≤k→k<w.heap.size→w'.heap[k]?=w.heap[k]?):w'.ownsRow base e sz v n xs:=by
 refine⟨h.1,?_⟩;rcases h.2 with h2 | ⟨g,cap,cur,hv,hg,hh,r⟩
 · exact .inl h2
 · exact .inr ⟨g,cap,cur,hv,hg,(hk g hg (Array.getElem?_eq_some_iff.1 hh).1).trans hh,r⟩
end
section
def bnd (s:Iv):List Nat:=s.1 :: (if s.2<18446744073709551615 then [s.2+1] else [])
def zl5 (l:List Iv):List Nat:=l.flatMap bnd
def zl6 (ls:List (List Iv)):List Nat:=0 :: ls.flatMap zl5
def Asc:List Nat→Prop
 | []=>True
 | [_]=>True
 | a :: b :: l=>a<b∧Asc (b :: l)
theorem Asc.tail {a:Nat} {l:List Nat} (h:Asc (a :: l)):Asc l:=by
 cases l with
 | nil=>trivial
 | cons b l=>exact h.2
theorem Asc.lower:∀{a:Nat} {l:List Nat},Asc (a :: l)→∀x∈l,a<x
 | a,[],_,x,hx=>by simp at hx
 | a,b :: l,h,x,hx=>by
   rcases List.mem_cons.1 hx with rfl | hx
   · exact h.1
   · have:=Asc.lower h.2 x hx;have:=h.1;omega
theorem zgs {a:Nat} {l:List Nat} (h:∀x∈l,a<x) (hl:Asc l):Asc (a :: l):=by
 cases l with
 | nil=>trivial
 | cons b l=>exact⟨h b (List.mem_cons_self ..),hl⟩
theorem zl7 {l:List Nat} {i:Nat} (h:i<l.length):nth l i∈l:=by
 have:nth l i=l[i]:=by simp[nth,h]
 rw[this];exact List.getElem_mem h
theorem zgt:∀{l l':List Nat},Asc l→Asc l'→(∀x,x∈l↔x∈l')→l=l'
 | [],[],_,_,_=>rfl
 | [],b :: l',_,_,h=>by have:=(h b).2 (List.mem_cons_self ..);simp at this
 | a :: l,[],_,_,h=>by have:=(h a).1 (List.mem_cons_self ..);simp at this
 | a :: l,b :: l',h1,h2,h=>by
   have e:a=b:=by
    have ha:=(h a).1 (List.mem_cons_self ..);have hb:=(h b).2 (List.mem_cons_self ..);rcases List.mem_cons.1 ha with e | ha
    · exact e
    · rcases List.mem_cons.1 hb with e | hb
      · exact e.symm
      · have:=h2.lower a ha;have:=h1.lower b hb;omega
   subst e;congr 1;refine zgt h1.tail h2.tail fun x=>?_
   constructor
   · intro hx;have hlt:=h1.lower x hx;rcases List.mem_cons.1 ((h x).1 (List.mem_cons_of_mem _ hx)) with e | h'
     · omega
     · exact h'
   · intro hx;have hlt:=h2.lower x hx;rcases List.mem_cons.1 ((h x).2 (List.mem_cons_of_mem _ hx)) with e | h'
     · omega
     · exact h'
theorem zgu:∀{L M:List Nat},Asc L→(∀y∈L,y∈M)→L.length≤M.length
 | [],M,_,_=>Nat.zero_le _
 | a :: L,M,h,hm=>by
   have h1:=zgu (L:=L) (M:=M.erase a) h.tail (fun y hy=>by
    have:=h.lower y hy;rw[List.mem_erase_of_ne (by omega)];exact hm y (List.mem_cons_of_mem _ hy))
   have h2:=List.length_erase_of_mem (hm a (List.mem_cons_self ..));have h3:0<M.length:=List.length_pos_of_mem (hm a (List.mem_cons_self ..));simp only[List.length_cons];omega
end
section
open Go.RowKit
def zet (x:Nat):Nat:=x / 2 ^^^ (x % 2*3988292384)
def zcd:Nat→Nat→Nat
 | 0,x=>x
 | k+1,x=>zet (zcd k x)
def zeu (x c:Nat):Nat:=zcd 8 (x ^^^ c)
def reg (x:Nat) (l:List Nat):Nat:=l.foldl zeu x
def sum (l:List Nat):Nat:=4294967295 ^^^ reg 4294967295 l
theorem zdc {a b:Nat} (h:a<4294967296) (k:b<4294967296):a ^^^ b<4294967296:=by
 have h':a<2 ^ 32:=by simpa using h
 have k':b<2 ^ 32:=by simpa using k
 simpa using Nat.xor_lt_two_pow h' k'
theorem zl8 {x:Nat} (h:x<4294967296):zet x<4294967296:=
 zdc (by omega) (by omega)
theorem zgv (k:Nat) {x:Nat} (h:x<4294967296):zcd k x<4294967296:=by
 induction k with
 | zero=>exact h
 | succ k ih=>exact zl8 ih
theorem zl9 {x c:Nat} (h:x<4294967296) (hc:c<256):zeu x c<4294967296:=by
 refine zgv 8 ?_;exact zdc h (by omega)
theorem zdd {x:Nat} {l:List Nat} (h:x<4294967296) (hl:∀c∈l,c<256):reg x l<4294967296:=by
 induction l generalizing x with
 | nil=>exact h
 | cons c l ih=>exact ih (zl9 h (hl c (by simp))) (fun d hd=>hl d (by simp[hd]))
theorem zma (x:Nat) (a b:List Nat):reg x (a++b)=reg (reg x a) b:=by simp[reg,List.foldl_append]
theorem zmb (x:Nat) (l:List Nat) (k:Nat) (h:k<l.length):reg x (l.take (k+1))=zeu (reg x (l.take k)) (nth l k):=by
 rw[zda l k h,zma];rfl
theorem zmc (x:Nat): -((x % 2:Nat):Int) % 4294967296=(((x % 2)*4294967295:Nat):Int):=by
 rcases Nat.mod_two_eq_zero_or_one x with h | h <;> rw[h] <;> rfl
theorem zmd (x:Nat) (hx:x<4294967296):x &&& 4294967295=x:=by
 rw[show 4294967295=2 ^ 32 - 1 by decide,Nat.and_two_pow_sub_one_eq_mod];exact Nat.mod_eq_of_lt hx
theorem zme (x:Nat) (hx:x<4294967296):bits .and .u32 (x:Int) 1=((x % 2:Nat):Int):=by
 have h:=u32_and_nat x 1 hx (by omega);rw[Nat.and_one_is_mod] at h;exact h
theorem zmf (x:Nat):bits .and .u32 3988292384 (((x % 2)*4294967295:Nat):Int)=((x % 2*3988292384:Nat):Int):=by
 have h:=u32_and_nat 3988292384 (x % 2*4294967295) (by omega) (by omega);refine h.trans ?_;congr 1;rcases Nat.mod_two_eq_zero_or_one x with h | h <;> rw[h]
 · simp
 · rw[Nat.one_mul,Nat.one_mul];exact zmd _ (by decide)
theorem zmg (x:Nat) (hx:x<4294967296):
 bits .xor .u32 ((x:Int) / 2) (bits .and .u32 3988292384 (-bits .and .u32 (x:Int) 1 % 4294967296))=((zet x:Nat):Int):=by
 rw[zme x hx,zmc,zmf];have h:=u32_xor_nat (x / 2) (x % 2*3988292384) (by omega) (by omega);rw[←show (((x / 2:Nat)):Int)=(x:Int) / 2 from by simp];exact h
theorem zgw (x:Nat) (hx:x<4294967296):bits .xor .u32 IntKind.u32.max (x:Int)=((4294967295 ^^^ x:Nat):Int):=u32_xor_nat 4294967295 x (by omega) hx
theorem zmh (x c:Nat) (hx:x<4294967296) (hc:c<256):bits .xor .u32 (x:Int) (c:Int)=((zcd 0 (x ^^^ c):Nat):Int):=
 u32_xor_nat x c hx (by omega)
theorem zev {x:Nat} (hx:x<4294967296):4294967295 ^^^ x<4294967296:=by
 exact zdc (by omega) hx
structure Byts (w:World) (a:Option Addr) (n cap:Nat) (l:List Nat):Prop where
 len:l.length=n
 lt:∀x∈l,x<256
 room:n≤cap
 most:cap≤9223372036854775807
 nilc:a=none→cap=0
 cells:0<n→∃b o,a=some ⟨b,o,none⟩∧∀i,i<n→w.cell? ⟨b,o+i,none⟩=some (.int .u8 ((nth l i:Nat):Int))
theorem ze {w:World} {p:Addr} {v:Value} (h:w.cell? p=some v):p.block<w.heap.size:=by
 rcases Nat.lt_or_ge p.block w.heap.size with h' | h'
 · exact h'
 · simp[World.cell?,Array.getElem?_eq_none h'] at h
theorem Byts.below {w w':World} {a:Option Addr} {n cap:Nat} {l:List Nat} (h:Byts w a n cap l) (hb:Below w.heap.size w w'):Byts w' a n cap l:=by
 refine⟨h.len,h.lt,h.room,h.most,h.nilc,fun hn=>?_⟩;obtain⟨b,o,ha,hc⟩:=h.cells hn;refine⟨b,o,ha,fun i hi=>?_⟩;have:=hc i hi;rw[←this];exact hb.cell (p:=⟨b,o+i,none⟩) (ze this)
theorem vq {k:IntKind} {a b:Int} (h:a=b):Ending.returned (.int k a)=.returned (.int k b):=by rw[h]
theorem za0 {a b:Bool} (h:a=b):Ending.returned (.bool a)=.returned (.bool b):=by rw[h]
theorem ye (b o i:Nat):((⟨b,o,none⟩:Addr).add i)=⟨b,o+i,none⟩:=by
 unfold Addr.add;split
 · subst_vars;rfl
 · simp
theorem zmi (w:World) (cs:List Value) (T:TypeId) (j:Nat) (u:Value) (h:cs[j]?=some u):(w.alloc (.cells cs.toArray T)).cell? ((⟨w.heap.size,0,none⟩:Addr).add j)=some u:=by
 rw[ye];have h1:(w.alloc (.cells cs.toArray T)).heap[w.heap.size]?=some (.cells cs.toArray T):=Array.getElem?_push_size;simp only[World.cell?,h1];simpa using h
theorem vg {w w1 w2:World} {row:Option Nat} (h:w.grownBy w1 row) (k:w1.grownBy w2 row):w.grownBy w2 row:=
 ⟨k.os.trans h.os,k.tape.trans h.tape,k.output.trans h.output,Nat.le_trans h.size k.size,fun i hi hne=>(k.block i (Nat.lt_of_lt_of_le hi h.size) hne).trans (h.block i hi hne)⟩
theorem za1 (w:World) (b n:Nat) (C:Array Value) (l:List Nat) (T:TypeId) (fr:Nat×Nat) (hb:b=w.heap.size) (hn:l.length=n) (hC:C=(u8s l).toArray) (hl:∀x∈l,x<256) (hm:n≤9223372036854775807):
 Byts (w.alloc (.cells C T fr)) (some ⟨b,0,none⟩) n n l:=by
 subst hb hC;refine⟨hn,hl,Nat.le_refl _,hm,(by intro h;cases h),fun _=>⟨_,_,rfl,fun i hi=>?_⟩⟩;rw[World.cell?_alloc_mark];have hi':i<l.length:=by omega
 simp[u8s,nth,hi']
theorem zmj (w:World):Byts w none 0 0 []:=⟨rfl,by simp,by omega,by omega,fun _=>rfl,fun h=>by omega⟩
theorem zew {w:World} {base n:Nat} {T:TypeId} {v:Value} {l:List Nat} (h:w.ownsRow base T 1 v n (u8s l)) (hl:∀x∈l,x<256):∃a cap,v=.slice a n cap∧Byts w a n cap l:=by
 have hlen:l.length=n:=by have:=h.1;simpa [u8s] using this
 rcases h.2 with ⟨rfl,rfl⟩ | ⟨g,cap,cur,rfl,hg,hh,hnc,hcm,_⟩
 · exact⟨none,0,rfl,hlen,hl,by omega,by omega,fun _=>rfl,fun h=>by omega⟩
 · refine⟨_,_,rfl,hlen,hl,hnc,by unfold maxLen at hcm;omega,(by intro h;cases h),fun hn=>⟨g,0,rfl,fun i hi=>?_⟩⟩;have hc:=h.cells (g:=g) rfl i (.int .u8 ((nth l i:Nat):Int)) (zes l i (by omega));rw[ye] at hc;exact hc
theorem zx {w w':World} {base size n:Nat} {e:TypeId} {v:Value} {xs:List Value} (h:w.ownsRow base e size v n xs) (hb:Below w.heap.size w w'):w'.ownsRow base e size v n xs:=by
 refine⟨h.1,?_⟩;rcases h.2 with h | ⟨g,cap,cur,hv,hg,hh,r⟩
 · exact .inl h
 · exact .inr ⟨g,cap,cur,hv,hg,by rw[hb.block g (Array.getElem?_eq_some_iff.1 hh).1];exact hh,r⟩
theorem Byts.news {w:World} {x:Addr} {n cap:Nat} {l:List Nat} (h:Byts w (some x) n cap l):∀j u,(u8s l)[j]?=some u→w.cell? (x.add j)=some u:=by
 intro j u hu
 have hj:j<l.length:=by
  rcases Nat.lt_or_ge j l.length with h' | h'
  · exact h'
  · rw[List.getElem?_eq_none (by rw[zcc];exact h')] at hu;cases hu
 rw[zes l j hj] at hu;cases hu;obtain⟨b,o,ha,hc⟩:=h.cells (by rw[←h.len];omega);cases ha;rw[ye];exact hc j (by rw[←h.len];omega)
theorem Tryz.info_u8:(Tryz.prog.info? 5).map (fun i=>(i.zero,i.size,i.bytes))=some (some (.int .u8 0),1,1):=by kernel_rfl
theorem qf {P:Program} {w:World} {ops:Array Oper} {rest:List Oper} {o:Oper} {a:Act} {Q:Exit→Act→World→Prop} (s x:Operand) (t:TypeId)
 (ho:o.op=.call { callee:=.builtin .append,args:= #[s,x],argTypes:= #[t,t] }) (hw:Region.wanted o (yielded ops a.tmps)=true)
 (v u:Value) (hs:a.eval s=v) (hx:a.eval x=u) (v':Value) (w':World) (hrun:(Builtin.append_ #[t,t] o.type #[v,u]).run P w=.ok v' w')
 (h:wpList P ops Q rest (a.put o.dst v') w'):wpList P ops Q (o :: rest) a w:=by
 refine wpList_step fun K hK=>?_
 rw[if_pos hw];unfold Oper.wp;simp[execOp,ho,resolve,invoke,builtin,hs,hx,hrun,Result.andThen];exact hK _ _ h
def zmk (k:IntKind) (w:World) (a:Option Addr) (len cap:Nat) (zs:List Int):Prop:=
 (a=none∧len=0∧cap=0∧zs=[])∨
 ∃x,a=some x∧len≤cap∧cap≤maxLen∧zs.length=cap∧(∀i,i<zs.length→w.cell? (x.add i)=some (.int k (zs.getD i 0)))∧∀n∈zs,(Lit.int k n).wf=true
theorem zgx {n:Int} (h:(Lit.int .u8 n).wf=true):0≤n∧n<256:=by
 simp[Lit.wf,IntKind.min,IntKind.max,IntKind.signed,IntKind.bits] at h;omega
theorem zgy {w:World} {a:Option Addr} {len cap:Nat} {zs:List Int} (h:zmk .u8 w a len cap zs):Byts w a len cap ((zs.take len).map Int.toNat):=by
 rcases h with ⟨rfl,rfl,rfl,rfl⟩ | ⟨x,rfl,hl,hm,hz,hc,hw⟩
 · exact zmj w
 · refine⟨by simp;omega,?_,hl,by unfold maxLen at hm;omega,(by intro h;cases h),fun hn=>?_⟩
   · intro y hy;simp only[List.mem_map] at hy;obtain⟨z,hzm,rfl⟩:=hy;have:=zgx (hw z (List.mem_of_mem_take hzm));omega
   · have h0:=hc 0 (by omega);have hx:x.add 0=x:=rfl;rw[hx] at h0;obtain⟨b,o,sp⟩:=x
     have hsp:sp=none:=by
      cases sp with
      | none=>rfl
      | some k=>
       unfold World.cell? at h0;split at h0 <;> simp at h0
     subst hsp;refine⟨b,o,rfl,fun i hi=>?_⟩;have h1:=hc i (by omega);rw[ye] at h1;rw[h1];have hlt:i<zs.length:=by omega
     have hb:=zgx (hw zs[i] (List.getElem_mem hlt))
     have:nth ((zs.take len).map Int.toNat) i=(zs.getD i 0).toNat:=by
      simp[nth,hi,hlt]
     rw[this];congr 2;rw[List.getD_eq_getElem?_getD,List.getElem?_eq_getElem hlt];simp;omega
