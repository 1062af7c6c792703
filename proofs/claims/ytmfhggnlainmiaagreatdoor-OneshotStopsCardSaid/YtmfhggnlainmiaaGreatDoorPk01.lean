/- Part 01. -/
import Derived.BigQuiet
import Derived.Test.YtmfhggnlainmiaaGreatDoorRows
import Derived.WalkKit
import Derived.Lib.Hide
import Derived.Lib.SmallJoins
import Derived.Lib.SlBytesConst
import Derived.BigRegion
import Derived.Deep.CutBlock
import Derived.Deep.DeepCutAuto
import Derived.LoopIn
import Derived.LoopNIn
import Derived.OwnWalkIn
import Derived.RangeFuncBound
import Derived.RangeFuncCalls
import Derived.RangeFuncLeaves
import Derived.RangeFuncNested
import Derived.RangeFuncRecord
import Derived.Shelf.Abstract
import Derived.Shelf.RegionOpen
import Derived.Sort.CutIn
import Derived.StillTailTactics
import Derived.TacticsInMore
import Derived.Deep.AppendLies
import Derived.RegionTactic
import Derived.OwnWalk
import Derived.Laws.Bits64
import Derived.Deep.RegionWith
import Derived.Below
import Derived.LaidEql
import Derived.Stop.Asserts
import Derived.RowKitTokens
import Derived.WalkSpells
import Derived.Deep.RegionLaw
import Derived.Deep.RegionHeld3
import Derived.Shelf.Small.Bits
import Derived.Shelf.Small.Wraps
import Derived.Shelf.Strconv.Itoa0
import Derived.Shelf.Slices.Equal
import Derived.Ground.Names2Prog
import Derived.Shelf.Slices.SearchI
import Derived.Shelf.Slices.Empties2
import Derived.Test.YtmfhggnlainmiaaGreatDoorProg
import Derived.Lib.BitFns
import Derived.Laws.BitsAllLaws
import Derived.WalkLawsBesides
set_option linter.unusedVariables false
set_option maxHeartbeats 16000000
namespace Go.Proofs.YtmfhggnlainmiaaGreatDoor
open Lib (hid)
section
open Go.RowKit
theorem ym {W:World} {g i:Nat} {C:Array Value} {T:TypeId} {fr:Nat×Nat} {v:Value} (h:W.heap[g]?=some (.cells C T fr)) (hv:C[i]?=some v):W.cell? ⟨g,i,none⟩=some v:=by
 simp only[World.cell?,h];exact hv
theorem zdb {α:Type} {f:Nat→Option α} {k:Nat} (h:∀j,j<k→f j=none) (hk:f k=none):∀j,j<k+1→f j=none:=fun j hj=>by
 by_cases e:j=k
 · rw[e];exact hk
 · exact h j (by omega)
theorem y9 (P:Program) (w:World) (a:Addr) (m:Mode) (f:Fn) (t c:Array Value):(store a (.func f t c) m).run P w=stored P w a (.func f t c) m:=run_store P w a _ m rfl
end
section
abbrev Iv:=Nat×Nat
def mem (l:List Iv) (x:Nat):Bool:=l.any fun s=>decide (s.1≤x) && decide (x≤s.2)
theorem mem_iff {l:List Iv} {x:Nat}:mem l x=true↔∃s∈l,s.1≤x∧x≤s.2:=by simp[mem]
theorem mem_cons (s:Iv) (l:List Iv) (x:Nat):mem (s :: l) x=(decide (s.1≤x) && decide (x≤s.2) || mem l x):=rfl
theorem mem_append (a b:List Iv) (x:Nat):mem (a++b) x=(mem a x || mem b x):=by simp[mem]
theorem ziq {l:List Iv} {x:Nat}:mem l x=false↔∀s∈l,¬(s.1≤x∧x≤s.2):=by
 rw[←Bool.not_eq_true,mem_iff];simp
def Good:List Iv→Prop
 | []=>True
 | [s]=>s.1≤s.2
 | s :: t :: l=>s.1≤s.2∧s.2+1<t.1∧Good (t :: l)
theorem Good.tail {s:Iv} {l:List Iv} (h:Good (s :: l)):Good l:=by
 cases l with
 | nil=>trivial
 | cons t l=>exact h.2.2
theorem Good.head {s:Iv} {l:List Iv} (h:Good (s :: l)):s.1≤s.2:=by
 cases l with
 | nil=>exact h
 | cons t l=>exact h.1
theorem Good.lower:∀{s:Iv} {l:List Iv},Good (s :: l)→∀t∈l,s.2+1<t.1
 | s,[],_,t,ht=>by simp at ht
 | s,u :: l,h,t,ht=>by
   rcases List.mem_cons.1 ht with rfl | ht
   · exact h.2.1
   · have h1:=Good.lower h.2.2 t ht;have h2:=h.2.2.head;have h3:=h.2.1;omega
theorem Good.ok:∀{l:List Iv},Good l→∀t∈l,t.1≤t.2
 | [],_,t,ht=>by simp at ht
 | s :: l,h,t,ht=>by
   rcases List.mem_cons.1 ht with rfl | ht
   · exact h.head
   · exact Good.ok h.tail t ht
theorem zrb {s:Iv} {l:List Iv} (h1:s.1≤s.2) (h2:∀t∈l,s.2+1<t.1) (h:Good l):Good (s :: l):=by
 cases l with
 | nil=>exact h1
 | cons t l=>exact⟨h1,h2 t (List.mem_cons_self ..),h⟩
end
section
open Go.RowKit
def nth (l:List Nat) (k:Nat):Nat:=l.getD k 0
theorem zfo {l:List Nat} {B:Nat} (h:∀x∈l,x<B) (hB:0<B) (k:Nat):nth l k<B:=by
 unfold nth;rw[List.getD_eq_getElem?_getD];by_cases hk:k<l.length
 · rw[List.getElem?_eq_getElem hk];exact h _ (List.getElem_mem hk)
 · rw[List.getElem?_eq_none (by omega)];exact hB
theorem znk (l:List Nat) (k:Nat) (h:k<l.length):l.take (k+1)=l.take k++[nth l k]:=by
 rw[List.take_succ_eq_append_getElem h];simp[nth,h]
def u8s (l:List Nat):List Value:=l.map fun x=>Value.int .u8 ((x:Nat):Int)
theorem zds (a b:List Nat):u8s (a++b)=u8s a++u8s b:=by simp[u8s]
theorem zk1 (a:List Nat):(u8s a).length=a.length:=by simp[u8s]
theorem zk2 (l:List Nat) (i:Nat) (h:i<l.length):(u8s l)[i]?=some (.int .u8 ((nth l i:Nat):Int)):=by simp[u8s,nth,h]
end
section
open Go.RowKit Go.Extern.Stop Go.Stop Go.Extern
theorem rlm (z:Sem Value) (f:TypeId→Addr→Nat→Nat→Sem Value) (v:Value):
 ReflectliteValue.method z f #[v]=(do match ←ReflectliteValue.parts v with | none=>z | some (t,a,fl)=>f t a fl (fl % 32)):=rfl
theorem rls (v x:Value):ReflectliteValue.set #[v,x]=(do
 let (some (dst,a,fl),some (src,b,_)):=(←ReflectliteValue.parts v,←ReflectliteValue.parts x)
  | unsupported (.noEntry "extern/(internal/reflectlite.Value).Set.zeroValue")
 if fl / ReflectliteValue.flagAddr % 2 == 0 then unsupported (.noEntry "extern/(internal/reflectlite.Value).Set.unaddressable")
 let val ←loadVar src b
 if ←Rtype.directlyAssignable dst src then storeVar dst a val
 else if ←Rtype.implements dst src then
  if (←Rtype.kind src) == 20 then
   match val with
   | .nilIface=>unsupported (.noEntry "extern/reflectlite: a nil value of one interface type handed on as a value of another")
   | _=>storeVar dst a val
  else storeVar dst a (.iface src val)
 else panicString ("reflectlite.Set: value of type " ++(←Rtype.spelt src)++ " is not assignable to type " ++(←Rtype.spelt dst))
 pure (.tuple #[])):=rfl
theorem Tryz.methodKind (h:Value) (w:World):(Go.method 553 272 (.agg #[h]) "Kind").run Tryz.prog w=.ok (358,h) w:=by kernel_rfl
theorem Tryz.methodElem (h:Value) (w:World):(Go.method 553 272 (.agg #[h]) "Elem").run Tryz.prog w=.ok (376,.agg #[h]) w:=by kernel_rfl
theorem Tryz.methodImplements (h:Value) (w:World):(Go.method 553 272 (.agg #[h]) "Implements").run Tryz.prog w=.ok (377,.agg #[h]) w:=by kernel_rfl
theorem Tryz.methodAssignableTo (h:Value) (w:World):(Go.method 553 272 (.agg #[h]) "AssignableTo").run Tryz.prog w=.ok (374,.agg #[h]) w:=by kernel_rfl
theorem Tryz.valueOfPE (t:Addr) (w:World):(ReflectliteValue.unpack (.iface 131 (.pointer (some t)))).run Tryz.prog w
 = .ok (.agg #[.pointer (some ⟨2,131,none⟩),.pointer (some ⟨w.heap.size,0,none⟩),.int .u64 150]) (w.alloc (.cells #[.pointer (some t)] 131)):=by kernel_rfl
theorem Tryz.typePE (a:Addr) (w:World):(ReflectliteValue.methodAny (ReflectliteValue.valueError "reflectlite.Value.Type" 0) (fun t _ _ _=>ReflectliteType.toType t) #[.agg #[.pointer (some ⟨2,131,none⟩),.pointer (some a),.int .u64 150]]).run Tryz.prog w
 = .ok (.iface 272 (.agg #[.pointer (some ⟨2,131,none⟩)])) w:=by kernel_rfl
theorem Tryz.kindPE (w:World):((ReflectliteType.abiMethod fun t=>(fun a:Nat=>Value.int IntKind.u8 (a:Int)) <$> Rtype.kind t) #[.pointer (some ⟨2,131,none⟩)]).run Tryz.prog w=.ok (.int .u8 22) w:=by kernel_rfl
theorem Tryz.kindE (w:World):((ReflectliteType.abiMethod fun t=>(fun a:Nat=>Value.int IntKind.u8 (a:Int)) <$> Rtype.kind t) #[.pointer (some ⟨2,27,none⟩)]).run Tryz.prog w=.ok (.int .u8 2) w:=by kernel_rfl
theorem Tryz.partsPE (a:Addr) (w:World):(ReflectliteValue.parts (.agg #[.pointer (some ⟨2,131,none⟩),.pointer (some a),.int .u64 150])).run Tryz.prog w=.ok (some (131,a,150)) w:=by kernel_rfl
theorem Tryz.isNilPE (a p:Addr) (W:World) (ha:W.cell? a=some (.pointer (some p))):
 (ReflectliteValue.method (ReflectliteValue.valueError "reflectlite.Value.IsNil" 0) ReflectliteValue.isNil #[.agg #[.pointer (some ⟨2,131,none⟩),.pointer (some a),.int .u64 150]]).run Tryz.prog W=.ok (.bool false) W:=by
 rw[rlm];simp only[Sem.run_bind,Tryz.partsPE,Result.andThen];simp[ReflectliteValue.isNil,loadVar,isAgg,underlying,Tryz.underlying131,ha,Result.andThen]
theorem Tryz.elemPE (w:World):(ReflectliteType.method ReflectliteType.elem #[.agg #[.pointer (some ⟨2,131,none⟩)]]).run Tryz.prog w=.ok (.iface 272 (.agg #[.pointer (some ⟨2,27,none⟩)])) w:=by kernel_rfl
theorem Tryz.implementsE (w:World):(ReflectliteType.relation "Implements" ReflectliteType.implements_ #[.agg #[.pointer (some ⟨2,27,none⟩)],.iface 272 (.agg #[.pointer (some ⟨2,38,none⟩)])]).run Tryz.prog w=.ok (.bool true) w:=by kernel_rfl
theorem Tryz.typeOfE (v:Value) (w:World):(ReflectliteType.typeOf #[.iface 27 v]).run Tryz.prog w=.ok (.iface 272 (.agg #[.pointer (some ⟨2,27,none⟩)])) w:=by kernel_rfl
theorem Tryz.assignableEE (w:World):(ReflectliteType.relation "AssignableTo" ReflectliteType.assignableTo #[.agg #[.pointer (some ⟨2,27,none⟩)],.iface 272 (.agg #[.pointer (some ⟨2,27,none⟩)])]).run Tryz.prog w=.ok (.bool true) w:=by kernel_rfl
theorem Tryz.valueOfE (c:Int) (w:World):(ReflectliteValue.unpack (.iface 27 (.int .i64 c))).run Tryz.prog w
 = .ok (.agg #[.pointer (some ⟨2,27,none⟩),.pointer (some ⟨w.heap.size,0,none⟩),.int .u64 130]) (w.alloc (.cells #[.int .i64 c] 27)):=by kernel_rfl
theorem Tryz.elemOfPE (w:World):(Rtype.elem? 131).run Tryz.prog w=.ok (some 27) w:=by kernel_rfl
theorem Tryz.mkE (p:Addr) (w:World):(ReflectliteValue.mk 27 p ReflectliteValue.flagAddr).run Tryz.prog w=.ok (.agg #[.pointer (some ⟨2,27,none⟩),.pointer (some p),.int .u64 386]) w:=by kernel_rfl
theorem Tryz.elemVPE (a p:Addr) (W:World) (ha:W.cell? a=some (.pointer (some p))):
 (ReflectliteValue.method (ReflectliteValue.valueError "reflectlite.Value.Elem" 0) ReflectliteValue.elem #[.agg #[.pointer (some ⟨2,131,none⟩),.pointer (some a),.int .u64 150]]).run Tryz.prog W
   = .ok (.agg #[.pointer (some ⟨2,27,none⟩),.pointer (some p),.int .u64 386]) W:=by
 rw[rlm];simp only[Sem.run_bind,Tryz.partsPE,Result.andThen];simp[ReflectliteValue.elem,loadVar,isAgg,underlying,Tryz.underlying131,ha,Result.andThen,Tryz.elemOfPE,Tryz.mkE]
theorem Tryz.partsEa (a:Addr) (w:World):(ReflectliteValue.parts (.agg #[.pointer (some ⟨2,27,none⟩),.pointer (some a),.int .u64 386])).run Tryz.prog w=.ok (some (27,a,386)) w:=by kernel_rfl
theorem Tryz.partsE (a:Addr) (w:World):(ReflectliteValue.parts (.agg #[.pointer (some ⟨2,27,none⟩),.pointer (some a),.int .u64 130])).run Tryz.prog w=.ok (some (27,a,130)) w:=by kernel_rfl
theorem Tryz.directE (w:World):(Rtype.directlyAssignable 27 27).run Tryz.prog w=.ok true w:=by kernel_rfl
theorem Tryz.setE (ta b:Addr) (c:Int) (old:Value) (W:World) (hb:W.cell? b=some (.int .i64 c)) (ht:W.cell? ta=some old) (hf:W.frozen? ta=false):
 (ReflectliteValue.set #[.agg #[.pointer (some ⟨2,27,none⟩),.pointer (some ta),.int .u64 386],.agg #[.pointer (some ⟨2,27,none⟩),.pointer (some b),.int .u64 130]]).run Tryz.prog W
   = .ok (.tuple #[]) (W.setCell ta (.int .i64 c)):=by
 rw[rls];simp only[Sem.run_bind,Tryz.partsEa,Tryz.partsE,Result.andThen];simp[ReflectliteValue.flagAddr,loadVar,isAgg,underlying,Tryz.underlying27,hb,Result.andThen,Tryz.directE,storeVar,Value.cells,storeCells,Addr.add];rw[run_store Tryz.prog W ta _ _ (by rfl)];simp[ht,hf]
theorem Tryz.valueOfPF (t:Addr) (w:World):(ReflectliteValue.unpack (.iface 116 (.pointer (some t)))).run Tryz.prog w
 = .ok (.agg #[.pointer (some ⟨2,116,none⟩),.pointer (some ⟨w.heap.size,0,none⟩),.int .u64 150]) (w.alloc (.cells #[.pointer (some t)] 116)):=by kernel_rfl
theorem Tryz.typePF (a:Addr) (w:World):(ReflectliteValue.methodAny (ReflectliteValue.valueError "reflectlite.Value.Type" 0) (fun t _ _ _=>ReflectliteType.toType t) #[.agg #[.pointer (some ⟨2,116,none⟩),.pointer (some a),.int .u64 150]]).run Tryz.prog w
 = .ok (.iface 272 (.agg #[.pointer (some ⟨2,116,none⟩)])) w:=by kernel_rfl
theorem Tryz.kindPF (w:World):((ReflectliteType.abiMethod fun t=>(fun a:Nat=>Value.int IntKind.u8 (a:Int)) <$> Rtype.kind t) #[.pointer (some ⟨2,116,none⟩)]).run Tryz.prog w=.ok (.int .u8 22) w:=by kernel_rfl
theorem Tryz.kindF (w:World):((ReflectliteType.abiMethod fun t=>(fun a:Nat=>Value.int IntKind.u8 (a:Int)) <$> Rtype.kind t) #[.pointer (some ⟨2,110,none⟩)]).run Tryz.prog w=.ok (.int .u8 25) w:=by kernel_rfl
theorem Tryz.partsPF (a:Addr) (w:World):(ReflectliteValue.parts (.agg #[.pointer (some ⟨2,116,none⟩),.pointer (some a),.int .u64 150])).run Tryz.prog w=.ok (some (116,a,150)) w:=by kernel_rfl
theorem Tryz.isNilPF (a p:Addr) (W:World) (ha:W.cell? a=some (.pointer (some p))):
 (ReflectliteValue.method (ReflectliteValue.valueError "reflectlite.Value.IsNil" 0) ReflectliteValue.isNil #[.agg #[.pointer (some ⟨2,116,none⟩),.pointer (some a),.int .u64 150]]).run Tryz.prog W=.ok (.bool false) W:=by
 rw[rlm];simp only[Sem.run_bind,Tryz.partsPF,Result.andThen];simp[ReflectliteValue.isNil,loadVar,isAgg,underlying,Tryz.underlying116,ha,Result.andThen]
theorem Tryz.elemPF (w:World):(ReflectliteType.method ReflectliteType.elem #[.agg #[.pointer (some ⟨2,116,none⟩)]]).run Tryz.prog w=.ok (.iface 272 (.agg #[.pointer (some ⟨2,110,none⟩)])) w:=by kernel_rfl
theorem Tryz.implementsF (w:World):(ReflectliteType.relation "Implements" ReflectliteType.implements_ #[.agg #[.pointer (some ⟨2,110,none⟩)],.iface 272 (.agg #[.pointer (some ⟨2,38,none⟩)])]).run Tryz.prog w=.ok (.bool true) w:=by kernel_rfl
theorem Tryz.typeOfF (v:Value) (w:World):(ReflectliteType.typeOf #[.iface 110 v]).run Tryz.prog w=.ok (.iface 272 (.agg #[.pointer (some ⟨2,110,none⟩)])) w:=by kernel_rfl
theorem Tryz.assignableFF (w:World):(ReflectliteType.relation "AssignableTo" ReflectliteType.assignableTo #[.agg #[.pointer (some ⟨2,110,none⟩)],.iface 272 (.agg #[.pointer (some ⟨2,110,none⟩)])]).run Tryz.prog w=.ok (.bool true) w:=by kernel_rfl
theorem Tryz.assignableFE (w:World):(ReflectliteType.relation "AssignableTo" ReflectliteType.assignableTo #[.agg #[.pointer (some ⟨2,110,none⟩)],.iface 272 (.agg #[.pointer (some ⟨2,27,none⟩)])]).run Tryz.prog w=.ok (.bool false) w:=by kernel_rfl
theorem Tryz.assignableEF (w:World):(ReflectliteType.relation "AssignableTo" ReflectliteType.assignableTo #[.agg #[.pointer (some ⟨2,27,none⟩)],.iface 272 (.agg #[.pointer (some ⟨2,110,none⟩)])]).run Tryz.prog w=.ok (.bool false) w:=by kernel_rfl
theorem Tryz.valueOfF (c a:Int) (w:World):(ReflectliteValue.unpack (.iface 110 (.agg #[.int .i64 c,.int .i64 a]))).run Tryz.prog w
 = .ok (.agg #[.pointer (some ⟨2,110,none⟩),.pointer (some ⟨w.heap.size,0,none⟩),.int .u64 153]) (w.alloc (.cells #[.int .i64 c,.int .i64 a] 110)):=by kernel_rfl
theorem Tryz.elemOfPF (w:World):(Rtype.elem? 116).run Tryz.prog w=.ok (some 110) w:=by kernel_rfl
theorem Tryz.mkF (p:Addr) (w:World):(ReflectliteValue.mk 110 p ReflectliteValue.flagAddr).run Tryz.prog w=.ok (.agg #[.pointer (some ⟨2,110,none⟩),.pointer (some p),.int .u64 409]) w:=by kernel_rfl
theorem Tryz.elemVPF (a p:Addr) (W:World) (ha:W.cell? a=some (.pointer (some p))):
 (ReflectliteValue.method (ReflectliteValue.valueError "reflectlite.Value.Elem" 0) ReflectliteValue.elem #[.agg #[.pointer (some ⟨2,116,none⟩),.pointer (some a),.int .u64 150]]).run Tryz.prog W
   = .ok (.agg #[.pointer (some ⟨2,110,none⟩),.pointer (some p),.int .u64 409]) W:=by
 rw[rlm];simp only[Sem.run_bind,Tryz.partsPF,Result.andThen];simp[ReflectliteValue.elem,loadVar,isAgg,underlying,Tryz.underlying116,ha,Result.andThen,Tryz.elemOfPF,Tryz.mkF]
theorem Tryz.partsFa (a:Addr) (w:World):(ReflectliteValue.parts (.agg #[.pointer (some ⟨2,110,none⟩),.pointer (some a),.int .u64 409])).run Tryz.prog w=.ok (some (110,a,409)) w:=by kernel_rfl
theorem Tryz.partsF (a:Addr) (w:World):(ReflectliteValue.parts (.agg #[.pointer (some ⟨2,110,none⟩),.pointer (some a),.int .u64 153])).run Tryz.prog w=.ok (some (110,a,153)) w:=by kernel_rfl
theorem Tryz.directF (w:World):(Rtype.directlyAssignable 110 110).run Tryz.prog w=.ok true w:=by kernel_rfl
theorem Tryz.infoF:(Tryz.prog.info? 110).map (·.size)=some 2:=by kernel_rfl
theorem Tryz.setF (tb b:Nat) (c a:Int) (o1 o2:Value) (W:World) (hb0:W.cell? ⟨b,0,none⟩=some (.int .i64 c)) (hb1:W.cell? ⟨b,1,none⟩=some (.int .i64 a))
 (ht0:W.cell? ⟨tb,0,none⟩=some o1) (ht1:W.cell? ⟨tb,1,none⟩=some o2) (hf0:W.frozen? ⟨tb,0,none⟩=false) (hf1:W.frozen? ⟨tb,1,none⟩=false):
 (ReflectliteValue.set #[.agg #[.pointer (some ⟨2,110,none⟩),.pointer (some ⟨tb,0,none⟩),.int .u64 409],.agg #[.pointer (some ⟨2,110,none⟩),.pointer (some ⟨b,0,none⟩),.int .u64 153]]).run Tryz.prog W
   = .ok (.tuple #[]) ((W.setCell ⟨tb,0,none⟩ (.int .i64 c)).setCell ⟨tb,1,none⟩ (.int .i64 a)):=by
 cases hq:Tryz.prog.info? 110 with
 | none=>have:=Tryz.infoF;simp[hq] at this
 | some i=>
  have hsz:i.size=2:=by have:=Tryz.infoF;simpa [hq] using this
  rw[rls];simp only[Sem.run_bind,Tryz.partsFa,Tryz.partsF,Result.andThen];simp[ReflectliteValue.flagAddr,loadVar,isAgg,underlying,Tryz.underlying110,Result.andThen,Tryz.directF,storeVar,Value.cells,storeCells,Addr.add,sizeOf,typeInfo,hq,hsz,loadCells,loadCellsFrom,hb0,hb1]
  have h1:(W.setCell ⟨tb,0,none⟩ (.int .i64 c)).cell? ⟨tb,1,none⟩=some o2:=by
   rw[World.cell?_setCell_other _ _ _ _ (by simp)];exact ht1
  have h2:(W.setCell ⟨tb,0,none⟩ (.int .i64 c)).frozen? ⟨tb,1,none⟩=false:=by
   rw[World.frozen?_setCell];exact hf1
  rw[run_store Tryz.prog W ⟨tb,0,none⟩ _ _ (by rfl)];simp only[ht0,hf0,Bool.false_eq_true,↓reduceIte];rw[run_store Tryz.prog _ ⟨tb,1,none⟩ _ _ (by rfl)];simp[h1,h2]
theorem Tryz.methodUnF (v:Value) (w:World):(Go.method 553 110 v "Unwrap").run Tryz.prog w=.ok (362,v) w:=by kernel_rfl
theorem Tryz.asAsE (v:Value) (xT:TypeId) (w:World):(Instr.typeAssert (.iface 27 v) xT 277 true).run Tryz.prog w=.ok (.tuple #[.nilIface,.bool false]) w:=
 run_typeAssert_lacksB Tryz.underlying277 (by kernel_rfl) (by kernel_rfl) v xT w
theorem Tryz.asAsF (v:Value) (xT:TypeId) (w:World):(Instr.typeAssert (.iface 110 v) xT 277 true).run Tryz.prog w=.ok (.tuple #[.nilIface,.bool false]) w:=
 run_typeAssert_lacksB Tryz.underlying277 (by kernel_rfl) (by kernel_rfl) v xT w
theorem Tryz.asUnE (v:Value) (xT:TypeId) (w:World):(Instr.typeAssert (.iface 27 v) xT 280 true).run Tryz.prog w=.ok (.tuple #[.nilIface,.bool false]) w:=
 run_typeAssert_lacksB Tryz.underlying280 (by kernel_rfl) (by kernel_rfl) v xT w
theorem Tryz.asUmE (v:Value) (xT:TypeId) (w:World):(Instr.typeAssert (.iface 27 v) xT 281 true).run Tryz.prog w=.ok (.tuple #[.nilIface,.bool false]) w:=
 run_typeAssert_lacksB Tryz.underlying281 (by kernel_rfl) (by kernel_rfl) v xT w
theorem Tryz.asUnF (v:Value) (xT:TypeId) (w:World):(Instr.typeAssert (.iface 110 v) xT 280 true).run Tryz.prog w=.ok (.tuple #[.iface 110 v,.bool true]) w:=
 run_typeAssert_hasB Tryz.underlying280 (by kernel_rfl) v xT w
end
end Go.Proofs.YtmfhggnlainmiaaGreatDoor
section
namespace Go.Proofs
open Go.Shelf
def Tryz.lays128_ren:Go.Shelf.Ren:=⟨fun | 128=>289 | n=>n,fun | 51=>99 | 3=>3 | 4=>4 | 46=>231 | 5=>5 | 9=>9 | n=>n,fun | n=>n⟩
theorem Tryz.lays128:Go.Proofs.Lays.n128 Tryz.prog Tryz.lays128_ren:={
 mixed:=by kernel_rfl
 f128:=Tryz.func289.trans (congrArg some (by kernel_rfl))
 t3:=Tryz.underlying3
 a3:=Tryz.isAgg3
 z3:=Tryz.sizeOf3
 v3:=Tryz.zeroValue3
 t4:=Tryz.underlying4
 a4:=Tryz.isAgg4
 z4:=Tryz.sizeOf4
 v4:=Tryz.zeroValue4
 t5:=Tryz.underlying5
 a5:=Tryz.isAgg5
 z5:=Tryz.sizeOf5
 v5:=Tryz.zeroValue5
 t9:=Tryz.underlying9
 a9:=Tryz.isAgg9
 z9:=Tryz.sizeOf9
 v9:=Tryz.zeroValue9
 t46:=Tryz.underlying231
 a46:=Tryz.isAgg231
 z46:=Tryz.sizeOf231
 v46:=Tryz.zeroValue231
 t51:=Tryz.underlying99
 a51:=Tryz.isAgg99
 z51:=Tryz.sizeOf99
 v51:=Tryz.zeroValue99 }
theorem Tryz.bits_Len32 (x:Int) (w:World) (h0:0≤x) (h1:x≤4294967295):
 Calls Tryz.prog 289 #[.int .u32 x] w fun e w'=>e=.returned (.int .i64 (Lib.bitLen x.toNat))∧w'=w:=Any.bits_Len32 Tryz.lays128 x w h0 h1
def Tryz.lays125_ren:Go.Shelf.Ren:=⟨fun | 125=>240 | 128=>289 | 129=>88 | n=>n,fun | 46=>231 | 3=>3 | 51=>99 | 53=>64 | 4=>4 | 5=>5 | 9=>9 | n=>n,fun | n=>n⟩
theorem Tryz.lays125:Go.Proofs.Lays.n125 Tryz.prog Tryz.lays125_ren:={
 mixed:=by kernel_rfl
 f125:=Tryz.func240.trans (congrArg some (by kernel_rfl))
 f128:=Tryz.func289.trans (congrArg some (by kernel_rfl))
 f129:=Tryz.func88.trans (congrArg some (by kernel_rfl))
 t3:=Tryz.underlying3
 a3:=Tryz.isAgg3
 z3:=Tryz.sizeOf3
 v3:=Tryz.zeroValue3
 t4:=Tryz.underlying4
 a4:=Tryz.isAgg4
 z4:=Tryz.sizeOf4
 v4:=Tryz.zeroValue4
 t5:=Tryz.underlying5
 a5:=Tryz.isAgg5
 z5:=Tryz.sizeOf5
 v5:=Tryz.zeroValue5
 t9:=Tryz.underlying9
 a9:=Tryz.isAgg9
 z9:=Tryz.sizeOf9
 v9:=Tryz.zeroValue9
 t46:=Tryz.underlying231
 a46:=Tryz.isAgg231
 z46:=Tryz.sizeOf231
 v46:=Tryz.zeroValue231
 t51:=Tryz.underlying99
 a51:=Tryz.isAgg99
 z51:=Tryz.sizeOf99
 v51:=Tryz.zeroValue99
 t53:=Tryz.underlying64
 a53:=Tryz.isAgg64
 z53:=Tryz.sizeOf64
 v53:=Tryz.zeroValue64 }
theorem Tryz.bits_Len (x:Int) (w:World) (h0:0≤x) (h1:x≤18446744073709551615):
 Calls Tryz.prog 240 #[.int .u64 x] w fun e w'=>e=.returned (.int .i64 (Lib.bitLen x.toNat))∧w'=w:=Any.bits_Len Tryz.lays125 x w h0 h1
def Tryz.lays215_ren:Go.Shelf.Ren:=⟨fun | 215=>316 | n=>n,fun | 3=>3 | 4=>4 | n=>n,fun | n=>n⟩
theorem Tryz.lays215:Go.Proofs.Lays.n215 Tryz.prog Tryz.lays215_ren:={
 mixed:=by kernel_rfl
 f215:=Tryz.func316.trans (congrArg some (by kernel_rfl))
 t3:=Tryz.underlying3
 a3:=Tryz.isAgg3
 z3:=Tryz.sizeOf3
 v3:=Tryz.zeroValue3
 t4:=Tryz.underlying4
 a4:=Tryz.isAgg4
 z4:=Tryz.sizeOf4
 v4:=Tryz.zeroValue4 }
open Go.RowKit in
theorem Tryz.cmp_isNaN_int (x:Int) (w:World):
 Calls Tryz.prog 316 #[.int .i64 x] w fun e w'=>e=.returned (.bool false)∧w'=w:=Any.cmp_isNaN_int Tryz.lays215 x w
def Tryz.lays122_ren:Go.Shelf.Ren:=⟨fun | 122=>291 | 215=>316 | n=>n,fun | 3=>3 | 4=>4 | n=>n,fun | n=>n⟩
theorem Tryz.lays122:Go.Proofs.Lays.n122 Tryz.prog Tryz.lays122_ren:={
 mixed:=by kernel_rfl
 f122:=Tryz.func291.trans (congrArg some (by kernel_rfl))
 f215:=Tryz.func316.trans (congrArg some (by kernel_rfl))
 t3:=Tryz.underlying3
 a3:=Tryz.isAgg3
 z3:=Tryz.sizeOf3
 v3:=Tryz.zeroValue3
 t4:=Tryz.underlying4
 a4:=Tryz.isAgg4
 z4:=Tryz.sizeOf4
 v4:=Tryz.zeroValue4 }
open Go.RowKit in
theorem Tryz.cmp_Compare_int (x y:Int) (w:World):
 Calls Tryz.prog 291 #[.int .i64 x,.int .i64 y] w fun e w'=>e=.returned (.int .i64 (Lib.compareInt x y))∧w'=w:=Any.cmp_Compare_int Tryz.lays122 x y w
def Tryz.lays129_ren:Go.Shelf.Ren:=⟨fun | 129=>88 | n=>n,fun | 53=>64 | 3=>3 | 4=>4 | 46=>231 | 5=>5 | 9=>9 | n=>n,fun | n=>n⟩
theorem Tryz.lays129:Go.Proofs.Lays.n129 Tryz.prog Tryz.lays129_ren:={
 mixed:=by kernel_rfl
 f129:=Tryz.func88.trans (congrArg some (by kernel_rfl))
 t3:=Tryz.underlying3
 a3:=Tryz.isAgg3
 z3:=Tryz.sizeOf3
 v3:=Tryz.zeroValue3
 t4:=Tryz.underlying4
 a4:=Tryz.isAgg4
 z4:=Tryz.sizeOf4
 v4:=Tryz.zeroValue4
 t5:=Tryz.underlying5
 a5:=Tryz.isAgg5
 z5:=Tryz.sizeOf5
 v5:=Tryz.zeroValue5
 t9:=Tryz.underlying9
 a9:=Tryz.isAgg9
 z9:=Tryz.sizeOf9
 v9:=Tryz.zeroValue9
 t46:=Tryz.underlying231
 a46:=Tryz.isAgg231
 z46:=Tryz.sizeOf231
 v46:=Tryz.zeroValue231
 t53:=Tryz.underlying64
 a53:=Tryz.isAgg64
 z53:=Tryz.sizeOf64
 v53:=Tryz.zeroValue64 }
theorem Tryz.bits_Len64 (x:Int) (w:World) (h0:0≤x) (h1:x≤18446744073709551615):
 Calls Tryz.prog 88 #[.int .u64 x] w fun e w'=>e=.returned (.int .i64 (Lib.bitLen x.toNat))∧w'=w:=Any.bits_Len64 Tryz.lays129 x w h0 h1
def Tryz.lays111_ren:Go.Shelf.Ren:=⟨fun | 111=>96 | n=>n,fun | 28=>79 | 3=>3 | 4=>4 | 0=>0 | n=>n,fun | n=>n⟩
theorem Tryz.lays111:Go.Proofs.Lays.n111 Tryz.prog Tryz.lays111_ren:={
 mixed:=by kernel_rfl
 f111:=Tryz.func96.trans (congrArg some (by kernel_rfl))
 t0:=Tryz.underlying0
 a0:=Tryz.isAgg0
 z0:=Tryz.sizeOf0
 v0:=Tryz.zeroValue0
 t3:=Tryz.underlying3
 a3:=Tryz.isAgg3
 z3:=Tryz.sizeOf3
 v3:=Tryz.zeroValue3
 t4:=Tryz.underlying4
 a4:=Tryz.isAgg4
 z4:=Tryz.sizeOf4
 v4:=Tryz.zeroValue4
 t28:=Tryz.underlying79
 a28:=Tryz.isAgg79
 z28:=Tryz.sizeOf79
 v28:=Tryz.zeroValue79 }
open Go.RowKit Go.Lib in
theorem Tryz.slices_Equal_int (b1 o1 n c b2 o2 m d:Nat) (xs ys:List Int) (w:World) (hx:n≤xs.length) (hy:m≤ys.length) (hbig:n≤9223372036854775807) (hbig2:m≤9223372036854775807) (hc1:∀j,j<xs.length→w.cell? ⟨b1,o1+j,none⟩=some (.int .i64 (xs.getD j 0))) (hc2:∀j,j<ys.length→w.cell? ⟨b2,o2+j,none⟩=some (.int .i64 (ys.getD j 0))):
 Calls Tryz.prog 96 #[.slice (some ⟨b1,o1,none⟩) n c,.slice (some ⟨b2,o2,none⟩) m d] w fun e w'=>e=.returned (.bool (xs.take n == ys.take m))∧∃q,w'=w.drewN q:=Any.slices_Equal_int Tryz.lays111 b1 o1 n c b2 o2 m d xs ys w hx hy hbig hbig2 hc1 hc2
open Go.RowKit Go.Lib in
theorem Tryz.slices_Equal_int_empty (a1 a2:Option Addr) (c m d:Nat) (w:World) (hbig2:m≤9223372036854775807):
 Calls Tryz.prog 96 #[.slice a1 0 c,.slice a2 m d] w fun e w'=>e=.returned (.bool (decide (m=0)))∧w'=w:=Any.slices_Equal_int_empty Tryz.lays111 a1 a2 c m d w hbig2
def Tryz.laysNm237_ren:Go.Shelf.Ren:=⟨fun | 37=>316 | n=>n,fun | 3=>3 | 4=>4 | n=>n,fun | n=>n⟩
theorem Tryz.laysNm237:Go.Proofs.Lays2.n37 Tryz.prog Tryz.laysNm237_ren:={
 mixed:=by kernel_rfl
 f37:=Tryz.func316.trans (congrArg some (by kernel_rfl))
 t3:=Tryz.underlying3
 a3:=Tryz.isAgg3
 z3:=Tryz.sizeOf3
 v3:=Tryz.zeroValue3
 t4:=Tryz.underlying4
 a4:=Tryz.isAgg4
 z4:=Tryz.sizeOf4
 v4:=Tryz.zeroValue4 }
open Go.RowKit Go.Lib in
theorem Tryz.cmp_isNaN_int2 (x:Int) (w:World):
 Calls Tryz.prog 316 #[.int .i64 x] w fun e w'=>e=.returned (.bool false)∧w'=w:=Any.cmp_isNaN_int2 Tryz.laysNm237 x w
open Go.RowKit Go.Lib in
theorem Tryz.slices_Equal_int_lens (a1 a2:Option Addr) (n c m d:Nat) (w:World) (hnm:n≠m):
 Calls Tryz.prog 96 #[.slice a1 n c,.slice a2 m d] w fun e w'=>e=.returned (.bool false)∧w'=w:=Any.slices_Equal_int_lens Tryz.lays111 a1 a2 n c m d w hnm
end Go.Proofs
end
namespace Go.Proofs.YtmfhggnlainmiaaGreatDoor
open Lib (hid)
section
open Go.RowKit
theorem zrc (x:Nat) (w:World):Calls Tryz.prog 241 #[.int .u64 x] w fun e w'=>e=.returned (.bool false)∧w'=w:=by
 go_enter Tryz.func241,Tryz.ntmps241;go_wp2;go_ret;exact⟨by simp,rfl⟩
theorem zrd (x y:Nat) (w:World):Calls Tryz.prog 177 #[.int .u64 x,.int .u64 y] w fun e w'=>e=.returned (.int .i64 (Lib.compareInt (x:Int) (y:Int)))∧w'=w:=by
 unfold Lib.compareInt;by_cases h1:x<y
 · rw[if_pos (by omega)];go_enter Tryz.func177,Tryz.ntmps177;go_wp2_with (go_at_call 241;refine(zrc _ _).mono ?_;rintro e w1 ⟨rfl,rfl⟩);go_ret;exact⟨rfl,rfl⟩
 · rw[if_neg (by omega)];by_cases h2:y<x
   · rw[if_pos (by omega)];go_enter Tryz.func177,Tryz.ntmps177;go_wp2_with (go_at_call 241;refine(zrc _ _).mono ?_;rintro e w1 ⟨rfl,rfl⟩);go_ret;exact⟨rfl,rfl⟩
   · rw[if_neg (by omega)];go_enter Tryz.func177,Tryz.ntmps177;go_wp2_with (go_at_call 241;refine(zrc _ _).mono ?_;rintro e w1 ⟨rfl,rfl⟩);go_ret;exact⟨rfl,rfl⟩
end
section
def vbF:Nat→Nat→List Nat
 | 0,x=>[x % 256]
 | k+1,x=>if x<128 then [x] else (x % 128+128) :: vbF k (x / 128)
theorem zej (k x:Nat):vbF (k+1) x=if x<128 then [x] else (x % 128+128) :: vbF k (x / 128):=rfl
def yp (x:Nat):List Nat:=vbF 9 x
theorem zgd (x:Nat):yp x=vbF 9 x:=rfl
theorem zk3:∀(k x:Nat),∀b∈vbF k x,b<256
 | 0,x,b,hb=>by simp[vbF] at hb;omega
 | k+1,x,b,hb=>by
   rw[zej] at hb;split at hb
   · simp at hb;omega
   · rcases List.mem_cons.1 hb with rfl | hb
     · omega
     · exact zk3 k (x / 128) b hb
theorem znl (x:Nat):∀b∈yp x,b<256:=zk3 9 x
theorem ze0 (k x:Nat):0<(vbF k x).length:=by
 cases k with
 | zero=>simp[vbF]
 | succ k=>rw[zej];split <;> simp
theorem zdc:∀(k x:Nat),(vbF k x).length≤k+1
 | 0,x=>by simp[vbF]
 | k+1,x=>by
   rw[zej];split
   · simp
   · have:=zdc k (x / 128);simp;omega
theorem zre {k x:Nat} (h:1<(vbF k x).length):∃k',k=k'+1∧128≤x∧vbF k x=(x % 128+128) :: vbF k' (x / 128):=by
 cases k with
 | zero=>simp[vbF] at h
 | succ k=>
  rw[zej] at h ⊢;split at h
  · simp at h
  · rename_i h1;rw[if_neg h1];exact⟨k,rfl,by omega,rfl⟩
theorem zrf {k m:Nat} (h:(vbF k m).length=1):vbF k m=[m % 256]:=by
 cases k with
 | zero=>rfl
 | succ k=>
  rw[zej] at h ⊢;split at h
  · rename_i h1;rw[if_pos h1];congr 1;omega
  · have:=ze0 k (m / 128);rw[List.length_cons] at h;exfalso;omega
theorem zwf:∀n:Fin 128,Lib.bitLen n.val≤7:=by decide +kernel
theorem zwg:∀(k x:Nat),x<2 ^ (7*k+1)→x<18446744073709551616→max 1 ((Lib.bitLen x+6) / 7)=(vbF k x).length
 | 0,x,h,_=>by
   simp at h;have:=zwf ⟨x,by omega⟩;simp[vbF];simp at this
   omega
 | k+1,x,h,h64=>by
   rw[zej];split
   · rename_i h1;have:=zwf ⟨x,h1⟩;simp at this ⊢;omega
   · rename_i h1;have e:2 ^ (7*(k+1)+1)=2 ^ (7*k+1)*128:=by rw[show 7*(k+1)+1=(7*k+1)+7 from by omega,Nat.pow_add]
     rw[e] at h
     have hd:x / 128<2 ^ (7*k+1):=by
      clear e;generalize 2 ^ (7*k+1)=P at*;exact Nat.div_lt_of_lt_mul (by omega)
     have ih:=zwg k (x / 128) hd (Nat.lt_of_le_of_lt (Nat.div_le_self _ _) h64);have hs:=Lib.bitLen_shift 7 x (by omega) (by simpa using h64);rw[show 2 ^ 7=128 from rfl] at hs;have hp:=ze0 k (x / 128);have hz:0<Lib.bitLen (x / 128)∨Lib.bitLen (x / 128)=0:=by omega
     simp only[List.length_cons,←ih,hs];have:(7+Lib.bitLen (x / 128)+6) / 7=(Lib.bitLen (x / 128)+6) / 7+1:=by omega
     rw[this]
     have h0:0<Lib.bitLen (x / 128):=by
      have hne:x / 128≠0:=by omega
      have:=Lib.bitLen_half (x / 128) hne (by have:=Nat.div_le_self x 128;simp;omega);omega
     omega
theorem z8l {x:Nat} (h:x<18446744073709551616):max 1 ((Lib.bitLen x+6) / 7)=(yp x).length:=zwg 9 x (by simpa using h) h
theorem z8m:∀x:Fin 256,x.val ||| 128=x.val % 128+128:=by decide +kernel
theorem z8n (x:Nat) (hx:x<256):bits .or .u8 (x:Int) 128=((x % 128+128:Nat):Int):=by
 have h:=u8_or_nat x 128 hx (by omega);refine h.trans ?_;congr 1;exact z8m ⟨x,hx⟩
def yr (n c:Nat):Nat:=if (n=9∧1<c)∨(0<n∧c=0) then 2 else if c<128 then 1 else 0
def y8 (x n c:Nat):Nat:=x ||| (c % 128*2 ^ (7*n) % 18446744073709551616)
theorem zir {x:Nat} (n c:Nat) (h:x<18446744073709551616):y8 x n c<18446744073709551616:=by
 have h1:x<2 ^ 64:=by simpa using h
 have h2:c % 128*2 ^ (7*n) % 18446744073709551616<2 ^ 64:=by simpa using Nat.mod_lt (c % 128*2 ^ (7*n)) (show 18446744073709551616>0 by omega)
 simpa [y8] using Nat.or_lt_two_pow h1 h2
def yf:List Nat→Nat→Nat→Nat×Nat×Nat
 | [],j,_=>(0,0,j)
 | c :: l,j,x=>if yr j c=2 then (2,0,j+1) else if yr j c=1 then (1,y8 x j c,j+1) else yf l (j+1) (y8 x j c)
end
section
open Go.RowKit
theorem zrg (c:Nat) (h:yr 9 c=0):False:=by
 unfold yr at h;split at h
 · cases h
 · split at h
   · cases h
   · omega
theorem zge (n c:Nat):yr n c=0∨yr n c=1∨yr n c=2:=by
 unfold yr;split
 · exact .inr (.inr rfl)
 · split
   · exact .inr (.inl rfl)
   · exact .inl rfl
theorem zfp (k:FuncId):Fence.wide.fn k=True:=rfl
theorem zk4 {F:Fence} {n:Nat} {P:Program} {w:World} {ops:Array Oper} {rest:List Oper} {o:Oper} {a:Act} {Q:Exit→Act→World→Prop} (hg:o.guard=none) (s x:Operand) (t:TypeId)
 (hop:o.op=Op.call { callee:=Callee.builtin Builtin.append,args:= #[s,x],argTypes:= #[t,t] })
 (v u:Value) (hs:a.eval s=v) (hx:a.eval x=u) (v':Value) (w':World) (hrun:(Builtin.append_ #[t,t] o.type #[v,u]).run P w=.ok v' w')
 (h:wpListIn F n P ops Q rest (a.put o.dst v') w'):wpListIn F n P ops Q (o :: rest) a w:=by
 refine wpListIn_plain hg fun K hK=>?_
 unfold Oper.wpIn;refine⟨?_,?_⟩
 · simp[Oper.about,hop,resolve,Target.leads,Sem.run_pure]
 · rw[Oper.semAt_plain F _ _ (by rw[hop];intro c hc;cases hc)];simp[execOp,hop,resolve,invoke,builtin,hs,hx,hrun,Result.andThen];exact hK _ _ h
theorem qa {w:World} {o:Obj} {k:Nat} (h:k=w.heap.size):(w.alloc o).heap[k]?=some o:=by subst h;exact World.alloc_heap_new w o
theorem jv {w:World} {o r:Obj} {k:Nat} (h:w.heap[k]?=some r):(w.alloc o).heap[k]?=some r:=(Below.heap_alloc w o k (Array.getElem?_eq_some_iff.1 h).1).trans h
theorem j8 {w w':World} {base sz n:Nat} {e:TypeId} {v:Value} {xs:List Value} (h:w.ownsRow base e sz v n xs) (hk:∀k,base≤k→k<w.heap.size→w'.heap[k]?=w.heap[k]?):w'.ownsRow base e sz v n xs:=by
 refine⟨h.1,?_⟩;rcases h.2 with h2 | ⟨g,cap,cur,hv,hg,hh,r⟩
 · exact .inl h2
 · exact .inr ⟨g,cap,cur,hv,hg,(hk g hg (Array.getElem?_eq_some_iff.1 hh).1).trans hh,r⟩
end
section
def bnd (s:Iv):List Nat:=s.1 :: (if s.2<18446744073709551615 then [s.2+1] else [])
def yt (l:List Iv):List Nat:=l.flatMap bnd
def jk (ls:List (List Iv)):List Nat:=0 :: ls.flatMap yt
def Asc:List Nat→Prop
 | []=>True
 | [_]=>True
 | a :: b :: l=>a<b∧Asc (b :: l)
theorem Asc.tail {a:Nat} {l:List Nat} (h:Asc (a :: l)):Asc l:=by
 cases l with
 | nil=>trivial
 | cons b l=>exact h.2
theorem Asc.lower:∀{a:Nat} {l:List Nat},Asc (a :: l)→∀x∈l,a<x
 | a,[],_,x,hx=>by simp at hx
 | a,b :: l,h,x,hx=>by
   rcases List.mem_cons.1 hx with rfl | hx
   · exact h.1
   · have:=Asc.lower h.2 x hx;have:=h.1;omega
theorem zgf {a:Nat} {l:List Nat} (h:∀x∈l,a<x) (hl:Asc l):Asc (a :: l):=by
 cases l with
 | nil=>trivial
 | cons b l=>exact⟨h b (List.mem_cons_self ..),hl⟩
theorem zce {l:List Nat} {i:Nat} (h:i<l.length):nth l i∈l:=by
 have:nth l i=l[i]:=by simp[nth,h]
 rw[this];exact List.getElem_mem h
theorem zjp:∀{l l':List Nat},Asc l→Asc l'→(∀x,x∈l↔x∈l')→l=l'
 | [],[],_,_,_=>rfl
 | [],b :: l',_,_,h=>by have:=(h b).2 (List.mem_cons_self ..);simp at this
 | a :: l,[],_,_,h=>by have:=(h a).1 (List.mem_cons_self ..);simp at this
 | a :: l,b :: l',h1,h2,h=>by
   have e:a=b:=by
    have ha:=(h a).1 (List.mem_cons_self ..);have hb:=(h b).2 (List.mem_cons_self ..);rcases List.mem_cons.1 ha with e | ha
    · exact e
    · rcases List.mem_cons.1 hb with e | hb
      · exact e.symm
      · have:=h2.lower a ha;have:=h1.lower b hb;omega
   subst e;congr 1;refine zjp h1.tail h2.tail fun x=>?_
   constructor
   · intro hx;have hlt:=h1.lower x hx;rcases List.mem_cons.1 ((h x).1 (List.mem_cons_of_mem _ hx)) with e | h'
     · omega
     · exact h'
   · intro hx;have hlt:=h2.lower x hx;rcases List.mem_cons.1 ((h x).2 (List.mem_cons_of_mem _ hx)) with e | h'
     · omega
     · exact h'
theorem ze1:∀{L M:List Nat},Asc L→(∀y∈L,y∈M)→L.length≤M.length
 | [],M,_,_=>Nat.zero_le _
 | a :: L,M,h,hm=>by
   have h1:=ze1 (L:=L) (M:=M.erase a) h.tail (fun y hy=>by
    have:=h.lower y hy;rw[List.mem_erase_of_ne (by omega)];exact hm y (List.mem_cons_of_mem _ hy))
   have h2:=List.length_erase_of_mem (hm a (List.mem_cons_self ..));have h3:0<M.length:=List.length_pos_of_mem (hm a (List.mem_cons_self ..));simp only[List.length_cons];omega
end
section
open Go.RowKit
structure Byts (w:World) (a:Option Addr) (n cap:Nat) (l:List Nat):Prop where
 len:l.length=n
 lt:∀x∈l,x<256
 room:n≤cap
 most:cap≤9223372036854775807
 nilc:a=none→cap=0
 cells:0<n→∃b o,a=some ⟨b,o,none⟩∧∀i,i<n→w.cell? ⟨b,o+i,none⟩=some (.int .u8 ((nth l i:Nat):Int))
theorem zf {w:World} {p:Addr} {v:Value} (h:w.cell? p=some v):p.block<w.heap.size:=by
 rcases Nat.lt_or_ge p.block w.heap.size with h' | h'
 · exact h'
 · simp[World.cell?,Array.getElem?_eq_none h'] at h
theorem Byts.below {w w':World} {a:Option Addr} {n cap:Nat} {l:List Nat} (h:Byts w a n cap l) (hb:Below w.heap.size w w'):Byts w' a n cap l:=by
 refine⟨h.len,h.lt,h.room,h.most,h.nilc,fun hn=>?_⟩;obtain⟨b,o,ha,hc⟩:=h.cells hn;refine⟨b,o,ha,fun i hi=>?_⟩;have:=hc i hi;rw[←this];exact hb.cell (p:=⟨b,o+i,none⟩) (zf this)
theorem zb6 {k:IntKind} {a b:Int} (h:a=b):Ending.returned (.int k a)=.returned (.int k b):=by rw[h]
theorem zd5 {a b:Bool} (h:a=b):Ending.returned (.bool a)=.returned (.bool b):=by rw[h]
theorem qg (b o i:Nat):((⟨b,o,none⟩:Addr).add i)=⟨b,o+i,none⟩:=by
 unfold Addr.add;split
 · subst_vars;rfl
 · simp
theorem zw {w w1 w2:World} {row:Option Nat} (h:w.grownBy w1 row) (k:w1.grownBy w2 row):w.grownBy w2 row:=
 ⟨k.os.trans h.os,k.tape.trans h.tape,k.output.trans h.output,Nat.le_trans h.size k.size,fun i hi hne=>(k.block i (Nat.lt_of_lt_of_le hi h.size) hne).trans (h.block i hi hne)⟩
theorem zcn (w:World) (b n:Nat) (C:Array Value) (l:List Nat) (T:TypeId) (fr:Nat×Nat) (hb:b=w.heap.size) (hn:l.length=n) (hC:C=(u8s l).toArray) (hl:∀x∈l,x<256) (hm:n≤9223372036854775807):
 Byts (w.alloc (.cells C T fr)) (some ⟨b,0,none⟩) n n l:=by
 subst hb hC;refine⟨hn,hl,Nat.le_refl _,hm,(by intro h;cases h),fun _=>⟨_,_,rfl,fun i hi=>?_⟩⟩;rw[World.cell?_alloc_mark];have hi':i<l.length:=by omega
 simp[u8s,nth,hi']
theorem zbk {w:World} {base n:Nat} {T:TypeId} {v:Value} {l:List Nat} (h:w.ownsRow base T 1 v n (u8s l)) (hl:∀x∈l,x<256):∃a cap,v=.slice a n cap∧Byts w a n cap l:=by
 have hlen:l.length=n:=by have:=h.1;simpa [u8s] using this
 rcases h.2 with ⟨rfl,rfl⟩ | ⟨g,cap,cur,rfl,hg,hh,hnc,hcm,_⟩
 · exact⟨none,0,rfl,hlen,hl,by omega,by omega,fun _=>rfl,fun h=>by omega⟩
 · refine⟨_,_,rfl,hlen,hl,hnc,by unfold maxLen at hcm;omega,(by intro h;cases h),fun hn=>⟨g,0,rfl,fun i hi=>?_⟩⟩;have hc:=h.cells (g:=g) rfl i (.int .u8 ((nth l i:Nat):Int)) (zk2 l i (by omega));rw[qg] at hc;exact hc
theorem zm {w w':World} {base size n:Nat} {e:TypeId} {v:Value} {xs:List Value} (h:w.ownsRow base e size v n xs) (hb:Below w.heap.size w w'):w'.ownsRow base e size v n xs:=by
 refine⟨h.1,?_⟩;rcases h.2 with h | ⟨g,cap,cur,hv,hg,hh,r⟩
 · exact .inl h
 · exact .inr ⟨g,cap,cur,hv,hg,by rw[hb.block g (Array.getElem?_eq_some_iff.1 hh).1];exact hh,r⟩
theorem Byts.news {w:World} {x:Addr} {n cap:Nat} {l:List Nat} (h:Byts w (some x) n cap l):∀j u,(u8s l)[j]?=some u→w.cell? (x.add j)=some u:=by
 intro j u hu
 have hj:j<l.length:=by
  rcases Nat.lt_or_ge j l.length with h' | h'
  · exact h'
  · rw[List.getElem?_eq_none (by rw[zk1];exact h')] at hu;cases hu
 rw[zk2 l j hj] at hu;cases hu;obtain⟨b,o,ha,hc⟩:=h.cells (by rw[←h.len];omega);cases ha;rw[qg];exact hc j (by rw[←h.len];omega)
theorem Tryz.info_u8:(Tryz.prog.info? 5).map (fun i=>(i.zero,i.size,i.bytes))=some (some (.int .u8 0),1,1):=by kernel_rfl
theorem qf {P:Program} {w:World} {ops:Array Oper} {rest:List Oper} {o:Oper} {a:Act} {Q:Exit→Act→World→Prop} (s x:Operand) (t:TypeId)
 (ho:o.op=.call { callee:=.builtin .append,args:= #[s,x],argTypes:= #[t,t] }) (hw:Region.wanted o (yielded ops a.tmps)=true)
 (v u:Value) (hs:a.eval s=v) (hx:a.eval x=u) (v':Value) (w':World) (hrun:(Builtin.append_ #[t,t] o.type #[v,u]).run P w=.ok v' w')
 (h:wpList P ops Q rest (a.put o.dst v') w'):wpList P ops Q (o :: rest) a w:=by
 refine wpList_step fun K hK=>?_
 rw[if_pos hw];unfold Oper.wp;simp[execOp,ho,resolve,invoke,builtin,hs,hx,hrun,Result.andThen];exact hK _ _ h
theorem zjq (x:Nat) (w:World) (hx:x<18446744073709551616):
 Calls Tryz.prog 41 #[.int .u64 x] w fun e w'=>e=.returned (.int .i64 ((yp x).length:Nat))∧w=w':=by
 have Hs:=hid (z8l hx);have hb:=Lib.bitLen_le x 64 (by omega) (by simpa using hx);go_enter Tryz.func41,Tryz.ntmps41;go_wp2_with fail;refine(Tryz.bits_Len64 x w (by omega) (by omega)).mono ?_;rintro e w' ⟨rfl,rfl⟩;rw[Int.toNat_natCast];generalize Lib.bitLen x=b at*;go_wp2_with fail;go_ret;exact⟨zb6 (by rw[←Hs.out];omega),rfl⟩
theorem zrh (x:Nat) (hx:x<18446744073709551616):bits .or .u8 ((x:Int) % 256) 128=((x % 128+128:Nat):Int):=by
 have h:=z8n (x % 256) (by omega);rw[show ((x % 256:Nat):Int)=(x:Int) % 256 from by omega] at h;rw[h];congr 1;omega
theorem zdd {w:World} (base:Nat) (v:Value) (n:Nat) (xs:List Value) (hown:w.ownsRow base 5 1 v n xs) (a:Option Addr) (m c:Nat) (l:List Nat) (hB:Byts w a m c l)
 (hbytes:n+m≤140737488355328) (hbase:base≤w.heap.size):
 ∃v' w',(Builtin.append_ #[22,22] 22 #[v,.slice a m c]).run Tryz.prog w=.ok v' w'∧w'.ownsRow base 5 1 v' (n+m) (xs++u8s l)∧w.grownBy w' v.ownBlock:=by
 obtain⟨i0,hi,hz0,hz1,hz2⟩:=info_parts Tryz.info_u8
 cases a with
 | none=>
  have hc:=hB.nilc rfl;have hm:=hB.room;obtain rfl:m=0:=by omega
  subst hc;have hl:l=[]:=List.length_eq_zero_iff.1 hB.len;subst hl
  refine⟨v,w,run_append_owned_none _ base _ _ _ i0 1 Tryz.underlying22 hi v n xs hown,by simpa [u8s] using hown,⟨rfl,rfl,rfl,Nat.le_refl _,fun _ _ _=>rfl⟩⟩
 | some x=>
  obtain⟨v',w',hr,ho,hg,_⟩:=run_append_own (P:=Tryz.prog) w base 22 22 5 i0 (.int .u8 0) 1 1 Tryz.underlying22 hi hz0 hz1 hz2 rfl (by decide) v n xs hown x m c (u8s l)
   (by rw[zk1,hB.len];omega) hB.news (by intro u hu;simp[u8s] at hu;obtain⟨y,_,rfl⟩:=hu;rfl) (by unfold maxLen;omega) (by omega) hbase
  exact⟨v',w',hr,ho,hg⟩
