/- Walks and laws, joined: Wb12. -/
import Derived.Test.YtdnjfnofjaoajaaGreatDoorWb11
set_option linter.unusedVariables false
namespace Go.Proofs.YtdnjfnofjaoajaaGreatDoor
section
open Go.RowKit Go.Extern.Stop Go.Stop Go.Extern
theorem rlm (z:Sem Value) (f:TypeId→Addr→Nat→Nat→Sem Value) (v:Value):
 ReflectliteValue.method z f #[v]=(do match ←ReflectliteValue.parts v with | none=>z | some (t,a,fl)=>f t a fl (fl % 32)):=rfl
theorem rls (v x:Value):ReflectliteValue.set #[v,x]=(do
 let (some (dst,a,fl),some (src,b,_)):=(←ReflectliteValue.parts v,←ReflectliteValue.parts x)
  | unsupported (.noEntry "extern/(internal/reflectlite.Value).Set.zeroValue")
 if fl / ReflectliteValue.flagAddr % 2 == 0 then unsupported (.noEntry "extern/(internal/reflectlite.Value).Set.unaddressable")
 let val ←loadVar src b
 if ←Rtype.directlyAssignable dst src then storeVar dst a val
 else if ←Rtype.implements dst src then
  if (←Rtype.kind src) == 20 then
   match val with
   | .nilIface=>unsupported (.noEntry "extern/reflectlite: a nil value of one interface type handed on as a value of another")
   | _=>storeVar dst a val
  else storeVar dst a (.iface src val)
 else panicString ("reflectlite.Set: value of type " ++(←Rtype.spelt src)++ " is not assignable to type " ++(←Rtype.spelt dst))
 pure (.tuple #[])):=rfl
theorem Tryz.methodKind (h:Value) (w:World):(Go.method 506 227 (.agg #[h]) "Kind").run Tryz.prog w=.ok (315,h) w:=by kernel_rfl
theorem Tryz.methodElem (h:Value) (w:World):(Go.method 506 227 (.agg #[h]) "Elem").run Tryz.prog w=.ok (333,.agg #[h]) w:=by kernel_rfl
theorem Tryz.methodImplements (h:Value) (w:World):(Go.method 506 227 (.agg #[h]) "Implements").run Tryz.prog w=.ok (334,.agg #[h]) w:=by kernel_rfl
theorem Tryz.methodAssignableTo (h:Value) (w:World):(Go.method 506 227 (.agg #[h]) "AssignableTo").run Tryz.prog w=.ok (331,.agg #[h]) w:=by kernel_rfl
theorem Tryz.valueOfPE (t:Addr) (w:World):(ReflectliteValue.unpack (.iface 92 (.pointer (some t)))).run Tryz.prog w
 = .ok (.agg #[.pointer (some ⟨2,92,none⟩),.pointer (some ⟨w.heap.size,0,none⟩),.int .u64 150]) (w.alloc (.cells #[.pointer (some t)] 92)):=by kernel_rfl
theorem Tryz.typePE (a:Addr) (w:World):(ReflectliteValue.methodAny (ReflectliteValue.valueError "reflectlite.Value.Type" 0) (fun t _ _ _=>ReflectliteType.toType t) #[.agg #[.pointer (some ⟨2,92,none⟩),.pointer (some a),.int .u64 150]]).run Tryz.prog w
 = .ok (.iface 227 (.agg #[.pointer (some ⟨2,92,none⟩)])) w:=by kernel_rfl
theorem Tryz.kindPE (w:World):((ReflectliteType.abiMethod fun t=>(fun a:Nat=>Value.int IntKind.u8 (a:Int)) <$> Rtype.kind t) #[.pointer (some ⟨2,92,none⟩)]).run Tryz.prog w=.ok (.int .u8 22) w:=by kernel_rfl
theorem Tryz.kindE (w:World):((ReflectliteType.abiMethod fun t=>(fun a:Nat=>Value.int IntKind.u8 (a:Int)) <$> Rtype.kind t) #[.pointer (some ⟨2,34,none⟩)]).run Tryz.prog w=.ok (.int .u8 2) w:=by kernel_rfl
theorem Tryz.partsPE (a:Addr) (w:World):(ReflectliteValue.parts (.agg #[.pointer (some ⟨2,92,none⟩),.pointer (some a),.int .u64 150])).run Tryz.prog w=.ok (some (92,a,150)) w:=by kernel_rfl
theorem Tryz.isNilPE (a p:Addr) (W:World) (ha:W.cell? a=some (.pointer (some p))):
 (ReflectliteValue.method (ReflectliteValue.valueError "reflectlite.Value.IsNil" 0) ReflectliteValue.isNil #[.agg #[.pointer (some ⟨2,92,none⟩),.pointer (some a),.int .u64 150]]).run Tryz.prog W=.ok (.bool false) W:=by
 rw[rlm];simp only[Sem.run_bind,Tryz.partsPE,Result.andThen];simp[ReflectliteValue.isNil,loadVar,isAgg,underlying,Tryz.underlying92,ha,Result.andThen]
theorem Tryz.elemPE (w:World):(ReflectliteType.method ReflectliteType.elem #[.agg #[.pointer (some ⟨2,92,none⟩)]]).run Tryz.prog w=.ok (.iface 227 (.agg #[.pointer (some ⟨2,34,none⟩)])) w:=by kernel_rfl
theorem Tryz.implementsE (w:World):(ReflectliteType.relation "Implements" ReflectliteType.implements_ #[.agg #[.pointer (some ⟨2,34,none⟩)],.iface 227 (.agg #[.pointer (some ⟨2,29,none⟩)])]).run Tryz.prog w=.ok (.bool true) w:=by kernel_rfl
theorem Tryz.typeOfE (v:Value) (w:World):(ReflectliteType.typeOf #[.iface 34 v]).run Tryz.prog w=.ok (.iface 227 (.agg #[.pointer (some ⟨2,34,none⟩)])) w:=by kernel_rfl
theorem Tryz.assignableEE (w:World):(ReflectliteType.relation "AssignableTo" ReflectliteType.assignableTo #[.agg #[.pointer (some ⟨2,34,none⟩)],.iface 227 (.agg #[.pointer (some ⟨2,34,none⟩)])]).run Tryz.prog w=.ok (.bool true) w:=by kernel_rfl
theorem Tryz.valueOfE (c:Int) (w:World):(ReflectliteValue.unpack (.iface 34 (.int .i64 c))).run Tryz.prog w
 = .ok (.agg #[.pointer (some ⟨2,34,none⟩),.pointer (some ⟨w.heap.size,0,none⟩),.int .u64 130]) (w.alloc (.cells #[.int .i64 c] 34)):=by kernel_rfl
theorem Tryz.elemOfPE (w:World):(Rtype.elem? 92).run Tryz.prog w=.ok (some 34) w:=by kernel_rfl
theorem Tryz.mkE (p:Addr) (w:World):(ReflectliteValue.mk 34 p ReflectliteValue.flagAddr).run Tryz.prog w=.ok (.agg #[.pointer (some ⟨2,34,none⟩),.pointer (some p),.int .u64 386]) w:=by kernel_rfl
theorem Tryz.elemVPE (a p:Addr) (W:World) (ha:W.cell? a=some (.pointer (some p))):
 (ReflectliteValue.method (ReflectliteValue.valueError "reflectlite.Value.Elem" 0) ReflectliteValue.elem #[.agg #[.pointer (some ⟨2,92,none⟩),.pointer (some a),.int .u64 150]]).run Tryz.prog W
   = .ok (.agg #[.pointer (some ⟨2,34,none⟩),.pointer (some p),.int .u64 386]) W:=by
 rw[rlm];simp only[Sem.run_bind,Tryz.partsPE,Result.andThen];simp[ReflectliteValue.elem,loadVar,isAgg,underlying,Tryz.underlying92,ha,Result.andThen,Tryz.elemOfPE,Tryz.mkE]
theorem Tryz.partsEa (a:Addr) (w:World):(ReflectliteValue.parts (.agg #[.pointer (some ⟨2,34,none⟩),.pointer (some a),.int .u64 386])).run Tryz.prog w=.ok (some (34,a,386)) w:=by kernel_rfl
theorem Tryz.partsE (a:Addr) (w:World):(ReflectliteValue.parts (.agg #[.pointer (some ⟨2,34,none⟩),.pointer (some a),.int .u64 130])).run Tryz.prog w=.ok (some (34,a,130)) w:=by kernel_rfl
theorem Tryz.directE (w:World):(Rtype.directlyAssignable 34 34).run Tryz.prog w=.ok true w:=by kernel_rfl
theorem Tryz.setE (ta b:Addr) (c:Int) (old:Value) (W:World) (hb:W.cell? b=some (.int .i64 c)) (ht:W.cell? ta=some old) (hf:W.frozen? ta=false):
 (ReflectliteValue.set #[.agg #[.pointer (some ⟨2,34,none⟩),.pointer (some ta),.int .u64 386],.agg #[.pointer (some ⟨2,34,none⟩),.pointer (some b),.int .u64 130]]).run Tryz.prog W
   = .ok (.tuple #[]) (W.setCell ta (.int .i64 c)):=by
 rw[rls];simp only[Sem.run_bind,Tryz.partsEa,Tryz.partsE,Result.andThen];simp[ReflectliteValue.flagAddr,loadVar,isAgg,underlying,Tryz.underlying34,hb,Result.andThen,Tryz.directE,storeVar,Value.cells,storeCells,Addr.add];rw[run_store Tryz.prog W ta _ _ (by rfl)];simp[ht,hf]
theorem Tryz.valueOfPF (t:Addr) (w:World):(ReflectliteValue.unpack (.iface 140 (.pointer (some t)))).run Tryz.prog w
 = .ok (.agg #[.pointer (some ⟨2,140,none⟩),.pointer (some ⟨w.heap.size,0,none⟩),.int .u64 150]) (w.alloc (.cells #[.pointer (some t)] 140)):=by kernel_rfl
theorem Tryz.typePF (a:Addr) (w:World):(ReflectliteValue.methodAny (ReflectliteValue.valueError "reflectlite.Value.Type" 0) (fun t _ _ _=>ReflectliteType.toType t) #[.agg #[.pointer (some ⟨2,140,none⟩),.pointer (some a),.int .u64 150]]).run Tryz.prog w
 = .ok (.iface 227 (.agg #[.pointer (some ⟨2,140,none⟩)])) w:=by kernel_rfl
theorem Tryz.kindPF (w:World):((ReflectliteType.abiMethod fun t=>(fun a:Nat=>Value.int IntKind.u8 (a:Int)) <$> Rtype.kind t) #[.pointer (some ⟨2,140,none⟩)]).run Tryz.prog w=.ok (.int .u8 22) w:=by kernel_rfl
theorem Tryz.kindF (w:World):((ReflectliteType.abiMethod fun t=>(fun a:Nat=>Value.int IntKind.u8 (a:Int)) <$> Rtype.kind t) #[.pointer (some ⟨2,94,none⟩)]).run Tryz.prog w=.ok (.int .u8 25) w:=by kernel_rfl
theorem Tryz.partsPF (a:Addr) (w:World):(ReflectliteValue.parts (.agg #[.pointer (some ⟨2,140,none⟩),.pointer (some a),.int .u64 150])).run Tryz.prog w=.ok (some (140,a,150)) w:=by kernel_rfl
theorem Tryz.isNilPF (a p:Addr) (W:World) (ha:W.cell? a=some (.pointer (some p))):
 (ReflectliteValue.method (ReflectliteValue.valueError "reflectlite.Value.IsNil" 0) ReflectliteValue.isNil #[.agg #[.pointer (some ⟨2,140,none⟩),.pointer (some a),.int .u64 150]]).run Tryz.prog W=.ok (.bool false) W:=by
 rw[rlm];simp only[Sem.run_bind,Tryz.partsPF,Result.andThen];simp[ReflectliteValue.isNil,loadVar,isAgg,underlying,Tryz.underlying140,ha,Result.andThen]
theorem Tryz.elemPF (w:World):(ReflectliteType.method ReflectliteType.elem #[.agg #[.pointer (some ⟨2,140,none⟩)]]).run Tryz.prog w=.ok (.iface 227 (.agg #[.pointer (some ⟨2,94,none⟩)])) w:=by kernel_rfl
theorem Tryz.implementsF (w:World):(ReflectliteType.relation "Implements" ReflectliteType.implements_ #[.agg #[.pointer (some ⟨2,94,none⟩)],.iface 227 (.agg #[.pointer (some ⟨2,29,none⟩)])]).run Tryz.prog w=.ok (.bool true) w:=by kernel_rfl
theorem Tryz.typeOfF (v:Value) (w:World):(ReflectliteType.typeOf #[.iface 94 v]).run Tryz.prog w=.ok (.iface 227 (.agg #[.pointer (some ⟨2,94,none⟩)])) w:=by kernel_rfl
theorem Tryz.assignableFF (w:World):(ReflectliteType.relation "AssignableTo" ReflectliteType.assignableTo #[.agg #[.pointer (some ⟨2,94,none⟩)],.iface 227 (.agg #[.pointer (some ⟨2,94,none⟩)])]).run Tryz.prog w=.ok (.bool true) w:=by kernel_rfl
theorem Tryz.assignableFE (w:World):(ReflectliteType.relation "AssignableTo" ReflectliteType.assignableTo #[.agg #[.pointer (some ⟨2,94,none⟩)],.iface 227 (.agg #[.pointer (some ⟨2,34,none⟩)])]).run Tryz.prog w=.ok (.bool false) w:=by kernel_rfl
theorem Tryz.assignableEF (w:World):(ReflectliteType.relation "AssignableTo" ReflectliteType.assignableTo #[.agg #[.pointer (some ⟨2,34,none⟩)],.iface 227 (.agg #[.pointer (some ⟨2,94,none⟩)])]).run Tryz.prog w=.ok (.bool false) w:=by kernel_rfl
theorem Tryz.valueOfF (c a:Int) (w:World):(ReflectliteValue.unpack (.iface 94 (.agg #[.int .i64 c,.int .i64 a]))).run Tryz.prog w
 = .ok (.agg #[.pointer (some ⟨2,94,none⟩),.pointer (some ⟨w.heap.size,0,none⟩),.int .u64 153]) (w.alloc (.cells #[.int .i64 c,.int .i64 a] 94)):=by kernel_rfl
theorem Tryz.elemOfPF (w:World):(Rtype.elem? 140).run Tryz.prog w=.ok (some 94) w:=by kernel_rfl
theorem Tryz.mkF (p:Addr) (w:World):(ReflectliteValue.mk 94 p ReflectliteValue.flagAddr).run Tryz.prog w=.ok (.agg #[.pointer (some ⟨2,94,none⟩),.pointer (some p),.int .u64 409]) w:=by kernel_rfl
theorem Tryz.elemVPF (a p:Addr) (W:World) (ha:W.cell? a=some (.pointer (some p))):
 (ReflectliteValue.method (ReflectliteValue.valueError "reflectlite.Value.Elem" 0) ReflectliteValue.elem #[.agg #[.pointer (some ⟨2,140,none⟩),.pointer (some a),.int .u64 150]]).run Tryz.prog W
   = .ok (.agg #[.pointer (some ⟨2,94,none⟩),.pointer (some p),.int .u64 409]) W:=by
 rw[rlm];simp only[Sem.run_bind,Tryz.partsPF,Result.andThen];simp[ReflectliteValue.elem,loadVar,isAgg,underlying,Tryz.underlying140,ha,Result.andThen,Tryz.elemOfPF,Tryz.mkF]
theorem Tryz.partsFa (a:Addr) (w:World):(ReflectliteValue.parts (.agg #[.pointer (some ⟨2,94,none⟩),.pointer (some a),.int .u64 409])).run Tryz.prog w=.ok (some (94,a,409)) w:=by kernel_rfl
theorem Tryz.partsF (a:Addr) (w:World):(ReflectliteValue.parts (.agg #[.pointer (some ⟨2,94,none⟩),.pointer (some a),.int .u64 153])).run Tryz.prog w=.ok (some (94,a,153)) w:=by kernel_rfl
theorem Tryz.directF (w:World):(Rtype.directlyAssignable 94 94).run Tryz.prog w=.ok true w:=by kernel_rfl
theorem Tryz.infoF:(Tryz.prog.info? 94).map (·.size)=some 2:=by kernel_rfl
theorem Tryz.setF (tb b:Nat) (c a:Int) (o1 o2:Value) (W:World) (hb0:W.cell? ⟨b,0,none⟩=some (.int .i64 c)) (hb1:W.cell? ⟨b,1,none⟩=some (.int .i64 a))
 (ht0:W.cell? ⟨tb,0,none⟩=some o1) (ht1:W.cell? ⟨tb,1,none⟩=some o2) (hf0:W.frozen? ⟨tb,0,none⟩=false) (hf1:W.frozen? ⟨tb,1,none⟩=false):
 (ReflectliteValue.set #[.agg #[.pointer (some ⟨2,94,none⟩),.pointer (some ⟨tb,0,none⟩),.int .u64 409],.agg #[.pointer (some ⟨2,94,none⟩),.pointer (some ⟨b,0,none⟩),.int .u64 153]]).run Tryz.prog W
   = .ok (.tuple #[]) ((W.setCell ⟨tb,0,none⟩ (.int .i64 c)).setCell ⟨tb,1,none⟩ (.int .i64 a)):=by
 cases hq:Tryz.prog.info? 94 with
 | none=>have:=Tryz.infoF;simp[hq] at this
 | some i=>
  have hsz:i.size=2:=by have:=Tryz.infoF;simpa [hq] using this
  rw[rls];simp only[Sem.run_bind,Tryz.partsFa,Tryz.partsF,Result.andThen];simp[ReflectliteValue.flagAddr,loadVar,isAgg,underlying,Tryz.underlying94,Result.andThen,Tryz.directF,storeVar,Value.cells,storeCells,Addr.add,sizeOf,typeInfo,hq,hsz,loadCells,loadCellsFrom,hb0,hb1]
  have h1:(W.setCell ⟨tb,0,none⟩ (.int .i64 c)).cell? ⟨tb,1,none⟩=some o2:=by
   rw[World.cell?_setCell_other _ _ _ _ (by simp)];exact ht1
  have h2:(W.setCell ⟨tb,0,none⟩ (.int .i64 c)).frozen? ⟨tb,1,none⟩=false:=by
   rw[World.frozen?_setCell];exact hf1
  rw[run_store Tryz.prog W ⟨tb,0,none⟩ _ _ (by rfl)];simp only[ht0,hf0,Bool.false_eq_true,↓reduceIte];rw[run_store Tryz.prog _ ⟨tb,1,none⟩ _ _ (by rfl)];simp[h1,h2]
theorem Tryz.methodUnF (v:Value) (w:World):(Go.method 506 94 v "Unwrap").run Tryz.prog w=.ok (319,v) w:=by kernel_rfl
theorem Tryz.asAsE (v:Value) (xT:TypeId) (w:World):(Instr.typeAssert (.iface 34 v) xT 232 true).run Tryz.prog w=.ok (.tuple #[.nilIface,.bool false]) w:=
 run_typeAssert_lacksB Tryz.underlying232 (by kernel_rfl) (by kernel_rfl) v xT w
theorem Tryz.asAsF (v:Value) (xT:TypeId) (w:World):(Instr.typeAssert (.iface 94 v) xT 232 true).run Tryz.prog w=.ok (.tuple #[.nilIface,.bool false]) w:=
 run_typeAssert_lacksB Tryz.underlying232 (by kernel_rfl) (by kernel_rfl) v xT w
theorem Tryz.asUnE (v:Value) (xT:TypeId) (w:World):(Instr.typeAssert (.iface 34 v) xT 235 true).run Tryz.prog w=.ok (.tuple #[.nilIface,.bool false]) w:=
 run_typeAssert_lacksB Tryz.underlying235 (by kernel_rfl) (by kernel_rfl) v xT w
theorem Tryz.asUmE (v:Value) (xT:TypeId) (w:World):(Instr.typeAssert (.iface 34 v) xT 237 true).run Tryz.prog w=.ok (.tuple #[.nilIface,.bool false]) w:=
 run_typeAssert_lacksB Tryz.underlying237 (by kernel_rfl) (by kernel_rfl) v xT w
theorem Tryz.asUnF (v:Value) (xT:TypeId) (w:World):(Instr.typeAssert (.iface 94 v) xT 235 true).run Tryz.prog w=.ok (.tuple #[.iface 94 v,.bool true]) w:=
 run_typeAssert_hasB Tryz.underlying235 (by kernel_rfl) v xT w
end
section
abbrev RR (α:Type):=Except (Nat×Nat) (α×Nat)
def thn {α β:Type} (a:RR α) (f:α→Nat→RR β):RR β:=match a with | .error e=>.error e | .ok y=>f y.1 y.2
theorem jq {α β:Type} (x:α) (q:Nat) (f:α→Nat→RR β):thn (.ok (x,q)) f=f x q:=rfl
theorem zcf {α β:Type} (e:Nat×Nat) (f:α→Nat→RR β):thn (.error e:RR α) f=.error e:=rfl
theorem ku {α β γ:Type} (a:RR α) (f:α→Nat→RR β) (g:β→Nat→RR γ):thn (thn a f) g=thn a fun x q=>thn (f x q) g:=by cases a <;> rfl
theorem zas {α β:Type} {a:RR α} {f g:α→Nat→RR β} (h:∀x q,f x q=g x q):thn a f=thn a g:=by rw[show f=g from funext fun x=>funext fun q=>h x q]
abbrev yo:=Nat→Except Nat (Nat×Nat)
def nmP (T:yo) (p:Nat):RR Nat:=match T p with | .error c=>.error (c,p) | .ok y=>.ok y
def yz (x:Nat) (lim:Int) (rest:Nat):Nat:=if lim<(x:Int)∧x≠0 then 7 else if rest<x then 5 else 0
def kg (T:yo) (E:Nat) (lim:Int) (p:Nat):RR Nat:=thn (nmP T p) fun x q=>if yz x lim (E - q)=0 then .ok (x,q) else .error (yz x lim (E - q),p)
def loP (prev:Option Nat) (ap d:Nat):Option Nat:=match prev with | none=>some d | some h=>if h+1+ap+d<18446744073709551616 then some (h+1+ap+d) else none
def hiP (T:yo) (lo q:Nat):RR (Iv×Nat):=thn (nmP T q) fun y r=>if lo+y<18446744073709551616 then .ok (((lo,lo+y),q),r) else .error (8,q)
def ivP (T:yo) (prev:Option Nat) (ap p:Nat):RR (Iv×Nat):=thn (nmP T p) fun x q=>match loP prev ap x with | none=>.error (8,p) | some lo=>hiP T lo q
def jv (l:List Iv):Option Nat:=l.getLast?.map (·.2)
def zdb {α:Type} (mx:Nat) (s:Iv×Nat) (q:Nat) (f:Iv→Nat→RR α):RR α:=if mx≤s.1.2 then .error (8,s.2) else f s.1 q
def zac (T:yo) (mx:Nat):Nat→List Iv→Nat→RR (List Iv)
 | 0,acc,p=>.ok (acc,p)
 | n+1,acc,p=>thn (ivP T (jv acc) 1 p) fun s q=>zdb mx s q fun s q=>zac T mx n (acc++[s]) q
def zay (v:Vec) (x:Nat):Option Nat:=match v.getLast? with | none=>some x | some e=>if e.1+1+x<18446744073709551616 then some (e.1+1+x) else none
def zgu (T:yo) (E:Nat) (lim:Int) (r mx p:Nat):RR Ent:=thn (kg T E lim p) fun n q=>thn (zac T mx n [] q) fun h q=>.ok ((r,mx,h),q)
def zgv (T:yo) (E:Nat) (lim:Int) (r p:Nat):RR Ent:=thn (nmP T p) fun mx q=>zgu T E lim r mx q
def ze3 (T:yo) (E:Nat) (lim:Int) (v:Vec) (p:Nat):RR Ent:=thn (nmP T p) fun x q=>match zay v x with | none=>.error (8,p) | some r=>zgv T E lim r q
def vy (T:yo) (E:Nat) (lim:Int):Nat→Vec→Nat→RR Vec
 | 0,v,p=>.ok (v,p)
 | n+1,v,p=>thn (ze3 T E lim v p) fun e q=>vy T E lim n (v++[e]) q
def zcg (T:yo) (E:Nat) (le lh:Int) (p:Nat):RR Vec:=thn (kg T E le p) fun n q=>if n=0 then .error (9,p) else vy T E lh n [] q
def zad (vs:List Vec) (v:Vec):Bool:=match vs.getLast? with | none=>false | some u=>decide (0≤yk u v)
def vz (T:yo) (E:Nat) (le lh:Int):Nat→List Vec→Nat→RR (List Vec)
 | 0,vs,p=>.ok (vs,p)
 | n+1,vs,p=>thn (zcg T E le lh p) fun v q=>if zad vs v=true then .error (3,p) else vz T E le lh n (vs++[v]) q
def zdc (l:List Iv) (lo:Nat):Bool:=match jv l with | none=>false | some h=>decide (lo=h+1)
def zdd {α:Type} (T:yo) (N:Nat) (tch:Bool) (ix:List Nat) (q:Nat) (f:Nat→Nat→RR α):RR α:=
 thn (nmP T q) fun x r=>if N≤x then .error (8,q) else if tch=true∧ix.getLast?=some x then .error (10,q) else f x r
def vm (T:yo) (N:Nat):Nat→List Iv→List Nat→Nat→RR (List Iv×List Nat)
 | 0,l,ix,p=>.ok ((l,ix),p)
 | m+1,l,ix,p=>thn (ivP T (jv l) 0 p) fun s q=>zdd T N (zdc l s.1.1) ix q fun x r=>vm T N m (l++[s.1]) (ix++[x]) r
def vo (vs:List Vec) (l:List Iv) (ix:List Nat):Kno:=zk3 vs l (ix.map fun (n:Nat)=>(n:Int))
def zbi (E:Nat) (c:Kno) (p:Nat):RR Kno:=if (∃f∈c,f.1=[]) then .error (10,p) else if p<E then .error (11,p) else .ok (c,p)
def zch (T:yo) (E:Nat) (lim:Int) (vs:List Vec) (p:Nat):RR Kno:=thn (kg T E lim p) fun m q=>thn (vm T vs.length m [] [] q) fun s q=>zbi E (vo vs s.1 s.2) q
def zat (T:yo) (E:Nat) (L:Int×Int×Int×Int×Int) (p:Nat):RR Kno:=thn (kg T E L.2.1 p) fun n q=>thn (vz T E L.2.2.1 L.2.2.2.1 n [] q) fun vs q=>zch T E L.2.2.2.2 vs q
structure PS where
 tag:Nat
 v:Vec
 rep:Nat
 mx:Nat
 h:List Iv
 ents:Nat
 hls:Nat
 lo:Nat
def ps0:PS:=⟨0,[],0,0,[],0,0,0⟩
def vh (s:PS) (hls:Nat) (h:List Iv):PS:=
 if 0<hls then { s with tag:=4,h:=h,hls:=hls - 1 }
 else if 1<s.ents then { s with tag:=1,v:=s.v++[(s.rep,s.mx,h)],h:=[],ents:=s.ents - 1,hls:=0 }
 else { s with tag:=6,v:=s.v++[(s.rep,s.mx,h)],h:=[],ents:=s.ents - 1,hls:=0 }
def qb (le lh:Int) (s:PS) (x rest:Nat):Except Nat PS:=
 match s.tag with
 | 0=>if yz x le rest≠0 then .error (yz x le rest) else if x=0 then .error 9 else .ok { s with tag:=1,v:=[],ents:=x }
 | 1=>match zay s.v x with | none=>.error 8 | some r=>.ok { s with tag:=2,rep:=r }
 | 2=>.ok { s with tag:=3,mx:=x }
 | 3=>if yz x lh rest≠0 then .error (yz x lh rest) else .ok (vh s x [])
 | 4=>match loP (jv s.h) 1 x with | none=>.error 8 | some lo=>.ok { s with tag:=5,lo:=lo }
 | _=>if s.lo+x<18446744073709551616∧s.lo+x<s.mx then .ok (vh s s.hls (s.h++[(s.lo,s.lo+x)])) else .error 8
def ze4 (T:yo) (E:Nat) (le lh:Int) (s:PS) (p:Nat):RR Vec:=
 match s.tag with
 | 0=>zcg T E le lh p
 | 1=>vy T E lh s.ents s.v p
 | 2=>thn (zgv T E lh s.rep p) fun e q=>vy T E lh (s.ents - 1) (s.v++[e]) q
 | 3=>thn (zgu T E lh s.rep s.mx p) fun e q=>vy T E lh (s.ents - 1) (s.v++[e]) q
 | 4=>thn (ivP T (jv s.h) 1 p) fun i q=>zdb s.mx i q fun i q=>thn (zac T s.mx s.hls (s.h++[i]) q) fun h q=>vy T E lh (s.ents - 1) (s.v++[(s.rep,s.mx,h)]) q
 | 5=>thn (hiP T s.lo p) fun i q=>zdb s.mx i q fun i q=>thn (zac T s.mx s.hls (s.h++[i]) q) fun h q=>vy T E lh (s.ents - 1) (s.v++[(s.rep,s.mx,h)]) q
 | _=>.ok (s.v,p)
theorem ztf (T:yo) (E:Nat) (le lh:Int) (s:PS) (hls:Nat) (h:List Iv) (q:Nat):
 ze4 T E le lh (vh s hls h) q=thn (zac T s.mx hls h q) fun h q=>vy T E lh (s.ents - 1) (s.v++[(s.rep,s.mx,h)]) q:=by
 unfold vh
 cases hls with
 | succ n=>
  rw[if_pos (Nat.succ_pos _)];simp only[ze4];rw[zac,ku];refine zas fun s' q'=>?_
  simp only[zdb,Nat.add_sub_cancel];split
  · rw[zcf]
  · rfl
 | zero=>
  rw[if_neg (by omega),zac,jq];by_cases h1:1<s.ents
  · rw[if_pos h1];rfl
  · rw[if_neg h1];show (.ok (s.v++[(s.rep,s.mx,h)],q):RR Vec)=_;rw[show s.ents - 1=0 by omega]
    rfl
theorem z2q (T:yo) (E:Nat) (le lh:Int) (s:PS) (p:Nat) (hs:s.tag<6) (he:1≤s.tag→0<s.ents):
 ze4 T E le lh s p=thn (nmP T p) fun x q=>match qb le lh s x (E - q) with | .error c=>.error (c,p) | .ok s'=>ze4 T E le lh s' q:=by
 obtain⟨tag,v,rep,mx,h,ents,hls,lo⟩:=s;simp only at hs he;rcases(by omega:tag=0∨tag=1∨tag=2∨tag=3∨tag=4∨tag=5) with rfl | rfl | rfl | rfl | rfl | rfl
 · show zcg T E le lh p=_;unfold zcg kg;rw[ku];refine zas fun x q=>?_
   simp only[qb];by_cases hc:yz x le (E - q)=0
   · rw[if_pos hc,if_neg (fun h=>h hc),jq];by_cases hx:x=0
     · rw[if_pos hx,if_pos hx]
     · rw[if_neg hx,if_neg hx];rfl
   · rw[if_neg hc,if_pos hc,zcf]
 · show vy T E lh ents v p=_;obtain⟨n,rfl⟩:∃n,ents=n+1:=⟨ents - 1,by have:=he (Nat.le_refl _);omega⟩;rw[vy,ze3,ku];refine zas fun x q=>?_
   simp only[qb]
   cases zay v x with
   | none=>rfl
   | some r=>rfl
 · show thn (zgv T E lh rep p) (fun e q=>vy T E lh (ents - 1) (v++[e]) q)=_;unfold zgv;rw[ku]
   rfl
 · show thn (zgu T E lh rep mx p) (fun e q=>vy T E lh (ents - 1) (v++[e]) q)=_;unfold zgu kg;rw[ku,ku];refine zas fun x q=>?_
   simp only[qb];by_cases hc:yz x lh (E - q)=0
   · rw[if_pos hc,if_neg (fun h=>h hc),jq];simp only;rw[ztf,ku]
     rfl
   · rw[if_neg hc,if_pos hc,zcf]
 · show thn (ivP T (jv h) 1 p) (fun i q=>zdb mx i q fun i q=>thn (zac T mx hls (h++[i]) q) fun h q=>vy T E lh (ents - 1) (v++[(rep,mx,h)]) q)=_;unfold ivP;rw[ku];refine zas fun x q=>?_
   simp only[qb]
   cases loP (jv h) 1 x with
   | none=>rfl
   | some lo=>rfl
 · show thn (hiP T lo p) (fun i q=>zdb mx i q fun i q=>thn (zac T mx hls (h++[i]) q) fun h q=>vy T E lh (ents - 1) (v++[(rep,mx,h)]) q)=_;unfold hiP;rw[ku];refine zas fun x q=>?_
   simp only[qb];by_cases h1:lo+x<18446744073709551616
   · rw[if_pos h1,jq];simp only[zdb];by_cases h2:mx≤lo+x
     · rw[if_pos h2,if_neg (by omega)]
     · rw[if_neg h2,if_pos ⟨h1,by omega⟩];simp only;rw[ztf]
   · rw[if_neg h1,if_neg (by omega),zcf]
theorem zii {le lh:Int} {s s':PS} {x rest:Nat} (hs:s.tag<6) (he:1≤s.tag→0<s.ents) (h:qb le lh s x rest=.ok s'):s'.tag≤6∧(1≤s'.tag→s'.tag<6→0<s'.ents)∧1≤s'.tag:=by
 obtain⟨tag,v,rep,mx,hh,ents,hls,lo⟩:=s;simp only at hs he
 have nx:∀(t:PS) (k:Nat) (l:List Iv),0<t.ents→(vh t k l).tag≤6∧(1≤(vh t k l).tag→(vh t k l).tag<6→0<(vh t k l).ents)∧1≤(vh t k l).tag:=by
  intro t k l ht;unfold vh;split
  · exact⟨by simp,fun _ _=>ht,by simp⟩
  · split
    · exact⟨by simp,fun _ _=>by simp only;omega,by simp⟩
    · exact⟨by simp,fun _ h=>absurd h (by simp),by simp⟩
 rcases(by omega:tag=0∨tag=1∨tag=2∨tag=3∨tag=4∨tag=5) with rfl | rfl | rfl | rfl | rfl | rfl <;> simp only[qb] at h
 · split at h
   · cases h
   · split at h
     · cases h
     · cases h;exact⟨by simp,fun _ _=>by simp only;omega,by simp⟩
 · cases hr:zay v x with
   | none=>rw[hr] at h;cases h
   | some r=>rw[hr] at h;cases h;exact⟨by simp,fun _ _=>he (by simp),by simp⟩
 · cases h;exact⟨by simp,fun _ _=>he (by simp),by simp⟩
 · split at h
   · cases h
   · cases h;exact nx _ _ _ (he (by simp))
 · cases hr:loP (jv hh) 1 x with
   | none=>rw[hr] at h;cases h
   | some r=>rw[hr] at h;cases h;exact⟨by simp,fun _ _=>he (by simp),by simp⟩
 · split at h
   · cases h;exact nx _ _ _ (he (by simp))
   · cases h
def zL (ix:List Nat):List Int:=ix.map fun (n:Nat)=>(n:Int)
def kk (ix:List Nat):Nat→Nat
 | 0=>0
 | n+1=>kk ix n+if n∈ix then 1 else 0
theorem zoa (ix:List Nat):∀N,kk ix N≤N
 | 0=>Nat.le_refl _
 | n+1=>by have:=zoa ix n;rw[kk];split <;> omega
theorem ztg {ix:List Nat} {i:Nat}:∀{N:Nat},N≤i→kk (ix++[i]) N=kk ix N
 | 0,_=>rfl
 | n+1,h=>by
   rw[kk,kk,ztg (by omega)];congr 1
   have e:n∈ix++[i]↔n∈ix:=by
    rw[List.mem_append,List.mem_singleton];exact⟨fun h'=>h'.resolve_right (by omega),.inl⟩
   simp only[e]
theorem zth {ix:List Nat} {i:Nat}:∀{N:Nat},i<N→kk (ix++[i]) N=kk ix N+if i∈ix then 0 else 1
 | n+1,h=>by
   rw[kk,kk];by_cases e:i=n
   · subst e;rw[ztg (Nat.le_refl _),if_pos (by simp)];by_cases h2:i∈ix
     · rw[if_pos h2,if_pos h2]
     · rw[if_neg h2,if_neg h2]
   · rw[zth (by omega)]
     have e2:n∈ix++[i]↔n∈ix:=by
      rw[List.mem_append,List.mem_singleton];exact⟨fun h'=>h'.resolve_right (fun h=>e h.symm),.inl⟩
     simp only[e2];omega
theorem zti (ix:List Nat):∀N,kk ix N<N↔∃i,i<N∧i∉ix
 | 0=>⟨fun h=>by omega,fun ⟨i,h,_⟩=>by omega⟩
 | n+1=>by
   have ih:=zti ix n;have hle:=zoa ix n;rw[kk];constructor
   · intro h;by_cases hn:n∈ix
     · rw[if_pos hn] at h;obtain⟨i,h1,h2⟩:=ih.1 (by omega);exact⟨i,by omega,h2⟩
     · exact⟨n,by omega,hn⟩
   · rintro⟨i,h1,h2⟩;by_cases e:i=n
     · subst e;rw[if_neg h2];omega
     · have:=ih.2 ⟨i,by omega,h2⟩;split <;> omega
theorem ztj:∀N,kk [] N=0
 | 0=>rfl
 | n+1=>by rw[kk,ztj n,if_neg (by simp)]
theorem zij {ix:List Nat} {t:Nat} (h:t<ix.length):zda (zL ix) t=((ix[t]:Nat):Int):=by
 rw[zk2 (by simpa [zL] using h)];simp[zL]
theorem zob {l:List Iv} {ix:List Int} {i:Nat}:∀{d:Nat},itB l ix i d=[]↔∀t,t<d→zda ix t≠(i:Int)
 | 0=>⟨fun _ t h=>by omega,fun _=>rfl⟩
 | d+1=>by
   rw[itB];constructor
   · intro h t ht;obtain⟨h1,h2⟩:=List.append_eq_nil_iff.1 h;by_cases e:t=d
     · subst e;intro h3;rw[if_pos h3] at h2;cases h2
     · exact zob.1 h1 t (by omega)
   · intro h;rw[zob.2 (fun t ht=>h t (by omega)),if_neg (h d (by omega))]
     rfl
def itN (l:List Iv) (ix:List Nat) (i:Nat):List Iv:=itB l (zL ix) i l.length
theorem ztk {l:List Iv} {ix:List Nat} (h:ix.length=l.length) (i:Nat):itN l ix i=[]↔i∉ix:=by
 unfold itN;rw[zob];constructor
 · intro h1 hm;obtain⟨t,ht,e⟩:=List.getElem_of_mem hm;exact h1 t (by omega) (by rw[zij ht,e])
 · intro h1 t ht e;rw[zij (by omega)] at e;exact h1 (by rw[show i=ix[t]'(by omega) by omega];exact List.getElem_mem _)
theorem zik {vs:List Vec} {l:List Iv} {ix:List Nat}:vo vs l ix=(List.range vs.length).map fun i=>(itN l ix i,vg vs i):=rfl
theorem z2r {vs:List Vec} {l:List Iv} {ix:List Nat} (h:ix.length=l.length):(∃f∈vo vs l ix,f.1=[])↔kk ix vs.length<vs.length:=by
 rw[zti,zik];constructor
 · rintro⟨f,hf,h1⟩;obtain⟨i,hi,rfl⟩:=List.mem_map.1 hf;exact⟨i,List.mem_range.1 hi,(ztk h i).1 h1⟩
 · rintro⟨i,h1,h2⟩;exact⟨_,List.mem_map.2 ⟨i,List.mem_range.2 h1,rfl⟩,(ztk h i).2 h2⟩
theorem ztl {l:List Iv} {ix:List Nat} {s:Iv} {x i:Nat} (h:ix.length=l.length):∀d,d≤l.length→itB (l++[s]) (zL (ix++[x])) i d=itB l (zL ix) i d
 | 0,_=>rfl
 | d+1,hd=>by
   rw[itB,itB,ztl h d (by omega),zij (by simp;omega),zij (by omega),List.getElem_append_left (by omega)];have e:zb (l++[s]) d=zb l d:=by simp[zb,List.getElem?_append_left (show d<l.length by omega)]
   rw[e]
theorem ztm {l:List Iv} {ix:List Nat} {s:Iv} {x:Nat} (h:ix.length=l.length) (i:Nat):itN (l++[s]) (ix++[x]) i=itN l ix i++if x=i then [s] else []:=by
 unfold itN;rw[show (l++[s]).length=l.length+1 by simp,itB,ztl h _ (Nat.le_refl _)];have e:zb (l++[s]) l.length=s:=by simp[zb]
 have e2:zda (zL (ix++[x])) l.length=(x:Int):=by
  rw[zij (by simp;omega),List.getElem_append_right (by omega)];simp
 rw[e,e2];congr 1;by_cases hx:x=i
 · rw[if_pos hx,if_pos (by omega)]
 · rw[if_neg hx,if_neg (by omega)]
abbrev zt:=Int×Int×Int×Int×Int
structure WS where
 tag:Nat
 vs:List Vec
 l:List Iv
 ix:List Nat
 left:Nat
 frm:Nat
 inner:PS
 turn:Nat
 lo:Nat
 hi:Nat
 tch:Bool
def ws0:WS:=⟨0,[],[],[],0,0,ps0,0,0,0,false⟩
def k9 (E:Nat) (s:WS) (next:Nat):Except (Nat×Nat) WS:=
 if (∃f∈vo s.vs s.l s.ix,f.1=[]) then .error (10,next) else if next<E then .error (11,next) else .ok { s with tag:=4 }
def kw (s:WS) (p:Nat):Nat:=if s.inner.tag=0 then p else s.frm
def qm (E:Nat) (L:zt) (s:WS) (x p q:Nat):Except (Nat×Nat) WS:=
 match s.tag with
 | 0=>if yz x L.2.1 (E - q)≠0 then .error (yz x L.2.1 (E - q),p) else if x=0 then .ok { s with tag:=2 } else .ok { s with tag:=1,left:=x,inner:=ps0 }
 | 1=>match qb L.2.2.1 L.2.2.2.1 s.inner x (E - q) with
   | .error c=>.error (c,p)
   | .ok i=>if i.tag=6 then
      if zad s.vs i.v=true then .error (3,kw s p) else if s.left=1 then .ok { s with tag:=2,vs:=s.vs++[i.v],left:=0,inner:=ps0 } else .ok { s with vs:=s.vs++[i.v],left:=s.left - 1,inner:=ps0 }
     else .ok { s with frm:=kw s p,inner:=i }
 | 2=>if yz x L.2.2.2.2 (E - q)≠0 then .error (yz x L.2.2.2.2 (E - q),p) else if x=0 then k9 E s q else .ok { s with tag:=3,left:=x,turn:=0 }
 | 3=>match s.turn with
   | 0=>match loP (jv s.l) 0 x with | none=>.error (8,p) | some lo=>.ok { s with turn:=1,lo:=lo,tch:=zdc s.l lo }
   | 1=>if s.lo+x<18446744073709551616 then .ok { s with turn:=2,hi:=s.lo+x } else .error (8,p)
   | _=>if s.vs.length≤x then .error (8,p) else if s.tch=true∧s.ix.getLast?=some x then .error (10,p) else
     if s.left=1 then k9 E { s with l:=s.l++[(s.lo,s.hi)],ix:=s.ix++[x],left:=0,turn:=0 } q
     else .ok { s with l:=s.l++[(s.lo,s.hi)],ix:=s.ix++[x],left:=s.left - 1,turn:=0 }
 | _=>.ok s
def zbu (T:yo) (E:Nat) (L:zt) (s:WS) (p:Nat):RR Kno:=
 match s.tag with
 | 0=>zat T E L p
 | 1=>thn (ze4 T E L.2.2.1 L.2.2.2.1 s.inner p) fun v q=>if zad s.vs v=true then .error (3,kw s p) else thn (vz T E L.2.2.1 L.2.2.2.1 (s.left - 1) (s.vs++[v]) q) fun vs q=>zch T E L.2.2.2.2 vs q
 | 2=>zch T E L.2.2.2.2 s.vs p
 | 3=>match s.turn with
   | 0=>thn (vm T s.vs.length s.left s.l s.ix p) fun r q=>zbi E (vo s.vs r.1 r.2) q
   | 1=>thn (hiP T s.lo p) fun i q=>zdd T s.vs.length s.tch s.ix q fun x r=>thn (vm T s.vs.length (s.left - 1) (s.l++[i.1]) (s.ix++[x]) r) fun r q=>zbi E (vo s.vs r.1 r.2) q
   | _=>zdd T s.vs.length s.tch s.ix p fun x r=>thn (vm T s.vs.length (s.left - 1) (s.l++[(s.lo,s.hi)]) (s.ix++[x]) r) fun r q=>zbi E (vo s.vs r.1 r.2) q
 | _=>.ok (vo s.vs s.l s.ix,p)
structure WInv (s:WS):Prop where
 tag:s.tag≤4
 turn:s.turn≤2
 left:s.tag=1∨s.tag=3→0<s.left
 inner:s.tag=1→s.inner.tag<6∧(1≤s.inner.tag→0<s.inner.ents)
 fresh:s.tag=0→s.vs=[]
 none:s.tag<3→s.l=[]∧s.ix=[]
theorem ztn (T:yo) (E:Nat) (L:zt) (s:WS) (q:Nat):(match k9 E s q with | .error e=>.error e | .ok s'=>zbu T E L s' q)=zbi E (vo s.vs s.l s.ix) q:=by
 unfold k9 zbi;by_cases h:∃f∈vo s.vs s.l s.ix,f.1=[]
 · rw[if_pos h,if_pos h]
 · rw[if_neg h,if_neg h];by_cases h1:q<E
   · rw[if_pos h1,if_pos h1]
   · rw[if_neg h1,if_neg h1];rfl
theorem z2s {α β:Type} (T:yo) (N:Nat) (tch:Bool) (ix:List Nat) (q:Nat) (f:Nat→Nat→RR α) (g:α→Nat→RR β):thn (zdd T N tch ix q f) g=zdd T N tch ix q fun x r=>thn (f x r) g:=by
 unfold zdd;rw[ku];refine zas fun x r=>?_
 split
 · rfl
 · split <;> rfl
theorem z2t (T:yo) (E:Nat) (le lh:Int) (i:PS) (q:Nat) (h:i.tag=6):ze4 T E le lh i q=.ok (i.v,q):=by
 obtain⟨tag,v,rep,mx,hh,ents,hls,lo⟩:=i;simp only at h;subst h
 rfl
theorem zk6 (T:yo) (E:Nat) (L:zt) (s:WS) (p:Nat) (hI:WInv s) (h4:s.tag<4):
 zbu T E L s p=thn (nmP T p) fun x q=>match qm E L s x p q with | .error e=>.error e | .ok s'=>zbu T E L s' q:=by
 obtain⟨h1,h2,h3,hin,hfr,hno⟩:=hI;obtain⟨tag,vs,l,ix,left,frm,inner,turn,lo,hi,tch⟩:=s;simp only at h1 h2 h3 hin h4 hfr hno;rcases(by omega:tag=0∨tag=1∨tag=2∨tag=3) with rfl | rfl | rfl | rfl
 · have:=hfr rfl;subst this;show thn (kg T E L.2.1 p) (fun n q=>thn (vz T E L.2.2.1 L.2.2.2.1 n [] q) fun vs q=>zch T E L.2.2.2.2 vs q)=_;unfold kg;rw[ku];refine zas fun x q=>?_
   simp only[qm];by_cases hc:yz x L.2.1 (E - q)=0
   · rw[if_pos hc,if_neg (fun h=>h hc),jq];by_cases hx:x=0
     · rw[if_pos hx];subst hx;rfl
     · rw[if_neg hx];obtain⟨n,rfl⟩:∃n,x=n+1:=⟨x - 1,by omega⟩;show _=thn (zcg T E L.2.2.1 L.2.2.2.1 q) (fun v r=>if zad [] v=true then .error (3,q) else thn (vz T E L.2.2.1 L.2.2.2.1 (n+1 - 1) ([]++[v]) r) fun vs q=>zch T E L.2.2.2.2 vs q);rw[vz,ku];refine zas fun v r=>?_
       rfl
   · rw[if_neg hc,if_pos hc,zcf]
 · obtain⟨i1,i2⟩:=hin rfl;have hl:=h3 (.inl rfl);show thn (ze4 T E L.2.2.1 L.2.2.2.1 inner p) (fun v q=>if zad vs v=true then .error (3,if inner.tag=0 then p else frm) else thn (vz T E L.2.2.1 L.2.2.2.1 (left - 1) (vs++[v]) q) fun vs q=>zch T E L.2.2.2.2 vs q)=_;rw[z2q T E L.2.2.1 L.2.2.2.1 inner p i1 i2,ku];refine zas fun x q=>?_
   simp only[qm]
   cases hp:qb L.2.2.1 L.2.2.2.1 inner x (E - q) with
   | error c=>rfl
   | ok i=>
    simp only;obtain⟨k1,k2,k3⟩:=zii i1 i2 hp;by_cases h6:i.tag=6
    · rw[if_pos h6,z2t _ _ _ _ _ _ h6,jq];by_cases ho:zad vs i.v=true
      · rw[if_pos ho,if_pos ho];rfl
      · rw[if_neg ho,if_neg ho];by_cases hl1:left=1
        · rw[if_pos hl1];subst hl1;rfl
        · rw[if_neg hl1];obtain⟨n,rfl⟩:∃n,left=n+2:=⟨left - 2,by omega⟩;show thn (vz T E L.2.2.1 L.2.2.2.1 (n+1) (vs++[i.v]) q) (fun vs q=>zch T E L.2.2.2.2 vs q)=thn (zcg T E L.2.2.1 L.2.2.2.1 q) (fun v r=>if zad (vs++[i.v]) v=true then .error (3,q) else thn (vz T E L.2.2.1 L.2.2.2.1 (n+1 - 1) (vs++[i.v]++[v]) r) fun vs q=>zch T E L.2.2.2.2 vs q);rw[vz,ku];refine zas fun v r=>?_
          split <;> rfl
    · rw[if_neg h6];show _=thn (ze4 T E L.2.2.1 L.2.2.2.1 i q) (fun v r=>if zad vs v=true then .error (3,if i.tag=0 then q else if inner.tag=0 then p else frm) else thn (vz T E L.2.2.1 L.2.2.2.1 (left - 1) (vs++[v]) r) fun vs q=>zch T E L.2.2.2.2 vs q);rw[show (if i.tag=0 then q else if inner.tag=0 then p else frm)=(if inner.tag=0 then p else frm) from if_neg (by omega)]
 · obtain⟨rfl,rfl⟩:=hno (by omega);show thn (kg T E L.2.2.2.2 p) (fun m q=>thn (vm T vs.length m [] [] q) fun s q=>zbi E (vo vs s.1 s.2) q)=_;unfold kg;rw[ku];refine zas fun x q=>?_
   simp only[qm];by_cases hc:yz x L.2.2.2.2 (E - q)=0
   · rw[if_pos hc,if_neg (fun h=>h hc),jq];by_cases hx:x=0
     · rw[if_pos hx,ztn];subst hx;rfl
     · rw[if_neg hx];rfl
   · rw[if_neg hc,if_pos hc,zcf]
 · have hl:=h3 (.inr rfl);rcases(by omega:turn=0∨turn=1∨turn=2) with rfl | rfl | rfl
   · obtain⟨n,rfl⟩:∃n,left=n+1:=⟨left - 1,by omega⟩;show thn (vm T vs.length (n+1) l ix p) (fun r q=>zbi E (vo vs r.1 r.2) q)=_;rw[vm,ivP,ku,ku];refine zas fun x q=>?_
     simp only[qm]
     cases loP (jv l) 0 x with
     | none=>rfl
     | some lo=>
      show thn (hiP T lo q) _=thn (hiP T lo q) (fun i r=>zdd T vs.length (zdc l lo) ix r fun x r=>thn (vm T vs.length (n+1 - 1) (l++[i.1]) (ix++[x]) r) fun r q=>zbi E (vo vs r.1 r.2) q);unfold hiP;rw[ku,ku];refine zas fun y r=>?_
      by_cases hb:lo+y<18446744073709551616
      · rw[if_pos hb,jq,jq,z2s];rfl
      · rw[if_neg hb];rfl
   · show thn (hiP T lo p) (fun i q=>zdd T vs.length tch ix q fun x r=>thn (vm T vs.length (left - 1) (l++[i.1]) (ix++[x]) r) fun r q=>zbi E (vo vs r.1 r.2) q)=_;unfold hiP;rw[ku];refine zas fun x q=>?_
     simp only[qm];by_cases hb:lo+x<18446744073709551616
     · rw[if_pos hb,if_pos hb];rfl
     · rw[if_neg hb,if_neg hb];rfl
   · show thn (nmP T p) (fun x r=>if vs.length≤x then .error (8,p) else if tch=true∧ix.getLast?=some x then .error (10,p) else thn (vm T vs.length (left - 1) (l++[(lo,hi)]) (ix++[x]) r) fun r q=>zbi E (vo vs r.1 r.2) q)=_;refine zas fun x q=>?_
     simp only[qm];by_cases h8:vs.length≤x
     · rw[if_pos h8,if_pos h8]
     · rw[if_neg h8,if_neg h8];by_cases h10:tch=true∧ix.getLast?=some x
       · rw[if_pos h10,if_pos h10]
       · rw[if_neg h10,if_neg h10];by_cases hl1:left=1
         · rw[if_pos hl1,ztn];subst hl1;rfl
         · rw[if_neg hl1];rfl
theorem zfx {E:Nat} {L:zt} {s s':WS} {x p q:Nat} (hI:WInv s) (h4:s.tag<4) (h:qm E L s x p q=.ok s'):WInv s':=by
 obtain⟨h1,h2,h3,hin,hfr,hno⟩:=hI
 have fin:∀t:WS,t.turn≤2→∀t',k9 E t q=.ok t'→WInv t':=fun t ht t' h=>by
  unfold k9 at h;split at h
  · cases h
  · split at h
    · cases h
    · cases h;exact⟨by simp,ht,fun h=>by simp at h,fun h=>by simp at h,fun h=>by simp at h,fun h=>by simp at h⟩
 obtain⟨tag,vs,l,ix,left,frm,inner,turn,lo,hi,tch⟩:=s;simp only at h1 h2 h3 hin h4 hfr hno;rcases(by omega:tag=0∨tag=1∨tag=2∨tag=3) with rfl | rfl | rfl | rfl <;> simp only[qm] at h
 · obtain⟨n1,n2⟩:=hno (by omega);split at h
   · cases h
   · split at h
     · cases h;exact⟨by simp,h2,fun h=>by simp at h,fun h=>by simp at h,fun h=>by simp at h,fun _=>⟨n1,n2⟩⟩
     · cases h;exact⟨by simp,h2,fun _=>by simp only;omega,fun _=>⟨by simp[ps0],fun h=>by simp[ps0] at h⟩,fun h=>by simp at h,fun _=>⟨n1,n2⟩⟩
 · obtain⟨n1,n2⟩:=hno (by omega);obtain⟨i1,i2⟩:=hin rfl;have hl:=h3 (.inl rfl)
   cases hp:qb L.2.2.1 L.2.2.2.1 inner x (E - q) with
   | error c=>rw[hp] at h;cases h
   | ok i=>
    rw[hp] at h;simp only at h;obtain⟨k1,k2,k3⟩:=zii i1 i2 hp;split at h
    · split at h
      · cases h
      · split at h
        · cases h;exact⟨by simp,h2,fun h=>by simp at h,fun h=>by simp at h,fun h=>by simp at h,fun _=>⟨n1,n2⟩⟩
        · cases h;exact⟨by simp,h2,fun _=>by simp only;omega,fun _=>⟨by simp[ps0],fun h=>by simp[ps0] at h⟩,fun h=>by simp at h,fun _=>⟨n1,n2⟩⟩
    · cases h;exact⟨by simp,h2,fun _=>hl,fun _=>⟨by simp only;omega,fun _=>k2 k3 (by omega)⟩,fun h=>by simp at h,fun _=>⟨n1,n2⟩⟩
 · split at h
   · cases h
   · split at h
     · exact fin _ h2 _ h
     · cases h;exact⟨by simp,by simp,fun _=>by simp only;omega,fun h=>by simp at h,fun h=>by simp at h,fun h=>by simp at h⟩
 · have hl:=h3 (.inr rfl);rcases(by omega:turn=0∨turn=1∨turn=2) with rfl | rfl | rfl <;> simp only at h
   · cases hq:loP (jv l) 0 x with
     | none=>rw[hq] at h;cases h
     | some lo=>rw[hq] at h;cases h;exact⟨by simp,by simp,fun _=>hl,fun h=>by simp at h,fun h=>by simp at h,fun h=>by simp at h⟩
   · split at h
     · cases h;exact⟨by simp,by simp,fun _=>hl,fun h=>by simp at h,fun h=>by simp at h,fun h=>by simp at h⟩
     · cases h
   · split at h
     · cases h
     · split at h
       · cases h
       · split at h
         · exact fin _ (by simp) _ h
         · cases h;exact⟨by simp,by simp,fun _=>by simp only;omega,fun h=>by simp at h,fun h=>by simp at h,fun h=>by simp at h⟩
theorem zto:WInv ws0:=⟨by simp[ws0],by simp[ws0],fun h=>by simp[ws0] at h,fun h=>by simp[ws0] at h,fun _=>rfl,fun _=>⟨rfl,rfl⟩⟩
end
end Go.Proofs.YtdnjfnofjaoajaaGreatDoor
