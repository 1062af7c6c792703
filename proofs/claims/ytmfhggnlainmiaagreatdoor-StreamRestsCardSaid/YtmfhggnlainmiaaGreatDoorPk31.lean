/- Part 31. -/
import Derived.Laws.Runes
import Derived.Test.YtmfhggnlainmiaaGreatDoorPk03
set_option linter.unusedVariables false
namespace Go.Proofs.YtmfhggnlainmiaaGreatDoor
section
open Go.RowKit Go.Extern.Stop Go.Stop Go.Extern
theorem Tryz.typeOfN (v:Value) (w:World):(ReflectliteType.typeOf #[.iface 176 v]).run Tryz.prog w=.ok (.iface 272 (.agg #[.pointer (some ⟨2,176,none⟩)])) w:=by kernel_rfl
theorem Tryz.assignableNE (w:World):(ReflectliteType.relation "AssignableTo" ReflectliteType.assignableTo #[.agg #[.pointer (some ⟨2,176,none⟩)],.iface 272 (.agg #[.pointer (some ⟨2,27,none⟩)])]).run Tryz.prog w=.ok (.bool false) w:=by kernel_rfl
theorem Tryz.assignableNF (w:World):(ReflectliteType.relation "AssignableTo" ReflectliteType.assignableTo #[.agg #[.pointer (some ⟨2,176,none⟩)],.iface 272 (.agg #[.pointer (some ⟨2,110,none⟩)])]).run Tryz.prog w=.ok (.bool false) w:=by kernel_rfl
theorem Tryz.asAsN (v:Value) (xT:TypeId) (w:World):(Instr.typeAssert (.iface 176 v) xT 277 true).run Tryz.prog w=.ok (.tuple #[.nilIface,.bool false]) w:=
 run_typeAssert_lacksB Tryz.underlying277 (by kernel_rfl) (by kernel_rfl) v xT w
theorem Tryz.asUnN (v:Value) (xT:TypeId) (w:World):(Instr.typeAssert (.iface 176 v) xT 280 true).run Tryz.prog w=.ok (.tuple #[.iface 176 v,.bool true]) w:=
 run_typeAssert_hasB Tryz.underlying280 (by kernel_rfl) v xT w
theorem Tryz.methodUnN (v:Value) (w:World):(Go.method 553 176 v "Unwrap").run Tryz.prog w=.ok (366,v) w:=by kernel_rfl
theorem zpa (s:ByteArray) (x:Value) (w:World):Calls Tryz.prog 366 #[.agg #[.string s,x]] w fun e w'=>e=.returned x∧w'=w.alloc (.cells #[.string s,x] 176):=by
 go_enter Tryz.func366,Tryz.ntmps366;go_wp2;go_ret;exact⟨rfl,rfl⟩
def zcs (s:ByteArray) (c a:Int):Value:=.iface 176 (.agg #[.string s,.iface 110 (.agg #[.int .i64 c,.int .i64 a])])
theorem zs7 (s:ByteArray) (c a:Int) (w:World):
 Calls Tryz.prog 63 #[.string s,.iface 110 (.agg #[.int .i64 c,.int .i64 a])] w fun e w'=>e=.returned (zcs s c a)∧Below w.heap.size w w':=by
 go_enter Tryz.func63,Tryz.ntmps63;go_wp2;go_ret;exact⟨rfl,by first | exact Below.refl _ _ | exact(Below.refl _ _).alloc (Nat.le_refl _) _⟩
end
section
open Go.RowKit
theorem zs8 (c a:Int) (w:World) (h:c≠0):Calls Tryz.prog 64 #[.int .i64 c,.int .i64 a] w fun e w'=>e=.returned (.iface 110 (.agg #[.int .i64 c,.int .i64 a]))∧w=w':=
 (zaf c a w).mono fun e w' ⟨h1,h2⟩=>⟨by rw[h1];unfold zfr;rw[if_neg h];rfl,h2⟩
