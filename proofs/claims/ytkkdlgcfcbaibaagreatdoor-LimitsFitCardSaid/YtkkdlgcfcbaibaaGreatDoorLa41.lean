/- Walks and laws, joined: La41. -/
import Derived.Laws.Runes
import Derived.Test.YtkkdlgcfcbaibaaGreatDoorLa02
import Derived.Test.YtkkdlgcfcbaibaaGreatDoorLa39
set_option linter.unusedVariables false
namespace Go.Proofs.YtkkdlgcfcbaibaaGreatDoor
section
open Go.RowKit Go.Extern.Stop Go.Stop Go.Extern
theorem Tryz.typeOfN (v : Value) (w : World) : (ReflectliteType.typeOf #[.iface 148 v]).run Tryz.prog w = .ok (.iface 186 (.agg #[.pointer (some ⟨2, 148, none⟩)])) w := by kernel_rfl
theorem Tryz.assignableNE (w : World) : (ReflectliteType.relation "AssignableTo" ReflectliteType.assignableTo #[.agg #[.pointer (some ⟨2, 148, none⟩)], .iface 186 (.agg #[.pointer (some ⟨2, 50, none⟩)])]).run Tryz.prog w = .ok (.bool false) w := by kernel_rfl
theorem Tryz.assignableNF (w : World) : (ReflectliteType.relation "AssignableTo" ReflectliteType.assignableTo #[.agg #[.pointer (some ⟨2, 148, none⟩)], .iface 186 (.agg #[.pointer (some ⟨2, 99, none⟩)])]).run Tryz.prog w = .ok (.bool false) w := by kernel_rfl
theorem Tryz.asAsN (v : Value) (xT : TypeId) (w : World) : (Instr.typeAssert (.iface 148 v) xT 190 true).run Tryz.prog w = .ok (.tuple #[.nilIface, .bool false]) w :=
 run_typeAssert_lacksB Tryz.underlying190 (by kernel_rfl) (by kernel_rfl) v xT w
theorem Tryz.asUnN (v : Value) (xT : TypeId) (w : World) : (Instr.typeAssert (.iface 148 v) xT 193 true).run Tryz.prog w = .ok (.tuple #[.iface 148 v, .bool true]) w :=
 run_typeAssert_hasB Tryz.underlying193 (by kernel_rfl) v xT w
theorem Tryz.methodUnN (v : Value) (w : World) : (Go.method 420 148 v "Unwrap").run Tryz.prog w = .ok (266, v) w := by kernel_rfl
theorem unwrapN (s : ByteArray) (x : Value) (w : World) : Calls Tryz.prog 266 #[.agg #[.string s, x]] w fun e w' => e = .returned x ∧ w' = w.alloc (.cells #[.string s, x] 148) := by
 go_enter Tryz.func266, Tryz.ntmps266
 go_wp2
 go_ret
 exact ⟨rfl, rfl⟩
set_option maxHeartbeats 8000000 in
theorem as_NE (s : ByteArray) (c a : Int) (t A : Addr) (old : Value) (w : World) (hA : w.cell? A = some (.pointer (some t))) (ht : w.cell? t = some old) (hf : w.frozen? t = false) :
 Calls Tryz.prog 92 #[.iface 148 (.agg #[.string s, .iface 99 (.agg #[.int .i64 c, .int .i64 a])]), .iface 97 (.pointer (some t)), .agg #[.pointer (some ⟨2, 97, none⟩), .pointer (some A), .int .u64 150], .iface 186 (.agg #[.pointer (some ⟨2, 50, none⟩)])] w
  fun e w' => e = .returned (.bool true) ∧ w.grownBy w' (some t.block) ∧ w'.cell? t = some (.int .i64 c) := by
 have hTO := @run_callFunc_extern Tryz.prog 133 _ ReflectliteType.typeOf Tryz.func133 (by kernel_rfl) (by kernel_rfl) (by kernel_rfl) (by kernel_rfl)
 have hAT := @run_callFunc_extern Tryz.prog 268 _ (ReflectliteType.relation "AssignableTo" ReflectliteType.assignableTo) Tryz.func268 (by kernel_rfl) (by kernel_rfl) (by kernel_rfl) (by kernel_rfl)
 have hEl := @run_callFunc_extern Tryz.prog 136 _ (ReflectliteValue.method (ReflectliteValue.valueError "reflectlite.Value.Elem" 0) ReflectliteValue.elem) Tryz.func136 (by kernel_rfl) (by kernel_rfl) (by kernel_rfl) (by kernel_rfl)
 have hVO := @run_callFunc_extern Tryz.prog 89 _ (fun args => ReflectliteValue.unpack (args.getD 0 (.tuple #[]))) Tryz.func89 (by kernel_rfl) (by kernel_rfl) (by kernel_rfl) (by kernel_rfl)
 have hSt := @run_callFunc_extern Tryz.prog 137 _ ReflectliteValue.set Tryz.func137 (by kernel_rfl) (by kernel_rfl) (by kernel_rfl) (by kernel_rfl)
 have tO := Tryz.typeOfE
 have tO2 := Tryz.typeOfF
 have tO3 := Tryz.typeOfN
 have mA := Tryz.methodAssignableTo
 have aEE := Tryz.assignableEE
 have aFE := Tryz.assignableFE
 have aNE := Tryz.assignableNE
 have s1 := Tryz.asAsF
 have s2 := Tryz.asUnF
 have s3 := Tryz.asAsN
 have s4 := Tryz.asUnN
 have mU := Tryz.methodUnF
 have mN := Tryz.methodUnN
 have vE := Tryz.valueOfE
 have hAl : A.block < w.heap.size := cell_lt hA
 have htl : t.block < w.heap.size := cell_lt ht
 have hA2 : (((w.alloc (.cells #[.pointer (some ⟨2, 97, none⟩), .pointer (some A), .int .u64 150] 136)).alloc (.cells #[.string s, .iface 99 (.agg #[.int .i64 c, .int .i64 a])] 148)).alloc (.cells #[.int .i64 c, .int .i64 a] 99)).cell? A = some (.pointer (some t)) := by
  rw [World.cell?_alloc_lt _ _ A (by simp; omega), World.cell?_alloc_lt _ _ A (by simp; omega), World.cell?_alloc_lt _ _ A hAl]; exact hA
 have ht2 : (((w.alloc (.cells #[.pointer (some ⟨2, 97, none⟩), .pointer (some A), .int .u64 150] 136)).alloc (.cells #[.string s, .iface 99 (.agg #[.int .i64 c, .int .i64 a])] 148)).alloc (.cells #[.int .i64 c, .int .i64 a] 99)).cell? t = some old := by
  rw [World.cell?_alloc_lt _ _ t (by simp; omega), World.cell?_alloc_lt _ _ t (by simp; omega), World.cell?_alloc_lt _ _ t htl]; exact ht
 have hf2 : (((w.alloc (.cells #[.pointer (some ⟨2, 97, none⟩), .pointer (some A), .int .u64 150] 136)).alloc (.cells #[.string s, .iface 99 (.agg #[.int .i64 c, .int .i64 a])] 148)).alloc (.cells #[.int .i64 c, .int .i64 a] 99)).frozen? t = false := by
  rw [World.frozen?_alloc_old _ _ t (by simp; omega), World.frozen?_alloc_old _ _ t (by simp; omega), World.frozen?_alloc_old _ _ t (Nat.ne_of_lt htl)]; exact hf
 have el := Tryz.elemVPE A t (((w.alloc (.cells #[.pointer (some ⟨2, 97, none⟩), .pointer (some A), .int .u64 150] 136)).alloc (.cells #[.string s, .iface 99 (.agg #[.int .i64 c, .int .i64 a])] 148)).alloc (.cells #[.int .i64 c, .int .i64 a] 99)) hA2
 have st := Tryz.setE t ⟨w.heap.size + 1 + 1 + 1, 0, none⟩ c old ((((w.alloc (.cells #[.pointer (some ⟨2, 97, none⟩), .pointer (some A), .int .u64 150] 136)).alloc (.cells #[.string s, .iface 99 (.agg #[.int .i64 c, .int .i64 a])] 148)).alloc (.cells #[.int .i64 c, .int .i64 a] 99)).alloc (.cells #[.int .i64 c] 50))
  (by rw [World.cell?_alloc_at _ _ _ _ (by simp)]; rfl)
  (by rw [World.cell?_alloc_lt _ _ t (by simp; omega)]; exact ht2)
  (by rw [World.frozen?_alloc_old _ _ t (by simp; omega)]; exact hf2)
 have hc2 : (((((w.alloc (.cells #[.pointer (some ⟨2, 97, none⟩), .pointer (some A), .int .u64 150] 136)).alloc (.cells #[.string s, .iface 99 (.agg #[.int .i64 c, .int .i64 a])] 148)).alloc (.cells #[.int .i64 c, .int .i64 a] 99)).alloc (.cells #[.int .i64 c] 50)).setCell t (.int .i64 c)).cell? t = some (.int .i64 c) :=
  World.cell?_setCell_same _ _ _ (by rw [World.cell?_alloc_lt _ _ t (by simp; omega)]; exact ht2)
 have Hc2 := Lib.hid hc2; clear hc2 hA2 ht2 hf2
 go_enter Tryz.func92, Tryz.ntmps92
 go_wp2
 refine wp_loop_rounds 3 ?_
 rw [rounds_succ]
 go_wp2_with fail
 refine (unwrapN s _ _).mono ?_
 rintro e w' ⟨rfl, rfl⟩
 go_wp2_with fail
 rw [rounds_succ]
 go_wp2_with fail
 refine (unwrapF c a _).mono ?_
 rintro e w' ⟨rfl, rfl⟩
 go_wp2_with fail
 rw [rounds_succ]
 go_wp2_with fail
 go_ret
 exact ⟨rfl, grownBy_trans (grownBy_trans (grownBy_trans (grownBy_trans (World.grownBy_alloc _ _ _) (World.grownBy_alloc _ _ _)) (World.grownBy_alloc _ _ _)) (World.grownBy_alloc _ _ _)) (grownBy_set _ _ _), Hc2.out⟩
set_option maxHeartbeats 8000000 in
theorem as_NF (s : ByteArray) (c a : Int) (tb : Nat) (A : Addr) (o1 o2 : Value) (w : World) (hA : w.cell? A = some (.pointer (some ⟨tb, 0, none⟩))) (ht0 : w.cell? ⟨tb, 0, none⟩ = some o1) (ht1 : w.cell? ⟨tb, 1, none⟩ = some o2)
 (hf0 : w.frozen? ⟨tb, 0, none⟩ = false) (hf1 : w.frozen? ⟨tb, 1, none⟩ = false) :
 Calls Tryz.prog 92 #[.iface 148 (.agg #[.string s, .iface 99 (.agg #[.int .i64 c, .int .i64 a])]), .iface 113 (.pointer (some ⟨tb, 0, none⟩)), .agg #[.pointer (some ⟨2, 113, none⟩), .pointer (some A), .int .u64 150], .iface 186 (.agg #[.pointer (some ⟨2, 99, none⟩)])] w
  fun e w' => e = .returned (.bool true) ∧ w.grownBy w' (some tb) ∧ w'.cell? ⟨tb, 0, none⟩ = some (.int .i64 c) ∧ w'.cell? ⟨tb, 1, none⟩ = some (.int .i64 a) := by
 have hTO := @run_callFunc_extern Tryz.prog 133 _ ReflectliteType.typeOf Tryz.func133 (by kernel_rfl) (by kernel_rfl) (by kernel_rfl) (by kernel_rfl)
 have hAT := @run_callFunc_extern Tryz.prog 268 _ (ReflectliteType.relation "AssignableTo" ReflectliteType.assignableTo) Tryz.func268 (by kernel_rfl) (by kernel_rfl) (by kernel_rfl) (by kernel_rfl)
 have hEl := @run_callFunc_extern Tryz.prog 136 _ (ReflectliteValue.method (ReflectliteValue.valueError "reflectlite.Value.Elem" 0) ReflectliteValue.elem) Tryz.func136 (by kernel_rfl) (by kernel_rfl) (by kernel_rfl) (by kernel_rfl)
 have hVO := @run_callFunc_extern Tryz.prog 89 _ (fun args => ReflectliteValue.unpack (args.getD 0 (.tuple #[]))) Tryz.func89 (by kernel_rfl) (by kernel_rfl) (by kernel_rfl) (by kernel_rfl)
 have hSt := @run_callFunc_extern Tryz.prog 137 _ ReflectliteValue.set Tryz.func137 (by kernel_rfl) (by kernel_rfl) (by kernel_rfl) (by kernel_rfl)
 have tO := Tryz.typeOfF
 have tN := Tryz.typeOfN
 have mA := Tryz.methodAssignableTo
 have aFF := Tryz.assignableFF
 have aNF := Tryz.assignableNF
 have s3 := Tryz.asAsN
 have s4 := Tryz.asUnN
 have mN := Tryz.methodUnN
 have vF := Tryz.valueOfF
 have hAl : A.block < w.heap.size := cell_lt hA
 have htl : tb < w.heap.size := cell_lt ht0
 have el := Tryz.elemVPF A ⟨tb, 0, none⟩ ((w.alloc (.cells #[.pointer (some ⟨2, 113, none⟩), .pointer (some A), .int .u64 150] 136)).alloc (.cells #[.string s, .iface 99 (.agg #[.int .i64 c, .int .i64 a])] 148)) (by rw [World.cell?_alloc_lt _ _ A (by simp; omega), World.cell?_alloc_lt _ _ A hAl]; exact hA)
 have h0 : (((w.alloc (.cells #[.pointer (some ⟨2, 113, none⟩), .pointer (some A), .int .u64 150] 136)).alloc (.cells #[.string s, .iface 99 (.agg #[.int .i64 c, .int .i64 a])] 148)).alloc (.cells #[.int .i64 c, .int .i64 a] 99)).cell? ⟨tb, 0, none⟩ = some o1 := by rw [World.cell?_alloc_lt _ _ ⟨tb, 0, none⟩ (by simp; omega), World.cell?_alloc_lt _ _ ⟨tb, 0, none⟩ (by simp; omega), World.cell?_alloc_lt _ _ ⟨tb, 0, none⟩ htl]; exact ht0
 have h1 : (((w.alloc (.cells #[.pointer (some ⟨2, 113, none⟩), .pointer (some A), .int .u64 150] 136)).alloc (.cells #[.string s, .iface 99 (.agg #[.int .i64 c, .int .i64 a])] 148)).alloc (.cells #[.int .i64 c, .int .i64 a] 99)).cell? ⟨tb, 1, none⟩ = some o2 := by rw [World.cell?_alloc_lt _ _ ⟨tb, 1, none⟩ (by simp; omega), World.cell?_alloc_lt _ _ ⟨tb, 1, none⟩ (by simp; omega), World.cell?_alloc_lt _ _ ⟨tb, 1, none⟩ htl]; exact ht1
 have g0 : (((w.alloc (.cells #[.pointer (some ⟨2, 113, none⟩), .pointer (some A), .int .u64 150] 136)).alloc (.cells #[.string s, .iface 99 (.agg #[.int .i64 c, .int .i64 a])] 148)).alloc (.cells #[.int .i64 c, .int .i64 a] 99)).frozen? ⟨tb, 0, none⟩ = false := by rw [World.frozen?_alloc_old _ _ ⟨tb, 0, none⟩ (by simp; omega), World.frozen?_alloc_old _ _ ⟨tb, 0, none⟩ (by simp; omega), World.frozen?_alloc_old _ _ ⟨tb, 0, none⟩ (Nat.ne_of_lt htl)]; exact hf0
 have g1 : (((w.alloc (.cells #[.pointer (some ⟨2, 113, none⟩), .pointer (some A), .int .u64 150] 136)).alloc (.cells #[.string s, .iface 99 (.agg #[.int .i64 c, .int .i64 a])] 148)).alloc (.cells #[.int .i64 c, .int .i64 a] 99)).frozen? ⟨tb, 1, none⟩ = false := by rw [World.frozen?_alloc_old _ _ ⟨tb, 1, none⟩ (by simp; omega), World.frozen?_alloc_old _ _ ⟨tb, 1, none⟩ (by simp; omega), World.frozen?_alloc_old _ _ ⟨tb, 1, none⟩ (Nat.ne_of_lt htl)]; exact hf1
 have st := Tryz.setF tb (w.heap.size + 1 + 1) c a o1 o2 (((w.alloc (.cells #[.pointer (some ⟨2, 113, none⟩), .pointer (some A), .int .u64 150] 136)).alloc (.cells #[.string s, .iface 99 (.agg #[.int .i64 c, .int .i64 a])] 148)).alloc (.cells #[.int .i64 c, .int .i64 a] 99)) (by rw [World.cell?_alloc_at _ _ _ _ (by simp)]; rfl) (by rw [World.cell?_alloc_at _ _ _ _ (by simp)]; rfl) h0 h1 g0 g1
 have hc0 : (((((w.alloc (.cells #[.pointer (some ⟨2, 113, none⟩), .pointer (some A), .int .u64 150] 136)).alloc (.cells #[.string s, .iface 99 (.agg #[.int .i64 c, .int .i64 a])] 148)).alloc (.cells #[.int .i64 c, .int .i64 a] 99)).setCell ⟨tb, 0, none⟩ (.int .i64 c)).setCell ⟨tb, 1, none⟩ (.int .i64 a)).cell? ⟨tb, 0, none⟩ = some (.int .i64 c) := by
  rw [World.cell?_setCell_other _ _ _ _ (by simp)]
  exact World.cell?_setCell_same _ _ _ h0
 have hc1 : (((((w.alloc (.cells #[.pointer (some ⟨2, 113, none⟩), .pointer (some A), .int .u64 150] 136)).alloc (.cells #[.string s, .iface 99 (.agg #[.int .i64 c, .int .i64 a])] 148)).alloc (.cells #[.int .i64 c, .int .i64 a] 99)).setCell ⟨tb, 0, none⟩ (.int .i64 c)).setCell ⟨tb, 1, none⟩ (.int .i64 a)).cell? ⟨tb, 1, none⟩ = some (.int .i64 a) :=
  World.cell?_setCell_same _ _ _ (by rw [World.cell?_setCell_other _ _ _ _ (by simp)]; exact h1)
 have Hc0 := Lib.hid hc0; clear hc0 h0 h1 g0 g1
 have Hc1 := Lib.hid hc1; clear hc1
 go_enter Tryz.func92, Tryz.ntmps92
 go_wp2
 refine wp_loop_rounds 2 ?_
 rw [rounds_succ]
 go_wp2_with fail
 refine (unwrapN s _ _).mono ?_
 rintro e w' ⟨rfl, rfl⟩
 go_wp2_with fail
 rw [rounds_succ]
 go_wp2_with fail
 go_ret
 exact ⟨rfl, grownBy_trans (grownBy_trans (grownBy_trans (grownBy_trans (World.grownBy_alloc _ _ _) (World.grownBy_alloc _ _ _)) (World.grownBy_alloc _ _ _)) (grownBy_set _ ⟨tb, 0, none⟩ _)) (grownBy_set _ ⟨tb, 1, none⟩ _), Hc0.out, Hc1.out⟩
def namV (s : ByteArray) (c a : Int) : Value := .iface 148 (.agg #[.string s, .iface 99 (.agg #[.int .i64 c, .int .i64 a])])
set_option maxHeartbeats 1000000 in
theorem codeN_any (s : ByteArray) (c a : Int) (w : World) (hD : Door w) :
 Calls Tryz.prog 23 #[namV s c a] w fun e w' => e = .returned (.int .i64 c) ∧ Below w.heap.size w w' := by
 have hD' := Lib.hid (fun o => hD.below (Nat.le_refl _) ((Below.refl _ w).alloc (Nat.le_refl _) o))
 clear hD
 unfold namV
 go_enter Tryz.func23, Tryz.ntmps23
 go_wp2_with fail
 refine As_E _ _ _ _ (hD'.out _) (by simp) _ ?_
 intro w1 A hb hA hAs
 have hb2 : Below w.heap.size w w1 := ((Below.refl _ _).alloc (Nat.le_refl _) _).trans (hb.mono (by simp))
 have hc : w1.cell? ⟨w.heap.size, 0, none⟩ = some (.int .i64 0) := by rw [hb.cell (p := ⟨w.heap.size, 0, none⟩) (by simp)]; simp
 have hf : w1.frozen? ⟨w.heap.size, 0, none⟩ = false := by rw [hb.frozen (p := ⟨w.heap.size, 0, none⟩) (by simp)]; simp
 refine (as_NE s c a ⟨w.heap.size, 0, none⟩ A _ w1 hA hc hf).mono ?_
 rintro e w2 ⟨rfl, hg, hc2⟩
 refine ⟨true, rfl, ?_⟩
 have hb3 := below_of_grown hb2 (Nat.le_refl _) hg
 clear hg hc hf hb hb2 hA hAs
 go_wp2_with fail
 go_ret
 exact ⟨rfl, hb3⟩
set_option maxHeartbeats 1000000 in
theorem findN_any (s : ByteArray) (c a : Int) (w : World) (hD : Door w) :
 Calls Tryz.prog 53 #[namV s c a] w fun e w' => e = .returned (.tuple #[.agg #[.int .i64 c, .int .i64 a], .bool true]) ∧ Below w.heap.size w w' := by
 have hD' := Lib.hid (fun o1 o2 => hD.below (Nat.le_refl _) (((Below.refl _ w).alloc (Nat.le_refl _) o1).alloc (by simp) o2))
 clear hD
 unfold namV
 go_enter Tryz.func53, Tryz.ntmps53
 go_wp2_with fail
 refine As_F _ _ _ _ (hD'.out _ _) (by simp) _ ?_
 intro w1 A hb hA hAs
 have hb2 : Below w.heap.size w w1 := (((Below.refl _ _).alloc (Nat.le_refl _) _).alloc (by simp) _).trans (hb.mono (by simp; omega))
 have hz := hb.size
 have hc0 : w1.cell? ⟨w.heap.size + 1, 0, none⟩ = some (.int .i64 0) := by rw [hb.cell (p := ⟨w.heap.size + 1, 0, none⟩) (by simp)]; go_simp
 have hc1 : w1.cell? ⟨w.heap.size + 1, 1, none⟩ = some (.int .i64 0) := by rw [hb.cell (p := ⟨w.heap.size + 1, 1, none⟩) (by simp)]; go_simp
 have hg0 : w1.frozen? ⟨w.heap.size + 1, 0, none⟩ = false := by rw [hb.frozen (p := ⟨w.heap.size + 1, 0, none⟩) (by simp)]; go_simp
 have hg1 : w1.frozen? ⟨w.heap.size + 1, 1, none⟩ = false := by rw [hb.frozen (p := ⟨w.heap.size + 1, 1, none⟩) (by simp)]; go_simp
 have hr0 : w1.cell? ⟨w.heap.size, 0, none⟩ = some (.int .i64 0) := by rw [hb.cell (p := ⟨w.heap.size, 0, none⟩) (by simp; omega)]; go_simp
 have hr1 : w1.cell? ⟨w.heap.size, 1, none⟩ = some (.int .i64 0) := by rw [hb.cell (p := ⟨w.heap.size, 1, none⟩) (by simp; omega)]; go_simp
 have hf0 : w1.frozen? ⟨w.heap.size, 0, none⟩ = false := by rw [hb.frozen (p := ⟨w.heap.size, 0, none⟩) (by simp; omega)]; go_simp
 have hf1 : w1.frozen? ⟨w.heap.size, 1, none⟩ = false := by rw [hb.frozen (p := ⟨w.heap.size, 1, none⟩) (by simp; omega)]; go_simp
 refine (as_NF s c a (w.heap.size + 1) A _ _ w1 hA hc0 hc1 hg0 hg1).mono ?_
 rintro e w2 ⟨rfl, hg, hc0', hc1'⟩
 refine ⟨true, rfl, ?_⟩
 have hb3 := below_of_grown hb2 (by omega) hg
 have keep : ∀ p : Addr, p.block < w1.heap.size → p.block ≠ w.heap.size + 1 → w2.cell? p = w1.cell? p := fun p hp hne => World.cell?_of_block (hg.block _ hp (by simpa using hne))
 have kfree : ∀ p : Addr, p.block < w1.heap.size → p.block ≠ w.heap.size + 1 → w2.frozen? p = w1.frozen? p := fun p hp hne => World.frozen?_of_block (hg.block _ hp (by simpa using hne))
 have hr0' := (keep ⟨w.heap.size, 0, none⟩ (cell_lt hr0) (by simp)).trans hr0
 have hr1' := (keep ⟨w.heap.size, 1, none⟩ (cell_lt hr1) (by simp)).trans hr1
 have hf0' := (kfree ⟨w.heap.size, 0, none⟩ (cell_lt hr0) (by simp)).trans hf0
 have hf1' := (kfree ⟨w.heap.size, 1, none⟩ (cell_lt hr1) (by simp)).trans hf1
 clear keep kfree hg hg0 hg1 hc0 hc1 hr0 hr1 hf0 hf1 hb hb2 hA hAs hz
 go_wp2_with fail
 exact bodyPost_ret (v := .tuple #[.agg #[.int .i64 c, .int .i64 a], .bool true]) (by simp [results, Tryz.results53, go_sem, hr0', hr1']) rfl ⟨rfl, (hb3.setCell (p := ⟨w.heap.size, 0, none⟩) (Nat.le_refl _) _).setCell (p := ⟨w.heap.size, 1, none⟩) (Nat.le_refl _) _⟩
theorem atN_any (s : ByteArray) (c a : Int) (w : World) (hD : Door w) :
 Calls Tryz.prog 24 #[namV s c a] w fun e w' => e = .returned (.int .i64 a) ∧ Below w.heap.size w w' := by
 have HC := Lib.hid (findN_any s c a w hD)
 clear hD
 unfold namV at HC ⊢
 go_enter Tryz.func24, Tryz.ntmps24
 go_wp2_with fail
 refine HC.out.mono ?_
 rintro e w1 ⟨rfl, hb⟩
 go_wp2_with fail
 go_ret
 exact ⟨rfl, hb.alloc hb.size _⟩
theorem wrapF_any (s : ByteArray) (c a : Int) (w : World) :
 Calls Tryz.prog 56 #[.string s, .iface 99 (.agg #[.int .i64 c, .int .i64 a])] w fun e w' => e = .returned (namV s c a) ∧ Below w.heap.size w w' := by
 go_enter Tryz.func56, Tryz.ntmps56
 go_wp2
 go_ret
 exact ⟨rfl, by first | exact Below.refl _ _ | exact (Below.refl _ _).alloc (Nat.le_refl _) _⟩
end
section
open Go.RowKit
def codeTxt (c : Int) : ByteArray := ⟨#[101, 114, 114, 111, 114, 32]⟩ ++ Utf8.encode (48 + c) ++ ⟨#[]⟩
theorem enc_size (c : Int) (h0 : 0 ≤ c) (h9 : c ≤ 9) : (Utf8.encode (48 + c)).size = 1 := by
 rcases (by omega : c = 0 ∨ c = 1 ∨ c = 2 ∨ c = 3 ∨ c = 4 ∨ c = 5 ∨ c = 6 ∨ c = 7 ∨ c = 8 ∨ c = 9) with rfl | rfl | rfl | rfl | rfl | rfl | rfl | rfl | rfl | rfl <;> rfl
theorem codeTxt_size (c : Int) (h0 : 0 ≤ c) (h9 : c ≤ 9) : (codeTxt c).size = 7 := by
 unfold codeTxt
 rw [ByteArray.size_append, ByteArray.size_append, enc_size c h0 h9]
 rfl
set_option maxHeartbeats 1000000 in
theorem errnoText_any (c : Int) (w : World) (h0 : 0 ≤ c) (h9 : c ≤ 9) : Calls Tryz.prog 32 #[.int .i64 c] w fun e w' => e = .returned (.string (codeTxt c)) ∧ w = w' := by
 have hd1 : decide (c < 0) = false := by rw [decide_eq_false_iff_not]; omega
 have hd2 : decide (9 < c) = false := by rw [decide_eq_false_iff_not]; omega
 have hz := enc_size c h0 h9
 go_enter Tryz.func32, Tryz.ntmps32
 go_wp2
 refine wp_loop_rounds 1 ?_
 rw [rounds_succ]
 go_wp2
 go_ret
 exact ⟨rfl, rfl⟩
theorem Tryz.methodErF (v : Value) (w : World) : (Go.method 420 99 v "Error").run Tryz.prog w = .ok (260, v) w := by kernel_rfl
theorem Tryz.methodErN (v : Value) (w : World) : (Go.method 420 148 v "Error").run Tryz.prog w = .ok (265, v) w := by kernel_rfl
theorem faultText_any (c a : Int) (w : World) (h0 : 0 ≤ c) (h9 : c ≤ 9) : Calls Tryz.prog 260 #[.agg #[.int .i64 c, .int .i64 a]] w fun e w' => e = .returned (.string (codeTxt c)) ∧ Below w.heap.size w w' := by
 go_enter Tryz.func260, Tryz.ntmps260
 go_wp2_with fail
 refine (errnoText_any c _ h0 h9).mono ?_
 rintro e w1 ⟨rfl, rfl⟩
 go_wp2
 go_ret
 exact ⟨rfl, (Below.refl _ _).alloc (Nat.le_refl _) _⟩
abbrev limitsS : ByteArray := ⟨#[108, 105, 109, 105, 116, 115]⟩
set_option maxHeartbeats 1000000 in
theorem namedText_any (s : ByteArray) (c a : Int) (w : World) (h0 : 0 ≤ c) (h9 : c ≤ 9) (hs : s.size ≤ 1000) :
 Calls Tryz.prog 265 #[.agg #[.string s, .iface 99 (.agg #[.int .i64 c, .int .i64 a])]] w fun e w' => e = .returned (.string (s ++ ⟨#[58, 32]⟩ ++ codeTxt c)) ∧ Below w.heap.size w w' := by
 have hz := codeTxt_size c h0 h9
 have hT := Lib.hid (fun W => faultText_any c a W h0 h9)
 have mE := Tryz.methodErF (.agg #[.int .i64 c, .int .i64 a])
 have hal : Below w.heap.size w (w.alloc (.cells #[.string s, .iface 99 (.agg #[.int .i64 c, .int .i64 a])] 148)) := (Below.refl _ _).alloc (Nat.le_refl _) _
 have HX := Lib.hid (box2 w (.string s) (.iface 99 (.agg #[.int .i64 c, .int .i64 a])) 148)
 have Hal := Lib.hid hal
 clear hal h0 h9
 go_enter Tryz.func265, Tryz.ntmps265
 go_wp2_with fail
 generalize w.alloc (.cells #[.string s, .iface 99 (.agg #[.int .i64 c, .int .i64 a])] 148) = W at *
 refine wp_region_below (by kernel_rfl) (by kernel_rfl) ?_
 repeat (go_big_quiet_step ((intro hw; first
  | rfl
  | (go_at_call 260; exact keep_below hw (hT.out _))
  | (obtain ⟨y1, y2⟩ := HX.out _ hw
     go_simp
     first | rfl | exact ⟨rfl, hw⟩ | (trace_state; fail)))))
 refine wpQuiet_nil ?_
 intro w3 hb3
 go_wp2
 go_ret
 exact ⟨rfl, Hal.out.trans (hb3.mono Hal.out.size)⟩
set_option maxRecDepth 20000 in
set_option maxHeartbeats 4000000 in
theorem leastErr_any (a : Option Addr) (n cap : Nat) (k : Kno) (w : World) (c i : Nat) (hE : Frags w a n cap k) (hD : Door w) (hck : ckF k = some (c, i)) :
 Calls Tryz.prog 30 #[.slice a n cap] w fun x w' => x = .returned (.tuple #[.agg #[.int .i64 0, .int .i64 0, .int .i64 0, .int .i64 0, .int .i64 0], namV limitsS c i]) ∧ Below w.heap.size w w' := by
 have hC := fun w' (h : Below w.heap.size w w') => scoCheck_any a n cap k w' (hE.below h) (hD.below (Nat.le_refl _) h)
 rw [hck] at hC
 simp only [errOf, errVal] at hC
 have HC := Lib.hid hC
 have hR := World.ownsRow_lit (e := 47) (size := 5) (base := w.heap.size) w #[.int .i64 0, .int .i64 0, .int .i64 0, .int .i64 0, .int .i64 0] 1 (Nat.le_refl _) (by unfold maxLen; omega) rfl
 have hal : Below w.heap.size w (w.alloc (.cells #[.int .i64 0, .int .i64 0, .int .i64 0, .int .i64 0, .int .i64 0] 47)) := (Below.refl _ _).alloc (Nat.le_refl _) _
 have HR := Lib.hid hR
 have Hal := Lib.hid hal
 clear hC hE hD hck hR hal
 go_enter Tryz.func30, Tryz.ntmps30
 go_wp2_with fail
 generalize w.alloc (.cells #[.int .i64 0, .int .i64 0, .int .i64 0, .int .i64 0, .int .i64 0] 47) = W at *
 refine (HC.out _ Hal.out).mono ?_
 rintro e w0 ⟨rfl, hb0⟩
 have HR0 := Lib.hid (own_below HR.out hb0)
 have Hb0 := Lib.hid (Hal.out.trans (hb0.mono Hal.out.size)); clear hb0 HR
 go_wp2_with fail
 refine (wrapF_any limitsS c i _).mono ?_
 rintro e w1 ⟨rfl, hb1⟩
 have hR5 := own_below HR0.out hb1
 have Hb5 := Lib.hid (Hb0.out.trans (hb1.mono Hb0.out.size)); clear hb1 HR0
 have r0 := hR5.cells (g := w.heap.size) rfl 0 _ rfl
 have r1 := hR5.cells (g := w.heap.size) rfl 1 _ rfl
 have r2 := hR5.cells (g := w.heap.size) rfl 2 _ rfl
 have r3 := hR5.cells (g := w.heap.size) rfl 3 _ rfl
 have r4 := hR5.cells (g := w.heap.size) rfl 4 _ rfl
 rw [add_at] at r0 r1 r2 r3 r4
 simp only [Nat.zero_add] at r0 r1 r2 r3 r4
 have f0 := own_frozen hR5 0
 have f1 := own_frozen hR5 1
 have f2 := own_frozen hR5 2
 have f3 := own_frozen hR5 3
 have f4 := own_frozen hR5 4
 clear hR5
 go_wp2_with fail
 refine bodyPost_ret (v := .tuple #[.agg #[.int .i64 0, .int .i64 0, .int .i64 0, .int .i64 0, .int .i64 0], namV limitsS c i]) (by simp [results, Tryz.results30, go_sem, World.cell?_setCell_same, World.cell?_setCell_other, r0, r1, r2, r3, r4]) rfl ?_
 refine ⟨rfl, ?_⟩
 refine Below.setCell (Below.setCell (Below.setCell (Below.setCell (Below.setCell Hb5.out ?_ _) ?_ _) ?_ _) ?_ _) ?_ _ <;> simp
set_option maxRecDepth 20000 in
set_option maxHeartbeats 4000000 in
theorem fitsErr_any (a : Option Addr) (n cap : Nat) (k : Kno) (l : Lim) (w : World) (c i : Nat) (hE : Frags w a n cap k) (hD : Door w) (hck : ckF k = some (c, i)) :
 Calls Tryz.prog 34 #[.slice a n cap, limV l] w fun x w' => x = .returned (namV limitsS c i) ∧ Below w.heap.size w w' := by
 have hal : Below w.heap.size w (w.alloc (.cells #[.int .i64 l.1, .int .i64 l.2.1, .int .i64 l.2.2.1, .int .i64 l.2.2.2.1, .int .i64 l.2.2.2.2] 47)) := (Below.refl _ _).alloc (Nat.le_refl _) _
 have HC := Lib.hid (leastErr_any a n cap k _ c i (hE.below hal) (hD.below (Nat.le_refl _) hal) hck)
 have Hal := Lib.hid hal
 have HD := Lib.hid (fun W (h : Below w.heap.size w W) => hD.below (Nat.le_refl _) h)
 clear hE hD hck hal
 unfold limV
 go_enter Tryz.func34, Tryz.ntmps34
 go_wp2_with fail
 refine HC.out.mono ?_
 rintro e w1 ⟨rfl, hb1⟩
 have Hb1 := Lib.hid (Hal.out.trans (hb1.mono Hal.out.size)); clear hb1 HC
 go_wp2_with fail
 have hl2 : Below w.heap.size w ((w1.alloc (.cells #[.int .i64 0, .int .i64 0, .int .i64 0, .int .i64 0, .int .i64 0] 47)).alloc (.cells #[.int .i64 0, .int .i64 0] 99)) := (Hb1.out.alloc Hb1.out.size _).alloc (by have := Hb1.out.size; simp; omega) _
 have hs1 := Hb1.out.size
 refine As_F _ _ _ _ (HD.out _ hl2) (by simp) _ ?_
 intro w2 A hb hA hAs
 have hb2 : Below w.heap.size w w2 := hl2.trans (hb.mono hl2.size)
 have hc0 : w2.cell? ⟨w1.heap.size + 1, 0, none⟩ = some (.int .i64 0) := by rw [hb.cell (p := ⟨w1.heap.size + 1, 0, none⟩) (by simp)]; go_simp
 have hc1 : w2.cell? ⟨w1.heap.size + 1, 1, none⟩ = some (.int .i64 0) := by rw [hb.cell (p := ⟨w1.heap.size + 1, 1, none⟩) (by simp)]; go_simp
 have hg0 : w2.frozen? ⟨w1.heap.size + 1, 0, none⟩ = false := by rw [hb.frozen (p := ⟨w1.heap.size + 1, 0, none⟩) (by simp)]; go_simp
 have hg1 : w2.frozen? ⟨w1.heap.size + 1, 1, none⟩ = false := by rw [hb.frozen (p := ⟨w1.heap.size + 1, 1, none⟩) (by simp)]; go_simp
 refine (as_NF limitsS c i (w1.heap.size + 1) A _ _ w2 hA hc0 hc1 hg0 hg1).mono ?_
 rintro e w3 ⟨rfl, hg, -, -⟩
 refine ⟨true, rfl, ?_⟩
 have Hb3 := Lib.hid (hb2.grown hg hb2.size (fun k hk => by cases hk; omega))
 clear hg hc0 hc1 hg0 hg1 hb hb2 hA hAs hl2 hs1 HD Hb1 Hal
 go_wp2_with fail
 go_ret
 exact ⟨rfl, Hb3.out⟩
end
end Go.Proofs.YtkkdlgcfcbaibaaGreatDoor
