/- Walks and laws, merged: part 2. -/
import Derived.Test.YtkkdlgcfcbaibaaGreatDoorPt01
section
namespace Go.Proofs.YtkkdlgcfcbaibaaGreatDoor
open Go.RowKit Go.Extern.Stop Go.Stop Go.Extern
set_option linter.unusedVariables false

/-- errors.errorType holds the handle of the type error. -/
def Door (w : World) : Prop := w.cell? ⟨1, 0, none⟩ = some (.iface 186 (.agg #[.pointer (some ⟨2, 41, none⟩)]))

theorem Door.below {w w' : World} (h : Door w) {B : Nat} (hB : w.heap.size ≤ B) (hb : Below B w w') : Door w' := by
  unfold Door
  rw [hb.cell (p := ⟨1, 0, none⟩) (Nat.lt_of_lt_of_le (cell_lt h) hB)]
  exact h

theorem grownBy_set (w : World) (p : Addr) (v : Value) : w.grownBy (w.setCell p v) (some p.block) :=
  ⟨rfl, rfl, rfl, by simp [World.setCell], fun k _ hne => Below.heap_setCell _ _ _ _ (fun e => hne (by rw [e]))⟩

set_option maxHeartbeats 4000000 in
/-- errors.as of an api.Errno at a target *api.Errno. -/
theorem as_EE (c : Int) (t A : Addr) (old : Value) (w : World) (hA : w.cell? A = some (.pointer (some t))) (ht : w.cell? t = some old) (hf : w.frozen? t = false) :
    Calls Tryz.prog 92 #[.iface 50 (.int .i64 c), .iface 97 (.pointer (some t)), .agg #[.pointer (some ⟨2, 97, none⟩), .pointer (some A), .int .u64 150], .iface 186 (.agg #[.pointer (some ⟨2, 50, none⟩)])] w
      fun e w' => e = .returned (.bool true) ∧ w.grownBy w' (some t.block) ∧ w'.cell? t = some (.int .i64 c) := by
  have hTO := @run_callFunc_extern Tryz.prog 133 _ ReflectliteType.typeOf Tryz.func133 (by kernel_rfl) (by kernel_rfl) (by kernel_rfl) (by kernel_rfl)
  have hAT := @run_callFunc_extern Tryz.prog 268 _ (ReflectliteType.relation "AssignableTo" ReflectliteType.assignableTo) Tryz.func268 (by kernel_rfl) (by kernel_rfl) (by kernel_rfl) (by kernel_rfl)
  have hEl := @run_callFunc_extern Tryz.prog 136 _ (ReflectliteValue.method (ReflectliteValue.valueError "reflectlite.Value.Elem" 0) ReflectliteValue.elem) Tryz.func136 (by kernel_rfl) (by kernel_rfl) (by kernel_rfl) (by kernel_rfl)
  have hVO := @run_callFunc_extern Tryz.prog 89 _ (fun args => ReflectliteValue.unpack (args.getD 0 (.tuple #[]))) Tryz.func89 (by kernel_rfl) (by kernel_rfl) (by kernel_rfl) (by kernel_rfl)
  have hSt := @run_callFunc_extern Tryz.prog 137 _ ReflectliteValue.set Tryz.func137 (by kernel_rfl) (by kernel_rfl) (by kernel_rfl) (by kernel_rfl)
  have tO := Tryz.typeOfE
  have mA := Tryz.methodAssignableTo
  have aEE := Tryz.assignableEE
  have vE := Tryz.valueOfE
  have hAl : A.block < w.heap.size := cell_lt hA
  have htl : t.block < w.heap.size := cell_lt ht
  have el := Tryz.elemVPE A t (w.alloc (.cells #[.pointer (some ⟨2, 97, none⟩), .pointer (some A), .int .u64 150] 136)) (by rw [World.cell?_alloc_lt _ _ A hAl]; exact hA)
  have st := Tryz.setE t ⟨w.heap.size + 1, 0, none⟩ c old ((w.alloc (.cells #[.pointer (some ⟨2, 97, none⟩), .pointer (some A), .int .u64 150] 136)).alloc (.cells #[.int .i64 c] 50))
    (by rw [World.cell?_alloc_at _ _ _ _ (by simp)]; rfl)
    (by rw [World.cell?_alloc_lt _ _ t (by simp; omega), World.cell?_alloc_lt _ _ t htl]; exact ht)
    (by rw [World.frozen?_alloc_old _ _ t (by simp; omega), World.frozen?_alloc_old _ _ t (Nat.ne_of_lt htl)]; exact hf)
  have hc2 : (((w.alloc (.cells #[.pointer (some ⟨2, 97, none⟩), .pointer (some A), .int .u64 150] 136)).alloc (.cells #[.int .i64 c] 50)).setCell t (.int .i64 c)).cell? t = some (.int .i64 c) :=
    World.cell?_setCell_same _ _ _ (by rw [World.cell?_alloc_lt _ _ t (by simp; omega), World.cell?_alloc_lt _ _ t htl]; exact ht)
  have Hc2 := Lib.hid hc2; clear hc2
  go_enter Tryz.func92, Tryz.ntmps92
  go_wp2
  refine wp_loop_rounds 1 ?_
  rw [rounds_succ]
  go_wp2
  go_ret
  exact ⟨rfl, grownBy_trans (grownBy_trans (World.grownBy_alloc _ _ _) (World.grownBy_alloc _ _ _)) (grownBy_set _ _ _), Hc2.out⟩

theorem unwrapF (c a : Int) (w : World) : Calls Tryz.prog 261 #[.agg #[.int .i64 c, .int .i64 a]] w fun e w' => e = .returned (.iface 50 (.int .i64 c)) ∧ w' = w.alloc (.cells #[.int .i64 c, .int .i64 a] 99) := by
  go_enter Tryz.func261, Tryz.ntmps261
  go_wp2
  go_ret
  exact ⟨rfl, rfl⟩

set_option maxHeartbeats 4000000 in
/-- errors.as of an api.Fault at a target *api.Errno: its code. -/
theorem as_EF (c a : Int) (t A : Addr) (old : Value) (w : World) (hA : w.cell? A = some (.pointer (some t))) (ht : w.cell? t = some old) (hf : w.frozen? t = false) :
    Calls Tryz.prog 92 #[.iface 99 (.agg #[.int .i64 c, .int .i64 a]), .iface 97 (.pointer (some t)), .agg #[.pointer (some ⟨2, 97, none⟩), .pointer (some A), .int .u64 150], .iface 186 (.agg #[.pointer (some ⟨2, 50, none⟩)])] w
      fun e w' => e = .returned (.bool true) ∧ w.grownBy w' (some t.block) ∧ w'.cell? t = some (.int .i64 c) := by
  have hTO := @run_callFunc_extern Tryz.prog 133 _ ReflectliteType.typeOf Tryz.func133 (by kernel_rfl) (by kernel_rfl) (by kernel_rfl) (by kernel_rfl)
  have hAT := @run_callFunc_extern Tryz.prog 268 _ (ReflectliteType.relation "AssignableTo" ReflectliteType.assignableTo) Tryz.func268 (by kernel_rfl) (by kernel_rfl) (by kernel_rfl) (by kernel_rfl)
  have hEl := @run_callFunc_extern Tryz.prog 136 _ (ReflectliteValue.method (ReflectliteValue.valueError "reflectlite.Value.Elem" 0) ReflectliteValue.elem) Tryz.func136 (by kernel_rfl) (by kernel_rfl) (by kernel_rfl) (by kernel_rfl)
  have hVO := @run_callFunc_extern Tryz.prog 89 _ (fun args => ReflectliteValue.unpack (args.getD 0 (.tuple #[]))) Tryz.func89 (by kernel_rfl) (by kernel_rfl) (by kernel_rfl) (by kernel_rfl)
  have hSt := @run_callFunc_extern Tryz.prog 137 _ ReflectliteValue.set Tryz.func137 (by kernel_rfl) (by kernel_rfl) (by kernel_rfl) (by kernel_rfl)
  have tO := Tryz.typeOfE
  have tO2 := Tryz.typeOfF
  have mA := Tryz.methodAssignableTo
  have aEE := Tryz.assignableEE
  have aFE := Tryz.assignableFE
  have s1 := Tryz.asAsF
  have s2 := Tryz.asUnF
  have mU := Tryz.methodUnF
  have vE := Tryz.valueOfE
  have hAl : A.block < w.heap.size := cell_lt hA
  have htl : t.block < w.heap.size := cell_lt ht
  have hA2 : ((w.alloc (.cells #[.pointer (some ⟨2, 97, none⟩), .pointer (some A), .int .u64 150] 136)).alloc (.cells #[.int .i64 c, .int .i64 a] 99)).cell? A = some (.pointer (some t)) := by
    rw [World.cell?_alloc_lt _ _ A (by simp; omega), World.cell?_alloc_lt _ _ A hAl]; exact hA
  have ht2 : ((w.alloc (.cells #[.pointer (some ⟨2, 97, none⟩), .pointer (some A), .int .u64 150] 136)).alloc (.cells #[.int .i64 c, .int .i64 a] 99)).cell? t = some old := by
    rw [World.cell?_alloc_lt _ _ t (by simp; omega), World.cell?_alloc_lt _ _ t htl]; exact ht
  have hf2 : ((w.alloc (.cells #[.pointer (some ⟨2, 97, none⟩), .pointer (some A), .int .u64 150] 136)).alloc (.cells #[.int .i64 c, .int .i64 a] 99)).frozen? t = false := by
    rw [World.frozen?_alloc_old _ _ t (by simp; omega), World.frozen?_alloc_old _ _ t (Nat.ne_of_lt htl)]; exact hf
  have el := Tryz.elemVPE A t ((w.alloc (.cells #[.pointer (some ⟨2, 97, none⟩), .pointer (some A), .int .u64 150] 136)).alloc (.cells #[.int .i64 c, .int .i64 a] 99)) hA2
  have st := Tryz.setE t ⟨w.heap.size + 1 + 1, 0, none⟩ c old (((w.alloc (.cells #[.pointer (some ⟨2, 97, none⟩), .pointer (some A), .int .u64 150] 136)).alloc (.cells #[.int .i64 c, .int .i64 a] 99)).alloc (.cells #[.int .i64 c] 50))
    (by rw [World.cell?_alloc_at _ _ _ _ (by simp)]; rfl)
    (by rw [World.cell?_alloc_lt _ _ t (by simp; omega)]; exact ht2)
    (by rw [World.frozen?_alloc_old _ _ t (by simp; omega)]; exact hf2)
  have hc2 : ((((w.alloc (.cells #[.pointer (some ⟨2, 97, none⟩), .pointer (some A), .int .u64 150] 136)).alloc (.cells #[.int .i64 c, .int .i64 a] 99)).alloc (.cells #[.int .i64 c] 50)).setCell t (.int .i64 c)).cell? t = some (.int .i64 c) :=
    World.cell?_setCell_same _ _ _ (by rw [World.cell?_alloc_lt _ _ t (by simp; omega)]; exact ht2)
  have Hc2 := Lib.hid hc2; clear hc2 hA2 ht2 hf2
  go_enter Tryz.func92, Tryz.ntmps92
  go_wp2
  refine wp_loop_rounds 2 ?_
  rw [rounds_succ]
  go_wp2_with fail
  refine (unwrapF c a _).mono ?_
  rintro e w' ⟨rfl, rfl⟩
  go_wp2_with fail
  rw [rounds_succ]
  go_wp2_with fail
  go_ret
  exact ⟨rfl, grownBy_trans (grownBy_trans (grownBy_trans (World.grownBy_alloc _ _ _) (World.grownBy_alloc _ _ _)) (World.grownBy_alloc _ _ _)) (grownBy_set _ _ _), Hc2.out⟩

end Go.Proofs.YtkkdlgcfcbaibaaGreatDoor
end

section
namespace Go.Proofs.YtkkdlgcfcbaibaaGreatDoor
open Go.RowKit Go.Extern.Stop Go.Stop Go.Extern
set_option linter.unusedVariables false

set_option maxHeartbeats 4000000 in
/-- errors.as of an api.Fault at a target *api.Fault. -/
theorem as_FF (c a : Int) (tb : Nat) (A : Addr) (o1 o2 : Value) (w : World) (hA : w.cell? A = some (.pointer (some ⟨tb, 0, none⟩))) (ht0 : w.cell? ⟨tb, 0, none⟩ = some o1) (ht1 : w.cell? ⟨tb, 1, none⟩ = some o2)
    (hf0 : w.frozen? ⟨tb, 0, none⟩ = false) (hf1 : w.frozen? ⟨tb, 1, none⟩ = false) :
    Calls Tryz.prog 92 #[.iface 99 (.agg #[.int .i64 c, .int .i64 a]), .iface 113 (.pointer (some ⟨tb, 0, none⟩)), .agg #[.pointer (some ⟨2, 113, none⟩), .pointer (some A), .int .u64 150], .iface 186 (.agg #[.pointer (some ⟨2, 99, none⟩)])] w
      fun e w' => e = .returned (.bool true) ∧ w.grownBy w' (some tb) ∧ w'.cell? ⟨tb, 0, none⟩ = some (.int .i64 c) ∧ w'.cell? ⟨tb, 1, none⟩ = some (.int .i64 a) := by
  have hTO := @run_callFunc_extern Tryz.prog 133 _ ReflectliteType.typeOf Tryz.func133 (by kernel_rfl) (by kernel_rfl) (by kernel_rfl) (by kernel_rfl)
  have hAT := @run_callFunc_extern Tryz.prog 268 _ (ReflectliteType.relation "AssignableTo" ReflectliteType.assignableTo) Tryz.func268 (by kernel_rfl) (by kernel_rfl) (by kernel_rfl) (by kernel_rfl)
  have hEl := @run_callFunc_extern Tryz.prog 136 _ (ReflectliteValue.method (ReflectliteValue.valueError "reflectlite.Value.Elem" 0) ReflectliteValue.elem) Tryz.func136 (by kernel_rfl) (by kernel_rfl) (by kernel_rfl) (by kernel_rfl)
  have hVO := @run_callFunc_extern Tryz.prog 89 _ (fun args => ReflectliteValue.unpack (args.getD 0 (.tuple #[]))) Tryz.func89 (by kernel_rfl) (by kernel_rfl) (by kernel_rfl) (by kernel_rfl)
  have hSt := @run_callFunc_extern Tryz.prog 137 _ ReflectliteValue.set Tryz.func137 (by kernel_rfl) (by kernel_rfl) (by kernel_rfl) (by kernel_rfl)
  have tO := Tryz.typeOfF
  have mA := Tryz.methodAssignableTo
  have aFF := Tryz.assignableFF
  have vF := Tryz.valueOfF
  have hAl : A.block < w.heap.size := cell_lt hA
  have htl : tb < w.heap.size := cell_lt ht0
  have el := Tryz.elemVPF A ⟨tb, 0, none⟩ (w.alloc (.cells #[.pointer (some ⟨2, 113, none⟩), .pointer (some A), .int .u64 150] 136)) (by rw [World.cell?_alloc_lt _ _ A hAl]; exact hA)
  have h0 : ((w.alloc (.cells #[.pointer (some ⟨2, 113, none⟩), .pointer (some A), .int .u64 150] 136)).alloc (.cells #[.int .i64 c, .int .i64 a] 99)).cell? ⟨tb, 0, none⟩ = some o1 := by
    rw [World.cell?_alloc_lt _ _ ⟨tb, 0, none⟩ (by simp; omega), World.cell?_alloc_lt _ _ ⟨tb, 0, none⟩ htl]; exact ht0
  have h1 : ((w.alloc (.cells #[.pointer (some ⟨2, 113, none⟩), .pointer (some A), .int .u64 150] 136)).alloc (.cells #[.int .i64 c, .int .i64 a] 99)).cell? ⟨tb, 1, none⟩ = some o2 := by
    rw [World.cell?_alloc_lt _ _ ⟨tb, 1, none⟩ (by simp; omega), World.cell?_alloc_lt _ _ ⟨tb, 1, none⟩ htl]; exact ht1
  have g0 : ((w.alloc (.cells #[.pointer (some ⟨2, 113, none⟩), .pointer (some A), .int .u64 150] 136)).alloc (.cells #[.int .i64 c, .int .i64 a] 99)).frozen? ⟨tb, 0, none⟩ = false := by
    rw [World.frozen?_alloc_old _ _ ⟨tb, 0, none⟩ (by simp; omega), World.frozen?_alloc_old _ _ ⟨tb, 0, none⟩ (Nat.ne_of_lt htl)]; exact hf0
  have g1 : ((w.alloc (.cells #[.pointer (some ⟨2, 113, none⟩), .pointer (some A), .int .u64 150] 136)).alloc (.cells #[.int .i64 c, .int .i64 a] 99)).frozen? ⟨tb, 1, none⟩ = false := by
    rw [World.frozen?_alloc_old _ _ ⟨tb, 1, none⟩ (by simp; omega), World.frozen?_alloc_old _ _ ⟨tb, 1, none⟩ (Nat.ne_of_lt htl)]; exact hf1
  have st := Tryz.setF tb (w.heap.size + 1) c a o1 o2 ((w.alloc (.cells #[.pointer (some ⟨2, 113, none⟩), .pointer (some A), .int .u64 150] 136)).alloc (.cells #[.int .i64 c, .int .i64 a] 99))
    (by rw [World.cell?_alloc_at _ _ _ _ (by simp)]; rfl) (by rw [World.cell?_alloc_at _ _ _ _ (by simp)]; rfl) h0 h1 g0 g1
  have hz : ((w.setCell ⟨tb, 0, none⟩ (.int .i64 c)).setCell ⟨tb, 1, none⟩ (.int .i64 a)).heap.size = w.heap.size := by simp [World.setCell]
  have hc0 : ((((w.setCell ⟨tb, 0, none⟩ (.int .i64 c)).setCell ⟨tb, 1, none⟩ (.int .i64 a)).alloc (.cells #[.pointer (some ⟨2, 113, none⟩), .pointer (some A), .int .u64 150] 136)).alloc (.cells #[.int .i64 c, .int .i64 a] 99)).cell? ⟨tb, 0, none⟩ = some (.int .i64 c) := by
    rw [World.cell?_alloc_lt _ _ ⟨tb, 0, none⟩ (by simp only [World.size_alloc, hz]; omega), World.cell?_alloc_lt _ _ ⟨tb, 0, none⟩ (by rw [hz]; exact htl), World.cell?_setCell_other _ _ _ _ (by simp)]
    exact World.cell?_setCell_same _ _ _ ht0
  have hc1 : ((((w.setCell ⟨tb, 0, none⟩ (.int .i64 c)).setCell ⟨tb, 1, none⟩ (.int .i64 a)).alloc (.cells #[.pointer (some ⟨2, 113, none⟩), .pointer (some A), .int .u64 150] 136)).alloc (.cells #[.int .i64 c, .int .i64 a] 99)).cell? ⟨tb, 1, none⟩ = some (.int .i64 a) := by
    rw [World.cell?_alloc_lt _ _ ⟨tb, 1, none⟩ (by simp only [World.size_alloc, hz]; omega), World.cell?_alloc_lt _ _ ⟨tb, 1, none⟩ (by rw [hz]; exact htl)]
    exact World.cell?_setCell_same _ _ _ (by rw [World.cell?_setCell_other _ _ _ _ (by simp)]; exact ht1)
  have Hc0 := Lib.hid hc0; clear hc0 h0 h1 g0 g1 hz
  have Hc1 := Lib.hid hc1; clear hc1
  go_enter Tryz.func92, Tryz.ntmps92
  go_wp2
  refine wp_loop_rounds 1 ?_
  rw [rounds_succ]
  go_wp2
  go_ret
  exact ⟨rfl, grownBy_trans (grownBy_trans (grownBy_trans (grownBy_set _ ⟨tb, 0, none⟩ _) (grownBy_set _ ⟨tb, 1, none⟩ _)) (World.grownBy_alloc _ _ _)) (World.grownBy_alloc _ _ _), Hc0.out, Hc1.out⟩

set_option maxHeartbeats 4000000 in
/-- errors.as of an api.Errno at a target *api.Fault: no. -/
theorem as_FE (c : Int) (tb : Nat) (A : Addr) (w : World) :
    Calls Tryz.prog 92 #[.iface 50 (.int .i64 c), .iface 113 (.pointer (some ⟨tb, 0, none⟩)), .agg #[.pointer (some ⟨2, 113, none⟩), .pointer (some A), .int .u64 150], .iface 186 (.agg #[.pointer (some ⟨2, 99, none⟩)])] w
      fun e w' => e = .returned (.bool false) ∧ w.grownBy w' none := by
  have hTO := @run_callFunc_extern Tryz.prog 133 _ ReflectliteType.typeOf Tryz.func133 (by kernel_rfl) (by kernel_rfl) (by kernel_rfl) (by kernel_rfl)
  have hAT := @run_callFunc_extern Tryz.prog 268 _ (ReflectliteType.relation "AssignableTo" ReflectliteType.assignableTo) Tryz.func268 (by kernel_rfl) (by kernel_rfl) (by kernel_rfl) (by kernel_rfl)
  have tO := Tryz.typeOfE
  have mA := Tryz.methodAssignableTo
  have aEF := Tryz.assignableEF
  have s1 := Tryz.asAsE
  have s2 := Tryz.asUnE
  have s3 := Tryz.asUmE
  go_enter Tryz.func92, Tryz.ntmps92
  go_wp2
  refine wp_loop_rounds 1 ?_
  rw [rounds_succ]
  go_wp2
  go_ret
  exact ⟨rfl, World.grownBy_alloc _ _ _⟩

end Go.Proofs.YtkkdlgcfcbaibaaGreatDoor
end

section
namespace Go.Proofs.YtkkdlgcfcbaibaaGreatDoor
open Go.RowKit Go.Extern.Stop Go.Stop Go.Extern
set_option linter.unusedVariables false

theorem As_nil (t : Value) (w : World) : Calls Tryz.prog 52 #[.nilIface, t] w fun e w' => e = .returned (.bool false) ∧ w = w' := by
  go_enter Tryz.func52, Tryz.ntmps52
  go_wp2
  go_ret
  exact ⟨rfl, rfl⟩

set_option maxHeartbeats 4000000 in
/-- errors.As of an error that is not nil at a target *api.Errno: as errors.as says. -/
theorem As_E (u : TypeId) (x : Value) (t : Addr) (w : World) (hD : Door w) (ht : t.block < w.heap.size) (Q : Ending → World → Prop)
    (h : ∀ (w1 : World) (A : Addr), Below w.heap.size w w1 → w1.cell? A = some (.pointer (some t)) → w.heap.size ≤ A.block →
      Calls Tryz.prog 92 #[.iface u x, .iface 97 (.pointer (some t)), .agg #[.pointer (some ⟨2, 97, none⟩), .pointer (some A), .int .u64 150], .iface 186 (.agg #[.pointer (some ⟨2, 50, none⟩)])] w1 fun e w' => ∃ b, e = .returned (.bool b) ∧ Q e w') :
    Calls Tryz.prog 52 #[.iface u x, .iface 97 (.pointer (some t))] w Q := by
  have hVO := @run_callFunc_extern Tryz.prog 89 _ (fun args => ReflectliteValue.unpack (args.getD 0 (.tuple #[]))) Tryz.func89 (by kernel_rfl) (by kernel_rfl) (by kernel_rfl) (by kernel_rfl)
  have hTy := @run_callFunc_extern Tryz.prog 90 _ (ReflectliteValue.methodAny (ReflectliteValue.valueError "reflectlite.Value.Type" 0) (fun t _ _ _ => ReflectliteType.toType t)) Tryz.func90 (by kernel_rfl) (by kernel_rfl) (by kernel_rfl) (by kernel_rfl)
  have hIN := @run_callFunc_extern Tryz.prog 91 _ (ReflectliteValue.method (ReflectliteValue.valueError "reflectlite.Value.IsNil" 0) ReflectliteValue.isNil) Tryz.func91 (by kernel_rfl) (by kernel_rfl) (by kernel_rfl) (by kernel_rfl)
  have hKi := @run_callFunc_extern Tryz.prog 257 _ (ReflectliteType.abiMethod fun t => do pure (.int .u8 (← Rtype.kind t))) Tryz.func257 (by kernel_rfl) (by kernel_rfl) (by kernel_rfl) (by kernel_rfl)
  have hEl := @run_callFunc_extern Tryz.prog 270 _ (ReflectliteType.method ReflectliteType.elem) Tryz.func270 (by kernel_rfl) (by kernel_rfl) (by kernel_rfl) (by kernel_rfl)
  have hIm := @run_callFunc_extern Tryz.prog 271 _ (ReflectliteType.relation "Implements" ReflectliteType.implements_) Tryz.func271 (by kernel_rfl) (by kernel_rfl) (by kernel_rfl) (by kernel_rfl)
  have f6 := Tryz.valueOfPE
  have f7 := Tryz.typePE
  have mK := Tryz.methodKind
  have mE := Tryz.methodElem
  have mI := Tryz.methodImplements
  have k27 := Tryz.kindPE
  have k25 := Tryz.kindE
  have e27 := Tryz.elemPE
  have i25 := Tryz.implementsE
  have n8 := Tryz.isNilPE ⟨w.heap.size, 0, none⟩ t ((w.alloc (.cells #[.pointer (some t)] 97)).alloc (.cells #[.pointer (some ⟨2, 97, none⟩), .pointer (some ⟨w.heap.size, 0, none⟩), .int .u64 150] 136)) (by simp)
  have hlt : 1 < w.heap.size := cell_lt hD
  have hg2 : ((w.alloc (.cells #[.pointer (some t)] 97)).alloc (.cells #[.pointer (some ⟨2, 97, none⟩), .pointer (some ⟨w.heap.size, 0, none⟩), .int .u64 150] 136)).cell? ⟨1, 0, none⟩ = some (.iface 186 (.agg #[.pointer (some ⟨2, 41, none⟩)])) := by
    rw [World.cell?_alloc_lt _ _ ⟨1, 0, none⟩ (by simp only [World.size_alloc]; omega), World.cell?_alloc_lt _ _ ⟨1, 0, none⟩ hlt]; exact hD
  have H := Lib.hid (h ((w.alloc (.cells #[.pointer (some t)] 97)).alloc (.cells #[.pointer (some ⟨2, 97, none⟩), .pointer (some ⟨w.heap.size, 0, none⟩), .int .u64 150] 136)) ⟨w.heap.size, 0, none⟩
    (((Below.refl _ _).alloc (Nat.le_refl _) _).alloc (by simp only [World.size_alloc]; omega) _) (by simp) (Nat.le_refl _))
  clear h hD
  go_enter Tryz.func52, Tryz.ntmps52
  go_wp2_with fail
  refine H.out.mono ?_
  rintro e w' ⟨b, rfl, hq⟩
  have Hq := Lib.hid hq; clear hq H
  go_wp2_with fail
  exact Hq.out

set_option maxHeartbeats 4000000 in
/-- errors.As of an error that is not nil at a target *api.Fault: as errors.as says. -/
theorem As_F (u : TypeId) (x : Value) (t : Addr) (w : World) (hD : Door w) (ht : t.block < w.heap.size) (Q : Ending → World → Prop)
    (h : ∀ (w1 : World) (A : Addr), Below w.heap.size w w1 → w1.cell? A = some (.pointer (some t)) → w.heap.size ≤ A.block →
      Calls Tryz.prog 92 #[.iface u x, .iface 113 (.pointer (some t)), .agg #[.pointer (some ⟨2, 113, none⟩), .pointer (some A), .int .u64 150], .iface 186 (.agg #[.pointer (some ⟨2, 99, none⟩)])] w1 fun e w' => ∃ b, e = .returned (.bool b) ∧ Q e w') :
    Calls Tryz.prog 52 #[.iface u x, .iface 113 (.pointer (some t))] w Q := by
  have hVO := @run_callFunc_extern Tryz.prog 89 _ (fun args => ReflectliteValue.unpack (args.getD 0 (.tuple #[]))) Tryz.func89 (by kernel_rfl) (by kernel_rfl) (by kernel_rfl) (by kernel_rfl)
  have hTy := @run_callFunc_extern Tryz.prog 90 _ (ReflectliteValue.methodAny (ReflectliteValue.valueError "reflectlite.Value.Type" 0) (fun t _ _ _ => ReflectliteType.toType t)) Tryz.func90 (by kernel_rfl) (by kernel_rfl) (by kernel_rfl) (by kernel_rfl)
  have hIN := @run_callFunc_extern Tryz.prog 91 _ (ReflectliteValue.method (ReflectliteValue.valueError "reflectlite.Value.IsNil" 0) ReflectliteValue.isNil) Tryz.func91 (by kernel_rfl) (by kernel_rfl) (by kernel_rfl) (by kernel_rfl)
  have hKi := @run_callFunc_extern Tryz.prog 257 _ (ReflectliteType.abiMethod fun t => do pure (.int .u8 (← Rtype.kind t))) Tryz.func257 (by kernel_rfl) (by kernel_rfl) (by kernel_rfl) (by kernel_rfl)
  have hEl := @run_callFunc_extern Tryz.prog 270 _ (ReflectliteType.method ReflectliteType.elem) Tryz.func270 (by kernel_rfl) (by kernel_rfl) (by kernel_rfl) (by kernel_rfl)
  have hIm := @run_callFunc_extern Tryz.prog 271 _ (ReflectliteType.relation "Implements" ReflectliteType.implements_) Tryz.func271 (by kernel_rfl) (by kernel_rfl) (by kernel_rfl) (by kernel_rfl)
  have f6 := Tryz.valueOfPF
  have f7 := Tryz.typePF
  have mK := Tryz.methodKind
  have mE := Tryz.methodElem
  have mI := Tryz.methodImplements
  have k27 := Tryz.kindPF
  have k25 := Tryz.kindF
  have e27 := Tryz.elemPF
  have i25 := Tryz.implementsF
  have n8 := Tryz.isNilPF ⟨w.heap.size, 0, none⟩ t ((w.alloc (.cells #[.pointer (some t)] 113)).alloc (.cells #[.pointer (some ⟨2, 113, none⟩), .pointer (some ⟨w.heap.size, 0, none⟩), .int .u64 150] 136)) (by simp)
  have hlt : 1 < w.heap.size := cell_lt hD
  have hg2 : ((w.alloc (.cells #[.pointer (some t)] 113)).alloc (.cells #[.pointer (some ⟨2, 113, none⟩), .pointer (some ⟨w.heap.size, 0, none⟩), .int .u64 150] 136)).cell? ⟨1, 0, none⟩ = some (.iface 186 (.agg #[.pointer (some ⟨2, 41, none⟩)])) := by
    rw [World.cell?_alloc_lt _ _ ⟨1, 0, none⟩ (by simp only [World.size_alloc]; omega), World.cell?_alloc_lt _ _ ⟨1, 0, none⟩ hlt]; exact hD
  have H := Lib.hid (h ((w.alloc (.cells #[.pointer (some t)] 113)).alloc (.cells #[.pointer (some ⟨2, 113, none⟩), .pointer (some ⟨w.heap.size, 0, none⟩), .int .u64 150] 136)) ⟨w.heap.size, 0, none⟩
    (((Below.refl _ _).alloc (Nat.le_refl _) _).alloc (by simp only [World.size_alloc]; omega) _) (by simp) (Nat.le_refl _))
  clear h hD
  go_enter Tryz.func52, Tryz.ntmps52
  go_wp2_with fail
  refine H.out.mono ?_
  rintro e w' ⟨b, rfl, hq⟩
  have Hq := Lib.hid hq; clear hq H
  go_wp2_with fail
  exact Hq.out

end Go.Proofs.YtkkdlgcfcbaibaaGreatDoor
end
