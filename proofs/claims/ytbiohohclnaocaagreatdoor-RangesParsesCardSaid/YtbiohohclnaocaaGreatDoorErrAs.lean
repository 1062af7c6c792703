/-
  Walks: errors.As and errors.as at the targets *api.Errno and *api.Fault.
-/
import Derived.Test.YtbiohohclnaocaaGreatDoorErrFacts
namespace Go.Proofs.YtbiohohclnaocaaGreatDoor
open Go.RowKit Go.Extern.Stop Go.Stop Go.Extern
set_option linter.unusedVariables false

/-- errors.errorType holds the handle of the type error. -/
def Door (w : World) : Prop := w.cell? ⟨0, 0, none⟩ = some (.iface 135 (.agg #[.pointer (some ⟨9, 33, none⟩)]))

theorem Door.below {w w' : World} (h : Door w) {B : Nat} (hB : w.heap.size ≤ B) (hb : Below B w w') : Door w' := by
  unfold Door
  rw [hb.cell (p := ⟨0, 0, none⟩) (Nat.lt_of_lt_of_le (cell_lt h) hB)]
  exact h

theorem grownBy_set (w : World) (p : Addr) (v : Value) : w.grownBy (w.setCell p v) (some p.block) :=
  ⟨rfl, rfl, rfl, by simp [World.setCell], fun k _ hne => Below.heap_setCell _ _ _ _ (fun e => hne (by rw [e]))⟩

set_option maxHeartbeats 4000000 in
/-- errors.as of an api.Errno at a target *api.Errno. -/
theorem as_EE (c : Int) (t A : Addr) (old : Value) (w : World) (hA : w.cell? A = some (.pointer (some t))) (ht : w.cell? t = some old) (hf : w.frozen? t = false) :
    Calls Tryz.prog 71 #[.iface 42 (.int .i64 c), .iface 70 (.pointer (some t)), .agg #[.pointer (some ⟨9, 70, none⟩), .pointer (some A), .int .u64 150], .iface 135 (.agg #[.pointer (some ⟨9, 42, none⟩)])] w
      fun e w' => e = .returned (.bool true) ∧ w.grownBy w' (some t.block) ∧ w'.cell? t = some (.int .i64 c) := by
  have hTO := @run_callFunc_extern Tryz.prog 93 _ ReflectliteType.typeOf Tryz.func93 (by kernel_rfl) (by kernel_rfl) (by kernel_rfl) (by kernel_rfl)
  have hAT := @run_callFunc_extern Tryz.prog 174 _ (ReflectliteType.relation "AssignableTo" ReflectliteType.assignableTo) Tryz.func174 (by kernel_rfl) (by kernel_rfl) (by kernel_rfl) (by kernel_rfl)
  have hEl := @run_callFunc_extern Tryz.prog 94 _ (ReflectliteValue.method (ReflectliteValue.valueError "reflectlite.Value.Elem" 0) ReflectliteValue.elem) Tryz.func94 (by kernel_rfl) (by kernel_rfl) (by kernel_rfl) (by kernel_rfl)
  have hVO := @run_callFunc_extern Tryz.prog 68 _ (fun args => ReflectliteValue.unpack (args.getD 0 (.tuple #[]))) Tryz.func68 (by kernel_rfl) (by kernel_rfl) (by kernel_rfl) (by kernel_rfl)
  have hSt := @run_callFunc_extern Tryz.prog 95 _ ReflectliteValue.set Tryz.func95 (by kernel_rfl) (by kernel_rfl) (by kernel_rfl) (by kernel_rfl)
  have tO := Tryz.typeOfE
  have mA := Tryz.methodAssignableTo
  have aEE := Tryz.assignableEE
  have vE := Tryz.valueOfE
  have hAl : A.block < w.heap.size := cell_lt hA
  have htl : t.block < w.heap.size := cell_lt ht
  have el := Tryz.elemVPE A t (w.alloc (.cells #[.pointer (some ⟨9, 70, none⟩), .pointer (some A), .int .u64 150] 109)) (by rw [World.cell?_alloc_lt _ _ A hAl]; exact hA)
  have st := Tryz.setE t ⟨w.heap.size + 1, 0, none⟩ c old ((w.alloc (.cells #[.pointer (some ⟨9, 70, none⟩), .pointer (some A), .int .u64 150] 109)).alloc (.cells #[.int .i64 c] 42))
    (by rw [World.cell?_alloc_at _ _ _ _ (by simp)]; rfl)
    (by rw [World.cell?_alloc_lt _ _ t (by simp; omega), World.cell?_alloc_lt _ _ t htl]; exact ht)
    (by rw [World.frozen?_alloc_old _ _ t (by simp; omega), World.frozen?_alloc_old _ _ t (Nat.ne_of_lt htl)]; exact hf)
  have hc2 : (((w.alloc (.cells #[.pointer (some ⟨9, 70, none⟩), .pointer (some A), .int .u64 150] 109)).alloc (.cells #[.int .i64 c] 42)).setCell t (.int .i64 c)).cell? t = some (.int .i64 c) :=
    World.cell?_setCell_same _ _ _ (by rw [World.cell?_alloc_lt _ _ t (by simp; omega), World.cell?_alloc_lt _ _ t htl]; exact ht)
  have Hc2 := Lib.hid hc2; clear hc2
  go_enter Tryz.func71, Tryz.ntmps71
  go_wp2
  refine wp_loop_rounds 1 ?_
  rw [rounds_succ]
  go_wp2
  go_ret
  exact ⟨rfl, grownBy_trans (grownBy_trans (World.grownBy_alloc _ _ _) (World.grownBy_alloc _ _ _)) (grownBy_set _ _ _), Hc2.out⟩

theorem unwrapF (c a : Int) (w : World) : Calls Tryz.prog 168 #[.agg #[.int .i64 c, .int .i64 a]] w fun e w' => e = .returned (.iface 42 (.int .i64 c)) ∧ w' = w.alloc (.cells #[.int .i64 c, .int .i64 a] 72) := by
  go_enter Tryz.func168, Tryz.ntmps168
  go_wp2
  go_ret
  exact ⟨rfl, rfl⟩

set_option maxHeartbeats 4000000 in
/-- errors.as of an api.Fault at a target *api.Errno: its code. -/
theorem as_EF (c a : Int) (t A : Addr) (old : Value) (w : World) (hA : w.cell? A = some (.pointer (some t))) (ht : w.cell? t = some old) (hf : w.frozen? t = false) :
    Calls Tryz.prog 71 #[.iface 72 (.agg #[.int .i64 c, .int .i64 a]), .iface 70 (.pointer (some t)), .agg #[.pointer (some ⟨9, 70, none⟩), .pointer (some A), .int .u64 150], .iface 135 (.agg #[.pointer (some ⟨9, 42, none⟩)])] w
      fun e w' => e = .returned (.bool true) ∧ w.grownBy w' (some t.block) ∧ w'.cell? t = some (.int .i64 c) := by
  have hTO := @run_callFunc_extern Tryz.prog 93 _ ReflectliteType.typeOf Tryz.func93 (by kernel_rfl) (by kernel_rfl) (by kernel_rfl) (by kernel_rfl)
  have hAT := @run_callFunc_extern Tryz.prog 174 _ (ReflectliteType.relation "AssignableTo" ReflectliteType.assignableTo) Tryz.func174 (by kernel_rfl) (by kernel_rfl) (by kernel_rfl) (by kernel_rfl)
  have hEl := @run_callFunc_extern Tryz.prog 94 _ (ReflectliteValue.method (ReflectliteValue.valueError "reflectlite.Value.Elem" 0) ReflectliteValue.elem) Tryz.func94 (by kernel_rfl) (by kernel_rfl) (by kernel_rfl) (by kernel_rfl)
  have hVO := @run_callFunc_extern Tryz.prog 68 _ (fun args => ReflectliteValue.unpack (args.getD 0 (.tuple #[]))) Tryz.func68 (by kernel_rfl) (by kernel_rfl) (by kernel_rfl) (by kernel_rfl)
  have hSt := @run_callFunc_extern Tryz.prog 95 _ ReflectliteValue.set Tryz.func95 (by kernel_rfl) (by kernel_rfl) (by kernel_rfl) (by kernel_rfl)
  have tO := Tryz.typeOfE
  have tO2 := Tryz.typeOfF
  have mA := Tryz.methodAssignableTo
  have aEE := Tryz.assignableEE
  have aFE := Tryz.assignableFE
  have s1 := Tryz.asAsF
  have s2 := Tryz.asUnF
  have mU := Tryz.methodUnF
  have vE := Tryz.valueOfE
  have hAl : A.block < w.heap.size := cell_lt hA
  have htl : t.block < w.heap.size := cell_lt ht
  have hA2 : ((w.alloc (.cells #[.pointer (some ⟨9, 70, none⟩), .pointer (some A), .int .u64 150] 109)).alloc (.cells #[.int .i64 c, .int .i64 a] 72)).cell? A = some (.pointer (some t)) := by
    rw [World.cell?_alloc_lt _ _ A (by simp; omega), World.cell?_alloc_lt _ _ A hAl]; exact hA
  have ht2 : ((w.alloc (.cells #[.pointer (some ⟨9, 70, none⟩), .pointer (some A), .int .u64 150] 109)).alloc (.cells #[.int .i64 c, .int .i64 a] 72)).cell? t = some old := by
    rw [World.cell?_alloc_lt _ _ t (by simp; omega), World.cell?_alloc_lt _ _ t htl]; exact ht
  have hf2 : ((w.alloc (.cells #[.pointer (some ⟨9, 70, none⟩), .pointer (some A), .int .u64 150] 109)).alloc (.cells #[.int .i64 c, .int .i64 a] 72)).frozen? t = false := by
    rw [World.frozen?_alloc_old _ _ t (by simp; omega), World.frozen?_alloc_old _ _ t (Nat.ne_of_lt htl)]; exact hf
  have el := Tryz.elemVPE A t ((w.alloc (.cells #[.pointer (some ⟨9, 70, none⟩), .pointer (some A), .int .u64 150] 109)).alloc (.cells #[.int .i64 c, .int .i64 a] 72)) hA2
  have st := Tryz.setE t ⟨w.heap.size + 1 + 1, 0, none⟩ c old (((w.alloc (.cells #[.pointer (some ⟨9, 70, none⟩), .pointer (some A), .int .u64 150] 109)).alloc (.cells #[.int .i64 c, .int .i64 a] 72)).alloc (.cells #[.int .i64 c] 42))
    (by rw [World.cell?_alloc_at _ _ _ _ (by simp)]; rfl)
    (by rw [World.cell?_alloc_lt _ _ t (by simp; omega)]; exact ht2)
    (by rw [World.frozen?_alloc_old _ _ t (by simp; omega)]; exact hf2)
  have hc2 : ((((w.alloc (.cells #[.pointer (some ⟨9, 70, none⟩), .pointer (some A), .int .u64 150] 109)).alloc (.cells #[.int .i64 c, .int .i64 a] 72)).alloc (.cells #[.int .i64 c] 42)).setCell t (.int .i64 c)).cell? t = some (.int .i64 c) :=
    World.cell?_setCell_same _ _ _ (by rw [World.cell?_alloc_lt _ _ t (by simp; omega)]; exact ht2)
  have Hc2 := Lib.hid hc2; clear hc2 hA2 ht2 hf2
  go_enter Tryz.func71, Tryz.ntmps71
  go_wp2
  refine wp_loop_rounds 2 ?_
  rw [rounds_succ]
  go_wp2_with fail
  refine (unwrapF c a _).mono ?_
  rintro e w' ⟨rfl, rfl⟩
  go_wp2_with fail
  rw [rounds_succ]
  go_wp2_with fail
  go_ret
  exact ⟨rfl, grownBy_trans (grownBy_trans (grownBy_trans (World.grownBy_alloc _ _ _) (World.grownBy_alloc _ _ _)) (World.grownBy_alloc _ _ _)) (grownBy_set _ _ _), Hc2.out⟩

end Go.Proofs.YtbiohohclnaocaaGreatDoor
