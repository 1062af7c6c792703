/-
  Walks: errors.as at the target *api.Fault.
-/
import Derived.Test.YtbiohohclnaocaaGreatDoorErrAs
namespace Go.Proofs.YtbiohohclnaocaaGreatDoor
open Go.RowKit Go.Extern.Stop Go.Stop Go.Extern
set_option linter.unusedVariables false

set_option maxHeartbeats 4000000 in
/-- errors.as of an api.Fault at a target *api.Fault. -/
theorem as_FF (c a : Int) (tb : Nat) (A : Addr) (o1 o2 : Value) (w : World) (hA : w.cell? A = some (.pointer (some ⟨tb, 0, none⟩))) (ht0 : w.cell? ⟨tb, 0, none⟩ = some o1) (ht1 : w.cell? ⟨tb, 1, none⟩ = some o2)
    (hf0 : w.frozen? ⟨tb, 0, none⟩ = false) (hf1 : w.frozen? ⟨tb, 1, none⟩ = false) :
    Calls Tryz.prog 71 #[.iface 72 (.agg #[.int .i64 c, .int .i64 a]), .iface 118 (.pointer (some ⟨tb, 0, none⟩)), .agg #[.pointer (some ⟨9, 118, none⟩), .pointer (some A), .int .u64 150], .iface 135 (.agg #[.pointer (some ⟨9, 72, none⟩)])] w
      fun e w' => e = .returned (.bool true) ∧ w.grownBy w' (some tb) ∧ w'.cell? ⟨tb, 0, none⟩ = some (.int .i64 c) ∧ w'.cell? ⟨tb, 1, none⟩ = some (.int .i64 a) := by
  have hTO := @run_callFunc_extern Tryz.prog 93 _ ReflectliteType.typeOf Tryz.func93 (by kernel_rfl) (by kernel_rfl) (by kernel_rfl) (by kernel_rfl)
  have hAT := @run_callFunc_extern Tryz.prog 174 _ (ReflectliteType.relation "AssignableTo" ReflectliteType.assignableTo) Tryz.func174 (by kernel_rfl) (by kernel_rfl) (by kernel_rfl) (by kernel_rfl)
  have hEl := @run_callFunc_extern Tryz.prog 94 _ (ReflectliteValue.method (ReflectliteValue.valueError "reflectlite.Value.Elem" 0) ReflectliteValue.elem) Tryz.func94 (by kernel_rfl) (by kernel_rfl) (by kernel_rfl) (by kernel_rfl)
  have hVO := @run_callFunc_extern Tryz.prog 68 _ (fun args => ReflectliteValue.unpack (args.getD 0 (.tuple #[]))) Tryz.func68 (by kernel_rfl) (by kernel_rfl) (by kernel_rfl) (by kernel_rfl)
  have hSt := @run_callFunc_extern Tryz.prog 95 _ ReflectliteValue.set Tryz.func95 (by kernel_rfl) (by kernel_rfl) (by kernel_rfl) (by kernel_rfl)
  have tO := Tryz.typeOfF
  have mA := Tryz.methodAssignableTo
  have aFF := Tryz.assignableFF
  have vF := Tryz.valueOfF
  have hAl : A.block < w.heap.size := cell_lt hA
  have htl : tb < w.heap.size := cell_lt ht0
  have el := Tryz.elemVPF A ⟨tb, 0, none⟩ (w.alloc (.cells #[.pointer (some ⟨9, 118, none⟩), .pointer (some A), .int .u64 150] 109)) (by rw [World.cell?_alloc_lt _ _ A hAl]; exact hA)
  have h0 : ((w.alloc (.cells #[.pointer (some ⟨9, 118, none⟩), .pointer (some A), .int .u64 150] 109)).alloc (.cells #[.int .i64 c, .int .i64 a] 72)).cell? ⟨tb, 0, none⟩ = some o1 := by
    rw [World.cell?_alloc_lt _ _ ⟨tb, 0, none⟩ (by simp; omega), World.cell?_alloc_lt _ _ ⟨tb, 0, none⟩ htl]; exact ht0
  have h1 : ((w.alloc (.cells #[.pointer (some ⟨9, 118, none⟩), .pointer (some A), .int .u64 150] 109)).alloc (.cells #[.int .i64 c, .int .i64 a] 72)).cell? ⟨tb, 1, none⟩ = some o2 := by
    rw [World.cell?_alloc_lt _ _ ⟨tb, 1, none⟩ (by simp; omega), World.cell?_alloc_lt _ _ ⟨tb, 1, none⟩ htl]; exact ht1
  have g0 : ((w.alloc (.cells #[.pointer (some ⟨9, 118, none⟩), .pointer (some A), .int .u64 150] 109)).alloc (.cells #[.int .i64 c, .int .i64 a] 72)).frozen? ⟨tb, 0, none⟩ = false := by
    rw [World.frozen?_alloc_old _ _ ⟨tb, 0, none⟩ (by simp; omega), World.frozen?_alloc_old _ _ ⟨tb, 0, none⟩ (Nat.ne_of_lt htl)]; exact hf0
  have g1 : ((w.alloc (.cells #[.pointer (some ⟨9, 118, none⟩), .pointer (some A), .int .u64 150] 109)).alloc (.cells #[.int .i64 c, .int .i64 a] 72)).frozen? ⟨tb, 1, none⟩ = false := by
    rw [World.frozen?_alloc_old _ _ ⟨tb, 1, none⟩ (by simp; omega), World.frozen?_alloc_old _ _ ⟨tb, 1, none⟩ (Nat.ne_of_lt htl)]; exact hf1
  have st := Tryz.setF tb (w.heap.size + 1) c a o1 o2 ((w.alloc (.cells #[.pointer (some ⟨9, 118, none⟩), .pointer (some A), .int .u64 150] 109)).alloc (.cells #[.int .i64 c, .int .i64 a] 72))
    (by rw [World.cell?_alloc_at _ _ _ _ (by simp)]; rfl) (by rw [World.cell?_alloc_at _ _ _ _ (by simp)]; rfl) h0 h1 g0 g1
  have hz : ((w.setCell ⟨tb, 0, none⟩ (.int .i64 c)).setCell ⟨tb, 1, none⟩ (.int .i64 a)).heap.size = w.heap.size := by simp [World.setCell]
  have hc0 : ((((w.setCell ⟨tb, 0, none⟩ (.int .i64 c)).setCell ⟨tb, 1, none⟩ (.int .i64 a)).alloc (.cells #[.pointer (some ⟨9, 118, none⟩), .pointer (some A), .int .u64 150] 109)).alloc (.cells #[.int .i64 c, .int .i64 a] 72)).cell? ⟨tb, 0, none⟩ = some (.int .i64 c) := by
    rw [World.cell?_alloc_lt _ _ ⟨tb, 0, none⟩ (by simp only [World.size_alloc, hz]; omega), World.cell?_alloc_lt _ _ ⟨tb, 0, none⟩ (by rw [hz]; exact htl), World.cell?_setCell_other _ _ _ _ (by simp)]
    exact World.cell?_setCell_same _ _ _ ht0
  have hc1 : ((((w.setCell ⟨tb, 0, none⟩ (.int .i64 c)).setCell ⟨tb, 1, none⟩ (.int .i64 a)).alloc (.cells #[.pointer (some ⟨9, 118, none⟩), .pointer (some A), .int .u64 150] 109)).alloc (.cells #[.int .i64 c, .int .i64 a] 72)).cell? ⟨tb, 1, none⟩ = some (.int .i64 a) := by
    rw [World.cell?_alloc_lt _ _ ⟨tb, 1, none⟩ (by simp only [World.size_alloc, hz]; omega), World.cell?_alloc_lt _ _ ⟨tb, 1, none⟩ (by rw [hz]; exact htl)]
    exact World.cell?_setCell_same _ _ _ (by rw [World.cell?_setCell_other _ _ _ _ (by simp)]; exact ht1)
  have Hc0 := Lib.hid hc0; clear hc0 h0 h1 g0 g1 hz
  have Hc1 := Lib.hid hc1; clear hc1
  go_enter Tryz.func71, Tryz.ntmps71
  go_wp2
  refine wp_loop_rounds 1 ?_
  rw [rounds_succ]
  go_wp2
  go_ret
  exact ⟨rfl, grownBy_trans (grownBy_trans (grownBy_trans (grownBy_set _ ⟨tb, 0, none⟩ _) (grownBy_set _ ⟨tb, 1, none⟩ _)) (World.grownBy_alloc _ _ _)) (World.grownBy_alloc _ _ _), Hc0.out, Hc1.out⟩

set_option maxHeartbeats 4000000 in
/-- errors.as of an api.Errno at a target *api.Fault: no. -/
theorem as_FE (c : Int) (tb : Nat) (A : Addr) (w : World) :
    Calls Tryz.prog 71 #[.iface 42 (.int .i64 c), .iface 118 (.pointer (some ⟨tb, 0, none⟩)), .agg #[.pointer (some ⟨9, 118, none⟩), .pointer (some A), .int .u64 150], .iface 135 (.agg #[.pointer (some ⟨9, 72, none⟩)])] w
      fun e w' => e = .returned (.bool false) ∧ w.grownBy w' none := by
  have hTO := @run_callFunc_extern Tryz.prog 93 _ ReflectliteType.typeOf Tryz.func93 (by kernel_rfl) (by kernel_rfl) (by kernel_rfl) (by kernel_rfl)
  have hAT := @run_callFunc_extern Tryz.prog 174 _ (ReflectliteType.relation "AssignableTo" ReflectliteType.assignableTo) Tryz.func174 (by kernel_rfl) (by kernel_rfl) (by kernel_rfl) (by kernel_rfl)
  have tO := Tryz.typeOfE
  have mA := Tryz.methodAssignableTo
  have aEF := Tryz.assignableEF
  have s1 := Tryz.asAsE
  have s2 := Tryz.asUnE
  have s3 := Tryz.asUmE
  go_enter Tryz.func71, Tryz.ntmps71
  go_wp2
  refine wp_loop_rounds 1 ?_
  rw [rounds_succ]
  go_wp2
  go_ret
  exact ⟨rfl, World.grownBy_alloc _ _ _⟩

end Go.Proofs.YtbiohohclnaocaaGreatDoor
