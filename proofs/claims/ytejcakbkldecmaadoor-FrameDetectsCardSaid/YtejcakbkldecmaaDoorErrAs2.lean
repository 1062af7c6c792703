/-
  Walks: errors.as at the target *api.Fault.
-/
import Derived.Test.YtejcakbkldecmaaDoorErrAs
namespace Go.Proofs.YtejcakbkldecmaaDoor
open Go.RowKit Go.Extern.Stop Go.Stop Go.Extern
set_option linter.unusedVariables false

set_option maxHeartbeats 4000000 in
/-- errors.as of an api.Fault at a target *api.Fault. -/
theorem as_FF (c a : Int) (tb : Nat) (A : Addr) (o1 o2 : Value) (w : World) (hA : w.cell? A = some (.pointer (some ⟨tb, 0, none⟩))) (ht0 : w.cell? ⟨tb, 0, none⟩ = some o1) (ht1 : w.cell? ⟨tb, 1, none⟩ = some o2)
    (hf0 : w.frozen? ⟨tb, 0, none⟩ = false) (hf1 : w.frozen? ⟨tb, 1, none⟩ = false) :
    Calls Tryd.prog 41 #[.iface 61 (.agg #[.int .i64 c, .int .i64 a]), .iface 88 (.pointer (some ⟨tb, 0, none⟩)), .agg #[.pointer (some ⟨1, 88, none⟩), .pointer (some A), .int .u64 150], .iface 92 (.agg #[.pointer (some ⟨1, 61, none⟩)])] w
      fun e w' => e = .returned (.bool true) ∧ w.grownBy w' (some tb) ∧ w'.cell? ⟨tb, 0, none⟩ = some (.int .i64 c) ∧ w'.cell? ⟨tb, 1, none⟩ = some (.int .i64 a) := by
  have hTO := @run_callFunc_extern Tryd.prog 43 _ ReflectliteType.typeOf Tryd.func43 (by kernel_rfl) (by kernel_rfl) (by kernel_rfl) (by kernel_rfl)
  have hAT := @run_callFunc_extern Tryd.prog 72 _ (ReflectliteType.relation "AssignableTo" ReflectliteType.assignableTo) Tryd.func72 (by kernel_rfl) (by kernel_rfl) (by kernel_rfl) (by kernel_rfl)
  have hEl := @run_callFunc_extern Tryd.prog 44 _ (ReflectliteValue.method (ReflectliteValue.valueError "reflectlite.Value.Elem" 0) ReflectliteValue.elem) Tryd.func44 (by kernel_rfl) (by kernel_rfl) (by kernel_rfl) (by kernel_rfl)
  have hVO := @run_callFunc_extern Tryd.prog 38 _ (fun args => ReflectliteValue.unpack (args.getD 0 (.tuple #[]))) Tryd.func38 (by kernel_rfl) (by kernel_rfl) (by kernel_rfl) (by kernel_rfl)
  have hSt := @run_callFunc_extern Tryd.prog 45 _ ReflectliteValue.set Tryd.func45 (by kernel_rfl) (by kernel_rfl) (by kernel_rfl) (by kernel_rfl)
  have tO := Tryd.typeOfF
  have mA := Tryd.methodAssignableTo
  have aFF := Tryd.assignableFF
  have vF := Tryd.valueOfF
  have hAl : A.block < w.heap.size := cell_lt hA
  have htl : tb < w.heap.size := cell_lt ht0
  have el := Tryd.elemVPF A ⟨tb, 0, none⟩ (w.alloc (.cells #[.pointer (some ⟨1, 88, none⟩), .pointer (some A), .int .u64 150] 79)) (by rw [World.cell?_alloc_lt _ _ A hAl]; exact hA)
  have h0 : ((w.alloc (.cells #[.pointer (some ⟨1, 88, none⟩), .pointer (some A), .int .u64 150] 79)).alloc (.cells #[.int .i64 c, .int .i64 a] 61)).cell? ⟨tb, 0, none⟩ = some o1 := by
    rw [World.cell?_alloc_lt _ _ ⟨tb, 0, none⟩ (by simp; omega), World.cell?_alloc_lt _ _ ⟨tb, 0, none⟩ htl]; exact ht0
  have h1 : ((w.alloc (.cells #[.pointer (some ⟨1, 88, none⟩), .pointer (some A), .int .u64 150] 79)).alloc (.cells #[.int .i64 c, .int .i64 a] 61)).cell? ⟨tb, 1, none⟩ = some o2 := by
    rw [World.cell?_alloc_lt _ _ ⟨tb, 1, none⟩ (by simp; omega), World.cell?_alloc_lt _ _ ⟨tb, 1, none⟩ htl]; exact ht1
  have g0 : ((w.alloc (.cells #[.pointer (some ⟨1, 88, none⟩), .pointer (some A), .int .u64 150] 79)).alloc (.cells #[.int .i64 c, .int .i64 a] 61)).frozen? ⟨tb, 0, none⟩ = false := by
    rw [World.frozen?_alloc_old _ _ ⟨tb, 0, none⟩ (by simp; omega), World.frozen?_alloc_old _ _ ⟨tb, 0, none⟩ (Nat.ne_of_lt htl)]; exact hf0
  have g1 : ((w.alloc (.cells #[.pointer (some ⟨1, 88, none⟩), .pointer (some A), .int .u64 150] 79)).alloc (.cells #[.int .i64 c, .int .i64 a] 61)).frozen? ⟨tb, 1, none⟩ = false := by
    rw [World.frozen?_alloc_old _ _ ⟨tb, 1, none⟩ (by simp; omega), World.frozen?_alloc_old _ _ ⟨tb, 1, none⟩ (Nat.ne_of_lt htl)]; exact hf1
  have st := Tryd.setF tb (w.heap.size + 1) c a o1 o2 ((w.alloc (.cells #[.pointer (some ⟨1, 88, none⟩), .pointer (some A), .int .u64 150] 79)).alloc (.cells #[.int .i64 c, .int .i64 a] 61))
    (by rw [World.cell?_alloc_at _ _ _ _ (by simp)]; rfl) (by rw [World.cell?_alloc_at _ _ _ _ (by simp)]; rfl) h0 h1 g0 g1
  have hz : ((w.setCell ⟨tb, 0, none⟩ (.int .i64 c)).setCell ⟨tb, 1, none⟩ (.int .i64 a)).heap.size = w.heap.size := by simp [World.setCell]
  have hc0 : ((((w.setCell ⟨tb, 0, none⟩ (.int .i64 c)).setCell ⟨tb, 1, none⟩ (.int .i64 a)).alloc (.cells #[.pointer (some ⟨1, 88, none⟩), .pointer (some A), .int .u64 150] 79)).alloc (.cells #[.int .i64 c, .int .i64 a] 61)).cell? ⟨tb, 0, none⟩ = some (.int .i64 c) := by
    rw [World.cell?_alloc_lt _ _ ⟨tb, 0, none⟩ (by simp only [World.size_alloc, hz]; omega), World.cell?_alloc_lt _ _ ⟨tb, 0, none⟩ (by rw [hz]; exact htl), World.cell?_setCell_other _ _ _ _ (by simp)]
    exact World.cell?_setCell_same _ _ _ ht0
  have hc1 : ((((w.setCell ⟨tb, 0, none⟩ (.int .i64 c)).setCell ⟨tb, 1, none⟩ (.int .i64 a)).alloc (.cells #[.pointer (some ⟨1, 88, none⟩), .pointer (some A), .int .u64 150] 79)).alloc (.cells #[.int .i64 c, .int .i64 a] 61)).cell? ⟨tb, 1, none⟩ = some (.int .i64 a) := by
    rw [World.cell?_alloc_lt _ _ ⟨tb, 1, none⟩ (by simp only [World.size_alloc, hz]; omega), World.cell?_alloc_lt _ _ ⟨tb, 1, none⟩ (by rw [hz]; exact htl)]
    exact World.cell?_setCell_same _ _ _ (by rw [World.cell?_setCell_other _ _ _ _ (by simp)]; exact ht1)
  have Hc0 := Lib.hid hc0; clear hc0 h0 h1 g0 g1 hz
  have Hc1 := Lib.hid hc1; clear hc1
  go_enter Tryd.func41, Tryd.ntmps41
  go_wp2
  refine wp_loop_rounds 1 ?_
  rw [rounds_succ]
  go_wp2
  go_ret
  exact ⟨rfl, grownBy_trans (grownBy_trans (grownBy_trans (grownBy_set _ ⟨tb, 0, none⟩ _) (grownBy_set _ ⟨tb, 1, none⟩ _)) (World.grownBy_alloc _ _ _)) (World.grownBy_alloc _ _ _), Hc0.out, Hc1.out⟩

set_option maxHeartbeats 4000000 in
/-- errors.as of an api.Errno at a target *api.Fault: no. -/
theorem as_FE (c : Int) (tb : Nat) (A : Addr) (w : World) :
    Calls Tryd.prog 41 #[.iface 35 (.int .i64 c), .iface 88 (.pointer (some ⟨tb, 0, none⟩)), .agg #[.pointer (some ⟨1, 88, none⟩), .pointer (some A), .int .u64 150], .iface 92 (.agg #[.pointer (some ⟨1, 61, none⟩)])] w
      fun e w' => e = .returned (.bool false) ∧ w.grownBy w' none := by
  have hTO := @run_callFunc_extern Tryd.prog 43 _ ReflectliteType.typeOf Tryd.func43 (by kernel_rfl) (by kernel_rfl) (by kernel_rfl) (by kernel_rfl)
  have hAT := @run_callFunc_extern Tryd.prog 72 _ (ReflectliteType.relation "AssignableTo" ReflectliteType.assignableTo) Tryd.func72 (by kernel_rfl) (by kernel_rfl) (by kernel_rfl) (by kernel_rfl)
  have tO := Tryd.typeOfE
  have mA := Tryd.methodAssignableTo
  have aEF := Tryd.assignableEF
  have s1 := Tryd.asAsE
  have s2 := Tryd.asUnE
  have s3 := Tryd.asUmE
  go_enter Tryd.func41, Tryd.ntmps41
  go_wp2
  refine wp_loop_rounds 1 ?_
  rw [rounds_succ]
  go_wp2
  go_ret
  exact ⟨rfl, World.grownBy_alloc _ _ _⟩

end Go.Proofs.YtejcakbkldecmaaDoor
