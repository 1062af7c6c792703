/-
  Walks: errors.As at the targets *api.Errno and *api.Fault.
-/
import Derived.Test.YtbiohohclnaocaaGreatDoorErrAs2
namespace Go.Proofs.YtbiohohclnaocaaGreatDoor
open Go.RowKit Go.Extern.Stop Go.Stop Go.Extern
set_option linter.unusedVariables false

theorem As_nil (t : Value) (w : World) : Calls Tryz.prog 46 #[.nilIface, t] w fun e w' => e = .returned (.bool false) ∧ w = w' := by
  go_enter Tryz.func46, Tryz.ntmps46
  go_wp2
  go_ret
  exact ⟨rfl, rfl⟩

set_option maxHeartbeats 4000000 in
/-- errors.As of an error that is not nil at a target *api.Errno: as errors.as says. -/
theorem As_E (u : TypeId) (x : Value) (t : Addr) (w : World) (hD : Door w) (ht : t.block < w.heap.size) (Q : Ending → World → Prop)
    (h : ∀ (w1 : World) (A : Addr), Below w.heap.size w w1 → w1.cell? A = some (.pointer (some t)) → w.heap.size ≤ A.block →
      Calls Tryz.prog 71 #[.iface u x, .iface 70 (.pointer (some t)), .agg #[.pointer (some ⟨9, 70, none⟩), .pointer (some A), .int .u64 150], .iface 135 (.agg #[.pointer (some ⟨9, 42, none⟩)])] w1 fun e w' => ∃ b, e = .returned (.bool b) ∧ Q e w') :
    Calls Tryz.prog 46 #[.iface u x, .iface 70 (.pointer (some t))] w Q := by
  have hVO := @run_callFunc_extern Tryz.prog 68 _ (fun args => ReflectliteValue.unpack (args.getD 0 (.tuple #[]))) Tryz.func68 (by kernel_rfl) (by kernel_rfl) (by kernel_rfl) (by kernel_rfl)
  have hTy := @run_callFunc_extern Tryz.prog 69 _ (ReflectliteValue.methodAny (ReflectliteValue.valueError "reflectlite.Value.Type" 0) (fun t _ _ _ => ReflectliteType.toType t)) Tryz.func69 (by kernel_rfl) (by kernel_rfl) (by kernel_rfl) (by kernel_rfl)
  have hIN := @run_callFunc_extern Tryz.prog 70 _ (ReflectliteValue.method (ReflectliteValue.valueError "reflectlite.Value.IsNil" 0) ReflectliteValue.isNil) Tryz.func70 (by kernel_rfl) (by kernel_rfl) (by kernel_rfl) (by kernel_rfl)
  have hKi := @run_callFunc_extern Tryz.prog 163 _ (ReflectliteType.abiMethod fun t => do pure (.int .u8 (← Rtype.kind t))) Tryz.func163 (by kernel_rfl) (by kernel_rfl) (by kernel_rfl) (by kernel_rfl)
  have hEl := @run_callFunc_extern Tryz.prog 176 _ (ReflectliteType.method ReflectliteType.elem) Tryz.func176 (by kernel_rfl) (by kernel_rfl) (by kernel_rfl) (by kernel_rfl)
  have hIm := @run_callFunc_extern Tryz.prog 177 _ (ReflectliteType.relation "Implements" ReflectliteType.implements_) Tryz.func177 (by kernel_rfl) (by kernel_rfl) (by kernel_rfl) (by kernel_rfl)
  have f6 := Tryz.valueOfPE
  have f7 := Tryz.typePE
  have mK := Tryz.methodKind
  have mE := Tryz.methodElem
  have mI := Tryz.methodImplements
  have k27 := Tryz.kindPE
  have k25 := Tryz.kindE
  have e27 := Tryz.elemPE
  have i25 := Tryz.implementsE
  have n8 := Tryz.isNilPE ⟨w.heap.size, 0, none⟩ t ((w.alloc (.cells #[.pointer (some t)] 70)).alloc (.cells #[.pointer (some ⟨9, 70, none⟩), .pointer (some ⟨w.heap.size, 0, none⟩), .int .u64 150] 109)) (by simp)
  have hlt : 0 < w.heap.size := cell_lt hD
  have hg2 : ((w.alloc (.cells #[.pointer (some t)] 70)).alloc (.cells #[.pointer (some ⟨9, 70, none⟩), .pointer (some ⟨w.heap.size, 0, none⟩), .int .u64 150] 109)).cell? ⟨0, 0, none⟩ = some (.iface 135 (.agg #[.pointer (some ⟨9, 33, none⟩)])) := by
    rw [World.cell?_alloc_lt _ _ ⟨0, 0, none⟩ (by simp only [World.size_alloc]; omega), World.cell?_alloc_lt _ _ ⟨0, 0, none⟩ hlt]; exact hD
  have H := Lib.hid (h ((w.alloc (.cells #[.pointer (some t)] 70)).alloc (.cells #[.pointer (some ⟨9, 70, none⟩), .pointer (some ⟨w.heap.size, 0, none⟩), .int .u64 150] 109)) ⟨w.heap.size, 0, none⟩
    (((Below.refl _ _).alloc (Nat.le_refl _) _).alloc (by simp only [World.size_alloc]; omega) _) (by simp) (Nat.le_refl _))
  clear h hD
  go_enter Tryz.func46, Tryz.ntmps46
  go_wp2_with fail
  refine H.out.mono ?_
  rintro e w' ⟨b, rfl, hq⟩
  have Hq := Lib.hid hq; clear hq H
  go_wp2_with fail
  exact Hq.out

set_option maxHeartbeats 4000000 in
/-- errors.As of an error that is not nil at a target *api.Fault: as errors.as says. -/
theorem As_F (u : TypeId) (x : Value) (t : Addr) (w : World) (hD : Door w) (ht : t.block < w.heap.size) (Q : Ending → World → Prop)
    (h : ∀ (w1 : World) (A : Addr), Below w.heap.size w w1 → w1.cell? A = some (.pointer (some t)) → w.heap.size ≤ A.block →
      Calls Tryz.prog 71 #[.iface u x, .iface 118 (.pointer (some t)), .agg #[.pointer (some ⟨9, 118, none⟩), .pointer (some A), .int .u64 150], .iface 135 (.agg #[.pointer (some ⟨9, 72, none⟩)])] w1 fun e w' => ∃ b, e = .returned (.bool b) ∧ Q e w') :
    Calls Tryz.prog 46 #[.iface u x, .iface 118 (.pointer (some t))] w Q := by
  have hVO := @run_callFunc_extern Tryz.prog 68 _ (fun args => ReflectliteValue.unpack (args.getD 0 (.tuple #[]))) Tryz.func68 (by kernel_rfl) (by kernel_rfl) (by kernel_rfl) (by kernel_rfl)
  have hTy := @run_callFunc_extern Tryz.prog 69 _ (ReflectliteValue.methodAny (ReflectliteValue.valueError "reflectlite.Value.Type" 0) (fun t _ _ _ => ReflectliteType.toType t)) Tryz.func69 (by kernel_rfl) (by kernel_rfl) (by kernel_rfl) (by kernel_rfl)
  have hIN := @run_callFunc_extern Tryz.prog 70 _ (ReflectliteValue.method (ReflectliteValue.valueError "reflectlite.Value.IsNil" 0) ReflectliteValue.isNil) Tryz.func70 (by kernel_rfl) (by kernel_rfl) (by kernel_rfl) (by kernel_rfl)
  have hKi := @run_callFunc_extern Tryz.prog 163 _ (ReflectliteType.abiMethod fun t => do pure (.int .u8 (← Rtype.kind t))) Tryz.func163 (by kernel_rfl) (by kernel_rfl) (by kernel_rfl) (by kernel_rfl)
  have hEl := @run_callFunc_extern Tryz.prog 176 _ (ReflectliteType.method ReflectliteType.elem) Tryz.func176 (by kernel_rfl) (by kernel_rfl) (by kernel_rfl) (by kernel_rfl)
  have hIm := @run_callFunc_extern Tryz.prog 177 _ (ReflectliteType.relation "Implements" ReflectliteType.implements_) Tryz.func177 (by kernel_rfl) (by kernel_rfl) (by kernel_rfl) (by kernel_rfl)
  have f6 := Tryz.valueOfPF
  have f7 := Tryz.typePF
  have mK := Tryz.methodKind
  have mE := Tryz.methodElem
  have mI := Tryz.methodImplements
  have k27 := Tryz.kindPF
  have k25 := Tryz.kindF
  have e27 := Tryz.elemPF
  have i25 := Tryz.implementsF
  have n8 := Tryz.isNilPF ⟨w.heap.size, 0, none⟩ t ((w.alloc (.cells #[.pointer (some t)] 118)).alloc (.cells #[.pointer (some ⟨9, 118, none⟩), .pointer (some ⟨w.heap.size, 0, none⟩), .int .u64 150] 109)) (by simp)
  have hlt : 0 < w.heap.size := cell_lt hD
  have hg2 : ((w.alloc (.cells #[.pointer (some t)] 118)).alloc (.cells #[.pointer (some ⟨9, 118, none⟩), .pointer (some ⟨w.heap.size, 0, none⟩), .int .u64 150] 109)).cell? ⟨0, 0, none⟩ = some (.iface 135 (.agg #[.pointer (some ⟨9, 33, none⟩)])) := by
    rw [World.cell?_alloc_lt _ _ ⟨0, 0, none⟩ (by simp only [World.size_alloc]; omega), World.cell?_alloc_lt _ _ ⟨0, 0, none⟩ hlt]; exact hD
  have H := Lib.hid (h ((w.alloc (.cells #[.pointer (some t)] 118)).alloc (.cells #[.pointer (some ⟨9, 118, none⟩), .pointer (some ⟨w.heap.size, 0, none⟩), .int .u64 150] 109)) ⟨w.heap.size, 0, none⟩
    (((Below.refl _ _).alloc (Nat.le_refl _) _).alloc (by simp only [World.size_alloc]; omega) _) (by simp) (Nat.le_refl _))
  clear h hD
  go_enter Tryz.func46, Tryz.ntmps46
  go_wp2_with fail
  refine H.out.mono ?_
  rintro e w' ⟨b, rfl, hq⟩
  have Hq := Lib.hid hq; clear hq H
  go_wp2_with fail
  exact Hq.out

end Go.Proofs.YtbiohohclnaocaaGreatDoor
