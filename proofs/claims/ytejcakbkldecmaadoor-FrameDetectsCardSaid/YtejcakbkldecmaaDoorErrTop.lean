/-
  Walks: errors.As at the targets *api.Errno and *api.Fault.
-/
import Derived.Test.YtejcakbkldecmaaDoorErrAs2
namespace Go.Proofs.YtejcakbkldecmaaDoor
open Go.RowKit Go.Extern.Stop Go.Stop Go.Extern
set_option linter.unusedVariables false

theorem As_nil (t : Value) (w : World) : Calls Tryd.prog 29 #[.nilIface, t] w fun e w' => e = .returned (.bool false) ∧ w = w' := by
  go_enter Tryd.func29, Tryd.ntmps29
  go_wp2
  go_ret
  exact ⟨rfl, rfl⟩

set_option maxHeartbeats 4000000 in
/-- errors.As of an error that is not nil at a target *api.Errno: as errors.as says. -/
theorem As_E (u : TypeId) (x : Value) (t : Addr) (w : World) (hD : Door w) (ht : t.block < w.heap.size) (Q : Ending → World → Prop)
    (h : ∀ (w1 : World) (A : Addr), Below w.heap.size w w1 → w1.cell? A = some (.pointer (some t)) → w.heap.size ≤ A.block →
      Calls Tryd.prog 41 #[.iface u x, .iface 59 (.pointer (some t)), .agg #[.pointer (some ⟨1, 59, none⟩), .pointer (some A), .int .u64 150], .iface 92 (.agg #[.pointer (some ⟨1, 35, none⟩)])] w1 fun e w' => ∃ b, e = .returned (.bool b) ∧ Q e w') :
    Calls Tryd.prog 29 #[.iface u x, .iface 59 (.pointer (some t))] w Q := by
  have hVO := @run_callFunc_extern Tryd.prog 38 _ (fun args => ReflectliteValue.unpack (args.getD 0 (.tuple #[]))) Tryd.func38 (by kernel_rfl) (by kernel_rfl) (by kernel_rfl) (by kernel_rfl)
  have hTy := @run_callFunc_extern Tryd.prog 39 _ (ReflectliteValue.methodAny (ReflectliteValue.valueError "reflectlite.Value.Type" 0) (fun t _ _ _ => ReflectliteType.toType t)) Tryd.func39 (by kernel_rfl) (by kernel_rfl) (by kernel_rfl) (by kernel_rfl)
  have hIN := @run_callFunc_extern Tryd.prog 40 _ (ReflectliteValue.method (ReflectliteValue.valueError "reflectlite.Value.IsNil" 0) ReflectliteValue.isNil) Tryd.func40 (by kernel_rfl) (by kernel_rfl) (by kernel_rfl) (by kernel_rfl)
  have hKi := @run_callFunc_extern Tryd.prog 60 _ (ReflectliteType.abiMethod fun t => do pure (.int .u8 (← Rtype.kind t))) Tryd.func60 (by kernel_rfl) (by kernel_rfl) (by kernel_rfl) (by kernel_rfl)
  have hEl := @run_callFunc_extern Tryd.prog 74 _ (ReflectliteType.method ReflectliteType.elem) Tryd.func74 (by kernel_rfl) (by kernel_rfl) (by kernel_rfl) (by kernel_rfl)
  have hIm := @run_callFunc_extern Tryd.prog 75 _ (ReflectliteType.relation "Implements" ReflectliteType.implements_) Tryd.func75 (by kernel_rfl) (by kernel_rfl) (by kernel_rfl) (by kernel_rfl)
  have f6 := Tryd.valueOfPE
  have f7 := Tryd.typePE
  have mK := Tryd.methodKind
  have mE := Tryd.methodElem
  have mI := Tryd.methodImplements
  have k27 := Tryd.kindPE
  have k25 := Tryd.kindE
  have e27 := Tryd.elemPE
  have i25 := Tryd.implementsE
  have n8 := Tryd.isNilPE ⟨w.heap.size, 0, none⟩ t ((w.alloc (.cells #[.pointer (some t)] 59)).alloc (.cells #[.pointer (some ⟨1, 59, none⟩), .pointer (some ⟨w.heap.size, 0, none⟩), .int .u64 150] 79)) (by simp)
  have hlt : 0 < w.heap.size := cell_lt hD
  have hg2 : ((w.alloc (.cells #[.pointer (some t)] 59)).alloc (.cells #[.pointer (some ⟨1, 59, none⟩), .pointer (some ⟨w.heap.size, 0, none⟩), .int .u64 150] 79)).cell? ⟨0, 0, none⟩ = some (.iface 92 (.agg #[.pointer (some ⟨1, 28, none⟩)])) := by
    rw [World.cell?_alloc_lt _ _ ⟨0, 0, none⟩ (by simp only [World.size_alloc]; omega), World.cell?_alloc_lt _ _ ⟨0, 0, none⟩ hlt]; exact hD
  have H := Lib.hid (h ((w.alloc (.cells #[.pointer (some t)] 59)).alloc (.cells #[.pointer (some ⟨1, 59, none⟩), .pointer (some ⟨w.heap.size, 0, none⟩), .int .u64 150] 79)) ⟨w.heap.size, 0, none⟩
    (((Below.refl _ _).alloc (Nat.le_refl _) _).alloc (by simp only [World.size_alloc]; omega) _) (by simp) (Nat.le_refl _))
  clear h hD
  go_enter Tryd.func29, Tryd.ntmps29
  go_wp2_with fail
  refine H.out.mono ?_
  rintro e w' ⟨b, rfl, hq⟩
  have Hq := Lib.hid hq; clear hq H
  go_wp2_with fail
  exact Hq.out

set_option maxHeartbeats 4000000 in
/-- errors.As of an error that is not nil at a target *api.Fault: as errors.as says. -/
theorem As_F (u : TypeId) (x : Value) (t : Addr) (w : World) (hD : Door w) (ht : t.block < w.heap.size) (Q : Ending → World → Prop)
    (h : ∀ (w1 : World) (A : Addr), Below w.heap.size w w1 → w1.cell? A = some (.pointer (some t)) → w.heap.size ≤ A.block →
      Calls Tryd.prog 41 #[.iface u x, .iface 88 (.pointer (some t)), .agg #[.pointer (some ⟨1, 88, none⟩), .pointer (some A), .int .u64 150], .iface 92 (.agg #[.pointer (some ⟨1, 61, none⟩)])] w1 fun e w' => ∃ b, e = .returned (.bool b) ∧ Q e w') :
    Calls Tryd.prog 29 #[.iface u x, .iface 88 (.pointer (some t))] w Q := by
  have hVO := @run_callFunc_extern Tryd.prog 38 _ (fun args => ReflectliteValue.unpack (args.getD 0 (.tuple #[]))) Tryd.func38 (by kernel_rfl) (by kernel_rfl) (by kernel_rfl) (by kernel_rfl)
  have hTy := @run_callFunc_extern Tryd.prog 39 _ (ReflectliteValue.methodAny (ReflectliteValue.valueError "reflectlite.Value.Type" 0) (fun t _ _ _ => ReflectliteType.toType t)) Tryd.func39 (by kernel_rfl) (by kernel_rfl) (by kernel_rfl) (by kernel_rfl)
  have hIN := @run_callFunc_extern Tryd.prog 40 _ (ReflectliteValue.method (ReflectliteValue.valueError "reflectlite.Value.IsNil" 0) ReflectliteValue.isNil) Tryd.func40 (by kernel_rfl) (by kernel_rfl) (by kernel_rfl) (by kernel_rfl)
  have hKi := @run_callFunc_extern Tryd.prog 60 _ (ReflectliteType.abiMethod fun t => do pure (.int .u8 (← Rtype.kind t))) Tryd.func60 (by kernel_rfl) (by kernel_rfl) (by kernel_rfl) (by kernel_rfl)
  have hEl := @run_callFunc_extern Tryd.prog 74 _ (ReflectliteType.method ReflectliteType.elem) Tryd.func74 (by kernel_rfl) (by kernel_rfl) (by kernel_rfl) (by kernel_rfl)
  have hIm := @run_callFunc_extern Tryd.prog 75 _ (ReflectliteType.relation "Implements" ReflectliteType.implements_) Tryd.func75 (by kernel_rfl) (by kernel_rfl) (by kernel_rfl) (by kernel_rfl)
  have f6 := Tryd.valueOfPF
  have f7 := Tryd.typePF
  have mK := Tryd.methodKind
  have mE := Tryd.methodElem
  have mI := Tryd.methodImplements
  have k27 := Tryd.kindPF
  have k25 := Tryd.kindF
  have e27 := Tryd.elemPF
  have i25 := Tryd.implementsF
  have n8 := Tryd.isNilPF ⟨w.heap.size, 0, none⟩ t ((w.alloc (.cells #[.pointer (some t)] 88)).alloc (.cells #[.pointer (some ⟨1, 88, none⟩), .pointer (some ⟨w.heap.size, 0, none⟩), .int .u64 150] 79)) (by simp)
  have hlt : 0 < w.heap.size := cell_lt hD
  have hg2 : ((w.alloc (.cells #[.pointer (some t)] 88)).alloc (.cells #[.pointer (some ⟨1, 88, none⟩), .pointer (some ⟨w.heap.size, 0, none⟩), .int .u64 150] 79)).cell? ⟨0, 0, none⟩ = some (.iface 92 (.agg #[.pointer (some ⟨1, 28, none⟩)])) := by
    rw [World.cell?_alloc_lt _ _ ⟨0, 0, none⟩ (by simp only [World.size_alloc]; omega), World.cell?_alloc_lt _ _ ⟨0, 0, none⟩ hlt]; exact hD
  have H := Lib.hid (h ((w.alloc (.cells #[.pointer (some t)] 88)).alloc (.cells #[.pointer (some ⟨1, 88, none⟩), .pointer (some ⟨w.heap.size, 0, none⟩), .int .u64 150] 79)) ⟨w.heap.size, 0, none⟩
    (((Below.refl _ _).alloc (Nat.le_refl _) _).alloc (by simp only [World.size_alloc]; omega) _) (by simp) (Nat.le_refl _))
  clear h hD
  go_enter Tryd.func29, Tryd.ntmps29
  go_wp2_with fail
  refine H.out.mono ?_
  rintro e w' ⟨b, rfl, hq⟩
  have Hq := Lib.hid hq; clear hq H
  go_wp2_with fail
  exact Hq.out

end Go.Proofs.YtejcakbkldecmaaDoor
