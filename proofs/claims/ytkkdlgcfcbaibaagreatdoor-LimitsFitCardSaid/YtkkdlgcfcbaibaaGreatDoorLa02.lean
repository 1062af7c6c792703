/- Walks and laws, joined: La02. -/
import Derived.WalkSpells
import Derived.BigQuiet
import Derived.Laws.Bits64
import Derived.Test.YtkkdlgcfcbaibaaGreatDoorLa01
set_option linter.unusedVariables false
namespace Go.Proofs.YtkkdlgcfcbaibaaGreatDoor
section
open Go.RowKit Go.Extern.Stop Go.Stop Go.Extern
set_option maxHeartbeats 4000000 in
theorem as_FF (c a : Int) (tb : Nat) (A : Addr) (o1 o2 : Value) (w : World) (hA : w.cell? A = some (.pointer (some ⟨tb, 0, none⟩))) (ht0 : w.cell? ⟨tb, 0, none⟩ = some o1) (ht1 : w.cell? ⟨tb, 1, none⟩ = some o2)
 (hf0 : w.frozen? ⟨tb, 0, none⟩ = false) (hf1 : w.frozen? ⟨tb, 1, none⟩ = false) :
 Calls Tryz.prog 92 #[.iface 99 (.agg #[.int .i64 c, .int .i64 a]), .iface 113 (.pointer (some ⟨tb, 0, none⟩)), .agg #[.pointer (some ⟨2, 113, none⟩), .pointer (some A), .int .u64 150], .iface 186 (.agg #[.pointer (some ⟨2, 99, none⟩)])] w
  fun e w' => e = .returned (.bool true) ∧ w.grownBy w' (some tb) ∧ w'.cell? ⟨tb, 0, none⟩ = some (.int .i64 c) ∧ w'.cell? ⟨tb, 1, none⟩ = some (.int .i64 a) := by
 have hTO := @run_callFunc_extern Tryz.prog 133 _ ReflectliteType.typeOf Tryz.func133 (by kernel_rfl) (by kernel_rfl) (by kernel_rfl) (by kernel_rfl)
 have hAT := @run_callFunc_extern Tryz.prog 268 _ (ReflectliteType.relation "AssignableTo" ReflectliteType.assignableTo) Tryz.func268 (by kernel_rfl) (by kernel_rfl) (by kernel_rfl) (by kernel_rfl)
 have hEl := @run_callFunc_extern Tryz.prog 136 _ (ReflectliteValue.method (ReflectliteValue.valueError "reflectlite.Value.Elem" 0) ReflectliteValue.elem) Tryz.func136 (by kernel_rfl) (by kernel_rfl) (by kernel_rfl) (by kernel_rfl)
 have hVO := @run_callFunc_extern Tryz.prog 89 _ (fun args => ReflectliteValue.unpack (args.getD 0 (.tuple #[]))) Tryz.func89 (by kernel_rfl) (by kernel_rfl) (by kernel_rfl) (by kernel_rfl)
 have hSt := @run_callFunc_extern Tryz.prog 137 _ ReflectliteValue.set Tryz.func137 (by kernel_rfl) (by kernel_rfl) (by kernel_rfl) (by kernel_rfl)
 have tO := Tryz.typeOfF
 have mA := Tryz.methodAssignableTo
 have aFF := Tryz.assignableFF
 have vF := Tryz.valueOfF
 have hAl : A.block < w.heap.size := cell_lt hA
 have htl : tb < w.heap.size := cell_lt ht0
 have el := Tryz.elemVPF A ⟨tb, 0, none⟩ (w.alloc (.cells #[.pointer (some ⟨2, 113, none⟩), .pointer (some A), .int .u64 150] 136)) (by rw [World.cell?_alloc_lt _ _ A hAl]; exact hA)
 have h0 : ((w.alloc (.cells #[.pointer (some ⟨2, 113, none⟩), .pointer (some A), .int .u64 150] 136)).alloc (.cells #[.int .i64 c, .int .i64 a] 99)).cell? ⟨tb, 0, none⟩ = some o1 := by
  rw [World.cell?_alloc_lt _ _ ⟨tb, 0, none⟩ (by simp; omega), World.cell?_alloc_lt _ _ ⟨tb, 0, none⟩ htl]; exact ht0
 have h1 : ((w.alloc (.cells #[.pointer (some ⟨2, 113, none⟩), .pointer (some A), .int .u64 150] 136)).alloc (.cells #[.int .i64 c, .int .i64 a] 99)).cell? ⟨tb, 1, none⟩ = some o2 := by
  rw [World.cell?_alloc_lt _ _ ⟨tb, 1, none⟩ (by simp; omega), World.cell?_alloc_lt _ _ ⟨tb, 1, none⟩ htl]; exact ht1
 have g0 : ((w.alloc (.cells #[.pointer (some ⟨2, 113, none⟩), .pointer (some A), .int .u64 150] 136)).alloc (.cells #[.int .i64 c, .int .i64 a] 99)).frozen? ⟨tb, 0, none⟩ = false := by
  rw [World.frozen?_alloc_old _ _ ⟨tb, 0, none⟩ (by simp; omega), World.frozen?_alloc_old _ _ ⟨tb, 0, none⟩ (Nat.ne_of_lt htl)]; exact hf0
 have g1 : ((w.alloc (.cells #[.pointer (some ⟨2, 113, none⟩), .pointer (some A), .int .u64 150] 136)).alloc (.cells #[.int .i64 c, .int .i64 a] 99)).frozen? ⟨tb, 1, none⟩ = false := by
  rw [World.frozen?_alloc_old _ _ ⟨tb, 1, none⟩ (by simp; omega), World.frozen?_alloc_old _ _ ⟨tb, 1, none⟩ (Nat.ne_of_lt htl)]; exact hf1
 have st := Tryz.setF tb (w.heap.size + 1) c a o1 o2 ((w.alloc (.cells #[.pointer (some ⟨2, 113, none⟩), .pointer (some A), .int .u64 150] 136)).alloc (.cells #[.int .i64 c, .int .i64 a] 99))
  (by rw [World.cell?_alloc_at _ _ _ _ (by simp)]; rfl) (by rw [World.cell?_alloc_at _ _ _ _ (by simp)]; rfl) h0 h1 g0 g1
 have hz : ((w.setCell ⟨tb, 0, none⟩ (.int .i64 c)).setCell ⟨tb, 1, none⟩ (.int .i64 a)).heap.size = w.heap.size := by simp [World.setCell]
 have hc0 : ((((w.setCell ⟨tb, 0, none⟩ (.int .i64 c)).setCell ⟨tb, 1, none⟩ (.int .i64 a)).alloc (.cells #[.pointer (some ⟨2, 113, none⟩), .pointer (some A), .int .u64 150] 136)).alloc (.cells #[.int .i64 c, .int .i64 a] 99)).cell? ⟨tb, 0, none⟩ = some (.int .i64 c) := by
  rw [World.cell?_alloc_lt _ _ ⟨tb, 0, none⟩ (by simp only [World.size_alloc, hz]; omega), World.cell?_alloc_lt _ _ ⟨tb, 0, none⟩ (by rw [hz]; exact htl), World.cell?_setCell_other _ _ _ _ (by simp)]
  exact World.cell?_setCell_same _ _ _ ht0
 have hc1 : ((((w.setCell ⟨tb, 0, none⟩ (.int .i64 c)).setCell ⟨tb, 1, none⟩ (.int .i64 a)).alloc (.cells #[.pointer (some ⟨2, 113, none⟩), .pointer (some A), .int .u64 150] 136)).alloc (.cells #[.int .i64 c, .int .i64 a] 99)).cell? ⟨tb, 1, none⟩ = some (.int .i64 a) := by
  rw [World.cell?_alloc_lt _ _ ⟨tb, 1, none⟩ (by simp only [World.size_alloc, hz]; omega), World.cell?_alloc_lt _ _ ⟨tb, 1, none⟩ (by rw [hz]; exact htl)]
  exact World.cell?_setCell_same _ _ _ (by rw [World.cell?_setCell_other _ _ _ _ (by simp)]; exact ht1)
 have Hc0 := Lib.hid hc0; clear hc0 h0 h1 g0 g1 hz
 have Hc1 := Lib.hid hc1; clear hc1
 go_enter Tryz.func92, Tryz.ntmps92
 go_wp2
 refine wp_loop_rounds 1 ?_
 rw [rounds_succ]
 go_wp2
 go_ret
 exact ⟨rfl, grownBy_trans (grownBy_trans (grownBy_trans (grownBy_set _ ⟨tb, 0, none⟩ _) (grownBy_set _ ⟨tb, 1, none⟩ _)) (World.grownBy_alloc _ _ _)) (World.grownBy_alloc _ _ _), Hc0.out, Hc1.out⟩
set_option maxHeartbeats 4000000 in
theorem as_FE (c : Int) (tb : Nat) (A : Addr) (w : World) :
 Calls Tryz.prog 92 #[.iface 50 (.int .i64 c), .iface 113 (.pointer (some ⟨tb, 0, none⟩)), .agg #[.pointer (some ⟨2, 113, none⟩), .pointer (some A), .int .u64 150], .iface 186 (.agg #[.pointer (some ⟨2, 99, none⟩)])] w
  fun e w' => e = .returned (.bool false) ∧ w.grownBy w' none := by
 have hTO := @run_callFunc_extern Tryz.prog 133 _ ReflectliteType.typeOf Tryz.func133 (by kernel_rfl) (by kernel_rfl) (by kernel_rfl) (by kernel_rfl)
 have hAT := @run_callFunc_extern Tryz.prog 268 _ (ReflectliteType.relation "AssignableTo" ReflectliteType.assignableTo) Tryz.func268 (by kernel_rfl) (by kernel_rfl) (by kernel_rfl) (by kernel_rfl)
 have tO := Tryz.typeOfE
 have mA := Tryz.methodAssignableTo
 have aEF := Tryz.assignableEF
 have s1 := Tryz.asAsE
 have s2 := Tryz.asUnE
 have s3 := Tryz.asUmE
 go_enter Tryz.func92, Tryz.ntmps92
 go_wp2
 refine wp_loop_rounds 1 ?_
 rw [rounds_succ]
 go_wp2
 go_ret
 exact ⟨rfl, World.grownBy_alloc _ _ _⟩
theorem As_nil (t : Value) (w : World) : Calls Tryz.prog 52 #[.nilIface, t] w fun e w' => e = .returned (.bool false) ∧ w = w' := by
 go_enter Tryz.func52, Tryz.ntmps52
 go_wp2
 go_ret
 exact ⟨rfl, rfl⟩
set_option maxHeartbeats 4000000 in
theorem As_E (u : TypeId) (x : Value) (t : Addr) (w : World) (hD : Door w) (ht : t.block < w.heap.size) (Q : Ending → World → Prop)
 (h : ∀ (w1 : World) (A : Addr), Below w.heap.size w w1 → w1.cell? A = some (.pointer (some t)) → w.heap.size ≤ A.block →
   Calls Tryz.prog 92 #[.iface u x, .iface 97 (.pointer (some t)), .agg #[.pointer (some ⟨2, 97, none⟩), .pointer (some A), .int .u64 150], .iface 186 (.agg #[.pointer (some ⟨2, 50, none⟩)])] w1 fun e w' => ∃ b, e = .returned (.bool b) ∧ Q e w') :
 Calls Tryz.prog 52 #[.iface u x, .iface 97 (.pointer (some t))] w Q := by
 have hVO := @run_callFunc_extern Tryz.prog 89 _ (fun args => ReflectliteValue.unpack (args.getD 0 (.tuple #[]))) Tryz.func89 (by kernel_rfl) (by kernel_rfl) (by kernel_rfl) (by kernel_rfl)
 have hTy := @run_callFunc_extern Tryz.prog 90 _ (ReflectliteValue.methodAny (ReflectliteValue.valueError "reflectlite.Value.Type" 0) (fun t _ _ _ => ReflectliteType.toType t)) Tryz.func90 (by kernel_rfl) (by kernel_rfl) (by kernel_rfl) (by kernel_rfl)
 have hIN := @run_callFunc_extern Tryz.prog 91 _ (ReflectliteValue.method (ReflectliteValue.valueError "reflectlite.Value.IsNil" 0) ReflectliteValue.isNil) Tryz.func91 (by kernel_rfl) (by kernel_rfl) (by kernel_rfl) (by kernel_rfl)
 have hKi := @run_callFunc_extern Tryz.prog 257 _ (ReflectliteType.abiMethod fun t => do pure (.int .u8 (← Rtype.kind t))) Tryz.func257 (by kernel_rfl) (by kernel_rfl) (by kernel_rfl) (by kernel_rfl)
 have hEl := @run_callFunc_extern Tryz.prog 270 _ (ReflectliteType.method ReflectliteType.elem) Tryz.func270 (by kernel_rfl) (by kernel_rfl) (by kernel_rfl) (by kernel_rfl)
 have hIm := @run_callFunc_extern Tryz.prog 271 _ (ReflectliteType.relation "Implements" ReflectliteType.implements_) Tryz.func271 (by kernel_rfl) (by kernel_rfl) (by kernel_rfl) (by kernel_rfl)
 have f6 := Tryz.valueOfPE
 have f7 := Tryz.typePE
 have mK := Tryz.methodKind
 have mE := Tryz.methodElem
 have mI := Tryz.methodImplements
 have k27 := Tryz.kindPE
 have k25 := Tryz.kindE
 have e27 := Tryz.elemPE
 have i25 := Tryz.implementsE
 have n8 := Tryz.isNilPE ⟨w.heap.size, 0, none⟩ t ((w.alloc (.cells #[.pointer (some t)] 97)).alloc (.cells #[.pointer (some ⟨2, 97, none⟩), .pointer (some ⟨w.heap.size, 0, none⟩), .int .u64 150] 136)) (by simp)
 have hlt : 1 < w.heap.size := cell_lt hD
 have hg2 : ((w.alloc (.cells #[.pointer (some t)] 97)).alloc (.cells #[.pointer (some ⟨2, 97, none⟩), .pointer (some ⟨w.heap.size, 0, none⟩), .int .u64 150] 136)).cell? ⟨1, 0, none⟩ = some (.iface 186 (.agg #[.pointer (some ⟨2, 41, none⟩)])) := by
  rw [World.cell?_alloc_lt _ _ ⟨1, 0, none⟩ (by simp only [World.size_alloc]; omega), World.cell?_alloc_lt _ _ ⟨1, 0, none⟩ hlt]; exact hD
 have H := Lib.hid (h ((w.alloc (.cells #[.pointer (some t)] 97)).alloc (.cells #[.pointer (some ⟨2, 97, none⟩), .pointer (some ⟨w.heap.size, 0, none⟩), .int .u64 150] 136)) ⟨w.heap.size, 0, none⟩
  (((Below.refl _ _).alloc (Nat.le_refl _) _).alloc (by simp only [World.size_alloc]; omega) _) (by simp) (Nat.le_refl _))
 clear h hD
 go_enter Tryz.func52, Tryz.ntmps52
 go_wp2_with fail
 refine H.out.mono ?_
 rintro e w' ⟨b, rfl, hq⟩
 have Hq := Lib.hid hq; clear hq H
 go_wp2_with fail
 exact Hq.out
set_option maxHeartbeats 4000000 in
theorem As_F (u : TypeId) (x : Value) (t : Addr) (w : World) (hD : Door w) (ht : t.block < w.heap.size) (Q : Ending → World → Prop)
 (h : ∀ (w1 : World) (A : Addr), Below w.heap.size w w1 → w1.cell? A = some (.pointer (some t)) → w.heap.size ≤ A.block →
   Calls Tryz.prog 92 #[.iface u x, .iface 113 (.pointer (some t)), .agg #[.pointer (some ⟨2, 113, none⟩), .pointer (some A), .int .u64 150], .iface 186 (.agg #[.pointer (some ⟨2, 99, none⟩)])] w1 fun e w' => ∃ b, e = .returned (.bool b) ∧ Q e w') :
 Calls Tryz.prog 52 #[.iface u x, .iface 113 (.pointer (some t))] w Q := by
 have hVO := @run_callFunc_extern Tryz.prog 89 _ (fun args => ReflectliteValue.unpack (args.getD 0 (.tuple #[]))) Tryz.func89 (by kernel_rfl) (by kernel_rfl) (by kernel_rfl) (by kernel_rfl)
 have hTy := @run_callFunc_extern Tryz.prog 90 _ (ReflectliteValue.methodAny (ReflectliteValue.valueError "reflectlite.Value.Type" 0) (fun t _ _ _ => ReflectliteType.toType t)) Tryz.func90 (by kernel_rfl) (by kernel_rfl) (by kernel_rfl) (by kernel_rfl)
 have hIN := @run_callFunc_extern Tryz.prog 91 _ (ReflectliteValue.method (ReflectliteValue.valueError "reflectlite.Value.IsNil" 0) ReflectliteValue.isNil) Tryz.func91 (by kernel_rfl) (by kernel_rfl) (by kernel_rfl) (by kernel_rfl)
 have hKi := @run_callFunc_extern Tryz.prog 257 _ (ReflectliteType.abiMethod fun t => do pure (.int .u8 (← Rtype.kind t))) Tryz.func257 (by kernel_rfl) (by kernel_rfl) (by kernel_rfl) (by kernel_rfl)
 have hEl := @run_callFunc_extern Tryz.prog 270 _ (ReflectliteType.method ReflectliteType.elem) Tryz.func270 (by kernel_rfl) (by kernel_rfl) (by kernel_rfl) (by kernel_rfl)
 have hIm := @run_callFunc_extern Tryz.prog 271 _ (ReflectliteType.relation "Implements" ReflectliteType.implements_) Tryz.func271 (by kernel_rfl) (by kernel_rfl) (by kernel_rfl) (by kernel_rfl)
 have f6 := Tryz.valueOfPF
 have f7 := Tryz.typePF
 have mK := Tryz.methodKind
 have mE := Tryz.methodElem
 have mI := Tryz.methodImplements
 have k27 := Tryz.kindPF
 have k25 := Tryz.kindF
 have e27 := Tryz.elemPF
 have i25 := Tryz.implementsF
 have n8 := Tryz.isNilPF ⟨w.heap.size, 0, none⟩ t ((w.alloc (.cells #[.pointer (some t)] 113)).alloc (.cells #[.pointer (some ⟨2, 113, none⟩), .pointer (some ⟨w.heap.size, 0, none⟩), .int .u64 150] 136)) (by simp)
 have hlt : 1 < w.heap.size := cell_lt hD
 have hg2 : ((w.alloc (.cells #[.pointer (some t)] 113)).alloc (.cells #[.pointer (some ⟨2, 113, none⟩), .pointer (some ⟨w.heap.size, 0, none⟩), .int .u64 150] 136)).cell? ⟨1, 0, none⟩ = some (.iface 186 (.agg #[.pointer (some ⟨2, 41, none⟩)])) := by
  rw [World.cell?_alloc_lt _ _ ⟨1, 0, none⟩ (by simp only [World.size_alloc]; omega), World.cell?_alloc_lt _ _ ⟨1, 0, none⟩ hlt]; exact hD
 have H := Lib.hid (h ((w.alloc (.cells #[.pointer (some t)] 113)).alloc (.cells #[.pointer (some ⟨2, 113, none⟩), .pointer (some ⟨w.heap.size, 0, none⟩), .int .u64 150] 136)) ⟨w.heap.size, 0, none⟩
  (((Below.refl _ _).alloc (Nat.le_refl _) _).alloc (by simp only [World.size_alloc]; omega) _) (by simp) (Nat.le_refl _))
 clear h hD
 go_enter Tryz.func52, Tryz.ntmps52
 go_wp2_with fail
 refine H.out.mono ?_
 rintro e w' ⟨b, rfl, hq⟩
 have Hq := Lib.hid hq; clear hq H
 go_wp2_with fail
 exact Hq.out
abbrev Err := Option (Int × Option Int)
def errVal : Err → Value
 | none => .nilIface
 | some (c, none) => .iface 50 (.int .i64 c)
 | some (c, some a) => .iface 99 (.agg #[.int .i64 c, .int .i64 a])
def errCode : Err → Int
 | none => 0
 | some (c, _) => c
def errAt : Err → Int
 | some (_, some a) => a
 | _ => -1
def errNew (c a : Int) : Err := if c = 0 then none else some (c, some a)
theorem below_of_grown {w0 w w' : World} {g : Nat} (hb : Below w0.heap.size w0 w) (hg : w0.heap.size ≤ g) (h : w.grownBy w' (some g)) : Below w0.heap.size w0 w' :=
 hb.grown h hb.size (fun k hk => by cases hk; exact hg)
theorem below_of_grown_none {w0 w w' : World} (hb : Below w0.heap.size w0 w) (h : w.grownBy w' none) : Below w0.heap.size w0 w' :=
 hb.grown h hb.size (fun k hk => by cases hk)
set_option maxHeartbeats 1000000 in
theorem code_any (x : Err) (w : World) (hD : Door w) :
 Calls Tryz.prog 23 #[errVal x] w fun e w' => e = .returned (.int .i64 (errCode x)) ∧ Below w.heap.size w w' := by
 have hD' := Lib.hid (fun o => hD.below (Nat.le_refl _) ((Below.refl _ w).alloc (Nat.le_refl _) o))
 clear hD
 rcases x with _ | ⟨c, _ | a⟩
 · go_enter Tryz.func23, Tryz.ntmps23
   simp only [errVal]
   go_wp2_with fail
   go_ret
   exact ⟨rfl, (Below.refl _ _).alloc (Nat.le_refl _) _⟩
 · go_enter Tryz.func23, Tryz.ntmps23
   simp only [errVal]
   go_wp2_with fail
   refine As_E _ _ _ _ (hD'.out _) (by simp) _ ?_
   intro w1 A hb hA hAs
   have hb2 : Below w.heap.size w w1 := ((Below.refl _ _).alloc (Nat.le_refl _) _).trans (hb.mono (by simp))
   have hc : w1.cell? ⟨w.heap.size, 0, none⟩ = some (.int .i64 0) := by rw [hb.cell (p := ⟨w.heap.size, 0, none⟩) (by simp)]; simp
   have hf : w1.frozen? ⟨w.heap.size, 0, none⟩ = false := by rw [hb.frozen (p := ⟨w.heap.size, 0, none⟩) (by simp)]; simp
   refine (as_EE c ⟨w.heap.size, 0, none⟩ A _ w1 hA hc hf).mono ?_
   rintro e w2 ⟨rfl, hg, hc2⟩
   refine ⟨true, rfl, ?_⟩
   have hb3 := below_of_grown hb2 (Nat.le_refl _) hg
   clear hg hc hf hb hb2 hA hAs
   go_wp2_with fail
   go_ret
   exact ⟨rfl, hb3⟩
 · go_enter Tryz.func23, Tryz.ntmps23
   simp only [errVal]
   go_wp2_with fail
   refine As_E _ _ _ _ (hD'.out _) (by simp) _ ?_
   intro w1 A hb hA hAs
   have hb2 : Below w.heap.size w w1 := ((Below.refl _ _).alloc (Nat.le_refl _) _).trans (hb.mono (by simp))
   have hc : w1.cell? ⟨w.heap.size, 0, none⟩ = some (.int .i64 0) := by rw [hb.cell (p := ⟨w.heap.size, 0, none⟩) (by simp)]; simp
   have hf : w1.frozen? ⟨w.heap.size, 0, none⟩ = false := by rw [hb.frozen (p := ⟨w.heap.size, 0, none⟩) (by simp)]; simp
   refine (as_EF c a ⟨w.heap.size, 0, none⟩ A _ w1 hA hc hf).mono ?_
   rintro e w2 ⟨rfl, hg, hc2⟩
   refine ⟨true, rfl, ?_⟩
   have hb3 := below_of_grown hb2 (Nat.le_refl _) hg
   clear hg hc hf hb hb2 hA hAs
   go_wp2_with fail
   go_ret
   exact ⟨rfl, hb3⟩
set_option maxHeartbeats 1000000 in
theorem new_any (c a : Int) (w : World) :
 Calls Tryz.prog 50 #[.int .i64 c, .int .i64 a] w fun e w' => e = .returned (errVal (errNew c a)) ∧ w = w' := by
 by_cases h : c = 0
 · subst h
   go_enter Tryz.func50, Tryz.ntmps50
   go_wp2
   go_ret
   exact ⟨rfl, rfl⟩
 · have hb : (c == 0) = false := by rw [beq_eq_false_iff_ne]; exact h
   have he := Lib.hid (show errNew c a = some (c, some a) from if_neg h)
   clear h
   go_enter Tryz.func50, Tryz.ntmps50
   go_wp2
   go_ret
   exact ⟨by rw [he.out]; rfl, rfl⟩
set_option maxHeartbeats 1000000 in
theorem find_nil (w : World) :
 Calls Tryz.prog 53 #[.nilIface] w fun e w' => e = .returned (.tuple #[.agg #[.int .i64 0, .int .i64 0], .bool false]) ∧ Below w.heap.size w w' := by
 go_enter Tryz.func53, Tryz.ntmps53
 go_wp2_with fail
 refine (As_nil _ _).mono ?_
 rintro e w' ⟨rfl, rfl⟩
 go_wp2_with fail
 exact bodyPost_ret (v := .tuple #[.agg #[.int .i64 0, .int .i64 0], .bool false]) (by simp [results, Tryz.results53, go_sem]) rfl ⟨rfl, ((Below.refl _ _).alloc (Nat.le_refl _) _).alloc (by simp) _⟩
set_option maxHeartbeats 1000000 in
theorem find_code (c : Int) (w : World) (hD : Door w) :
 Calls Tryz.prog 53 #[.iface 50 (.int .i64 c)] w fun e w' => e = .returned (.tuple #[.agg #[.int .i64 0, .int .i64 0], .bool false]) ∧ Below w.heap.size w w' := by
 have hD' := Lib.hid (fun o1 o2 => hD.below (Nat.le_refl _) (((Below.refl _ w).alloc (Nat.le_refl _) o1).alloc (by simp) o2))
 clear hD
 go_enter Tryz.func53, Tryz.ntmps53
 go_wp2_with fail
 refine As_F _ _ _ _ (hD'.out _ _) (by simp) _ ?_
 intro w1 A hb hA hAs
 have hb2 : Below w.heap.size w w1 := (((Below.refl _ _).alloc (Nat.le_refl _) _).alloc (by simp) _).trans (hb.mono (by simp; omega))
 have hz := hb.size
 have hc0 : w1.cell? ⟨w.heap.size + 1, 0, none⟩ = some (.int .i64 0) := by rw [hb.cell (p := ⟨w.heap.size + 1, 0, none⟩) (by simp)]; go_simp
 have hc1 : w1.cell? ⟨w.heap.size + 1, 1, none⟩ = some (.int .i64 0) := by rw [hb.cell (p := ⟨w.heap.size + 1, 1, none⟩) (by simp)]; go_simp
 have hr0 : w1.cell? ⟨w.heap.size, 0, none⟩ = some (.int .i64 0) := by rw [hb.cell (p := ⟨w.heap.size, 0, none⟩) (by simp; omega)]; go_simp
 have hr1 : w1.cell? ⟨w.heap.size, 1, none⟩ = some (.int .i64 0) := by rw [hb.cell (p := ⟨w.heap.size, 1, none⟩) (by simp; omega)]; go_simp
 have hf0 : w1.frozen? ⟨w.heap.size, 0, none⟩ = false := by rw [hb.frozen (p := ⟨w.heap.size, 0, none⟩) (by simp; omega)]; go_simp
 have hf1 : w1.frozen? ⟨w.heap.size, 1, none⟩ = false := by rw [hb.frozen (p := ⟨w.heap.size, 1, none⟩) (by simp; omega)]; go_simp
 refine (as_FE c (w.heap.size + 1) A w1).mono ?_
 rintro e w2 ⟨rfl, hg⟩
 refine ⟨false, rfl, ?_⟩
 have hb3 := below_of_grown_none hb2 hg
 have keep : ∀ p : Addr, p.block < w1.heap.size → w2.cell? p = w1.cell? p := fun p hp => World.cell?_of_block (hg.block _ hp (by simp))
 have kfree : ∀ p : Addr, p.block < w1.heap.size → w2.frozen? p = w1.frozen? p := fun p hp => World.frozen?_of_block (hg.block _ hp (by simp))
 have hc0' := (keep ⟨w.heap.size + 1, 0, none⟩ (cell_lt hc0)).trans hc0
 have hc1' := (keep ⟨w.heap.size + 1, 1, none⟩ (cell_lt hc1)).trans hc1
 have hr0' := (keep ⟨w.heap.size, 0, none⟩ (cell_lt hr0)).trans hr0
 have hr1' := (keep ⟨w.heap.size, 1, none⟩ (cell_lt hr1)).trans hr1
 have hf0' := (kfree ⟨w.heap.size, 0, none⟩ (cell_lt hr0)).trans hf0
 have hf1' := (kfree ⟨w.heap.size, 1, none⟩ (cell_lt hr1)).trans hf1
 clear keep kfree hg hc0 hc1 hr0 hr1 hf0 hf1 hb hb2 hA hAs hz
 go_wp2_with fail
 exact bodyPost_ret (v := .tuple #[.agg #[.int .i64 0, .int .i64 0], .bool false]) (by simp [results, Tryz.results53, go_sem, hr0', hr1']) rfl ⟨rfl, (hb3.setCell (p := ⟨w.heap.size, 0, none⟩) (Nat.le_refl _) _).setCell (p := ⟨w.heap.size, 1, none⟩) (Nat.le_refl _) _⟩
set_option maxHeartbeats 1000000 in
theorem find_fault (c a : Int) (w : World) (hD : Door w) :
 Calls Tryz.prog 53 #[.iface 99 (.agg #[.int .i64 c, .int .i64 a])] w fun e w' => e = .returned (.tuple #[.agg #[.int .i64 c, .int .i64 a], .bool true]) ∧ Below w.heap.size w w' := by
 have hD' := Lib.hid (fun o1 o2 => hD.below (Nat.le_refl _) (((Below.refl _ w).alloc (Nat.le_refl _) o1).alloc (by simp) o2))
 clear hD
 go_enter Tryz.func53, Tryz.ntmps53
 go_wp2_with fail
 refine As_F _ _ _ _ (hD'.out _ _) (by simp) _ ?_
 intro w1 A hb hA hAs
 have hb2 : Below w.heap.size w w1 := (((Below.refl _ _).alloc (Nat.le_refl _) _).alloc (by simp) _).trans (hb.mono (by simp; omega))
 have hz := hb.size
 have hc0 : w1.cell? ⟨w.heap.size + 1, 0, none⟩ = some (.int .i64 0) := by rw [hb.cell (p := ⟨w.heap.size + 1, 0, none⟩) (by simp)]; go_simp
 have hc1 : w1.cell? ⟨w.heap.size + 1, 1, none⟩ = some (.int .i64 0) := by rw [hb.cell (p := ⟨w.heap.size + 1, 1, none⟩) (by simp)]; go_simp
 have hg0 : w1.frozen? ⟨w.heap.size + 1, 0, none⟩ = false := by rw [hb.frozen (p := ⟨w.heap.size + 1, 0, none⟩) (by simp)]; go_simp
 have hg1 : w1.frozen? ⟨w.heap.size + 1, 1, none⟩ = false := by rw [hb.frozen (p := ⟨w.heap.size + 1, 1, none⟩) (by simp)]; go_simp
 have hr0 : w1.cell? ⟨w.heap.size, 0, none⟩ = some (.int .i64 0) := by rw [hb.cell (p := ⟨w.heap.size, 0, none⟩) (by simp; omega)]; go_simp
 have hr1 : w1.cell? ⟨w.heap.size, 1, none⟩ = some (.int .i64 0) := by rw [hb.cell (p := ⟨w.heap.size, 1, none⟩) (by simp; omega)]; go_simp
 have hf0 : w1.frozen? ⟨w.heap.size, 0, none⟩ = false := by rw [hb.frozen (p := ⟨w.heap.size, 0, none⟩) (by simp; omega)]; go_simp
 have hf1 : w1.frozen? ⟨w.heap.size, 1, none⟩ = false := by rw [hb.frozen (p := ⟨w.heap.size, 1, none⟩) (by simp; omega)]; go_simp
 refine (as_FF c a (w.heap.size + 1) A _ _ w1 hA hc0 hc1 hg0 hg1).mono ?_
 rintro e w2 ⟨rfl, hg, hc0', hc1'⟩
 refine ⟨true, rfl, ?_⟩
 have hb3 := below_of_grown hb2 (by omega) hg
 have keep : ∀ p : Addr, p.block < w1.heap.size → p.block ≠ w.heap.size + 1 → w2.cell? p = w1.cell? p := fun p hp hne => World.cell?_of_block (hg.block _ hp (by simpa using hne))
 have kfree : ∀ p : Addr, p.block < w1.heap.size → p.block ≠ w.heap.size + 1 → w2.frozen? p = w1.frozen? p := fun p hp hne => World.frozen?_of_block (hg.block _ hp (by simpa using hne))
 have hr0' := (keep ⟨w.heap.size, 0, none⟩ (cell_lt hr0) (by simp)).trans hr0
 have hr1' := (keep ⟨w.heap.size, 1, none⟩ (cell_lt hr1) (by simp)).trans hr1
 have hf0' := (kfree ⟨w.heap.size, 0, none⟩ (cell_lt hr0) (by simp)).trans hf0
 have hf1' := (kfree ⟨w.heap.size, 1, none⟩ (cell_lt hr1) (by simp)).trans hf1
 clear keep kfree hg hg0 hg1 hc0 hc1 hr0 hr1 hf0 hf1 hb hb2 hA hAs hz
 go_wp2_with fail
 exact bodyPost_ret (v := .tuple #[.agg #[.int .i64 c, .int .i64 a], .bool true]) (by simp [results, Tryz.results53, go_sem, hr0', hr1']) rfl ⟨rfl, (hb3.setCell (p := ⟨w.heap.size, 0, none⟩) (Nat.le_refl _) _).setCell (p := ⟨w.heap.size, 1, none⟩) (Nat.le_refl _) _⟩
set_option maxHeartbeats 1000000 in
theorem at_any (x : Err) (w : World) (hD : Door w) :
 Calls Tryz.prog 24 #[errVal x] w fun e w' => e = .returned (.int .i64 (errAt x)) ∧ Below w.heap.size w w' := by
 rcases x with _ | ⟨c, _ | a⟩
 · go_enter Tryz.func24, Tryz.ntmps24
   simp only [errVal]
   go_wp2_with fail
   refine (find_nil _).mono ?_
   rintro e w1 ⟨rfl, hb⟩
   go_wp2_with fail
   go_ret
   exact ⟨rfl, hb.alloc hb.size _⟩
 · go_enter Tryz.func24, Tryz.ntmps24
   simp only [errVal]
   go_wp2_with fail
   refine (find_code _ _ hD).mono ?_
   rintro e w1 ⟨rfl, hb⟩
   go_wp2_with fail
   go_ret
   exact ⟨rfl, hb.alloc hb.size _⟩
 · go_enter Tryz.func24, Tryz.ntmps24
   simp only [errVal]
   go_wp2_with fail
   refine (find_fault _ _ _ hD).mono ?_
   rintro e w1 ⟨rfl, hb⟩
   go_wp2_with fail
   go_ret
   exact ⟨rfl, hb.alloc hb.size _⟩
end
section
open Go.RowKit
def nthI (l : List Iv) (k : Nat) : Iv := l.getD k (0, 0)
theorem nthI_get {l : List Iv} {k : Nat} (h : k < l.length) : nthI l k = l[k] := by simp [nthI, h]
theorem nthI_mem {l : List Iv} {k : Nat} (h : k < l.length) : nthI l k ∈ l := by rw [nthI_get h]; exact List.getElem_mem h
structure Ivs (w : World) (a : Option Addr) (n cap : Nat) (l : List Iv) : Prop where
 len : l.length = n
 lt : ∀ s ∈ l, s.1 < 18446744073709551616 ∧ s.2 < 18446744073709551616
 room : n ≤ cap
 most : cap ≤ 9223372036854775807
 nilc : a = none → cap = 0
 cells : 0 < n → ∃ b o, a = some ⟨b, o, none⟩ ∧ ∀ i, i < n → w.cell? ⟨b, o + i * 2, none⟩ = some (.int .u64 (((nthI l i).1 : Nat) : Int)) ∧ w.cell? ⟨b, o + i * 2 + 1, none⟩ = some (.int .u64 (((nthI l i).2 : Nat) : Int))
theorem Ivs.below {w w' : World} {a : Option Addr} {n cap : Nat} {l : List Iv} (h : Ivs w a n cap l) (hb : Below w.heap.size w w') : Ivs w' a n cap l := by
 refine ⟨h.len, h.lt, h.room, h.most, h.nilc, fun hn => ?_⟩
 obtain ⟨b, o, ha, hc⟩ := h.cells hn
 refine ⟨b, o, ha, fun i hi => ?_⟩
 obtain ⟨h1, h2⟩ := hc i hi
 exact ⟨(hb.cell (p := ⟨b, o + i * 2, none⟩) (cell_lt h1)).trans h1, (hb.cell (p := ⟨b, o + i * 2 + 1, none⟩) (cell_lt h2)).trans h2⟩
abbrev ivV (s : Iv) : Value := .agg #[.int .u64 ((s.1 : Nat) : Int), .int .u64 ((s.2 : Nat) : Int)]
def ivC (l : List Iv) : List Value := l.flatMap fun s => [.int .u64 ((s.1 : Nat) : Int), .int .u64 ((s.2 : Nat) : Int)]
theorem ivC_cons (s : Iv) (l : List Iv) : ivC (s :: l) = .int .u64 ((s.1 : Nat) : Int) :: .int .u64 ((s.2 : Nat) : Int) :: ivC l := rfl
theorem ivC_append (a b : List Iv) : ivC (a ++ b) = ivC a ++ ivC b := by simp [ivC]
theorem ivC_length (l : List Iv) : (ivC l).length = l.length * 2 := by
 induction l with
 | nil => rfl
 | cons s l ih => rw [ivC_cons]; simp [ih]; omega
theorem ivC_get : ∀ (l : List Iv) (i : Nat), i < l.length → (ivC l)[i * 2]? = some (.int .u64 (((nthI l i).1 : Nat) : Int)) ∧ (ivC l)[i * 2 + 1]? = some (.int .u64 (((nthI l i).2 : Nat) : Int))
 | [], i, h => by simp at h
 | s :: l, 0, _ => ⟨rfl, rfl⟩
 | s :: l, i + 1, h => by
   have := ivC_get l i (by simpa using h)
   rw [ivC_cons, show (i + 1) * 2 = i * 2 + 1 + 1 by omega]
   simpa [nthI] using this
theorem ivC_one (l : List Iv) : ∀ u ∈ ivC l, u.oneCell' = true := by
 intro u hu
 simp only [ivC, List.mem_flatMap] at hu
 obtain ⟨s, _, hs⟩ := hu
 simp at hs
 rcases hs with rfl | rfl <;> rfl
theorem ivC_set : ∀ (l : List Iv) (i x : Nat), i < l.length → (ivC l).set (i * 2 + 1) (.int .u64 ((x : Nat) : Int)) = ivC (l.set i ((nthI l i).1, x))
 | [], i, x, h => by simp at h
 | s :: l, 0, x, _ => rfl
 | s :: l, i + 1, x, h => by
   have := ivC_set l i x (by simpa using h)
   rw [ivC_cons, show (i + 1) * 2 + 1 = (i * 2 + 1) + 1 + 1 by omega, List.set_cons_succ, List.set_cons_succ, this, List.set_cons_succ, ivC_cons]
   simp [nthI]
theorem ivs_nil (w : World) : Ivs w none 0 0 [] := ⟨rfl, by simp, by omega, by omega, fun _ => rfl, fun h => by omega⟩
theorem ivs_own {w : World} {base n : Nat} {T : TypeId} {v : Value} {l : List Iv} (h : w.ownsRow base T 2 v n (ivC l)) (hl : ∀ s ∈ l, s.1 < 18446744073709551616 ∧ s.2 < 18446744073709551616) : ∃ a cap, v = .slice a n cap ∧ Ivs w a n cap l := by
 have hlen : l.length = n := by have := h.1; rw [ivC_length] at this; omega
 rcases h.2 with ⟨rfl, rfl⟩ | ⟨g, cap, cur, rfl, hg, hh, hnc, hcm, _⟩
 · exact ⟨none, 0, rfl, hlen, hl, by omega, by omega, fun _ => rfl, fun h => by omega⟩
 · refine ⟨_, _, rfl, hlen, hl, hnc, by unfold maxLen at hcm; omega, (by intro h; cases h), fun hn => ⟨g, 0, rfl, fun i hi => ?_⟩⟩
   obtain ⟨e1, e2⟩ := ivC_get l i (by omega)
   have h1 := h.cells (g := g) rfl _ _ e1
   have h2 := h.cells (g := g) rfl _ _ e2
   rw [add_at] at h1 h2
   rw [Nat.add_assoc]
   exact ⟨h1, h2⟩
theorem keep_below {P : Program} {f : FuncId} {args : Array Value} {w w' : World} {v : Value} (hw : Below w.heap.size w w') (h : Calls P f args w' fun e w'' => e = .returned v ∧ Below w'.heap.size w' w'') :
 Calls P f args w' fun e w'' => e = .returned v ∧ Below w.heap.size w w'' := h.mono fun e w'' ⟨he, hb⟩ => ⟨he, hw.trans (hb.mono hw.size)⟩
theorem below_drewN' {B : Nat} {a w : World} (h : Below B a w) (n : Nat) : Below B a (w.drewN n) := ⟨h.os, h.tape, h.output, h.size, h.block⟩
theorem keep_same {P : Program} {f : FuncId} {args : Array Value} {w w' : World} {v : Value} (hw : Below w.heap.size w w') (h : Calls P f args w' fun e w'' => e = .returned v ∧ w' = w'') :
 Calls P f args w' fun e w'' => e = .returned v ∧ Below w.heap.size w w'' := h.mono fun e w'' ⟨he, hq⟩ => ⟨he, hq ▸ hw⟩
theorem wp_region_below {P : Program} {id : Nat} {Q : Exit → Act → World → Prop} {a : Act} {w : World} {l : List Oper} (hm : P.follows .mixedOrders = true) (hB : Region.lexB .any l.toArray = true)
 (h : wpQuiet P l.toArray (fun w' => Below w.heap.size w w') (fun a' => ∀ w', Below w.heap.size w w' → Q .normal a' w') l a) : (Code.region id l.toArray true).wp P Q a w :=
 wp_region_quiet (C := fun w' => Below w.heap.size w w') hm hB ((Below.refl _ _).drew) (by simpa using h)
def relB (a b : Iv) : Nat :=
 if a.2 < b.1 then (if 0 < b.1 - a.2 - 1 then (if b.2 < a.1 then (if 0 < a.1 - b.2 - 1 then 2 else 1) else 0) else (if b.2 < a.1 then (if 0 < a.1 - b.2 - 1 then 3 else 2) else 1))
 else (if b.2 < a.1 then (if 0 < a.1 - b.2 - 1 then 4 else 3) else 2)
theorem ret2 {k : IntKind} {a b : Int} {x : Value} (h : a = b) : Ending.returned (.tuple #[.int k a, x]) = .returned (.tuple #[.int k b, x]) := by rw [h]
theorem between_lt (a b : Nat) (w : World) (h : a < b) (hb : b < 18446744073709551616) :
 Calls Tryz.prog 135 #[.int .u64 a, .int .u64 b] w fun e w' => e = .returned (.tuple #[.int .u64 ((b - a - 1 : Nat) : Int), .bool true]) ∧ w = w' := by
 have e1 := Lib.hid (show IntKind.u64.wrap ((b : Int) - (a : Int)) = ((b - a : Nat) : Int) from by rw [IntKind.wrap_u64]; omega)
 have e2 := Lib.hid (show IntKind.u64.wrap (((b - a : Nat) : Int) - 1) = ((b - a - 1 : Nat) : Int) from by rw [IntKind.wrap_u64]; omega)
 clear hb
 go_enter Tryz.func135, Tryz.ntmps135
 go_wp2
 go_ret2
 refine ⟨ret2 ?_, rfl⟩
 rw [e1.out, e2.out]
theorem between_ge (a b : Nat) (w : World) (h : ¬ a < b) :
 Calls Tryz.prog 135 #[.int .u64 a, .int .u64 b] w fun e w' => e = .returned (.tuple #[.int .u64 0, .bool false]) ∧ w = w' := by
 go_enter Tryz.func135, Tryz.ntmps135
 go_wp2
 go_ret2
 exact ⟨rfl, rfl⟩
theorem spanCheck_any (s : Iv) (w : World) :
 Calls Tryz.prog 77 #[ivV s] w fun e w' => e = .returned (errVal (if s.2 < s.1 then some (2, none) else none)) ∧ Below w.heap.size w w' := by
 obtain ⟨a, b⟩ := s
 by_cases h : b < a
 · rw [if_pos h]
   simp only [errVal]
   go_enter Tryz.func77, Tryz.ntmps77
   go_wp2
   go_ret
   exact ⟨rfl, (Below.refl _ _).alloc (Nat.le_refl _) _⟩
 · rw [if_neg h]
   simp only [errVal]
   go_enter Tryz.func77, Tryz.ntmps77
   go_wp2
   go_ret
   exact ⟨rfl, (Below.refl _ _).alloc (Nat.le_refl _) _⟩
theorem relate_any (a b : Iv) (w : World) (ha : a.1 < 18446744073709551616 ∧ a.2 < 18446744073709551616) (hb : b.1 < 18446744073709551616 ∧ b.2 < 18446744073709551616) :
 Calls Tryz.prog 80 #[ivV a, ivV b] w fun e w' => e = .returned (.int .i64 ((relB a b : Nat) : Int)) ∧ Below w.heap.size w w' := by
 obtain ⟨x, y⟩ := a
 obtain ⟨z, u⟩ := b
 have hz := hb.1
 have hx := ha.1
 clear ha hb
 simp only at hx hz
 have hw : Below w.heap.size w ((w.alloc (.cells #[.int .u64 x, .int .u64 y] 73)).alloc (.cells #[.int .u64 z, .int .u64 u] 73)) :=
  ((Below.refl _ _).alloc (Nat.le_refl _) _).alloc (by simp) _
 by_cases h1 : y < z
 · have C1 := Lib.hid (fun w => between_lt y z w h1 hz)
   by_cases g1 : 0 < z - y - 1
   · by_cases h2 : u < x
     · have C2 := Lib.hid (fun w => between_lt u x w h2 hx)
       by_cases g2 : 0 < x - u - 1
       · have hr := Lib.hid (show relB (x, y) (z, u) = 2 from by simp [relB, h1, h2, g1, g2])
         generalize relB (x, y) (z, u) = r at *
         generalize z - y - 1 = p at *
         generalize x - u - 1 = q at *
         clear hx hz h1 h2
         go_enter Tryz.func80, Tryz.ntmps80
         go_wp2_with fail
         refine (C1.out _).mono ?_
         rintro e w1 ⟨rfl, rfl⟩
         go_wp2_with fail
         refine (C2.out _).mono ?_
         rintro e w1 ⟨rfl, rfl⟩
         go_wp2_with fail
         go_ret
         exact ⟨ret_int (by rw [hr.out]; rfl), hw⟩
       · have hr := Lib.hid (show relB (x, y) (z, u) = 1 from by simp [relB, h1, h2, g1, g2])
         obtain e2 : x - u - 1 = 0 := by omega
         rw [e2] at C2
         clear e2 g2
         generalize relB (x, y) (z, u) = r at *
         generalize z - y - 1 = p at *
         clear hx hz h1 h2
         go_enter Tryz.func80, Tryz.ntmps80
         go_wp2_with fail
         refine (C1.out _).mono ?_
         rintro e w1 ⟨rfl, rfl⟩
         go_wp2_with fail
         refine (C2.out _).mono ?_
         rintro e w1 ⟨rfl, rfl⟩
         go_wp2_with fail
         go_ret
         exact ⟨ret_int (by rw [hr.out]; rfl), hw⟩
     · have C2 := Lib.hid (fun w => between_ge u x w h2)
       have hr := Lib.hid (show relB (x, y) (z, u) = 0 from by simp [relB, h1, h2, g1])
       generalize relB (x, y) (z, u) = r at *
       generalize z - y - 1 = p at *
       clear hx hz h1 h2
       go_enter Tryz.func80, Tryz.ntmps80
       go_wp2_with fail
       refine (C1.out _).mono ?_
       rintro e w1 ⟨rfl, rfl⟩
       go_wp2_with fail
       refine (C2.out _).mono ?_
       rintro e w1 ⟨rfl, rfl⟩
       go_wp2_with fail
       go_ret
       exact ⟨ret_int (by rw [hr.out]; rfl), hw⟩
   · have e1 : z - y - 1 = 0 := by omega
     rw [e1] at C1
     clear e1
     by_cases h2 : u < x
     · have C2 := Lib.hid (fun w => between_lt u x w h2 hx)
       by_cases g2 : 0 < x - u - 1
       · have hr := Lib.hid (show relB (x, y) (z, u) = 3 from by simp [relB, h1, h2, g1, g2])
         generalize relB (x, y) (z, u) = r at *
         generalize x - u - 1 = q at *
         clear hx hz h1 h2
         go_enter Tryz.func80, Tryz.ntmps80
         go_wp2_with fail
         refine (C1.out _).mono ?_
         rintro e w1 ⟨rfl, rfl⟩
         go_wp2_with fail
         refine (C2.out _).mono ?_
         rintro e w1 ⟨rfl, rfl⟩
         go_wp2_with fail
         go_ret
         exact ⟨ret_int (by rw [hr.out]; rfl), hw⟩
       · have hr := Lib.hid (show relB (x, y) (z, u) = 2 from by simp [relB, h1, h2, g1, g2])
         obtain e2 : x - u - 1 = 0 := by omega
         rw [e2] at C2
         clear e2 g2
         generalize relB (x, y) (z, u) = r at *
         clear hx hz h1 h2
         go_enter Tryz.func80, Tryz.ntmps80
         go_wp2_with fail
         refine (C1.out _).mono ?_
         rintro e w1 ⟨rfl, rfl⟩
         go_wp2_with fail
         refine (C2.out _).mono ?_
         rintro e w1 ⟨rfl, rfl⟩
         go_wp2_with fail
         go_ret
         exact ⟨ret_int (by rw [hr.out]; rfl), hw⟩
     · have C2 := Lib.hid (fun w => between_ge u x w h2)
       have hr := Lib.hid (show relB (x, y) (z, u) = 1 from by simp [relB, h1, h2, g1])
       generalize relB (x, y) (z, u) = r at *
       clear hx hz h1 h2
       go_enter Tryz.func80, Tryz.ntmps80
       go_wp2_with fail
       refine (C1.out _).mono ?_
       rintro e w1 ⟨rfl, rfl⟩
       go_wp2_with fail
       refine (C2.out _).mono ?_
       rintro e w1 ⟨rfl, rfl⟩
       go_wp2_with fail
       go_ret
       exact ⟨ret_int (by rw [hr.out]; rfl), hw⟩
 · have C1 := Lib.hid (fun w => between_ge y z w h1)
   by_cases h2 : u < x
   · have C2 := Lib.hid (fun w => between_lt u x w h2 hx)
     by_cases g2 : 0 < x - u - 1
     · have hr := Lib.hid (show relB (x, y) (z, u) = 4 from by simp [relB, h1, h2, g2])
       generalize relB (x, y) (z, u) = r at *
       generalize x - u - 1 = q at *
       clear hx hz h1 h2
       go_enter Tryz.func80, Tryz.ntmps80
       go_wp2_with fail
       refine (C1.out _).mono ?_
       rintro e w1 ⟨rfl, rfl⟩
       go_wp2_with fail
       refine (C2.out _).mono ?_
       rintro e w1 ⟨rfl, rfl⟩
       go_wp2_with fail
       go_ret
       exact ⟨ret_int (by rw [hr.out]; rfl), hw⟩
     · have hr := Lib.hid (show relB (x, y) (z, u) = 3 from by simp [relB, h1, h2, g2])
       obtain e2 : x - u - 1 = 0 := by omega
       rw [e2] at C2
       clear e2 g2
       generalize relB (x, y) (z, u) = r at *
       clear hx hz h1 h2
       go_enter Tryz.func80, Tryz.ntmps80
       go_wp2_with fail
       refine (C1.out _).mono ?_
       rintro e w1 ⟨rfl, rfl⟩
       go_wp2_with fail
       refine (C2.out _).mono ?_
       rintro e w1 ⟨rfl, rfl⟩
       go_wp2_with fail
       go_ret
       exact ⟨ret_int (by rw [hr.out]; rfl), hw⟩
   · have C2 := Lib.hid (fun w => between_ge u x w h2)
     have hr := Lib.hid (show relB (x, y) (z, u) = 2 from by simp [relB, h1, h2])
     generalize relB (x, y) (z, u) = r at *
     clear hx hz h1 h2
     go_enter Tryz.func80, Tryz.ntmps80
     go_wp2_with fail
     refine (C1.out _).mono ?_
     rintro e w1 ⟨rfl, rfl⟩
     go_wp2_with fail
     refine (C2.out _).mono ?_
     rintro e w1 ⟨rfl, rfl⟩
     go_wp2_with fail
     go_ret
     exact ⟨ret_int (by rw [hr.out]; rfl), hw⟩
end
end Go.Proofs.YtkkdlgcfcbaibaaGreatDoor
