/- Walks and laws, joined: Wb14. -/
import Derived.Test.YtdnjfnofjaoajaaGreatDoorWb12
set_option linter.unusedVariables false
set_option maxHeartbeats 16000000
namespace Go.Proofs.YtdnjfnofjaoajaaGreatDoor
open Lib (hid)
section
open Go.RowKit Go.Extern.Stop Go.Stop Go.Extern
theorem z3g (c a:Int) (tb:Nat) (A:Addr) (o1 o2:Value) (w:World) (hA:w.cell? A=some (.pointer (some ⟨tb,0,none⟩))) (ht0:w.cell? ⟨tb,0,none⟩=some o1) (ht1:w.cell? ⟨tb,1,none⟩=some o2)
 (hf0:w.frozen? ⟨tb,0,none⟩=false) (hf1:w.frozen? ⟨tb,1,none⟩=false):
 Calls Tryz.prog 94 #[.iface 94 (.agg #[.int .i64 c,.int .i64 a]),.iface 140 (.pointer (some ⟨tb,0,none⟩)),.agg #[.pointer (some ⟨2,140,none⟩),.pointer (some A),.int .u64 150],.iface 227 (.agg #[.pointer (some ⟨2,94,none⟩)])] w
  fun e w'=>e=.returned (.bool true)∧w.grownBy w' (some tb)∧w'.cell? ⟨tb,0,none⟩=some (.int .i64 c)∧w'.cell? ⟨tb,1,none⟩=some (.int .i64 a):=by
 have hTO:=@run_callFunc_extern Tryz.prog 135 _ ReflectliteType.typeOf Tryz.func135 (by kernel_rfl) (by kernel_rfl) (by kernel_rfl) (by kernel_rfl);have hAT:=@run_callFunc_extern Tryz.prog 331 _ (ReflectliteType.relation "AssignableTo" ReflectliteType.assignableTo) Tryz.func331 (by kernel_rfl) (by kernel_rfl) (by kernel_rfl) (by kernel_rfl);have hEl:=@run_callFunc_extern Tryz.prog 136 _ (ReflectliteValue.method (ReflectliteValue.valueError "reflectlite.Value.Elem" 0) ReflectliteValue.elem) Tryz.func136 (by kernel_rfl) (by kernel_rfl) (by kernel_rfl) (by kernel_rfl);have hVO:=@run_callFunc_extern Tryz.prog 91 _ (fun args=>ReflectliteValue.unpack (args.getD 0 (.tuple #[]))) Tryz.func91 (by kernel_rfl) (by kernel_rfl) (by kernel_rfl) (by kernel_rfl);have hSt:=@run_callFunc_extern Tryz.prog 137 _ ReflectliteValue.set Tryz.func137 (by kernel_rfl) (by kernel_rfl) (by kernel_rfl) (by kernel_rfl);have tO:=Tryz.typeOfF;have mA:=Tryz.methodAssignableTo;have aFF:=Tryz.assignableFF;have vF:=Tryz.valueOfF;have hAl:A.block<w.heap.size:=ze hA;have htl:tb<w.heap.size:=ze ht0;have el:=Tryz.elemVPF A ⟨tb,0,none⟩ (w.alloc (.cells #[.pointer (some ⟨2,140,none⟩),.pointer (some A),.int .u64 150] 154)) (by rw[World.cell?_alloc_lt _ _ A hAl];exact hA)
 have h0:((w.alloc (.cells #[.pointer (some ⟨2,140,none⟩),.pointer (some A),.int .u64 150] 154)).alloc (.cells #[.int .i64 c,.int .i64 a] 94)).cell? ⟨tb,0,none⟩=some o1:=by
  rw[World.cell?_alloc_lt _ _ ⟨tb,0,none⟩ (by simp;omega),World.cell?_alloc_lt _ _ ⟨tb,0,none⟩ htl];exact ht0
 have h1:((w.alloc (.cells #[.pointer (some ⟨2,140,none⟩),.pointer (some A),.int .u64 150] 154)).alloc (.cells #[.int .i64 c,.int .i64 a] 94)).cell? ⟨tb,1,none⟩=some o2:=by
  rw[World.cell?_alloc_lt _ _ ⟨tb,1,none⟩ (by simp;omega),World.cell?_alloc_lt _ _ ⟨tb,1,none⟩ htl];exact ht1
 have g0:((w.alloc (.cells #[.pointer (some ⟨2,140,none⟩),.pointer (some A),.int .u64 150] 154)).alloc (.cells #[.int .i64 c,.int .i64 a] 94)).frozen? ⟨tb,0,none⟩=false:=by
  rw[World.frozen?_alloc_old _ _ ⟨tb,0,none⟩ (by simp;omega),World.frozen?_alloc_old _ _ ⟨tb,0,none⟩ (Nat.ne_of_lt htl)];exact hf0
 have g1:((w.alloc (.cells #[.pointer (some ⟨2,140,none⟩),.pointer (some A),.int .u64 150] 154)).alloc (.cells #[.int .i64 c,.int .i64 a] 94)).frozen? ⟨tb,1,none⟩=false:=by
  rw[World.frozen?_alloc_old _ _ ⟨tb,1,none⟩ (by simp;omega),World.frozen?_alloc_old _ _ ⟨tb,1,none⟩ (Nat.ne_of_lt htl)];exact hf1
 have st:=Tryz.setF tb (w.heap.size+1) c a o1 o2 ((w.alloc (.cells #[.pointer (some ⟨2,140,none⟩),.pointer (some A),.int .u64 150] 154)).alloc (.cells #[.int .i64 c,.int .i64 a] 94))
  (by rw[World.cell?_alloc_at _ _ _ _ (by simp)];rfl) (by rw[World.cell?_alloc_at _ _ _ _ (by simp)];rfl) h0 h1 g0 g1
 have hz:((w.setCell ⟨tb,0,none⟩ (.int .i64 c)).setCell ⟨tb,1,none⟩ (.int .i64 a)).heap.size=w.heap.size:=by simp[World.setCell]
 have hc0:((((w.setCell ⟨tb,0,none⟩ (.int .i64 c)).setCell ⟨tb,1,none⟩ (.int .i64 a)).alloc (.cells #[.pointer (some ⟨2,140,none⟩),.pointer (some A),.int .u64 150] 154)).alloc (.cells #[.int .i64 c,.int .i64 a] 94)).cell? ⟨tb,0,none⟩=some (.int .i64 c):=by
  rw[World.cell?_alloc_lt _ _ ⟨tb,0,none⟩ (by simp only[World.size_alloc,hz];omega),World.cell?_alloc_lt _ _ ⟨tb,0,none⟩ (by rw[hz];exact htl),World.cell?_setCell_other _ _ _ _ (by simp)];exact World.cell?_setCell_same _ _ _ ht0
 have hc1:((((w.setCell ⟨tb,0,none⟩ (.int .i64 c)).setCell ⟨tb,1,none⟩ (.int .i64 a)).alloc (.cells #[.pointer (some ⟨2,140,none⟩),.pointer (some A),.int .u64 150] 154)).alloc (.cells #[.int .i64 c,.int .i64 a] 94)).cell? ⟨tb,1,none⟩=some (.int .i64 a):=by
  rw[World.cell?_alloc_lt _ _ ⟨tb,1,none⟩ (by simp only[World.size_alloc,hz];omega),World.cell?_alloc_lt _ _ ⟨tb,1,none⟩ (by rw[hz];exact htl)];exact World.cell?_setCell_same _ _ _ (by rw[World.cell?_setCell_other _ _ _ _ (by simp)];exact ht1)
 have Hc0:=hid hc0;clear hc0 h0 h1 g0 g1 hz;have Hc1:=hid hc1;clear hc1;go_enter Tryz.func94,Tryz.ntmps94;go_wp2;refine wp_loop_rounds 1 ?_;rw[rounds_succ];go_wp2;go_ret;exact⟨rfl,zap (zap (zap (zfm _ ⟨tb,0,none⟩ _) (zfm _ ⟨tb,1,none⟩ _)) (World.grownBy_alloc _ _ _)) (World.grownBy_alloc _ _ _),Hc0.out,Hc1.out⟩
theorem z3h (c:Int) (tb:Nat) (A:Addr) (w:World):
 Calls Tryz.prog 94 #[.iface 34 (.int .i64 c),.iface 140 (.pointer (some ⟨tb,0,none⟩)),.agg #[.pointer (some ⟨2,140,none⟩),.pointer (some A),.int .u64 150],.iface 227 (.agg #[.pointer (some ⟨2,94,none⟩)])] w
  fun e w'=>e=.returned (.bool false)∧w.grownBy w' none:=by
 have hTO:=@run_callFunc_extern Tryz.prog 135 _ ReflectliteType.typeOf Tryz.func135 (by kernel_rfl) (by kernel_rfl) (by kernel_rfl) (by kernel_rfl);have hAT:=@run_callFunc_extern Tryz.prog 331 _ (ReflectliteType.relation "AssignableTo" ReflectliteType.assignableTo) Tryz.func331 (by kernel_rfl) (by kernel_rfl) (by kernel_rfl) (by kernel_rfl);have tO:=Tryz.typeOfE;have mA:=Tryz.methodAssignableTo;have aEF:=Tryz.assignableEF;have s1:=Tryz.asAsE;have s2:=Tryz.asUnE;have s3:=Tryz.asUmE;go_enter Tryz.func94,Tryz.ntmps94;go_wp2;refine wp_loop_rounds 1 ?_;rw[rounds_succ];go_wp2;go_ret;exact⟨rfl,World.grownBy_alloc _ _ _⟩
theorem z3i (c:Int) (t A:Addr) (old:Value) (w:World) (hA:w.cell? A=some (.pointer (some t))) (ht:w.cell? t=some old) (hf:w.frozen? t=false):
 Calls Tryz.prog 94 #[.iface 34 (.int .i64 c),.iface 92 (.pointer (some t)),.agg #[.pointer (some ⟨2,92,none⟩),.pointer (some A),.int .u64 150],.iface 227 (.agg #[.pointer (some ⟨2,34,none⟩)])] w
  fun e w'=>e=.returned (.bool true)∧w.grownBy w' (some t.block)∧w'.cell? t=some (.int .i64 c):=by
 have hTO:=@run_callFunc_extern Tryz.prog 135 _ ReflectliteType.typeOf Tryz.func135 (by kernel_rfl) (by kernel_rfl) (by kernel_rfl) (by kernel_rfl);have hAT:=@run_callFunc_extern Tryz.prog 331 _ (ReflectliteType.relation "AssignableTo" ReflectliteType.assignableTo) Tryz.func331 (by kernel_rfl) (by kernel_rfl) (by kernel_rfl) (by kernel_rfl);have hEl:=@run_callFunc_extern Tryz.prog 136 _ (ReflectliteValue.method (ReflectliteValue.valueError "reflectlite.Value.Elem" 0) ReflectliteValue.elem) Tryz.func136 (by kernel_rfl) (by kernel_rfl) (by kernel_rfl) (by kernel_rfl);have hVO:=@run_callFunc_extern Tryz.prog 91 _ (fun args=>ReflectliteValue.unpack (args.getD 0 (.tuple #[]))) Tryz.func91 (by kernel_rfl) (by kernel_rfl) (by kernel_rfl) (by kernel_rfl);have hSt:=@run_callFunc_extern Tryz.prog 137 _ ReflectliteValue.set Tryz.func137 (by kernel_rfl) (by kernel_rfl) (by kernel_rfl) (by kernel_rfl);have tO:=Tryz.typeOfE;have mA:=Tryz.methodAssignableTo;have aEE:=Tryz.assignableEE;have vE:=Tryz.valueOfE;have hAl:A.block<w.heap.size:=ze hA;have htl:t.block<w.heap.size:=ze ht;have el:=Tryz.elemVPE A t (w.alloc (.cells #[.pointer (some ⟨2,92,none⟩),.pointer (some A),.int .u64 150] 154)) (by rw[World.cell?_alloc_lt _ _ A hAl];exact hA)
 have st:=Tryz.setE t ⟨w.heap.size+1,0,none⟩ c old ((w.alloc (.cells #[.pointer (some ⟨2,92,none⟩),.pointer (some A),.int .u64 150] 154)).alloc (.cells #[.int .i64 c] 34))
  (by rw[World.cell?_alloc_at _ _ _ _ (by simp)];rfl)
  (by rw[World.cell?_alloc_lt _ _ t (by simp;omega),World.cell?_alloc_lt _ _ t htl];exact ht)
  (by rw[World.frozen?_alloc_old _ _ t (by simp;omega),World.frozen?_alloc_old _ _ t (Nat.ne_of_lt htl)];exact hf)
 have hc2:(((w.alloc (.cells #[.pointer (some ⟨2,92,none⟩),.pointer (some A),.int .u64 150] 154)).alloc (.cells #[.int .i64 c] 34)).setCell t (.int .i64 c)).cell? t=some (.int .i64 c):=
  World.cell?_setCell_same _ _ _ (by rw[World.cell?_alloc_lt _ _ t (by simp;omega),World.cell?_alloc_lt _ _ t htl];exact ht)
 have Hc2:=hid hc2;clear hc2;go_enter Tryz.func94,Tryz.ntmps94;go_wp2;refine wp_loop_rounds 1 ?_;rw[rounds_succ];go_wp2;go_ret;exact⟨rfl,zap (zap (World.grownBy_alloc _ _ _) (World.grownBy_alloc _ _ _)) (zfm _ _ _),Hc2.out⟩
theorem ztx (c a:Int) (w:World):Calls Tryz.prog 319 #[.agg #[.int .i64 c,.int .i64 a]] w fun e w'=>e=.returned (.iface 34 (.int .i64 c))∧w'=w.alloc (.cells #[.int .i64 c,.int .i64 a] 94):=by
 go_enter Tryz.func319,Tryz.ntmps319;go_wp2;go_ret;exact⟨rfl,rfl⟩
theorem z3j (c a:Int) (t A:Addr) (old:Value) (w:World) (hA:w.cell? A=some (.pointer (some t))) (ht:w.cell? t=some old) (hf:w.frozen? t=false):
 Calls Tryz.prog 94 #[.iface 94 (.agg #[.int .i64 c,.int .i64 a]),.iface 92 (.pointer (some t)),.agg #[.pointer (some ⟨2,92,none⟩),.pointer (some A),.int .u64 150],.iface 227 (.agg #[.pointer (some ⟨2,34,none⟩)])] w
  fun e w'=>e=.returned (.bool true)∧w.grownBy w' (some t.block)∧w'.cell? t=some (.int .i64 c):=by
 have hTO:=@run_callFunc_extern Tryz.prog 135 _ ReflectliteType.typeOf Tryz.func135 (by kernel_rfl) (by kernel_rfl) (by kernel_rfl) (by kernel_rfl);have hAT:=@run_callFunc_extern Tryz.prog 331 _ (ReflectliteType.relation "AssignableTo" ReflectliteType.assignableTo) Tryz.func331 (by kernel_rfl) (by kernel_rfl) (by kernel_rfl) (by kernel_rfl);have hEl:=@run_callFunc_extern Tryz.prog 136 _ (ReflectliteValue.method (ReflectliteValue.valueError "reflectlite.Value.Elem" 0) ReflectliteValue.elem) Tryz.func136 (by kernel_rfl) (by kernel_rfl) (by kernel_rfl) (by kernel_rfl);have hVO:=@run_callFunc_extern Tryz.prog 91 _ (fun args=>ReflectliteValue.unpack (args.getD 0 (.tuple #[]))) Tryz.func91 (by kernel_rfl) (by kernel_rfl) (by kernel_rfl) (by kernel_rfl);have hSt:=@run_callFunc_extern Tryz.prog 137 _ ReflectliteValue.set Tryz.func137 (by kernel_rfl) (by kernel_rfl) (by kernel_rfl) (by kernel_rfl);have tO:=Tryz.typeOfE;have tO2:=Tryz.typeOfF;have mA:=Tryz.methodAssignableTo;have aEE:=Tryz.assignableEE;have aFE:=Tryz.assignableFE;have s1:=Tryz.asAsF;have s2:=Tryz.asUnF;have mU:=Tryz.methodUnF;have vE:=Tryz.valueOfE;have hAl:A.block<w.heap.size:=ze hA;have htl:t.block<w.heap.size:=ze ht
 have hA2:((w.alloc (.cells #[.pointer (some ⟨2,92,none⟩),.pointer (some A),.int .u64 150] 154)).alloc (.cells #[.int .i64 c,.int .i64 a] 94)).cell? A=some (.pointer (some t)):=by
  rw[World.cell?_alloc_lt _ _ A (by simp;omega),World.cell?_alloc_lt _ _ A hAl];exact hA
 have ht2:((w.alloc (.cells #[.pointer (some ⟨2,92,none⟩),.pointer (some A),.int .u64 150] 154)).alloc (.cells #[.int .i64 c,.int .i64 a] 94)).cell? t=some old:=by
  rw[World.cell?_alloc_lt _ _ t (by simp;omega),World.cell?_alloc_lt _ _ t htl];exact ht
 have hf2:((w.alloc (.cells #[.pointer (some ⟨2,92,none⟩),.pointer (some A),.int .u64 150] 154)).alloc (.cells #[.int .i64 c,.int .i64 a] 94)).frozen? t=false:=by
  rw[World.frozen?_alloc_old _ _ t (by simp;omega),World.frozen?_alloc_old _ _ t (Nat.ne_of_lt htl)];exact hf
 have el:=Tryz.elemVPE A t ((w.alloc (.cells #[.pointer (some ⟨2,92,none⟩),.pointer (some A),.int .u64 150] 154)).alloc (.cells #[.int .i64 c,.int .i64 a] 94)) hA2
 have st:=Tryz.setE t ⟨w.heap.size+1+1,0,none⟩ c old (((w.alloc (.cells #[.pointer (some ⟨2,92,none⟩),.pointer (some A),.int .u64 150] 154)).alloc (.cells #[.int .i64 c,.int .i64 a] 94)).alloc (.cells #[.int .i64 c] 34))
  (by rw[World.cell?_alloc_at _ _ _ _ (by simp)];rfl)
  (by rw[World.cell?_alloc_lt _ _ t (by simp;omega)];exact ht2)
  (by rw[World.frozen?_alloc_old _ _ t (by simp;omega)];exact hf2)
 have hc2:((((w.alloc (.cells #[.pointer (some ⟨2,92,none⟩),.pointer (some A),.int .u64 150] 154)).alloc (.cells #[.int .i64 c,.int .i64 a] 94)).alloc (.cells #[.int .i64 c] 34)).setCell t (.int .i64 c)).cell? t=some (.int .i64 c):=
  World.cell?_setCell_same _ _ _ (by rw[World.cell?_alloc_lt _ _ t (by simp;omega)];exact ht2)
 have Hc2:=hid hc2;clear hc2 hA2 ht2 hf2;go_enter Tryz.func94,Tryz.ntmps94;go_wp2;refine wp_loop_rounds 2 ?_;rw[rounds_succ];go_wp2_with fail;refine(ztx c a _).mono ?_;rintro e w' ⟨rfl,rfl⟩;go_wp2_with fail;rw[rounds_succ];go_wp2_with fail;go_ret;exact⟨rfl,zap (zap (zap (World.grownBy_alloc _ _ _) (World.grownBy_alloc _ _ _)) (World.grownBy_alloc _ _ _)) (zfm _ _ _),Hc2.out⟩
theorem zty (t:Value) (w:World):Calls Tryz.prog 52 #[.nilIface,t] w fun e w'=>e=.returned (.bool false)∧w=w':=by
 go_enter Tryz.func52,Tryz.ntmps52;go_wp2;go_ret;exact⟨rfl,rfl⟩
theorem zod (u:TypeId) (x:Value) (t:Addr) (w:World) (hD:Door w) (ht:t.block<w.heap.size) (Q:Ending→World→Prop)
 (h:∀(w1:World) (A:Addr),Below w.heap.size w w1→w1.cell? A=some (.pointer (some t))→w.heap.size≤A.block→
   Calls Tryz.prog 94 #[.iface u x,.iface 92 (.pointer (some t)),.agg #[.pointer (some ⟨2,92,none⟩),.pointer (some A),.int .u64 150],.iface 227 (.agg #[.pointer (some ⟨2,34,none⟩)])] w1 fun e w'=>∃b,e=.returned (.bool b)∧Q e w'):
 Calls Tryz.prog 52 #[.iface u x,.iface 92 (.pointer (some t))] w Q:=by
 have hVO:=@run_callFunc_extern Tryz.prog 91 _ (fun args=>ReflectliteValue.unpack (args.getD 0 (.tuple #[]))) Tryz.func91 (by kernel_rfl) (by kernel_rfl) (by kernel_rfl) (by kernel_rfl);have hTy:=@run_callFunc_extern Tryz.prog 92 _ (ReflectliteValue.methodAny (ReflectliteValue.valueError "reflectlite.Value.Type" 0) (fun t _ _ _=>ReflectliteType.toType t)) Tryz.func92 (by kernel_rfl) (by kernel_rfl) (by kernel_rfl) (by kernel_rfl);have hIN:=@run_callFunc_extern Tryz.prog 93 _ (ReflectliteValue.method (ReflectliteValue.valueError "reflectlite.Value.IsNil" 0) ReflectliteValue.isNil) Tryz.func93 (by kernel_rfl) (by kernel_rfl) (by kernel_rfl) (by kernel_rfl);have hKi:=@run_callFunc_extern Tryz.prog 315 _ (ReflectliteType.abiMethod fun t=>do pure (.int .u8 (←Rtype.kind t))) Tryz.func315 (by kernel_rfl) (by kernel_rfl) (by kernel_rfl) (by kernel_rfl);have hEl:=@run_callFunc_extern Tryz.prog 333 _ (ReflectliteType.method ReflectliteType.elem) Tryz.func333 (by kernel_rfl) (by kernel_rfl) (by kernel_rfl) (by kernel_rfl);have hIm:=@run_callFunc_extern Tryz.prog 334 _ (ReflectliteType.relation "Implements" ReflectliteType.implements_) Tryz.func334 (by kernel_rfl) (by kernel_rfl) (by kernel_rfl) (by kernel_rfl);have f6:=Tryz.valueOfPE;have f7:=Tryz.typePE;have mK:=Tryz.methodKind;have mE:=Tryz.methodElem;have mI:=Tryz.methodImplements;have k27:=Tryz.kindPE;have k25:=Tryz.kindE;have e27:=Tryz.elemPE;have i25:=Tryz.implementsE;have n8:=Tryz.isNilPE ⟨w.heap.size,0,none⟩ t ((w.alloc (.cells #[.pointer (some t)] 92)).alloc (.cells #[.pointer (some ⟨2,92,none⟩),.pointer (some ⟨w.heap.size,0,none⟩),.int .u64 150] 154)) (by simp);have hlt:0<w.heap.size:=ze hD
 have hg2:((w.alloc (.cells #[.pointer (some t)] 92)).alloc (.cells #[.pointer (some ⟨2,92,none⟩),.pointer (some ⟨w.heap.size,0,none⟩),.int .u64 150] 154)).cell? ⟨0,0,none⟩=some (.iface 227 (.agg #[.pointer (some ⟨2,29,none⟩)])):=by
  rw[World.cell?_alloc_lt _ _ ⟨0,0,none⟩ (by simp only[World.size_alloc];omega),World.cell?_alloc_lt _ _ ⟨0,0,none⟩ hlt];exact hD
 have H:=hid (h ((w.alloc (.cells #[.pointer (some t)] 92)).alloc (.cells #[.pointer (some ⟨2,92,none⟩),.pointer (some ⟨w.heap.size,0,none⟩),.int .u64 150] 154)) ⟨w.heap.size,0,none⟩
  (((Below.refl _ _).alloc (Nat.le_refl _) _).alloc (by simp only[World.size_alloc];omega) _) (by simp) (Nat.le_refl _))
 clear h hD;go_enter Tryz.func52,Tryz.ntmps52;go_wp2_with fail;refine H.out.mono ?_;rintro e w' ⟨b,rfl,hq⟩;have Hq:=hid hq;clear hq H;go_wp2_with fail;exact Hq.out
theorem zoe (u:TypeId) (x:Value) (t:Addr) (w:World) (hD:Door w) (ht:t.block<w.heap.size) (Q:Ending→World→Prop)
 (h:∀(w1:World) (A:Addr),Below w.heap.size w w1→w1.cell? A=some (.pointer (some t))→w.heap.size≤A.block→
   Calls Tryz.prog 94 #[.iface u x,.iface 140 (.pointer (some t)),.agg #[.pointer (some ⟨2,140,none⟩),.pointer (some A),.int .u64 150],.iface 227 (.agg #[.pointer (some ⟨2,94,none⟩)])] w1 fun e w'=>∃b,e=.returned (.bool b)∧Q e w'):
 Calls Tryz.prog 52 #[.iface u x,.iface 140 (.pointer (some t))] w Q:=by
 have hVO:=@run_callFunc_extern Tryz.prog 91 _ (fun args=>ReflectliteValue.unpack (args.getD 0 (.tuple #[]))) Tryz.func91 (by kernel_rfl) (by kernel_rfl) (by kernel_rfl) (by kernel_rfl);have hTy:=@run_callFunc_extern Tryz.prog 92 _ (ReflectliteValue.methodAny (ReflectliteValue.valueError "reflectlite.Value.Type" 0) (fun t _ _ _=>ReflectliteType.toType t)) Tryz.func92 (by kernel_rfl) (by kernel_rfl) (by kernel_rfl) (by kernel_rfl);have hIN:=@run_callFunc_extern Tryz.prog 93 _ (ReflectliteValue.method (ReflectliteValue.valueError "reflectlite.Value.IsNil" 0) ReflectliteValue.isNil) Tryz.func93 (by kernel_rfl) (by kernel_rfl) (by kernel_rfl) (by kernel_rfl);have hKi:=@run_callFunc_extern Tryz.prog 315 _ (ReflectliteType.abiMethod fun t=>do pure (.int .u8 (←Rtype.kind t))) Tryz.func315 (by kernel_rfl) (by kernel_rfl) (by kernel_rfl) (by kernel_rfl);have hEl:=@run_callFunc_extern Tryz.prog 333 _ (ReflectliteType.method ReflectliteType.elem) Tryz.func333 (by kernel_rfl) (by kernel_rfl) (by kernel_rfl) (by kernel_rfl);have hIm:=@run_callFunc_extern Tryz.prog 334 _ (ReflectliteType.relation "Implements" ReflectliteType.implements_) Tryz.func334 (by kernel_rfl) (by kernel_rfl) (by kernel_rfl) (by kernel_rfl);have f6:=Tryz.valueOfPF;have f7:=Tryz.typePF;have mK:=Tryz.methodKind;have mE:=Tryz.methodElem;have mI:=Tryz.methodImplements;have k27:=Tryz.kindPF;have k25:=Tryz.kindF;have e27:=Tryz.elemPF;have i25:=Tryz.implementsF;have n8:=Tryz.isNilPF ⟨w.heap.size,0,none⟩ t ((w.alloc (.cells #[.pointer (some t)] 140)).alloc (.cells #[.pointer (some ⟨2,140,none⟩),.pointer (some ⟨w.heap.size,0,none⟩),.int .u64 150] 154)) (by simp);have hlt:0<w.heap.size:=ze hD
 have hg2:((w.alloc (.cells #[.pointer (some t)] 140)).alloc (.cells #[.pointer (some ⟨2,140,none⟩),.pointer (some ⟨w.heap.size,0,none⟩),.int .u64 150] 154)).cell? ⟨0,0,none⟩=some (.iface 227 (.agg #[.pointer (some ⟨2,29,none⟩)])):=by
  rw[World.cell?_alloc_lt _ _ ⟨0,0,none⟩ (by simp only[World.size_alloc];omega),World.cell?_alloc_lt _ _ ⟨0,0,none⟩ hlt];exact hD
 have H:=hid (h ((w.alloc (.cells #[.pointer (some t)] 140)).alloc (.cells #[.pointer (some ⟨2,140,none⟩),.pointer (some ⟨w.heap.size,0,none⟩),.int .u64 150] 154)) ⟨w.heap.size,0,none⟩
  (((Below.refl _ _).alloc (Nat.le_refl _) _).alloc (by simp only[World.size_alloc];omega) _) (by simp) (Nat.le_refl _))
 clear h hD;go_enter Tryz.func52,Tryz.ntmps52;go_wp2_with fail;refine H.out.mono ?_;rintro e w' ⟨b,rfl,hq⟩;have Hq:=hid hq;clear hq H;go_wp2_with fail;exact Hq.out
end
section
open Go.RowKit
attribute [local go_sem] vq
def zgw (g:Nat):Option Iv→Value
 | none=>.func (.func 111) #[.pointer (some ⟨g,0,none⟩)] #[]
 | some _=>.func (.func 194) #[.pointer (some ⟨g,0,none⟩)] #[]
def jw (g ap lo:Nat) (last:Option Iv) (op:Bool):List Value:=
 [.int .u64 (ap:Int),.int .u64 (lo:Int),.int .u64 (((last.getD (0,0)).1:Nat):Int),.int .u64 (((last.getD (0,0)).2:Nat):Int),.bool last.isSome,.bool op,zgw g last]
theorem ztz (ap:Nat) (w:World):Calls Tryz.prog 63 #[.int .u64 (ap:Int)] w fun e w'=>e=.returned (.pointer (some ⟨w.heap.size,0,none⟩))∧Row w' w.heap.size 183 (jw w.heap.size ap 0 none false)∧Below w.heap.size w w':=by
 go_enter Tryz.func63,Tryz.ntmps63;go_wp2_with fail;go_ret;exact⟨rfl,zcd _ _ _,(Below.refl _ _).alloc (Nat.le_refl _) _⟩
theorem z3k (g d:Nat) (w:World):Calls Tryz.prog 111 #[.pointer (some ⟨g,0,none⟩),.int .u64 (d:Int)] w fun e w'=>e=.returned (.tuple #[.int .u64 (d:Int),.bool true])∧w=w':=by
 go_enter Tryz.func111,Tryz.ntmps111;go_wp2_with fail;go_ret2;exact⟨rfl,rfl⟩
theorem zim {s:Nat} (h:s<18446744073709551616):zbt s=.tuple #[.int .u64 (s:Int),.bool true]:=if_pos h
theorem zin {s:Nat} (h:¬s<18446744073709551616):zbt s=.tuple #[.int .u64 0,.bool false]:=if_neg h
theorem zgx (l:List Nat) (W:World) (g n:Nat) (h:W.heap[g]?=some (.cells (zi l).toArray 52)) (hn:l.length=n) (h64:∀x∈l,x<18446744073709551616) (hl:n≤10) {v:Value} (hv:zbt l.sum=v):
 Calls Tryz.prog 193 #[.slice (some ⟨g,0,none⟩) n n] W fun e w'=>e=.returned v∧Below W.heap.size W w':=
 (z2c _ n n l W (yg h rfl (by rw[zd3,hn];omega)) hn h64 hl).mono fun e w' ⟨h1,h2⟩=>⟨by rw[h1,hv],h2⟩
set_option maxRecDepth 20000 in
theorem z3l (g ap lo d:Nat) (s:Iv) (op:Bool) (w:World) (h:Row w g 183 (jw g ap lo (some s) op)) (hs:s.2<18446744073709551616) (ha:ap<18446744073709551616) (hd:d<18446744073709551616):
 Calls Tryz.prog 194 #[.pointer (some ⟨g,0,none⟩),.int .u64 (d:Int)] w fun e w'=>e=.returned (zbt (s.2+1+ap+d))∧Below w.heap.size w w':=by
 obtain⟨s1,s2⟩:=s;simp only at hs;have q0:=h.cell 0 rfl;have q3:=h.cell 3 rfl;simp only[Option.getD_some] at q0 q3
 have h64:∀x∈[s2,1,ap,d],x<18446744073709551616:=fun x hx=>by
  simp only[List.mem_cons,List.not_mem_nil,or_false] at hx;rcases hx with rfl | rfl | rfl | rfl <;> first | assumption | omega
 have hsum:[s2,1,ap,d].sum=s2+1+ap+d:=by simp only[List.sum_cons,List.sum_nil,Nat.add_zero,Nat.add_assoc]
 have H64:=hid h64;clear h hs ha hd h64;by_cases h:s2+1+ap+d<18446744073709551616
 · have hv:zbt [s2,1,ap,d].sum=.tuple #[.int .u64 ((s2+1+ap+d:Nat):Int),.bool true]:=by rw[hsum];exact zim h
   have HS:=hid (fun W hW=>zgx [s2,1,ap,d] W w.heap.size 4 hW rfl H64.out (by omega) hv);have Hv:=hid (zim h);clear h hsum hv;generalize s2+1+ap+d=S at*;go_enter Tryz.func194,Tryz.ntmps194;go_wp2;go_region_with (go_at_call 193;refine(HS.out _ (by exact zg w _ _ rfl)).mono ?_;rintro e w1 ⟨rfl,hb1⟩)
   all_goals go_wp2
   all_goals go_ret2
   all_goals exact⟨by rw[Hv.out];rfl,((Below.refl _ _).alloc (Nat.le_refl _) _).drew.trans (hb1.mono (by simp))⟩
 · have hv:zbt [s2,1,ap,d].sum=.tuple #[.int .u64 0,.bool false]:=by rw[hsum];exact zin h
   have HS:=hid (fun W hW=>zgx [s2,1,ap,d] W w.heap.size 4 hW rfl H64.out (by omega) hv);have Hv:=hid (zin h);clear h hsum hv;generalize s2+1+ap+d=S at*;go_enter Tryz.func194,Tryz.ntmps194;go_wp2;go_region_with (go_at_call 193;refine(HS.out _ (by exact zg w _ _ rfl)).mono ?_;rintro e w1 ⟨rfl,hb1⟩)
   all_goals go_wp2
   all_goals go_ret2
   all_goals exact⟨by rw[Hv.out];rfl,((Below.refl _ _).alloc (Nat.le_refl _) _).drew.trans (hb1.mono (by simp))⟩
def z3m (w:World) (g ap lo:Nat) (last:Option Iv) (r:Option Nat) (e:Ending) (w':World):Prop:=
 match r with
 | none=>e=.returned (.tuple #[.int .u64 0,.bool false])∧Row w' g 183 (jw g ap lo last false)∧w.grownBy w' (some g)
 | some x=>e=.returned (.tuple #[.int .u64 (x:Int),.bool true])∧Row w' g 183 (jw g ap x last true)∧w.grownBy w' (some g)
theorem zk8 {w w':World} {n:Nat} {r:Option Nat} (h:Below n w w') (hn:n=w.heap.size):w.grownBy w' r:=⟨h.os,h.tape,h.output,h.size,fun k hk _=>h.block k (by omega)⟩
set_option maxRecDepth 20000 in
theorem zof (g ap lo d:Nat) (last:Option Iv) (w:World) (h:Row w g 183 (jw g ap lo last false)) (hs:∀s,last=some s→s.2<18446744073709551616) (ha:ap<18446744073709551616) (hd:d<18446744073709551616):
 Calls Tryz.prog 151 #[.pointer (some ⟨g,0,none⟩),.int .u64 (d:Int)] w (z3m w g ap lo last (loP (last.map (·.2)) ap d)):=by
 have H:=hid h;have q5:=h.cell 5 rfl;have q6:=h.cell 6 rfl;have z1:=h.fz 1;have z5:=h.fz 5;have q1:=h.cell 1 rfl
 cases last with
 | none=>
  have HF:=hid (Row.set (h.set 1 (.int .u64 (d:Int))) 5 (.bool true));simp only[zgw] at q6;clear h hs ha hd;go_enter Tryz.func151,Tryz.ntmps151;go_wp2_with fail;refine(z3k g d _).mono ?_;rintro e w' ⟨rfl,rfl⟩;go_wp2_with fail;go_ret2
  exact⟨rfl,HF.out,zap (za7 _ _ _ _) (za7 _ _ _ _)⟩
 | some s=>
  have HL:=hid (z3l g ap lo d s false w h (hs s rfl) ha hd);simp only[zgw] at q6;clear hs ha hd;by_cases hc:s.2+1+ap+d<18446744073709551616
  · have Hr:=hid (show loP ((some s).map (·.2)) ap d=some (s.2+1+ap+d) from if_pos hc);rw[Hr.out];rw[zim hc] at HL;clear hc;generalize s.2+1+ap+d=S at*;go_enter Tryz.func151,Tryz.ntmps151;go_wp2_with fail;refine HL.out.mono ?_;rintro e w1 ⟨rfl,hb1⟩;have h1:=h.later hb1;have p1:=h1.cell 1 rfl;have p5:=h1.cell 5 rfl;have y1:=h1.fz 1;have y5:=h1.fz 5;have HF:=hid (Row.set (h1.set 1 (.int .u64 (S:Int))) 5 (.bool true));have Hb1:=hid hb1;clear h1 hb1;go_wp2_with fail;go_ret2;exact⟨rfl,HF.out,zap (zk8 Hb1.out rfl) (zap (za7 _ _ _ _) (za7 _ _ _ _))⟩
  · have Hr:=hid (show loP ((some s).map (·.2)) ap d=none from if_neg hc);rw[Hr.out];rw[zin hc] at HL;clear hc;go_enter Tryz.func151,Tryz.ntmps151;go_wp2_with fail;refine HL.out.mono ?_;rintro e w1 ⟨rfl,hb1⟩;have HF:=hid (h.later hb1);have Hb1:=hid hb1;clear hb1;go_wp2_with fail;go_ret2;exact⟨rfl,HF.out,zk8 Hb1.out rfl⟩
end
section
open Go.RowKit Go.Extern.Stop Go.Stop Go.Extern
theorem zci (x:Err) (w:World) (hD:Door w):
 Calls Tryz.prog 16 #[yl x] w fun e w'=>e=.returned (.int .i64 (qo x))∧Below w.heap.size w w':=by
 have hD':=hid (fun o=>hD.below (Nat.le_refl _) ((Below.refl _ w).alloc (Nat.le_refl _) o));clear hD;rcases x with _ | ⟨c,_ | a⟩
 · go_enter Tryz.func16,Tryz.ntmps16;simp only[yl];go_wp2_with fail;go_ret;exact⟨rfl,(Below.refl _ _).alloc (Nat.le_refl _) _⟩
 · go_enter Tryz.func16,Tryz.ntmps16;simp only[yl];go_wp2_with fail;refine zod _ _ _ _ (hD'.out _) (by simp) _ ?_;intro w1 A hb hA hAs;have hb2:Below w.heap.size w w1:=((Below.refl _ _).alloc (Nat.le_refl _) _).trans (hb.mono (by simp));have hc:w1.cell? ⟨w.heap.size,0,none⟩=some (.int .i64 0):=by rw[hb.cell (p:=⟨w.heap.size,0,none⟩) (by simp)];simp
   have hf:w1.frozen? ⟨w.heap.size,0,none⟩=false:=by rw[hb.frozen (p:=⟨w.heap.size,0,none⟩) (by simp)];simp
   refine(z3i c ⟨w.heap.size,0,none⟩ A _ w1 hA hc hf).mono ?_;rintro e w2 ⟨rfl,hg,hc2⟩;refine⟨true,rfl,?_⟩;have hb3:=zhm hb2 (Nat.le_refl _) hg;clear hg hc hf hb hb2 hA hAs;go_wp2_with fail;go_ret;exact⟨rfl,hb3⟩
 · go_enter Tryz.func16,Tryz.ntmps16;simp only[yl];go_wp2_with fail;refine zod _ _ _ _ (hD'.out _) (by simp) _ ?_;intro w1 A hb hA hAs;have hb2:Below w.heap.size w w1:=((Below.refl _ _).alloc (Nat.le_refl _) _).trans (hb.mono (by simp));have hc:w1.cell? ⟨w.heap.size,0,none⟩=some (.int .i64 0):=by rw[hb.cell (p:=⟨w.heap.size,0,none⟩) (by simp)];simp
   have hf:w1.frozen? ⟨w.heap.size,0,none⟩=false:=by rw[hb.frozen (p:=⟨w.heap.size,0,none⟩) (by simp)];simp
   refine(z3j c a ⟨w.heap.size,0,none⟩ A _ w1 hA hc hf).mono ?_;rintro e w2 ⟨rfl,hg,hc2⟩;refine⟨true,rfl,?_⟩;have hb3:=zhm hb2 (Nat.le_refl _) hg;clear hg hc hf hb hb2 hA hAs;go_wp2_with fail;go_ret;exact⟨rfl,hb3⟩
theorem zaf (c a:Int) (w:World):
 Calls Tryz.prog 49 #[.int .i64 c,.int .i64 a] w fun e w'=>e=.returned (yl (zgc c a))∧w=w':=by
 by_cases h:c=0
 · subst h;go_enter Tryz.func49,Tryz.ntmps49;go_wp2;go_ret;exact⟨rfl,rfl⟩
 · have hb:(c == 0)=false:=by rw[beq_eq_false_iff_ne];exact h
   have he:=hid (show zgc c a=some (c,some a) from if_neg h);clear h;go_enter Tryz.func49,Tryz.ntmps49;go_wp2;go_ret;exact⟨by rw[he.out];rfl,rfl⟩
theorem z3n (w:World):
 Calls Tryz.prog 53 #[.nilIface] w fun e w'=>e=.returned (.tuple #[.agg #[.int .i64 0,.int .i64 0],.bool false])∧Below w.heap.size w w':=by
 go_enter Tryz.func53,Tryz.ntmps53;go_wp2_with fail;refine(zty _ _).mono ?_;rintro e w' ⟨rfl,rfl⟩;go_wp2_with fail;exact bodyPost_ret (v:=.tuple #[.agg #[.int .i64 0,.int .i64 0],.bool false]) (by simp[results,Tryz.results53,go_sem]) rfl ⟨rfl,((Below.refl _ _).alloc (Nat.le_refl _) _).alloc (by simp) _⟩
theorem z3o (c:Int) (w:World) (hD:Door w):
 Calls Tryz.prog 53 #[.iface 34 (.int .i64 c)] w fun e w'=>e=.returned (.tuple #[.agg #[.int .i64 0,.int .i64 0],.bool false])∧Below w.heap.size w w':=by
 have hD':=hid (fun o1 o2=>hD.below (Nat.le_refl _) (((Below.refl _ w).alloc (Nat.le_refl _) o1).alloc (by simp) o2));clear hD;go_enter Tryz.func53,Tryz.ntmps53;go_wp2_with fail;refine zoe _ _ _ _ (hD'.out _ _) (by simp) _ ?_;intro w1 A hb hA hAs;have hb2:Below w.heap.size w w1:=(((Below.refl _ _).alloc (Nat.le_refl _) _).alloc (by simp) _).trans (hb.mono (by simp;omega));have hz:=hb.size;have hc0:w1.cell? ⟨w.heap.size+1,0,none⟩=some (.int .i64 0):=by rw[hb.cell (p:=⟨w.heap.size+1,0,none⟩) (by simp)];go_simp
 have hc1:w1.cell? ⟨w.heap.size+1,1,none⟩=some (.int .i64 0):=by rw[hb.cell (p:=⟨w.heap.size+1,1,none⟩) (by simp)];go_simp
 have hr0:w1.cell? ⟨w.heap.size,0,none⟩=some (.int .i64 0):=by rw[hb.cell (p:=⟨w.heap.size,0,none⟩) (by simp;omega)];go_simp
 have hr1:w1.cell? ⟨w.heap.size,1,none⟩=some (.int .i64 0):=by rw[hb.cell (p:=⟨w.heap.size,1,none⟩) (by simp;omega)];go_simp
 have hf0:w1.frozen? ⟨w.heap.size,0,none⟩=false:=by rw[hb.frozen (p:=⟨w.heap.size,0,none⟩) (by simp;omega)];go_simp
 have hf1:w1.frozen? ⟨w.heap.size,1,none⟩=false:=by rw[hb.frozen (p:=⟨w.heap.size,1,none⟩) (by simp;omega)];go_simp
 refine(z3h c (w.heap.size+1) A w1).mono ?_;rintro e w2 ⟨rfl,hg⟩;refine⟨false,rfl,?_⟩;have hb3:=zy2 hb2 hg;have keep:∀p:Addr,p.block<w1.heap.size→w2.cell? p=w1.cell? p:=fun p hp=>World.cell?_of_block (hg.block _ hp (by simp))
 have kfree:∀p:Addr,p.block<w1.heap.size→w2.frozen? p=w1.frozen? p:=fun p hp=>World.frozen?_of_block (hg.block _ hp (by simp))
 have hc0':=(keep ⟨w.heap.size+1,0,none⟩ (ze hc0)).trans hc0;have hc1':=(keep ⟨w.heap.size+1,1,none⟩ (ze hc1)).trans hc1;have hr0':=(keep ⟨w.heap.size,0,none⟩ (ze hr0)).trans hr0;have hr1':=(keep ⟨w.heap.size,1,none⟩ (ze hr1)).trans hr1;have hf0':=(kfree ⟨w.heap.size,0,none⟩ (ze hr0)).trans hf0;have hf1':=(kfree ⟨w.heap.size,1,none⟩ (ze hr1)).trans hf1;clear keep kfree hg hc0 hc1 hr0 hr1 hf0 hf1 hb hb2 hA hAs hz;go_wp2_with fail;exact bodyPost_ret (v:=.tuple #[.agg #[.int .i64 0,.int .i64 0],.bool false]) (by simp[results,Tryz.results53,go_sem,hr0',hr1']) rfl ⟨rfl,(hb3.setCell (p:=⟨w.heap.size,0,none⟩) (Nat.le_refl _) _).setCell (p:=⟨w.heap.size,1,none⟩) (Nat.le_refl _) _⟩
theorem z3p (c a:Int) (w:World) (hD:Door w):
 Calls Tryz.prog 53 #[.iface 94 (.agg #[.int .i64 c,.int .i64 a])] w fun e w'=>e=.returned (.tuple #[.agg #[.int .i64 c,.int .i64 a],.bool true])∧Below w.heap.size w w':=by
 have hD':=hid (fun o1 o2=>hD.below (Nat.le_refl _) (((Below.refl _ w).alloc (Nat.le_refl _) o1).alloc (by simp) o2));clear hD;go_enter Tryz.func53,Tryz.ntmps53;go_wp2_with fail;refine zoe _ _ _ _ (hD'.out _ _) (by simp) _ ?_;intro w1 A hb hA hAs;have hb2:Below w.heap.size w w1:=(((Below.refl _ _).alloc (Nat.le_refl _) _).alloc (by simp) _).trans (hb.mono (by simp;omega));have hz:=hb.size;have hc0:w1.cell? ⟨w.heap.size+1,0,none⟩=some (.int .i64 0):=by rw[hb.cell (p:=⟨w.heap.size+1,0,none⟩) (by simp)];go_simp
 have hc1:w1.cell? ⟨w.heap.size+1,1,none⟩=some (.int .i64 0):=by rw[hb.cell (p:=⟨w.heap.size+1,1,none⟩) (by simp)];go_simp
 have hg0:w1.frozen? ⟨w.heap.size+1,0,none⟩=false:=by rw[hb.frozen (p:=⟨w.heap.size+1,0,none⟩) (by simp)];go_simp
 have hg1:w1.frozen? ⟨w.heap.size+1,1,none⟩=false:=by rw[hb.frozen (p:=⟨w.heap.size+1,1,none⟩) (by simp)];go_simp
 have hr0:w1.cell? ⟨w.heap.size,0,none⟩=some (.int .i64 0):=by rw[hb.cell (p:=⟨w.heap.size,0,none⟩) (by simp;omega)];go_simp
 have hr1:w1.cell? ⟨w.heap.size,1,none⟩=some (.int .i64 0):=by rw[hb.cell (p:=⟨w.heap.size,1,none⟩) (by simp;omega)];go_simp
 have hf0:w1.frozen? ⟨w.heap.size,0,none⟩=false:=by rw[hb.frozen (p:=⟨w.heap.size,0,none⟩) (by simp;omega)];go_simp
 have hf1:w1.frozen? ⟨w.heap.size,1,none⟩=false:=by rw[hb.frozen (p:=⟨w.heap.size,1,none⟩) (by simp;omega)];go_simp
 refine(z3g c a (w.heap.size+1) A _ _ w1 hA hc0 hc1 hg0 hg1).mono ?_;rintro e w2 ⟨rfl,hg,hc0',hc1'⟩;refine⟨true,rfl,?_⟩;have hb3:=zhm hb2 (by omega) hg;have keep:∀p:Addr,p.block<w1.heap.size→p.block≠w.heap.size+1→w2.cell? p=w1.cell? p:=fun p hp hne=>World.cell?_of_block (hg.block _ hp (by simpa using hne))
 have kfree:∀p:Addr,p.block<w1.heap.size→p.block≠w.heap.size+1→w2.frozen? p=w1.frozen? p:=fun p hp hne=>World.frozen?_of_block (hg.block _ hp (by simpa using hne))
 have hr0':=(keep ⟨w.heap.size,0,none⟩ (ze hr0) (by simp)).trans hr0;have hr1':=(keep ⟨w.heap.size,1,none⟩ (ze hr1) (by simp)).trans hr1;have hf0':=(kfree ⟨w.heap.size,0,none⟩ (ze hr0) (by simp)).trans hf0;have hf1':=(kfree ⟨w.heap.size,1,none⟩ (ze hr1) (by simp)).trans hf1;clear keep kfree hg hg0 hg1 hc0 hc1 hr0 hr1 hf0 hf1 hb hb2 hA hAs hz;go_wp2_with fail;exact bodyPost_ret (v:=.tuple #[.agg #[.int .i64 c,.int .i64 a],.bool true]) (by simp[results,Tryz.results53,go_sem,hr0',hr1']) rfl ⟨rfl,(hb3.setCell (p:=⟨w.heap.size,0,none⟩) (Nat.le_refl _) _).setCell (p:=⟨w.heap.size,1,none⟩) (Nat.le_refl _) _⟩
theorem zio (x:Err) (w:World) (hD:Door w):
 Calls Tryz.prog 17 #[yl x] w fun e w'=>e=.returned (.int .i64 (js x))∧Below w.heap.size w w':=by
 rcases x with _ | ⟨c,_ | a⟩
 · go_enter Tryz.func17,Tryz.ntmps17;simp only[yl];go_wp2_with fail;refine(z3n _).mono ?_;rintro e w1 ⟨rfl,hb⟩;go_wp2_with fail;go_ret;exact⟨rfl,hb.alloc hb.size _⟩
 · go_enter Tryz.func17,Tryz.ntmps17;simp only[yl];go_wp2_with fail;refine(z3o _ _ hD).mono ?_;rintro e w1 ⟨rfl,hb⟩;go_wp2_with fail;go_ret;exact⟨rfl,hb.alloc hb.size _⟩
 · go_enter Tryz.func17,Tryz.ntmps17;simp only[yl];go_wp2_with fail;refine(z3p _ _ _ hD).mono ?_;rintro e w1 ⟨rfl,hb⟩;go_wp2_with fail;go_ret;exact⟨rfl,hb.alloc hb.size _⟩
end
section
open Go.RowKit
def zdf (l:List Nat) (p:Nat):Nat×Nat×Err:=
 match v7 (l.drop p) 0 0 with
 | (1,x,j)=>(x,p+j,none)
 | (2,_,_)=>(0,0,some (6,some (p:Int)))
 | _=>(0,0,some (5,some (p:Int)))
theorem z3q (l:List Nat) (k:Nat) (h:k<l.length):l.drop k=nth l k :: l.drop (k+1):=by
 rw[List.drop_eq_getElem_cons h];simp[nth,h]
theorem z3r (c:Nat) (h:qc 9 c=0):False:=by
 unfold qc at h;split at h
 · cases h
 · split at h
   · cases h
   · omega
theorem z3s (n c:Nat):qc n c=0∨qc n c=1∨qc n c=2:=by
 unfold qc;split
 · exact .inr (.inr rfl)
 · split
   · exact .inr (.inl rfl)
   · exact .inl rfl
theorem z3t (a:Option Addr) (n cap p:Nat) (l:List Nat) (w:World) (hB:Byts w a n cap l) (hp:p≤n):
 Calls Tryz.prog 55 #[.slice a n cap,.int .i64 p] w fun e w'=>e=.returned (.tuple #[.int .u64 ((zdf l p).1:Nat),.int .i64 ((zdf l p).2.1:Nat),yl (zdf l p).2.2])∧Below w.heap.size w w':=by
 have HB:=hid hB;obtain⟨hn,hlt,hnc,hcm,hnil,hc⟩:=hB;clear hnil;have hm:n≤9223372036854775807:=by omega
 have Hlt:=hid hlt;clear hlt;by_cases hpn:p<n
 · obtain⟨b,o,rfl,hcell⟩:=hc (by omega);have Hcell:=hid hcell;clear hcell hc;have Hn:=hid hn;clear hn;have hpc:¬cap=p:=by omega
   go_enter Tryz.func55,Tryz.ntmps55;go_wp2_with fail
   have HR0:=hid (show RdV w (w.alloc (.cells #[.int .u64 0,.int .i64 0,.int .i64 0] 166)) w.heap.size 0 0 0 from
    ⟨(Below.refl _ _).alloc (Nat.le_refl _) _,Nat.le_refl _,by simp only[World.size_alloc];omega,World.cell?_alloc_new _ _ _ _,World.cell?_alloc_new _ _ _ _,World.cell?_alloc_new _ _ _ _,World.frozen?_alloc_new _ _ _ _,World.frozen?_alloc_new _ _ _ _,World.frozen?_alloc_new _ _ _ _,by omega⟩)
   generalize w.alloc (.cells #[.int .u64 0,.int .i64 0,.int .i64 0] 166)=w0 at*;generalize hg:w.heap.size=g at*;have Hg:=hid hg;clear hg;have hcast:((n - p:Nat):Int)=(n:Int) - (p:Int):=by omega
   have Hres:=hid (fun st x j (h:v7 (l.drop p) 0 0=(st,x,j))=>(show zdf l p=(match (st,x,j) with | (1,x,j)=>(x,p+j,none) | (2,_,_)=>(0,0,some (6,some (p:Int))) | _=>(0,0,some (5,some (p:Int)))) from by unfold zdf;rw[h]));generalize hmm:n - p=m at*;have Hm:=hid hmm;clear hmm hcast;go_loopw [9,22] (fun _ i wr=>∃k x:Nat,k≤m∧k<10∧i=.int .i64 k∧Hid (RdV w wr g x k 0)∧Hid (v7 (l.drop p) 0 0=v7 (l.drop (p+k)) k x)) (fun _ i _=>m - (intOf i).toNat)
   case atStart=>exact⟨0,0,by omega,by omega,rfl,HR0.out,rfl⟩
   case round=>
    obtain⟨k,x,hk,hk10,rfl,hR,hS⟩:=hrel;by_cases hkm:k<m
    · have hBr:=HB.out.below hR.out.below;obtain⟨b',o',e',hcell'⟩:=hBr.cells (by omega);cases e';have hc:=hcell' (p+k) (by have:=Hm.out;omega);have hsum:p+k+1≤n:=by have:=Hm.out;omega
      have hnc:nth l (p+k)<256:=zyr Hlt.out (by omega) _;have Hd:=hid (z3q l (p+k) (by rw[Hn.out];have:=Hm.out;omega));rw[←Nat.add_assoc] at hc;generalize nth l (p+k)=c at*;clear hcell' hBr;go_wp2_with fail;refine(zzn w _ g x k c hR.out hnc hk10).mono ?_;rintro e w2 ⟨rfl,hR2⟩;have HR2:=hid hR2;clear hR2;rcases z3s k c with hns | hns | hns
      · rw[hns];rw[hns] at HR2;have hk9:k≠9:=fun e=>z3r c (by rw[←e];exact hns)
        have HS2:=hid (show v7 (l.drop p) 0 0=v7 (l.drop (p+(k+1))) (k+1) (jn x k c) from by
         rw[hS.out,Hd.out];show (if qc k c=2 then _ else if qc k c=1 then _ else _)=_;rw[hns];rfl)
        clear hns;go_wp2_with fail;go_roundw
        case rel=>exact⟨k+1,_,by omega,by omega,by go_num,HR2,HS2⟩
        case measure=>simp[intOf];omega
      · rw[hns];rw[hns] at HR2;have HS2:=hid (Hres.out 1 (jn x k c) (k+1) (by rw[hS.out,Hd.out];show (if qc k c=2 then _ else if qc k c=1 then _ else _)=_;rw[hns];rfl));clear hns;go_wp2_with fail;refine(zzo w _ g _ _ HR2.out).mono ?_;rintro e w' ⟨rfl,rfl⟩;go_wp2_with fail;refine(zzp w _ g _ _ _ HR2.out).mono ?_;rintro e w' ⟨rfl,rfl⟩;go_wp2_with fail;go_ret3
        refine⟨?_,by have:=HR2.out.below;exact this⟩;rw[HS2.out]
        rfl
      · rw[hns];have HS2:=hid (Hres.out 2 0 (k+1) (by rw[hS.out,Hd.out];show (if qc k c=2 then _ else if qc k c=1 then _ else _)=_;rw[hns];rfl));clear hns;go_wp2_with fail;refine(zaf 6 p _).mono ?_;rintro e w' ⟨rfl,rfl⟩;go_wp2_with fail;go_ret3
        refine⟨?_,by have:=HR2.out.below;exact this⟩;rw[HS2.out]
        rfl
    · obtain rfl:k=m:=by omega
      have HS2:=hid (Hres.out 0 0 k (by rw[hS.out,List.drop_eq_nil_of_le (by rw[Hn.out];have:=Hm.out;omega)];rfl));go_wp2_with fail;refine(zaf 5 p _).mono ?_;rintro e w' ⟨rfl,rfl⟩;go_wp2_with fail;go_ret3
      refine⟨?_,by have:=hR.out.below;exact this⟩;rw[HS2.out]
      rfl
 · obtain rfl:p=n:=by omega
   have Hr:=hid (show zdf l p=(0,0,some (5,some (p:Int))) from by unfold zdf;rw[List.drop_eq_nil_of_le (by omega)];rfl);clear hc hn;go_enter Tryz.func55,Tryz.ntmps55;go_wp2_with fail;refine(zaf 5 p _).mono ?_;rintro e w' ⟨rfl,rfl⟩;go_wp2_with fail;go_ret3
   refine⟨?_,(Below.refl _ _).alloc (Nat.le_refl _) _⟩;rw[Hr.out]
   rfl
end
end Go.Proofs.YtdnjfnofjaoajaaGreatDoor
