/- Part 30. -/
import Derived.Laws.Runes
import Derived.Test.YtdnipikdddfhfaaGreatDoorOp22
set_option linter.unusedVariables false
set_option maxHeartbeats 16000000
namespace Go.Proofs.YtdnipikdddfhfaaGreatDoor
open Lib (hid)
section
open Go.RowKit Go.Extern.Stop Go.Stop Go.Extern
theorem Tryz.typeOfN (v:Value) (w:World):(ReflectliteType.typeOf #[.iface 212 v]).run Tryz.prog w=.ok (.iface 229 (.agg #[.pointer (some ⟨1,212,none⟩)])) w:=by kernel_rfl
theorem Tryz.assignableNE (w:World):(ReflectliteType.relation "AssignableTo" ReflectliteType.assignableTo #[.agg #[.pointer (some ⟨1,212,none⟩)],.iface 229 (.agg #[.pointer (some ⟨1,35,none⟩)])]).run Tryz.prog w=.ok (.bool false) w:=by kernel_rfl
theorem Tryz.assignableNF (w:World):(ReflectliteType.relation "AssignableTo" ReflectliteType.assignableTo #[.agg #[.pointer (some ⟨1,212,none⟩)],.iface 229 (.agg #[.pointer (some ⟨1,112,none⟩)])]).run Tryz.prog w=.ok (.bool false) w:=by kernel_rfl
theorem Tryz.asAsN (v:Value) (xT:TypeId) (w:World):(Instr.typeAssert (.iface 212 v) xT 234 true).run Tryz.prog w=.ok (.tuple #[.nilIface,.bool false]) w:=
 run_typeAssert_lacksB Tryz.underlying234 (by kernel_rfl) (by kernel_rfl) v xT w
theorem Tryz.asUnN (v:Value) (xT:TypeId) (w:World):(Instr.typeAssert (.iface 212 v) xT 237 true).run Tryz.prog w=.ok (.tuple #[.iface 212 v,.bool true]) w:=
 run_typeAssert_hasB Tryz.underlying237 (by kernel_rfl) v xT w
theorem Tryz.methodUnN (v:Value) (w:World):(Go.method 520 212 v "Unwrap").run Tryz.prog w=.ok (333,v) w:=by kernel_rfl
theorem zn5 (s:ByteArray) (x:Value) (w:World):Calls Tryz.prog 333 #[.agg #[.string s,x]] w fun e w'=>e=.returned x∧w'=w.alloc (.cells #[.string s,x] 212):=by
 go_enter Tryz.func333,Tryz.ntmps333;go_wp2;go_ret;exact⟨rfl,rfl⟩
theorem zx3 (s:ByteArray) (c a:Int) (t A:Addr) (old:Value) (w:World) (hA:w.cell? A=some (.pointer (some t))) (ht:w.cell? t=some old) (hf:w.frozen? t=false):
 Calls Tryz.prog 105 #[.iface 212 (.agg #[.string s,.iface 112 (.agg #[.int .i64 c,.int .i64 a])]),.iface 111 (.pointer (some t)),.agg #[.pointer (some ⟨1,111,none⟩),.pointer (some A),.int .u64 150],.iface 229 (.agg #[.pointer (some ⟨1,35,none⟩)])] w
  fun e w'=>e=.returned (.bool true)∧w.grownBy w' (some t.block)∧w'.cell? t=some (.int .i64 c):=by
 have hTO:=@run_callFunc_extern Tryz.prog 138 _ ReflectliteType.typeOf Tryz.func138 (by kernel_rfl) (by kernel_rfl) (by kernel_rfl) (by kernel_rfl);have hAT:=@run_callFunc_extern Tryz.prog 335 _ (ReflectliteType.relation "AssignableTo" ReflectliteType.assignableTo) Tryz.func335 (by kernel_rfl) (by kernel_rfl) (by kernel_rfl) (by kernel_rfl);have hEl:=@run_callFunc_extern Tryz.prog 139 _ (ReflectliteValue.method (ReflectliteValue.valueError "reflectlite.Value.Elem" 0) ReflectliteValue.elem) Tryz.func139 (by kernel_rfl) (by kernel_rfl) (by kernel_rfl) (by kernel_rfl);have hVO:=@run_callFunc_extern Tryz.prog 102 _ (fun args=>ReflectliteValue.unpack (args.getD 0 (.tuple #[]))) Tryz.func102 (by kernel_rfl) (by kernel_rfl) (by kernel_rfl) (by kernel_rfl);have hSt:=@run_callFunc_extern Tryz.prog 140 _ ReflectliteValue.set Tryz.func140 (by kernel_rfl) (by kernel_rfl) (by kernel_rfl) (by kernel_rfl);have tO:=Tryz.typeOfE;have tO2:=Tryz.typeOfF;have tO3:=Tryz.typeOfN;have mA:=Tryz.methodAssignableTo;have aEE:=Tryz.assignableEE;have aFE:=Tryz.assignableFE;have aNE:=Tryz.assignableNE;have s1:=Tryz.asAsF;have s2:=Tryz.asUnF;have s3:=Tryz.asAsN;have s4:=Tryz.asUnN;have mU:=Tryz.methodUnF;have mN:=Tryz.methodUnN;have vE:=Tryz.valueOfE;have hAl:A.block<w.heap.size:=ze hA;have htl:t.block<w.heap.size:=ze ht
 have hA2:(((w.alloc (.cells #[.pointer (some ⟨1,111,none⟩),.pointer (some A),.int .u64 150] 179)).alloc (.cells #[.string s,.iface 112 (.agg #[.int .i64 c,.int .i64 a])] 212)).alloc (.cells #[.int .i64 c,.int .i64 a] 112)).cell? A=some (.pointer (some t)):=by
  rw[World.cell?_alloc_lt _ _ A (by simp;omega),World.cell?_alloc_lt _ _ A (by simp;omega),World.cell?_alloc_lt _ _ A hAl];exact hA
 have ht2:(((w.alloc (.cells #[.pointer (some ⟨1,111,none⟩),.pointer (some A),.int .u64 150] 179)).alloc (.cells #[.string s,.iface 112 (.agg #[.int .i64 c,.int .i64 a])] 212)).alloc (.cells #[.int .i64 c,.int .i64 a] 112)).cell? t=some old:=by
  rw[World.cell?_alloc_lt _ _ t (by simp;omega),World.cell?_alloc_lt _ _ t (by simp;omega),World.cell?_alloc_lt _ _ t htl];exact ht
 have hf2:(((w.alloc (.cells #[.pointer (some ⟨1,111,none⟩),.pointer (some A),.int .u64 150] 179)).alloc (.cells #[.string s,.iface 112 (.agg #[.int .i64 c,.int .i64 a])] 212)).alloc (.cells #[.int .i64 c,.int .i64 a] 112)).frozen? t=false:=by
  rw[World.frozen?_alloc_old _ _ t (by simp;omega),World.frozen?_alloc_old _ _ t (by simp;omega),World.frozen?_alloc_old _ _ t (Nat.ne_of_lt htl)];exact hf
 have el:=Tryz.elemVPE A t (((w.alloc (.cells #[.pointer (some ⟨1,111,none⟩),.pointer (some A),.int .u64 150] 179)).alloc (.cells #[.string s,.iface 112 (.agg #[.int .i64 c,.int .i64 a])] 212)).alloc (.cells #[.int .i64 c,.int .i64 a] 112)) hA2
 have st:=Tryz.setE t ⟨w.heap.size+1+1+1,0,none⟩ c old ((((w.alloc (.cells #[.pointer (some ⟨1,111,none⟩),.pointer (some A),.int .u64 150] 179)).alloc (.cells #[.string s,.iface 112 (.agg #[.int .i64 c,.int .i64 a])] 212)).alloc (.cells #[.int .i64 c,.int .i64 a] 112)).alloc (.cells #[.int .i64 c] 35))
  (by rw[World.cell?_alloc_at _ _ _ _ (by simp)];rfl)
  (by rw[World.cell?_alloc_lt _ _ t (by simp;omega)];exact ht2)
  (by rw[World.frozen?_alloc_old _ _ t (by simp;omega)];exact hf2)
 have hc2:(((((w.alloc (.cells #[.pointer (some ⟨1,111,none⟩),.pointer (some A),.int .u64 150] 179)).alloc (.cells #[.string s,.iface 112 (.agg #[.int .i64 c,.int .i64 a])] 212)).alloc (.cells #[.int .i64 c,.int .i64 a] 112)).alloc (.cells #[.int .i64 c] 35)).setCell t (.int .i64 c)).cell? t=some (.int .i64 c):=
  World.cell?_setCell_same _ _ _ (by rw[World.cell?_alloc_lt _ _ t (by simp;omega)];exact ht2)
 have Hc2:=hid hc2;clear hc2 hA2 ht2 hf2;go_enter Tryz.func105,Tryz.ntmps105;go_wp2;refine wp_loop_rounds 3 ?_;rw[rounds_succ];go_wp2_with fail;refine(zn5 s _ _).mono ?_;rintro e w' ⟨rfl,rfl⟩;go_wp2_with fail;rw[rounds_succ];go_wp2_with fail;refine(zez c a _).mono ?_;rintro e w' ⟨rfl,rfl⟩;go_wp2_with fail;rw[rounds_succ];go_wp2_with fail;go_ret;exact⟨rfl,zp (zp (zp (zp (World.grownBy_alloc _ _ _) (World.grownBy_alloc _ _ _)) (World.grownBy_alloc _ _ _)) (World.grownBy_alloc _ _ _)) (zcb _ _ _),Hc2.out⟩
theorem zx4 (s:ByteArray) (c a:Int) (tb:Nat) (A:Addr) (o1 o2:Value) (w:World) (hA:w.cell? A=some (.pointer (some ⟨tb,0,none⟩))) (ht0:w.cell? ⟨tb,0,none⟩=some o1) (ht1:w.cell? ⟨tb,1,none⟩=some o2)
 (hf0:w.frozen? ⟨tb,0,none⟩=false) (hf1:w.frozen? ⟨tb,1,none⟩=false):
 Calls Tryz.prog 105 #[.iface 212 (.agg #[.string s,.iface 112 (.agg #[.int .i64 c,.int .i64 a])]),.iface 188 (.pointer (some ⟨tb,0,none⟩)),.agg #[.pointer (some ⟨1,188,none⟩),.pointer (some A),.int .u64 150],.iface 229 (.agg #[.pointer (some ⟨1,112,none⟩)])] w
  fun e w'=>e=.returned (.bool true)∧w.grownBy w' (some tb)∧w'.cell? ⟨tb,0,none⟩=some (.int .i64 c)∧w'.cell? ⟨tb,1,none⟩=some (.int .i64 a):=by
 have hTO:=@run_callFunc_extern Tryz.prog 138 _ ReflectliteType.typeOf Tryz.func138 (by kernel_rfl) (by kernel_rfl) (by kernel_rfl) (by kernel_rfl);have hAT:=@run_callFunc_extern Tryz.prog 335 _ (ReflectliteType.relation "AssignableTo" ReflectliteType.assignableTo) Tryz.func335 (by kernel_rfl) (by kernel_rfl) (by kernel_rfl) (by kernel_rfl);have hEl:=@run_callFunc_extern Tryz.prog 139 _ (ReflectliteValue.method (ReflectliteValue.valueError "reflectlite.Value.Elem" 0) ReflectliteValue.elem) Tryz.func139 (by kernel_rfl) (by kernel_rfl) (by kernel_rfl) (by kernel_rfl);have hVO:=@run_callFunc_extern Tryz.prog 102 _ (fun args=>ReflectliteValue.unpack (args.getD 0 (.tuple #[]))) Tryz.func102 (by kernel_rfl) (by kernel_rfl) (by kernel_rfl) (by kernel_rfl);have hSt:=@run_callFunc_extern Tryz.prog 140 _ ReflectliteValue.set Tryz.func140 (by kernel_rfl) (by kernel_rfl) (by kernel_rfl) (by kernel_rfl);have tO:=Tryz.typeOfF;have tN:=Tryz.typeOfN;have mA:=Tryz.methodAssignableTo;have aFF:=Tryz.assignableFF;have aNF:=Tryz.assignableNF;have s3:=Tryz.asAsN;have s4:=Tryz.asUnN;have mN:=Tryz.methodUnN;have vF:=Tryz.valueOfF;have hAl:A.block<w.heap.size:=ze hA;have htl:tb<w.heap.size:=ze ht0;have el:=Tryz.elemVPF A ⟨tb,0,none⟩ ((w.alloc (.cells #[.pointer (some ⟨1,188,none⟩),.pointer (some A),.int .u64 150] 179)).alloc (.cells #[.string s,.iface 112 (.agg #[.int .i64 c,.int .i64 a])] 212)) (by rw[World.cell?_alloc_lt _ _ A (by simp;omega),World.cell?_alloc_lt _ _ A hAl];exact hA);have h0:(((w.alloc (.cells #[.pointer (some ⟨1,188,none⟩),.pointer (some A),.int .u64 150] 179)).alloc (.cells #[.string s,.iface 112 (.agg #[.int .i64 c,.int .i64 a])] 212)).alloc (.cells #[.int .i64 c,.int .i64 a] 112)).cell? ⟨tb,0,none⟩=some o1:=by rw[World.cell?_alloc_lt _ _ ⟨tb,0,none⟩ (by simp;omega),World.cell?_alloc_lt _ _ ⟨tb,0,none⟩ (by simp;omega),World.cell?_alloc_lt _ _ ⟨tb,0,none⟩ htl];exact ht0
 have h1:(((w.alloc (.cells #[.pointer (some ⟨1,188,none⟩),.pointer (some A),.int .u64 150] 179)).alloc (.cells #[.string s,.iface 112 (.agg #[.int .i64 c,.int .i64 a])] 212)).alloc (.cells #[.int .i64 c,.int .i64 a] 112)).cell? ⟨tb,1,none⟩=some o2:=by rw[World.cell?_alloc_lt _ _ ⟨tb,1,none⟩ (by simp;omega),World.cell?_alloc_lt _ _ ⟨tb,1,none⟩ (by simp;omega),World.cell?_alloc_lt _ _ ⟨tb,1,none⟩ htl];exact ht1
 have g0:(((w.alloc (.cells #[.pointer (some ⟨1,188,none⟩),.pointer (some A),.int .u64 150] 179)).alloc (.cells #[.string s,.iface 112 (.agg #[.int .i64 c,.int .i64 a])] 212)).alloc (.cells #[.int .i64 c,.int .i64 a] 112)).frozen? ⟨tb,0,none⟩=false:=by rw[World.frozen?_alloc_old _ _ ⟨tb,0,none⟩ (by simp;omega),World.frozen?_alloc_old _ _ ⟨tb,0,none⟩ (by simp;omega),World.frozen?_alloc_old _ _ ⟨tb,0,none⟩ (Nat.ne_of_lt htl)];exact hf0
 have g1:(((w.alloc (.cells #[.pointer (some ⟨1,188,none⟩),.pointer (some A),.int .u64 150] 179)).alloc (.cells #[.string s,.iface 112 (.agg #[.int .i64 c,.int .i64 a])] 212)).alloc (.cells #[.int .i64 c,.int .i64 a] 112)).frozen? ⟨tb,1,none⟩=false:=by rw[World.frozen?_alloc_old _ _ ⟨tb,1,none⟩ (by simp;omega),World.frozen?_alloc_old _ _ ⟨tb,1,none⟩ (by simp;omega),World.frozen?_alloc_old _ _ ⟨tb,1,none⟩ (Nat.ne_of_lt htl)];exact hf1
 have st:=Tryz.setF tb (w.heap.size+1+1) c a o1 o2 (((w.alloc (.cells #[.pointer (some ⟨1,188,none⟩),.pointer (some A),.int .u64 150] 179)).alloc (.cells #[.string s,.iface 112 (.agg #[.int .i64 c,.int .i64 a])] 212)).alloc (.cells #[.int .i64 c,.int .i64 a] 112)) (by rw[World.cell?_alloc_at _ _ _ _ (by simp)];rfl) (by rw[World.cell?_alloc_at _ _ _ _ (by simp)];rfl) h0 h1 g0 g1
 have hc0:(((((w.alloc (.cells #[.pointer (some ⟨1,188,none⟩),.pointer (some A),.int .u64 150] 179)).alloc (.cells #[.string s,.iface 112 (.agg #[.int .i64 c,.int .i64 a])] 212)).alloc (.cells #[.int .i64 c,.int .i64 a] 112)).setCell ⟨tb,0,none⟩ (.int .i64 c)).setCell ⟨tb,1,none⟩ (.int .i64 a)).cell? ⟨tb,0,none⟩=some (.int .i64 c):=by
  rw[World.cell?_setCell_other _ _ _ _ (by simp)];exact World.cell?_setCell_same _ _ _ h0
 have hc1:(((((w.alloc (.cells #[.pointer (some ⟨1,188,none⟩),.pointer (some A),.int .u64 150] 179)).alloc (.cells #[.string s,.iface 112 (.agg #[.int .i64 c,.int .i64 a])] 212)).alloc (.cells #[.int .i64 c,.int .i64 a] 112)).setCell ⟨tb,0,none⟩ (.int .i64 c)).setCell ⟨tb,1,none⟩ (.int .i64 a)).cell? ⟨tb,1,none⟩=some (.int .i64 a):=
  World.cell?_setCell_same _ _ _ (by rw[World.cell?_setCell_other _ _ _ _ (by simp)];exact h1)
 have Hc0:=hid hc0;clear hc0 h0 h1 g0 g1;have Hc1:=hid hc1;clear hc1;go_enter Tryz.func105,Tryz.ntmps105;go_wp2;refine wp_loop_rounds 2 ?_;rw[rounds_succ];go_wp2_with fail;refine(zn5 s _ _).mono ?_;rintro e w' ⟨rfl,rfl⟩;go_wp2_with fail;rw[rounds_succ];go_wp2_with fail;go_ret;exact⟨rfl,zp (zp (zp (zp (World.grownBy_alloc _ _ _) (World.grownBy_alloc _ _ _)) (World.grownBy_alloc _ _ _)) (zcb _ ⟨tb,0,none⟩ _)) (zcb _ ⟨tb,1,none⟩ _),Hc0.out,Hc1.out⟩
def za9 (s:ByteArray) (c a:Int):Value:=.iface 212 (.agg #[.string s,.iface 112 (.agg #[.int .i64 c,.int .i64 a])])
theorem zx5 (s:ByteArray) (c a:Int) (w:World) (hD:Door w):
 Calls Tryz.prog 19 #[za9 s c a] w fun e w'=>e=.returned (.int .i64 c)∧Below w.heap.size w w':=by
 have hD':=hid (fun o=>hD.below (Nat.le_refl _) ((Below.refl _ w).alloc (Nat.le_refl _) o));clear hD;unfold za9;go_enter Tryz.func19,Tryz.ntmps19;go_wp2_with fail;refine zgk _ _ _ _ (hD'.out _) (by simp) _ ?_;intro w1 A hb hA hAs;have hb2:Below w.heap.size w w1:=((Below.refl _ _).alloc (Nat.le_refl _) _).trans (hb.mono (by simp));have hc:w1.cell? ⟨w.heap.size,0,none⟩=some (.int .i64 0):=by rw[hb.cell (p:=⟨w.heap.size,0,none⟩) (by simp)];simp
 have hf:w1.frozen? ⟨w.heap.size,0,none⟩=false:=by rw[hb.frozen (p:=⟨w.heap.size,0,none⟩) (by simp)];simp
 refine(zx3 s c a ⟨w.heap.size,0,none⟩ A _ w1 hA hc hf).mono ?_;rintro e w2 ⟨rfl,hg,hc2⟩;refine⟨true,rfl,?_⟩;have hb3:=zds hb2 (Nat.le_refl _) hg;clear hg hc hf hb hb2 hA hAs;go_wp2_with fail;go_ret;exact⟨rfl,hb3⟩
theorem zx6 (s:ByteArray) (c a:Int) (w:World) (hD:Door w):
 Calls Tryz.prog 62 #[za9 s c a] w fun e w'=>e=.returned (.tuple #[.agg #[.int .i64 c,.int .i64 a],.bool true])∧Below w.heap.size w w':=by
 have hD':=hid (fun o1 o2=>hD.below (Nat.le_refl _) (((Below.refl _ w).alloc (Nat.le_refl _) o1).alloc (by simp) o2));clear hD;unfold za9;go_enter Tryz.func62,Tryz.ntmps62;go_wp2_with fail;refine zgl _ _ _ _ (hD'.out _ _) (by simp) _ ?_;intro w1 A hb hA hAs;have hb2:Below w.heap.size w w1:=(((Below.refl _ _).alloc (Nat.le_refl _) _).alloc (by simp) _).trans (hb.mono (by simp;omega));have hz:=hb.size;have hc0:w1.cell? ⟨w.heap.size+1,0,none⟩=some (.int .i64 0):=by rw[hb.cell (p:=⟨w.heap.size+1,0,none⟩) (by simp)];go_simp
 have hc1:w1.cell? ⟨w.heap.size+1,1,none⟩=some (.int .i64 0):=by rw[hb.cell (p:=⟨w.heap.size+1,1,none⟩) (by simp)];go_simp
 have hg0:w1.frozen? ⟨w.heap.size+1,0,none⟩=false:=by rw[hb.frozen (p:=⟨w.heap.size+1,0,none⟩) (by simp)];go_simp
 have hg1:w1.frozen? ⟨w.heap.size+1,1,none⟩=false:=by rw[hb.frozen (p:=⟨w.heap.size+1,1,none⟩) (by simp)];go_simp
 have hr0:w1.cell? ⟨w.heap.size,0,none⟩=some (.int .i64 0):=by rw[hb.cell (p:=⟨w.heap.size,0,none⟩) (by simp;omega)];go_simp
 have hr1:w1.cell? ⟨w.heap.size,1,none⟩=some (.int .i64 0):=by rw[hb.cell (p:=⟨w.heap.size,1,none⟩) (by simp;omega)];go_simp
 have hf0:w1.frozen? ⟨w.heap.size,0,none⟩=false:=by rw[hb.frozen (p:=⟨w.heap.size,0,none⟩) (by simp;omega)];go_simp
 have hf1:w1.frozen? ⟨w.heap.size,1,none⟩=false:=by rw[hb.frozen (p:=⟨w.heap.size,1,none⟩) (by simp;omega)];go_simp
 refine(zx4 s c a (w.heap.size+1) A _ _ w1 hA hc0 hc1 hg0 hg1).mono ?_;rintro e w2 ⟨rfl,hg,hc0',hc1'⟩;refine⟨true,rfl,?_⟩;have hb3:=zds hb2 (by omega) hg;have keep:∀p:Addr,p.block<w1.heap.size→p.block≠w.heap.size+1→w2.cell? p=w1.cell? p:=fun p hp hne=>World.cell?_of_block (hg.block _ hp (by simpa using hne))
 have kfree:∀p:Addr,p.block<w1.heap.size→p.block≠w.heap.size+1→w2.frozen? p=w1.frozen? p:=fun p hp hne=>World.frozen?_of_block (hg.block _ hp (by simpa using hne))
 have hr0':=(keep ⟨w.heap.size,0,none⟩ (ze hr0) (by simp)).trans hr0;have hr1':=(keep ⟨w.heap.size,1,none⟩ (ze hr1) (by simp)).trans hr1;have hf0':=(kfree ⟨w.heap.size,0,none⟩ (ze hr0) (by simp)).trans hf0;have hf1':=(kfree ⟨w.heap.size,1,none⟩ (ze hr1) (by simp)).trans hf1;clear keep kfree hg hg0 hg1 hc0 hc1 hr0 hr1 hf0 hf1 hb hb2 hA hAs hz;go_wp2_with fail;exact bodyPost_ret (v:=.tuple #[.agg #[.int .i64 c,.int .i64 a],.bool true]) (by simp[results,Tryz.results62,go_sem,hr0',hr1']) rfl ⟨rfl,(hb3.setCell (p:=⟨w.heap.size,0,none⟩) (Nat.le_refl _) _).setCell (p:=⟨w.heap.size,1,none⟩) (Nat.le_refl _) _⟩
theorem zx7 (s:ByteArray) (c a:Int) (w:World) (hD:Door w):
 Calls Tryz.prog 20 #[za9 s c a] w fun e w'=>e=.returned (.int .i64 a)∧Below w.heap.size w w':=by
 have HC:=hid (zx6 s c a w hD);clear hD;unfold za9 at HC ⊢;go_enter Tryz.func20,Tryz.ntmps20;go_wp2_with fail;refine HC.out.mono ?_;rintro e w1 ⟨rfl,hb⟩;go_wp2_with fail;go_ret;exact⟨rfl,hb.alloc hb.size _⟩
theorem zx8 (s:ByteArray) (c a:Int) (w:World):
 Calls Tryz.prog 81 #[.string s,.iface 112 (.agg #[.int .i64 c,.int .i64 a])] w fun e w'=>e=.returned (za9 s c a)∧Below w.heap.size w w':=by
 go_enter Tryz.func81,Tryz.ntmps81;go_wp2;go_ret;exact⟨rfl,by first | exact Below.refl _ _ | exact(Below.refl _ _).alloc (Nat.le_refl _) _⟩
end
section
open Go.RowKit
abbrev zct:ByteArray:=⟨#[115,116,114,101,97,109]⟩
theorem zx9:zct++⟨#[58,32]⟩=⟨#[115,116,114,101,97,109,58,32]⟩:=rfl
theorem zya (s:ByteArray) (w:World):Calls Tryz.prog 81 #[.string s,.nilIface] w fun e w'=>e=.returned .nilIface∧w=w':=by
 go_enter Tryz.func81,Tryz.ntmps81;go_wp2;go_ret;exact⟨rfl,rfl⟩
def zie (c a:Int):Value:=if c=0 then .nilIface else za9 zct c a
theorem zyb (c a:Int) (w:World) (h:c≠0):Calls Tryz.prog 82 #[.int .i64 c,.int .i64 a] w fun e w'=>e=.returned (.iface 112 (.agg #[.int .i64 c,.int .i64 a]))∧w=w':=
 (je c a w).mono fun e w' ⟨h1,h2⟩=>⟨by rw[h1];unfold zcc;rw[if_neg h];rfl,h2⟩
theorem zyc (a:Int) (w:World):Calls Tryz.prog 82 #[.int .i64 0,.int .i64 a] w fun e w'=>e=.returned .nilIface∧w=w':=
 (je 0 a w).mono fun e w' ⟨h1,h2⟩=>⟨by rw[h1];rfl,h2⟩
theorem zyd {P:Program} {f:FuncId} {xs:Array Value} {w:World} {v:Value} (h:Calls P f xs w fun e w'=>e=.returned v∧w=w'):Calls P f xs w fun e w'=>e=.returned v∧Below w.heap.size w w':=
 h.mono fun e w' ⟨h1,h2⟩=>⟨h1,h2 ▸ Below.refl _ _⟩
theorem zav (c:Nat) (h9:c≤9):(Utf8.encode (48+(c:Int))).size=1:=by
 rcases(by omega:c=0∨c=1∨c=2∨c=3∨c=4∨c=5∨c=6∨c=7∨c=8∨c=9) with rfl | rfl | rfl | rfl | rfl | rfl | rfl | rfl | rfl | rfl <;> rfl
def cdT (c:Nat):ByteArray:=
 if c≤9 then ⟨#[101,114,114,111,114,32]⟩++Utf8.encode (48+(c:Int))++⟨#[]⟩
 else if c≤99 then ⟨#[101,114,114,111,114,32]⟩++Utf8.encode (48+((c / 10:Nat):Int))++(Utf8.encode (48+((c % 10:Nat):Int))++⟨#[]⟩)
 else ⟨#[101,114,114,111,114,32]⟩++Utf8.encode (48+((c / 10 / 10:Nat):Int))++(Utf8.encode (48+((c / 10 % 10:Nat):Int))++(Utf8.encode (48+((c % 10:Nat):Int))++⟨#[]⟩))
theorem zn6 (c:Nat) (h:c≤255):(cdT c).size≤9:=by
 unfold cdT;split
 · rw[ByteArray.size_append,ByteArray.size_append,zav c (by omega)];exact(by decide:6+1+0≤9)
 · split
   · rw[ByteArray.size_append,ByteArray.size_append,ByteArray.size_append,zav (c / 10) (by omega),zav (c % 10) (by omega)];exact(by decide:6+1+(1+0)≤9)
   · rw[ByteArray.size_append,ByteArray.size_append,ByteArray.size_append,ByteArray.size_append,zav (c / 10 / 10) (by omega),zav (c / 10 % 10) (by omega),zav (c % 10) (by omega)];exact(by decide:6+1+(1+(1+0))≤9)
set_option maxRecDepth 20000 in
theorem zn7 (c:Nat) (w:World) (hc:c≤255):Calls Tryz.prog 45 #[.int .i64 c] w fun e w'=>e=.returned (.string (cdT c))∧w=w':=by
 have hd1:decide ((c:Int)<0)=false:=by rw[decide_eq_false_iff_not];omega
 by_cases h9:c≤9
 · have hd2:decide (9<(c:Int))=false:=by rw[decide_eq_false_iff_not];omega
   have hd3:decide (9<c)=false:=by rw[decide_eq_false_iff_not];omega
   have hz:=zav c h9;have ht:cdT c=⟨#[101,114,114,111,114,32]⟩++Utf8.encode (48+(c:Int))++⟨#[]⟩:=by unfold cdT;rw[if_pos h9]
   go_enter Tryz.func45,Tryz.ntmps45;go_wp2;refine wp_loop_rounds 1 ?_;rw[rounds_succ];go_wp2;go_ret;exact⟨by rw[ht];rfl,rfl⟩
 have hd2:decide (9<(c:Int))=true:=by rw[decide_eq_true_iff];omega
 have hd3:decide (9<c)=true:=by rw[decide_eq_true_iff];omega
 obtain⟨q,hq⟩:∃q,q=c / 10:=⟨_,rfl⟩;obtain⟨r,hr⟩:∃r,r=c % 10:=⟨_,rfl⟩;have hq1:(c:Int) / 10=(q:Int):=by omega
 have hr1:(c:Int) % 10=(r:Int):=by omega
 have hq2:(c:Int).tdiv 10=(q:Int):=by rw[Int.tdiv_eq_ediv_of_nonneg (by omega)];exact hq1
 have hr2:(c:Int).tmod 10=(r:Int):=by rw[Int.tmod_eq_emod_of_nonneg (by omega)];exact hr1
 have hzr:=zav r (by omega);by_cases h99:c≤99
 · have hd4:decide (9<(q:Int))=false:=by rw[decide_eq_false_iff_not];omega
   have hd5:decide (9<q)=false:=by rw[decide_eq_false_iff_not];omega
   have hz:=zav q (by omega);have ht:cdT c=⟨#[101,114,114,111,114,32]⟩++Utf8.encode (48+(q:Int))++(Utf8.encode (48+(r:Int))++⟨#[]⟩):=by unfold cdT;rw[if_neg h9,if_pos h99,←hq,←hr]
   have hr9:r≤9:=by omega
   have hq9:q≤9:=by omega
   clear hq hr h9 h99 hc;go_enter Tryz.func45,Tryz.ntmps45;go_wp2;refine wp_loop_rounds 2 ?_;rw[rounds_succ];go_wp2;rw[rounds_succ];go_wp2;go_ret;exact⟨by rw[ht];rfl,rfl⟩
 have hd4:decide (9<(q:Int))=true:=by rw[decide_eq_true_iff];omega
 have hd5:decide (9<q)=true:=by rw[decide_eq_true_iff];omega
 obtain⟨s,hs⟩:∃s,s=q / 10:=⟨_,rfl⟩;obtain⟨t,ht⟩:∃t,t=q % 10:=⟨_,rfl⟩;have hs1:(q:Int) / 10=(s:Int):=by omega
 have ht1:(q:Int) % 10=(t:Int):=by omega
 have hs2:(q:Int).tdiv 10=(s:Int):=by rw[Int.tdiv_eq_ediv_of_nonneg (by omega)];exact hs1
 have ht2:(q:Int).tmod 10=(t:Int):=by rw[Int.tmod_eq_emod_of_nonneg (by omega)];exact ht1
 have hd6:decide (9<(s:Int))=false:=by rw[decide_eq_false_iff_not];omega
 have hd7:decide (9<s)=false:=by rw[decide_eq_false_iff_not];omega
 have hzs:=zav s (by omega);have hzt:=zav t (by omega);have hT:cdT c=⟨#[101,114,114,111,114,32]⟩++Utf8.encode (48+(s:Int))++(Utf8.encode (48+(t:Int))++(Utf8.encode (48+(r:Int))++⟨#[]⟩)):=by unfold cdT;rw[if_neg h9,if_neg h99,←hq,←hr,←hs,←ht]
 have hr9:r≤9:=by omega
 have hs9:s≤9:=by omega
 have ht9:t≤9:=by omega
 clear hq hr hs ht h9 h99 hc;go_enter Tryz.func45,Tryz.ntmps45;go_wp2;refine wp_loop_rounds 3 ?_;rw[rounds_succ];go_wp2;rw[rounds_succ];go_wp2;rw[rounds_succ];go_wp2;go_ret;exact⟨by rw[hT];rfl,rfl⟩
theorem Tryz.methodEsF (v:Value) (w:World):(Go.method 520 112 v "Error").run Tryz.prog w=.ok (322,v) w:=by kernel_rfl
theorem Tryz.methodEsN (v:Value) (w:World):(Go.method 520 212 v "Error").run Tryz.prog w=.ok (332,v) w:=by kernel_rfl
theorem zye (c:Nat) (a:Int) (w:World) (hc:c≤255):Calls Tryz.prog 322 #[.agg #[.int .i64 c,.int .i64 a]] w fun e w'=>e=.returned (.string (cdT c))∧Below w.heap.size w w':=by
 go_enter Tryz.func322,Tryz.ntmps322;go_wp2_with fail;refine(zn7 c _ hc).mono ?_;rintro e w1 ⟨rfl,rfl⟩;go_wp2;go_ret;exact⟨rfl,(Below.refl _ _).alloc (Nat.le_refl _) _⟩
theorem zyf (w:World) (x y:Value) (T:TypeId) (w':World) (h:Below (w.alloc (.cells #[x,y] T)).heap.size (w.alloc (.cells #[x,y] T)) w'):
 w'.cell? ⟨w.heap.size,0,none⟩=some x∧w'.cell? ⟨w.heap.size,1,none⟩=some y:=by
 have hr:=(zu w T [x,y]).later h;exact⟨hr.cell 0 rfl,hr.cell 1 rfl⟩
theorem zyg (s:ByteArray) (c:Nat) (a:Int) (w:World) (hc:c≤255) (hs:s.size≤1000):
 Calls Tryz.prog 332 #[.agg #[.string s,.iface 112 (.agg #[.int .i64 c,.int .i64 a])]] w fun e w'=>e=.returned (.string (s++⟨#[58,32]⟩++cdT c))∧Below w.heap.size w w':=by
 have hz:=zn6 c hc;have hT:=hid (fun W=>zye c a W hc);have mE:=Tryz.methodEsF (.agg #[.int .i64 c,.int .i64 a]);have hal:Below w.heap.size w (w.alloc (.cells #[.string s,.iface 112 (.agg #[.int .i64 c,.int .i64 a])] 212)):=(Below.refl _ _).alloc (Nat.le_refl _) _;have HX:=hid (zyf w (.string s) (.iface 112 (.agg #[.int .i64 c,.int .i64 a])) 212);have Hal:=hid hal;clear hal hc;go_enter Tryz.func332,Tryz.ntmps332;go_wp2_with fail;generalize w.alloc (.cells #[.string s,.iface 112 (.agg #[.int .i64 c,.int .i64 a])] 212)=W at*;refine vv (by kernel_rfl) (by kernel_rfl) ?_
 repeat (go_big_quiet_step ((intro hw;first
  | rfl
  | (go_at_call 322;exact vu hw (hT.out _))
  | (obtain⟨y1,y2⟩:=HX.out _ hw
     go_simp;first | rfl | exact⟨rfl,hw⟩ | (trace_state;fail)))))
 refine wpQuiet_nil ?_;intro w3 hb3;go_wp2;go_ret;exact⟨rfl,Hal.out.trans (hb3.mono Hal.out.size)⟩
end
section
open Go.RowKit
attribute [local go_sem] jc Tryz.eqGuard_if
theorem zyh (c a:Int) (w:World):Calls Tryz.prog 53 #[.agg #[.int .i64 c,.int .i64 a]] w fun e w'=>e=.returned (zie c a)∧Below w.heap.size w w':=by
 have hal:=(Below.refl w.heap.size w).alloc (Nat.le_refl _) (.cells #[.int .i64 c,.int .i64 a] 64);have Hal:=hid hal;have hR:=zu w 64 [.int .i64 c,.int .i64 a];have c0:=hR.cell 0 rfl;have c1:=hR.cell 1 rfl;unfold zie;by_cases h:c=0
 · rw[if_pos h];subst h;have HN:=hid (fun W=>zyc a W);clear hR hal;go_enter Tryz.func53,Tryz.ntmps53;go_wp2_with fail;refine(HN.out _).mono ?_;rintro e w1 ⟨rfl,rfl⟩;go_wp2_with fail;refine(zya _ _).mono ?_;rintro e w1 ⟨rfl,rfl⟩;go_wp2_with fail;go_ret;exact⟨rfl,Hal.out⟩
 · rw[if_neg h];have HN:=hid (fun W=>zyb c a W h);clear hR hal h;go_enter Tryz.func53,Tryz.ntmps53;go_wp2_with fail;refine(HN.out _).mono ?_;rintro e w1 ⟨rfl,rfl⟩;go_wp2_with fail;refine(zx8 zct c a _).mono ?_;rintro e w1 ⟨rfl,hb1⟩;have Hb1:=hid (Hal.out.trans (hb1.mono Hal.out.size));clear hb1 c0 c1;unfold za9;go_wp2_with fail;go_ret;exact⟨rfl,Hb1.out⟩
set_option maxRecDepth 20000 in
theorem zyi (c:Nat) (a:Int) (w:World) (hc:c<256) (hD:Door w):
 Calls Tryz.prog 13 #[.int .u8 (c:Int),.int .i64 a] w fun e w'=>e=.returned (.bool true)∧Below w.heap.size w w':=by
 have HD:=hid (fun W (h:Below w.heap.size w W)=>hD.below (Nat.le_refl _) h);have HA:=hid (fun W (h:Below w.heap.size w W)=>znk W (HD.out W h));obtain⟨wB,hwB⟩:∃wB,wB=w.alloc (.cells #[.int .i64 (c:Int),.int .i64 a] 64):=⟨_,rfl⟩;have hbB:Below w.heap.size w wB:=by rw[hwB];exact(Below.refl _ _).alloc (Nat.le_refl _) _
 have HG:=hid (show Row wB w.heap.size 64 [.int .i64 (c:Int),.int .i64 a] from by rw[hwB];exact zu w _ _);have HwB:=hid hwB;have HbB:=hid hbB;have HsB:=hid hbB.size;have HE:=hid (fun W=>zyh (c:Int) a W);have hwr:IntKind.i64.wrap (c:Int)=(c:Int):=by rw[IntKind.wrap_i64];omega
 have g0:=HG.out.cell 0 rfl;have g1:=HG.out.cell 1 rfl;unfold zie at HE;by_cases h0:c=0
 · have hd:((c:Int) == 0)=true:=by rw[beq_iff_eq];omega
   rw[if_pos (show (c:Int)=0 by omega)] at HE;clear hD hwB hbB h0;go_enter Tryz.func13,Tryz.ntmps13;go_upto_region 2 with fail
   rw[←HwB.out];go_wp2_with fail;refine(HE.out _).mono ?_;rintro e w1 ⟨rfl,hb1⟩;have Hb1:=hid (HbB.out.trans (hb1.mono HsB.out));clear hb1 g0 g1;go_wp2_with fail;refine(HA.out _ Hb1.out).mono ?_;rintro e w2 ⟨rfl,hb2⟩;have Hb2:=hid (Hb1.out.trans (hb2.mono Hb1.out.size));clear hb2;go_wp2_with fail;go_ret;exact⟨rfl,Hb2.out⟩
 · have hd:((c:Int) == 0)=false:=by rw[beq_eq_false_iff_ne];omega
   rw[if_neg (show ¬(c:Int)=0 by omega)] at HE;have hCo:=fun W (h:Below w.heap.size w W)=>zx5 zct c a W (HD.out W h)
   have hAt:=fun W (h:Below w.heap.size w W)=>zx7 zct c a W (HD.out W h)
   have hTx:=fun W=>zyg zct c a W (by omega) (by decide)
   rw[zx9] at hTx;unfold za9 at HE hCo hAt;have HCo:=hid hCo;have HAt:=hid hAt;have HTx:=hid hTx;have HTe:=hid (fun W=>zn7 c W (by omega));have hz:=zn6 c (by omega);have mN:=Tryz.methodEsN (.agg #[.string zct,.iface 112 (.agg #[.int .i64 c,.int .i64 a])]);clear hD hwB hbB h0 hCo hAt hTx hc;go_enter Tryz.func13,Tryz.ntmps13;go_upto_region 2 with fail
   rw[←HwB.out];go_wp2_with fail;refine(HE.out _).mono ?_;rintro e w1 ⟨rfl,hb1⟩;have HG1:=hid (HG.out.later hb1);have Hb1:=hid (HbB.out.trans (hb1.mono HsB.out));have HGa:=hid (fun W (h:Below w1.heap.size w1 W)=>HG1.out.later h);have Hba:=hid (fun W (h:Below w1.heap.size w1 W)=>Hb1.out.trans (h.mono Hb1.out.size));clear hb1 g0 g1;go_upto_region 5 with fail
   refine vv (by kernel_rfl) (by kernel_rfl) ?_
   repeat (go_big_quiet_step ((intro hw;first
    | rfl
    | (go_at_call 46;exact vu hw (HA.out _ (Hba.out _ hw)))
    | (go_at_call 19;exact vu hw (HCo.out _ (Hba.out _ hw)))
    | (go_at_call 20;exact vu hw (HAt.out _ (Hba.out _ hw)))
    | (go_at_call 332;exact vu hw (HTx.out _))
    | (go_at_call 45;exact vu hw (zyd (HTe.out _)))
    | (have y0:=(HGa.out _ hw).cell 0 rfl
       have y1:=(HGa.out _ hw).cell 1 rfl;go_simp;first | rfl | exact⟨rfl,hw⟩ | (trace_state;fail)))))
   refine wpQuiet_nil ?_;intro w3 hb3;go_wp2_with fail;go_ret;exact⟨rfl,Hba.out _ hb3⟩
end
