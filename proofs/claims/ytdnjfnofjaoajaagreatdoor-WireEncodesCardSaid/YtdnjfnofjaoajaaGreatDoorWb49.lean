/- Walks and laws, joined: Wb49. -/
import Derived.Laws.Runes
import Derived.Test.YtdnjfnofjaoajaaGreatDoorWb34
import Derived.Test.YtdnjfnofjaoajaaGreatDoorWb46
import Derived.Test.YtdnjfnofjaoajaaGreatDoorWb42
import Derived.Test.YtdnjfnofjaoajaaGreatDoorWb35
set_option linter.unusedVariables false
set_option maxHeartbeats 16000000
namespace Go.Proofs.YtdnjfnofjaoajaaGreatDoor
open Lib (hid)
section
open Go.RowKit
def zjd (c:Int):ByteArray:=⟨#[101,114,114,111,114,32]⟩++Utf8.encode (48+c)++⟨#[]⟩
theorem zx4 (c:Int) (h0:0≤c) (h9:c≤9):(Utf8.encode (48+c)).size=1:=by
 rcases(by omega:c=0∨c=1∨c=2∨c=3∨c=4∨c=5∨c=6∨c=7∨c=8∨c=9) with rfl | rfl | rfl | rfl | rfl | rfl | rfl | rfl | rfl | rfl <;> rfl
theorem zx5 (c:Int) (h0:0≤c) (h9:c≤9):(zjd c).size=7:=by
 unfold zjd;rw[ByteArray.size_append,ByteArray.size_append,zx4 c h0 h9]
 rfl
theorem zx6 (c:Int) (w:World) (h0:0≤c) (h9:c≤9):Calls Tryz.prog 18 #[.int .i64 c] w fun e w'=>e=.returned (.string (zjd c))∧w=w':=by
 have hd1:decide (c<0)=false:=by rw[decide_eq_false_iff_not];omega
 have hd2:decide (9<c)=false:=by rw[decide_eq_false_iff_not];omega
 have hz:=zx4 c h0 h9;go_enter Tryz.func18,Tryz.ntmps18;go_wp2;refine wp_loop_rounds 1 ?_;rw[rounds_succ];go_wp2;go_ret;exact⟨rfl,rfl⟩
theorem Tryz.methodErF (v:Value) (w:World):(Go.method 506 94 v "Error").run Tryz.prog w=.ok (318,v) w:=by kernel_rfl
theorem Tryz.methodErN (v:Value) (w:World):(Go.method 506 147 v "Error").run Tryz.prog w=.ok (322,v) w:=by kernel_rfl
theorem yax (c a:Int) (w:World) (h0:0≤c) (h9:c≤9):Calls Tryz.prog 318 #[.agg #[.int .i64 c,.int .i64 a]] w fun e w'=>e=.returned (.string (zjd c))∧Below w.heap.size w w':=by
 go_enter Tryz.func318,Tryz.ntmps318;go_wp2_with fail;refine(zx6 c _ h0 h9).mono ?_;rintro e w1 ⟨rfl,rfl⟩;go_wp2;go_ret;exact⟨rfl,(Below.refl _ _).alloc (Nat.le_refl _) _⟩
theorem yay (s:ByteArray) (c a:Int) (w:World) (h0:0≤c) (h9:c≤9) (hs:s.size≤1000):
 Calls Tryz.prog 322 #[.agg #[.string s,.iface 94 (.agg #[.int .i64 c,.int .i64 a])]] w fun e w'=>e=.returned (.string (s++⟨#[58,32]⟩++zjd c))∧Below w.heap.size w w':=by
 have hz:=zx5 c h0 h9;have hT:=hid (fun W=>yax c a W h0 h9);have mE:=Tryz.methodErF (.agg #[.int .i64 c,.int .i64 a]);have hal:Below w.heap.size w (w.alloc (.cells #[.string s,.iface 94 (.agg #[.int .i64 c,.int .i64 a])] 147)):=(Below.refl _ _).alloc (Nat.le_refl _) _;have HX:=hid (zis w (.string s) (.iface 94 (.agg #[.int .i64 c,.int .i64 a])) 147);have Hal:=hid hal;clear hal h0 h9;go_enter Tryz.func322,Tryz.ntmps322;go_wp2_with fail;generalize w.alloc (.cells #[.string s,.iface 94 (.agg #[.int .i64 c,.int .i64 a])] 147)=W at*;refine qi (by kernel_rfl) (by kernel_rfl) ?_
 repeat (go_big_quiet_step ((intro hw;first
  | rfl
  | (go_at_call 318;exact kp hw (hT.out _))
  | (obtain⟨y1,y2⟩:=HX.out _ hw
     go_simp;first | rfl | exact⟨rfl,hw⟩ | (trace_state;fail)))))
 refine wpQuiet_nil ?_;intro w3 hb3;go_wp2;go_ret;exact⟨rfl,Hal.out.trans (hb3.mono Hal.out.size)⟩
theorem zl7 {p:Nat→Option (Nat×Nat)} {n B:Nat} (hp:∀i x,p i=some x→x.1≤B) {x:Nat×Nat} (h:qj p n=some x):x.1≤B:=by
 obtain⟨i,-,-,h3⟩:=zd6 h;exact hp i x h3
theorem zx7 {l:List Iv} {x:Nat×Nat} (h:ck l=some x):x.1≤9:=zl7 (fun i x hx=>by
 unfold zbm at hx;split at hx
 · cases hx;simp
 · split at hx <;> cases hx;simp) h
theorem yaz {e:Ent} {x:Nat×Nat} (h:ckE e=some x):x.1≤9:=by
 unfold ckE at h;split at h
 · rename_i y hy;cases h;exact zx7 hy
 · exact zl7 (fun i x hx=>by unfold zb2 at hx;split at hx <;> cases hx;simp) h
theorem ya0 {v:Vec} {x:Nat×Nat} (h:ckV v=some x):x.1≤9:=zl7 (fun i x hx=>by
 unfold zc2 at hx;split at hx
 · rename_i y hy;cases hx;have h:=yaz hy;exact h
 · split at hx <;> cases hx;simp) h
theorem ya1 {k:Kno} {x:Nat×Nat} (h:ckF k=some x):x.1≤9:=zl7 (fun i x hx=>by
 unfold zc3 at hx;split at hx
 · rename_i y hy;cases hx;have h:=zx7 hy;exact h
 · split at hx
   · rename_i y hy;cases hx;have h:=ya0 hy;exact h
   · cases hx) h
end
section
open Go.RowKit Go.Extern.Stop Go.Stop Go.Extern
theorem Tryz.typeOfN (v:Value) (w:World):(ReflectliteType.typeOf #[.iface 147 v]).run Tryz.prog w=.ok (.iface 227 (.agg #[.pointer (some ⟨2,147,none⟩)])) w:=by kernel_rfl
theorem Tryz.assignableNE (w:World):(ReflectliteType.relation "AssignableTo" ReflectliteType.assignableTo #[.agg #[.pointer (some ⟨2,147,none⟩)],.iface 227 (.agg #[.pointer (some ⟨2,34,none⟩)])]).run Tryz.prog w=.ok (.bool false) w:=by kernel_rfl
theorem Tryz.assignableNF (w:World):(ReflectliteType.relation "AssignableTo" ReflectliteType.assignableTo #[.agg #[.pointer (some ⟨2,147,none⟩)],.iface 227 (.agg #[.pointer (some ⟨2,94,none⟩)])]).run Tryz.prog w=.ok (.bool false) w:=by kernel_rfl
theorem Tryz.asAsN (v:Value) (xT:TypeId) (w:World):(Instr.typeAssert (.iface 147 v) xT 232 true).run Tryz.prog w=.ok (.tuple #[.nilIface,.bool false]) w:=
 run_typeAssert_lacksB Tryz.underlying232 (by kernel_rfl) (by kernel_rfl) v xT w
theorem Tryz.asUnN (v:Value) (xT:TypeId) (w:World):(Instr.typeAssert (.iface 147 v) xT 235 true).run Tryz.prog w=.ok (.tuple #[.iface 147 v,.bool true]) w:=
 run_typeAssert_hasB Tryz.underlying235 (by kernel_rfl) v xT w
theorem Tryz.methodUnN (v:Value) (w:World):(Go.method 506 147 v "Unwrap").run Tryz.prog w=.ok (323,v) w:=by kernel_rfl
theorem zx8 (s:ByteArray) (x:Value) (w:World):Calls Tryz.prog 323 #[.agg #[.string s,x]] w fun e w'=>e=.returned x∧w'=w.alloc (.cells #[.string s,x] 147):=by
 go_enter Tryz.func323,Tryz.ntmps323;go_wp2;go_ret;exact⟨rfl,rfl⟩
theorem ya2 (s:ByteArray) (c a:Int) (t A:Addr) (old:Value) (w:World) (hA:w.cell? A=some (.pointer (some t))) (ht:w.cell? t=some old) (hf:w.frozen? t=false):
 Calls Tryz.prog 94 #[.iface 147 (.agg #[.string s,.iface 94 (.agg #[.int .i64 c,.int .i64 a])]),.iface 92 (.pointer (some t)),.agg #[.pointer (some ⟨2,92,none⟩),.pointer (some A),.int .u64 150],.iface 227 (.agg #[.pointer (some ⟨2,34,none⟩)])] w
  fun e w'=>e=.returned (.bool true)∧w.grownBy w' (some t.block)∧w'.cell? t=some (.int .i64 c):=by
 have hTO:=@run_callFunc_extern Tryz.prog 135 _ ReflectliteType.typeOf Tryz.func135 (by kernel_rfl) (by kernel_rfl) (by kernel_rfl) (by kernel_rfl);have hAT:=@run_callFunc_extern Tryz.prog 331 _ (ReflectliteType.relation "AssignableTo" ReflectliteType.assignableTo) Tryz.func331 (by kernel_rfl) (by kernel_rfl) (by kernel_rfl) (by kernel_rfl);have hEl:=@run_callFunc_extern Tryz.prog 136 _ (ReflectliteValue.method (ReflectliteValue.valueError "reflectlite.Value.Elem" 0) ReflectliteValue.elem) Tryz.func136 (by kernel_rfl) (by kernel_rfl) (by kernel_rfl) (by kernel_rfl);have hVO:=@run_callFunc_extern Tryz.prog 91 _ (fun args=>ReflectliteValue.unpack (args.getD 0 (.tuple #[]))) Tryz.func91 (by kernel_rfl) (by kernel_rfl) (by kernel_rfl) (by kernel_rfl);have hSt:=@run_callFunc_extern Tryz.prog 137 _ ReflectliteValue.set Tryz.func137 (by kernel_rfl) (by kernel_rfl) (by kernel_rfl) (by kernel_rfl);have tO:=Tryz.typeOfE;have tO2:=Tryz.typeOfF;have tO3:=Tryz.typeOfN;have mA:=Tryz.methodAssignableTo;have aEE:=Tryz.assignableEE;have aFE:=Tryz.assignableFE;have aNE:=Tryz.assignableNE;have s1:=Tryz.asAsF;have s2:=Tryz.asUnF;have s3:=Tryz.asAsN;have s4:=Tryz.asUnN;have mU:=Tryz.methodUnF;have mN:=Tryz.methodUnN;have vE:=Tryz.valueOfE;have hAl:A.block<w.heap.size:=ze hA;have htl:t.block<w.heap.size:=ze ht
 have hA2:(((w.alloc (.cells #[.pointer (some ⟨2,92,none⟩),.pointer (some A),.int .u64 150] 154)).alloc (.cells #[.string s,.iface 94 (.agg #[.int .i64 c,.int .i64 a])] 147)).alloc (.cells #[.int .i64 c,.int .i64 a] 94)).cell? A=some (.pointer (some t)):=by
  rw[World.cell?_alloc_lt _ _ A (by simp;omega),World.cell?_alloc_lt _ _ A (by simp;omega),World.cell?_alloc_lt _ _ A hAl];exact hA
 have ht2:(((w.alloc (.cells #[.pointer (some ⟨2,92,none⟩),.pointer (some A),.int .u64 150] 154)).alloc (.cells #[.string s,.iface 94 (.agg #[.int .i64 c,.int .i64 a])] 147)).alloc (.cells #[.int .i64 c,.int .i64 a] 94)).cell? t=some old:=by
  rw[World.cell?_alloc_lt _ _ t (by simp;omega),World.cell?_alloc_lt _ _ t (by simp;omega),World.cell?_alloc_lt _ _ t htl];exact ht
 have hf2:(((w.alloc (.cells #[.pointer (some ⟨2,92,none⟩),.pointer (some A),.int .u64 150] 154)).alloc (.cells #[.string s,.iface 94 (.agg #[.int .i64 c,.int .i64 a])] 147)).alloc (.cells #[.int .i64 c,.int .i64 a] 94)).frozen? t=false:=by
  rw[World.frozen?_alloc_old _ _ t (by simp;omega),World.frozen?_alloc_old _ _ t (by simp;omega),World.frozen?_alloc_old _ _ t (Nat.ne_of_lt htl)];exact hf
 have el:=Tryz.elemVPE A t (((w.alloc (.cells #[.pointer (some ⟨2,92,none⟩),.pointer (some A),.int .u64 150] 154)).alloc (.cells #[.string s,.iface 94 (.agg #[.int .i64 c,.int .i64 a])] 147)).alloc (.cells #[.int .i64 c,.int .i64 a] 94)) hA2
 have st:=Tryz.setE t ⟨w.heap.size+1+1+1,0,none⟩ c old ((((w.alloc (.cells #[.pointer (some ⟨2,92,none⟩),.pointer (some A),.int .u64 150] 154)).alloc (.cells #[.string s,.iface 94 (.agg #[.int .i64 c,.int .i64 a])] 147)).alloc (.cells #[.int .i64 c,.int .i64 a] 94)).alloc (.cells #[.int .i64 c] 34))
  (by rw[World.cell?_alloc_at _ _ _ _ (by simp)];rfl)
  (by rw[World.cell?_alloc_lt _ _ t (by simp;omega)];exact ht2)
  (by rw[World.frozen?_alloc_old _ _ t (by simp;omega)];exact hf2)
 have hc2:(((((w.alloc (.cells #[.pointer (some ⟨2,92,none⟩),.pointer (some A),.int .u64 150] 154)).alloc (.cells #[.string s,.iface 94 (.agg #[.int .i64 c,.int .i64 a])] 147)).alloc (.cells #[.int .i64 c,.int .i64 a] 94)).alloc (.cells #[.int .i64 c] 34)).setCell t (.int .i64 c)).cell? t=some (.int .i64 c):=
  World.cell?_setCell_same _ _ _ (by rw[World.cell?_alloc_lt _ _ t (by simp;omega)];exact ht2)
 have Hc2:=hid hc2;clear hc2 hA2 ht2 hf2;go_enter Tryz.func94,Tryz.ntmps94;go_wp2;refine wp_loop_rounds 3 ?_;rw[rounds_succ];go_wp2_with fail;refine(zx8 s _ _).mono ?_;rintro e w' ⟨rfl,rfl⟩;go_wp2_with fail;rw[rounds_succ];go_wp2_with fail;refine(ztx c a _).mono ?_;rintro e w' ⟨rfl,rfl⟩;go_wp2_with fail;rw[rounds_succ];go_wp2_with fail;go_ret;exact⟨rfl,zap (zap (zap (zap (World.grownBy_alloc _ _ _) (World.grownBy_alloc _ _ _)) (World.grownBy_alloc _ _ _)) (World.grownBy_alloc _ _ _)) (zfm _ _ _),Hc2.out⟩
theorem ya3 (s:ByteArray) (c a:Int) (tb:Nat) (A:Addr) (o1 o2:Value) (w:World) (hA:w.cell? A=some (.pointer (some ⟨tb,0,none⟩))) (ht0:w.cell? ⟨tb,0,none⟩=some o1) (ht1:w.cell? ⟨tb,1,none⟩=some o2)
 (hf0:w.frozen? ⟨tb,0,none⟩=false) (hf1:w.frozen? ⟨tb,1,none⟩=false):
 Calls Tryz.prog 94 #[.iface 147 (.agg #[.string s,.iface 94 (.agg #[.int .i64 c,.int .i64 a])]),.iface 140 (.pointer (some ⟨tb,0,none⟩)),.agg #[.pointer (some ⟨2,140,none⟩),.pointer (some A),.int .u64 150],.iface 227 (.agg #[.pointer (some ⟨2,94,none⟩)])] w
  fun e w'=>e=.returned (.bool true)∧w.grownBy w' (some tb)∧w'.cell? ⟨tb,0,none⟩=some (.int .i64 c)∧w'.cell? ⟨tb,1,none⟩=some (.int .i64 a):=by
 have hTO:=@run_callFunc_extern Tryz.prog 135 _ ReflectliteType.typeOf Tryz.func135 (by kernel_rfl) (by kernel_rfl) (by kernel_rfl) (by kernel_rfl);have hAT:=@run_callFunc_extern Tryz.prog 331 _ (ReflectliteType.relation "AssignableTo" ReflectliteType.assignableTo) Tryz.func331 (by kernel_rfl) (by kernel_rfl) (by kernel_rfl) (by kernel_rfl);have hEl:=@run_callFunc_extern Tryz.prog 136 _ (ReflectliteValue.method (ReflectliteValue.valueError "reflectlite.Value.Elem" 0) ReflectliteValue.elem) Tryz.func136 (by kernel_rfl) (by kernel_rfl) (by kernel_rfl) (by kernel_rfl);have hVO:=@run_callFunc_extern Tryz.prog 91 _ (fun args=>ReflectliteValue.unpack (args.getD 0 (.tuple #[]))) Tryz.func91 (by kernel_rfl) (by kernel_rfl) (by kernel_rfl) (by kernel_rfl);have hSt:=@run_callFunc_extern Tryz.prog 137 _ ReflectliteValue.set Tryz.func137 (by kernel_rfl) (by kernel_rfl) (by kernel_rfl) (by kernel_rfl);have tO:=Tryz.typeOfF;have tN:=Tryz.typeOfN;have mA:=Tryz.methodAssignableTo;have aFF:=Tryz.assignableFF;have aNF:=Tryz.assignableNF;have s3:=Tryz.asAsN;have s4:=Tryz.asUnN;have mN:=Tryz.methodUnN;have vF:=Tryz.valueOfF;have hAl:A.block<w.heap.size:=ze hA;have htl:tb<w.heap.size:=ze ht0;have el:=Tryz.elemVPF A ⟨tb,0,none⟩ ((w.alloc (.cells #[.pointer (some ⟨2,140,none⟩),.pointer (some A),.int .u64 150] 154)).alloc (.cells #[.string s,.iface 94 (.agg #[.int .i64 c,.int .i64 a])] 147)) (by rw[World.cell?_alloc_lt _ _ A (by simp;omega),World.cell?_alloc_lt _ _ A hAl];exact hA);have h0:(((w.alloc (.cells #[.pointer (some ⟨2,140,none⟩),.pointer (some A),.int .u64 150] 154)).alloc (.cells #[.string s,.iface 94 (.agg #[.int .i64 c,.int .i64 a])] 147)).alloc (.cells #[.int .i64 c,.int .i64 a] 94)).cell? ⟨tb,0,none⟩=some o1:=by rw[World.cell?_alloc_lt _ _ ⟨tb,0,none⟩ (by simp;omega),World.cell?_alloc_lt _ _ ⟨tb,0,none⟩ (by simp;omega),World.cell?_alloc_lt _ _ ⟨tb,0,none⟩ htl];exact ht0
 have h1:(((w.alloc (.cells #[.pointer (some ⟨2,140,none⟩),.pointer (some A),.int .u64 150] 154)).alloc (.cells #[.string s,.iface 94 (.agg #[.int .i64 c,.int .i64 a])] 147)).alloc (.cells #[.int .i64 c,.int .i64 a] 94)).cell? ⟨tb,1,none⟩=some o2:=by rw[World.cell?_alloc_lt _ _ ⟨tb,1,none⟩ (by simp;omega),World.cell?_alloc_lt _ _ ⟨tb,1,none⟩ (by simp;omega),World.cell?_alloc_lt _ _ ⟨tb,1,none⟩ htl];exact ht1
 have g0:(((w.alloc (.cells #[.pointer (some ⟨2,140,none⟩),.pointer (some A),.int .u64 150] 154)).alloc (.cells #[.string s,.iface 94 (.agg #[.int .i64 c,.int .i64 a])] 147)).alloc (.cells #[.int .i64 c,.int .i64 a] 94)).frozen? ⟨tb,0,none⟩=false:=by rw[World.frozen?_alloc_old _ _ ⟨tb,0,none⟩ (by simp;omega),World.frozen?_alloc_old _ _ ⟨tb,0,none⟩ (by simp;omega),World.frozen?_alloc_old _ _ ⟨tb,0,none⟩ (Nat.ne_of_lt htl)];exact hf0
 have g1:(((w.alloc (.cells #[.pointer (some ⟨2,140,none⟩),.pointer (some A),.int .u64 150] 154)).alloc (.cells #[.string s,.iface 94 (.agg #[.int .i64 c,.int .i64 a])] 147)).alloc (.cells #[.int .i64 c,.int .i64 a] 94)).frozen? ⟨tb,1,none⟩=false:=by rw[World.frozen?_alloc_old _ _ ⟨tb,1,none⟩ (by simp;omega),World.frozen?_alloc_old _ _ ⟨tb,1,none⟩ (by simp;omega),World.frozen?_alloc_old _ _ ⟨tb,1,none⟩ (Nat.ne_of_lt htl)];exact hf1
 have st:=Tryz.setF tb (w.heap.size+1+1) c a o1 o2 (((w.alloc (.cells #[.pointer (some ⟨2,140,none⟩),.pointer (some A),.int .u64 150] 154)).alloc (.cells #[.string s,.iface 94 (.agg #[.int .i64 c,.int .i64 a])] 147)).alloc (.cells #[.int .i64 c,.int .i64 a] 94)) (by rw[World.cell?_alloc_at _ _ _ _ (by simp)];rfl) (by rw[World.cell?_alloc_at _ _ _ _ (by simp)];rfl) h0 h1 g0 g1
 have hc0:(((((w.alloc (.cells #[.pointer (some ⟨2,140,none⟩),.pointer (some A),.int .u64 150] 154)).alloc (.cells #[.string s,.iface 94 (.agg #[.int .i64 c,.int .i64 a])] 147)).alloc (.cells #[.int .i64 c,.int .i64 a] 94)).setCell ⟨tb,0,none⟩ (.int .i64 c)).setCell ⟨tb,1,none⟩ (.int .i64 a)).cell? ⟨tb,0,none⟩=some (.int .i64 c):=by
  rw[World.cell?_setCell_other _ _ _ _ (by simp)];exact World.cell?_setCell_same _ _ _ h0
 have hc1:(((((w.alloc (.cells #[.pointer (some ⟨2,140,none⟩),.pointer (some A),.int .u64 150] 154)).alloc (.cells #[.string s,.iface 94 (.agg #[.int .i64 c,.int .i64 a])] 147)).alloc (.cells #[.int .i64 c,.int .i64 a] 94)).setCell ⟨tb,0,none⟩ (.int .i64 c)).setCell ⟨tb,1,none⟩ (.int .i64 a)).cell? ⟨tb,1,none⟩=some (.int .i64 a):=
  World.cell?_setCell_same _ _ _ (by rw[World.cell?_setCell_other _ _ _ _ (by simp)];exact h1)
 have Hc0:=hid hc0;clear hc0 h0 h1 g0 g1;have Hc1:=hid hc1;clear hc1;go_enter Tryz.func94,Tryz.ntmps94;go_wp2;refine wp_loop_rounds 2 ?_;rw[rounds_succ];go_wp2_with fail;refine(zx8 s _ _).mono ?_;rintro e w' ⟨rfl,rfl⟩;go_wp2_with fail;rw[rounds_succ];go_wp2_with fail;go_ret;exact⟨rfl,zap (zap (zap (zap (World.grownBy_alloc _ _ _) (World.grownBy_alloc _ _ _)) (World.grownBy_alloc _ _ _)) (zfm _ ⟨tb,0,none⟩ _)) (zfm _ ⟨tb,1,none⟩ _),Hc0.out,Hc1.out⟩
def zeg (s:ByteArray) (c a:Int):Value:=.iface 147 (.agg #[.string s,.iface 94 (.agg #[.int .i64 c,.int .i64 a])])
theorem ya4 (s:ByteArray) (c a:Int) (w:World) (hD:Door w):
 Calls Tryz.prog 16 #[zeg s c a] w fun e w'=>e=.returned (.int .i64 c)∧Below w.heap.size w w':=by
 have hD':=hid (fun o=>hD.below (Nat.le_refl _) ((Below.refl _ w).alloc (Nat.le_refl _) o));clear hD;unfold zeg;go_enter Tryz.func16,Tryz.ntmps16;go_wp2_with fail;refine zod _ _ _ _ (hD'.out _) (by simp) _ ?_;intro w1 A hb hA hAs;have hb2:Below w.heap.size w w1:=((Below.refl _ _).alloc (Nat.le_refl _) _).trans (hb.mono (by simp));have hc:w1.cell? ⟨w.heap.size,0,none⟩=some (.int .i64 0):=by rw[hb.cell (p:=⟨w.heap.size,0,none⟩) (by simp)];simp
 have hf:w1.frozen? ⟨w.heap.size,0,none⟩=false:=by rw[hb.frozen (p:=⟨w.heap.size,0,none⟩) (by simp)];simp
 refine(ya2 s c a ⟨w.heap.size,0,none⟩ A _ w1 hA hc hf).mono ?_;rintro e w2 ⟨rfl,hg,hc2⟩;refine⟨true,rfl,?_⟩;have hb3:=zhm hb2 (Nat.le_refl _) hg;clear hg hc hf hb hb2 hA hAs;go_wp2_with fail;go_ret;exact⟨rfl,hb3⟩
theorem ya5 (s:ByteArray) (c a:Int) (w:World) (hD:Door w):
 Calls Tryz.prog 53 #[zeg s c a] w fun e w'=>e=.returned (.tuple #[.agg #[.int .i64 c,.int .i64 a],.bool true])∧Below w.heap.size w w':=by
 have hD':=hid (fun o1 o2=>hD.below (Nat.le_refl _) (((Below.refl _ w).alloc (Nat.le_refl _) o1).alloc (by simp) o2));clear hD;unfold zeg;go_enter Tryz.func53,Tryz.ntmps53;go_wp2_with fail;refine zoe _ _ _ _ (hD'.out _ _) (by simp) _ ?_;intro w1 A hb hA hAs;have hb2:Below w.heap.size w w1:=(((Below.refl _ _).alloc (Nat.le_refl _) _).alloc (by simp) _).trans (hb.mono (by simp;omega));have hz:=hb.size;have hc0:w1.cell? ⟨w.heap.size+1,0,none⟩=some (.int .i64 0):=by rw[hb.cell (p:=⟨w.heap.size+1,0,none⟩) (by simp)];go_simp
 have hc1:w1.cell? ⟨w.heap.size+1,1,none⟩=some (.int .i64 0):=by rw[hb.cell (p:=⟨w.heap.size+1,1,none⟩) (by simp)];go_simp
 have hg0:w1.frozen? ⟨w.heap.size+1,0,none⟩=false:=by rw[hb.frozen (p:=⟨w.heap.size+1,0,none⟩) (by simp)];go_simp
 have hg1:w1.frozen? ⟨w.heap.size+1,1,none⟩=false:=by rw[hb.frozen (p:=⟨w.heap.size+1,1,none⟩) (by simp)];go_simp
 have hr0:w1.cell? ⟨w.heap.size,0,none⟩=some (.int .i64 0):=by rw[hb.cell (p:=⟨w.heap.size,0,none⟩) (by simp;omega)];go_simp
 have hr1:w1.cell? ⟨w.heap.size,1,none⟩=some (.int .i64 0):=by rw[hb.cell (p:=⟨w.heap.size,1,none⟩) (by simp;omega)];go_simp
 have hf0:w1.frozen? ⟨w.heap.size,0,none⟩=false:=by rw[hb.frozen (p:=⟨w.heap.size,0,none⟩) (by simp;omega)];go_simp
 have hf1:w1.frozen? ⟨w.heap.size,1,none⟩=false:=by rw[hb.frozen (p:=⟨w.heap.size,1,none⟩) (by simp;omega)];go_simp
 refine(ya3 s c a (w.heap.size+1) A _ _ w1 hA hc0 hc1 hg0 hg1).mono ?_;rintro e w2 ⟨rfl,hg,hc0',hc1'⟩;refine⟨true,rfl,?_⟩;have hb3:=zhm hb2 (by omega) hg;have keep:∀p:Addr,p.block<w1.heap.size→p.block≠w.heap.size+1→w2.cell? p=w1.cell? p:=fun p hp hne=>World.cell?_of_block (hg.block _ hp (by simpa using hne))
 have kfree:∀p:Addr,p.block<w1.heap.size→p.block≠w.heap.size+1→w2.frozen? p=w1.frozen? p:=fun p hp hne=>World.frozen?_of_block (hg.block _ hp (by simpa using hne))
 have hr0':=(keep ⟨w.heap.size,0,none⟩ (ze hr0) (by simp)).trans hr0;have hr1':=(keep ⟨w.heap.size,1,none⟩ (ze hr1) (by simp)).trans hr1;have hf0':=(kfree ⟨w.heap.size,0,none⟩ (ze hr0) (by simp)).trans hf0;have hf1':=(kfree ⟨w.heap.size,1,none⟩ (ze hr1) (by simp)).trans hf1;clear keep kfree hg hg0 hg1 hc0 hc1 hr0 hr1 hf0 hf1 hb hb2 hA hAs hz;go_wp2_with fail;exact bodyPost_ret (v:=.tuple #[.agg #[.int .i64 c,.int .i64 a],.bool true]) (by simp[results,Tryz.results53,go_sem,hr0',hr1']) rfl ⟨rfl,(hb3.setCell (p:=⟨w.heap.size,0,none⟩) (Nat.le_refl _) _).setCell (p:=⟨w.heap.size,1,none⟩) (Nat.le_refl _) _⟩
theorem ya6 (s:ByteArray) (c a:Int) (w:World) (hD:Door w):
 Calls Tryz.prog 17 #[zeg s c a] w fun e w'=>e=.returned (.int .i64 a)∧Below w.heap.size w w':=by
 have HC:=hid (ya5 s c a w hD);clear hD;unfold zeg at HC ⊢;go_enter Tryz.func17,Tryz.ntmps17;go_wp2_with fail;refine HC.out.mono ?_;rintro e w1 ⟨rfl,hb⟩;go_wp2_with fail;go_ret;exact⟨rfl,hb.alloc hb.size _⟩
theorem ya7 (s:ByteArray) (c a:Int) (w:World):
 Calls Tryz.prog 48 #[.string s,.iface 94 (.agg #[.int .i64 c,.int .i64 a])] w fun e w'=>e=.returned (zeg s c a)∧Below w.heap.size w w':=by
 go_enter Tryz.func48,Tryz.ntmps48;go_wp2;go_ret;exact⟨rfl,by first | exact Below.refl _ _ | exact(Below.refl _ _).alloc (Nat.le_refl _) _⟩
end
section
open Go.RowKit
abbrev zf6:ByteArray:=⟨#[101,110,99,111,100,101]⟩
theorem ya8:zf6++⟨#[58,32]⟩=⟨#[101,110,99,111,100,101,58,32]⟩:=rfl
set_option maxRecDepth 20000 in
theorem ya9 (a:Option Addr) (n cap:Nat) (k:Kno) (w:World) (c i:Nat) (hE:Frags w a n cap k) (hD:Door w) (hck:ckF k=some (c,i)):
 Calls Tryz.prog 35 #[.slice a n cap] w fun x w'=>x=.returned (.tuple #[.slice none 0 0,zeg zf6 c i])∧Below w.heap.size w w':=by
 have hC:=zlc a n cap k w hE hD;rw[hck] at hC;simp only[yj,yl] at hC;have HC:=hid hC;clear hC hE hD hck;go_enter Tryz.func35,Tryz.ntmps35;go_wp2_with fail;refine HC.out.mono ?_;rintro e w0 ⟨rfl,hb0⟩;have Hb0:=hid hb0;clear hb0;go_wp2_with fail;refine(ya7 zf6 c i _).mono ?_;rintro e w1 ⟨rfl,hb1⟩;have Hb1:=hid (Hb0.out.trans (hb1.mono Hb0.out.size));clear hb1;go_wp2_with fail;go_ret2;exact⟨rfl,Hb1.out⟩
set_option maxRecDepth 100000 in
theorem yba (a:Option Addr) (n cap:Nat) (k:Kno) (w:World) (hE:Frags w a n cap k) (hD:Door w):
 Calls Tryz.prog 8 #[.slice a n cap] w fun e w'=>e=.returned (.bool true)∧Below w.heap.size w w':=by
 have HD:=hid (fun W (h:Below w.heap.size w W)=>hD.below (Nat.le_refl _) h);have HA:=hid (fun W (h:Below w.heap.size w W)=>zl2 W (HD.out W h));have hF:=fun W (h:Below w.heap.size w W)=>zhe a n cap k W (hE.below h)
 have HE:=hid (fun W (h:Below w.heap.size w W)=>hE.below h);have hall:=hE.all;clear hE hD
 cases hf:zcy k with
 | false=>
  rw[hf] at hF;have HF:=hid hF;clear hF hf hall;go_enter Tryz.func8,Tryz.ntmps8;go_wp2_with fail;refine(HF.out _ (Below.refl _ _)).mono ?_;rintro e w1 ⟨rfl,hb1⟩;have Hb1:=hid hb1;clear hb1;go_wp2_with fail;refine(HA.out _ Hb1.out).mono ?_;rintro e w2 ⟨rfl,hb2⟩;have Hb2:=hid (Hb1.out.trans (hb2.mono Hb1.out.size));clear hb2;go_wp2_with fail;go_ret
  exact⟨rfl,Hb2.out⟩
 | true=>
 rw[hf] at hF;have HF:=hid hF;clear hF;have hCk:=fun W (h:Below w.heap.size w W)=>zo4 a n cap k W (HE.out W h)
 cases hck:ckF k with
 | some ci=>
  obtain⟨c,i⟩:=ci;rw[hck] at hCk;simp only[yj,qo,js] at hCk;have HCk:=hid hCk;have hL:=fun W (h:Below w.heap.size w W)=>ya9 a n cap k W c i (HE.out W h) (HD.out W h) hck
  have hc0:=zlz hck;have hc9:=ya1 hck;simp only at hc0 hc9;have hne:((c:Int) != 0)=true:=by rw[bne_iff_ne];omega
  have hCo:=fun W (h:Below w.heap.size w W)=>ya4 zf6 c i W (HD.out W h)
  have hAt:=fun W (h:Below w.heap.size w W)=>ya6 zf6 c i W (HD.out W h)
  have hTx:=fun W=>yay zf6 c i W (by omega) (by omega) (by decide)
  rw[ya8] at hTx;unfold zeg at hL hCo hAt;have HL:=hid hL;have HCo:=hid hCo;have HAt:=hid hAt;have HTx:=hid hTx;have HTe:=hid (fun W=>zx6 c W (by omega) (by omega));have hz:=zx5 c (by omega) (by omega);have mN:=Tryz.methodErN (.agg #[.string zf6,.iface 94 (.agg #[.int .i64 c,.int .i64 i])]);clear hCk hall hf hck hc0 hc9 hL hCo hAt hTx;go_enter Tryz.func8,Tryz.ntmps8;go_wp2_with fail;refine(HF.out _ (Below.refl _ _)).mono ?_;rintro e w0 ⟨rfl,hb0⟩;have Hb0:=hid hb0;clear hb0;go_wp2_with fail;refine(HL.out _ Hb0.out).mono ?_;rintro e w1 ⟨rfl,hb1⟩;have Hb1:=hid (Hb0.out.trans (hb1.mono Hb0.out.size));clear hb1;go_wp2_with fail;refine(HCk.out _ Hb1.out).mono ?_;rintro e w2 ⟨rfl,hb2⟩;have Hb2:=hid (Hb1.out.trans (hb2.mono Hb1.out.size));clear hb2;go_wp2_with fail;refine(HA.out _ Hb2.out).mono ?_;rintro e w3 ⟨rfl,hb3⟩;have Hb3:=hid (Hb2.out.trans (hb3.mono Hb2.out.size));clear hb3;go_wp2_with fail;refine(HCo.out _ Hb3.out).mono ?_;rintro e w4 ⟨rfl,hb4⟩;have Hb4:=hid (Hb3.out.trans (hb4.mono Hb3.out.size));clear hb4;go_wp2_with fail;refine(HAt.out _ Hb4.out).mono ?_;rintro e w5 ⟨rfl,hb5⟩;have Hb5:=hid (Hb4.out.trans (hb5.mono Hb4.out.size));clear hb5;go_wp2_with fail;refine(HTx.out _).mono ?_;rintro e w6 ⟨rfl,hb6⟩;have Hb6:=hid (Hb5.out.trans (hb6.mono Hb5.out.size));clear hb6;go_wp2_with fail;refine(HTe.out _).mono ?_;rintro e w9 ⟨rfl,rfl⟩;go_wp2_with fail;go_ret
  exact⟨rfl,Hb6.out⟩
 | none=>
  rw[hck] at hCk;simp only[yj,qo,js] at hCk;have HCk:=hid hCk;obtain⟨k1,k2,k3,k4,k5,k6⟩:=zi9 hall hf hck;have hEn:=fun W (h:Below w.heap.size w W)=>zf4 a n cap k W (HE.out W h) (HD.out W h) hck k2 k3
  have hCa:=fun W (h:Below w.heap.size w W)=>zpi a n cap k W (HE.out W h) k1 k4 k5
  have hBy:=fun W b c (h:Frags W b (zh k).length c (zh k))=>zxy b _ c (zh k) W h k6
  have hJ:∀y W base,OwnB W base y (zk (zh k))→∃b c,y=.slice b (zo (zk (zh k))).length c∧Byts W b (zo (zk (zh k))).length c (zo (zk (zh k))):=fun y W base h=>by
   obtain⟨b,c,rfl,hB⟩:=zek h (zhb _);exact⟨b,c,rfl,hB⟩
  have hDe:=fun W b c (h:Byts W b (zo (zk (zh k))).length c (zo (zk (zh k)))) (hd:Door W)=>zi8 b _ c _ (zh k) W h hd k6 (zjb k6) zi1
  rw[zed k6 (zec k6)] at hDe;have hEq:=fun W b c b' c' (h:Byts W b (zo (zk (zh k))).length c (zo (zk (zh k)))) (h':Byts W b' (zo (zk (zh k))).length c' (zo (zk (zh k))))=>zi7 b b' _ c _ c' _ _ W h h' true (decide_eq_true rfl).symm
  have hSm:=fun W b c b' c' (h:Frags W b (zh k).length c (zh k)) (h':Frags W b' (zh k).length c' (zh k))=>zl0 b b' _ c _ c' _ _ W h h'
  rw[decide_eq_true (rfl:zh k=zh k)] at hSm;have hdr:∀e W,zdv (.ok (zh k,(zo (zk (zh k))).length)) e W→∃aa cc,e=.returned (.tuple #[.slice aa (zh k).length cc,.nilIface])∧Frags W aa (zh k).length cc (zh k):=fun e W h=>h
  have hDe2:=fun W b c h hd=>(hDe W b c h hd).mono fun e w' ⟨h1,h2⟩=>(⟨h1,hdr e w' h2⟩:Below W.heap.size W w'∧_)
  unfold zph at hCa;have HEn:=hid hEn;have HCa:=hid hCa;have HBy:=hid hBy;have HJ:=hid hJ;have HDe:=hid hDe2;have HEq:=hid hEq;have HSm:=hid hSm;clear hEn hCa hBy hJ hDe hDe2 hEq hSm hdr hCk k1 k2 k3 k4 k5 k6 hck hf hall;generalize zo (zk (zh k))=L at*;generalize zk (zh k)=N at*;generalize zh k=C at*;go_enter Tryz.func8,Tryz.ntmps8;go_wp2_with fail;refine(HF.out _ (Below.refl _ _)).mono ?_;rintro e w0 ⟨rfl,hb0⟩;have Hb0:=hid hb0;clear hb0;go_wp2_with fail;refine(HEn.out _ Hb0.out).mono ?_;rintro e w1 ⟨⟨a1,c1,rfl,hB1⟩,hb1⟩;have HB1:=hid (fun V (h:Below w1.heap.size w1 V)=>hB1.below h);have Hb1:=hid (Hb0.out.trans (hb1.mono Hb0.out.size));clear hb1 hB1;go_wp2_with fail;refine(HCk.out _ Hb1.out).mono ?_;rintro e w2 ⟨rfl,hb2⟩;have H12:=hid hb2;have Hb2:=hid (Hb1.out.trans (hb2.mono Hb1.out.size));clear hb2;go_wp2_with fail;refine(HCa.out _ Hb2.out).mono ?_;rintro e w3 ⟨⟨a3,c3,rfl,hK3⟩,hb3⟩;have HK3:=hid (fun V (h:Below w3.heap.size w3 V)=>hK3.below h);have H13:=hid (H12.out.trans (hb3.mono H12.out.size));have Hb3:=hid (Hb2.out.trans (hb3.mono Hb2.out.size));clear hb3 hK3 H12;go_wp2_with fail;refine(HBy.out w3 _ _ (HK3.out _ (Below.refl _ _))).mono ?_;rintro e w4 ⟨⟨y,rfl,hy⟩,hb4⟩;obtain⟨a4,c4,rfl,hB4⟩:=HJ.out _ _ _ hy;have HB4:=hid hB4;have HB14:=hid (fun V (h:Below w4.heap.size w4 V)=>HB1.out V (H13.out.trans ((hb4.trans (h.mono hb4.size)).mono H13.out.size)));have HK4:=hid (fun V (h:Below w4.heap.size w4 V)=>HK3.out V (hb4.trans (h.mono hb4.size)));have Hb4:=hid (Hb3.out.trans (hb4.mono Hb3.out.size));clear hb4 hy hB4;go_wp2_with fail;refine(HEq.out w4 _ _ _ _ (HB14.out _ (Below.refl _ _)) HB4.out).mono ?_;rintro e w5 ⟨rfl,q5,rfl⟩;have H45:=hid (ye (Below.refl w4.heap.size w4) q5);have Hb5:=hid (Hb4.out.trans (H45.out.mono Hb4.out.size));generalize World.drewN _ q5=w5 at*;go_wp2_with fail;refine(HDe.out w5 _ _ (HB14.out _ H45.out) (HD.out _ Hb5.out)).mono ?_;rintro e w6 ⟨hb6,a6,c6,rfl,hK6⟩;have HK6:=hid (fun V (h:Below w6.heap.size w6 V)=>hK6.below h);have HK46:=hid (fun V (h:Below w6.heap.size w6 V)=>HK4.out V (H45.out.trans ((hb6.trans (h.mono hb6.size)).mono H45.out.size)));have Hb6:=hid (Hb5.out.trans (hb6.mono Hb5.out.size));clear hb6 hK6;go_wp2_with fail;refine(HA.out _ Hb6.out).mono ?_;rintro e w7 ⟨rfl,hb7⟩;have H67:=hid hb7;have Hb7:=hid (Hb6.out.trans (hb7.mono Hb6.out.size));clear hb7;go_wp2_with fail;refine(HSm.out w7 _ _ _ _ (HK6.out _ H67.out) (HK46.out _ H67.out)).mono ?_;rintro e w8 ⟨rfl,hb8⟩;have Hb8:=hid (Hb7.out.trans (hb8.mono Hb7.out.size));clear hb8;go_wp2_with fail;go_ret;exact⟨rfl,Hb8.out⟩
end
end Go.Proofs.YtdnjfnofjaoajaaGreatDoor
