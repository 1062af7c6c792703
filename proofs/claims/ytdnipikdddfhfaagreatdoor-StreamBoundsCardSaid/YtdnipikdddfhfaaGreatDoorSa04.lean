/- Part 04. -/
import Derived.Laws.Runes
import Derived.Test.YtdnipikdddfhfaaGreatDoorSa03
set_option linter.unusedVariables false
set_option maxHeartbeats 16000000
namespace Go.Proofs.YtdnipikdddfhfaaGreatDoor
open Lib (hid)
section
open Go.RowKit Go.Extern.Stop Go.Stop Go.Extern
theorem zcg (x:Err) (w:World) (hD:Door w):
 Calls Tryz.prog 19 #[yh x] w fun e w'=>e=.returned (.int .i64 (zat x))∧Below w.heap.size w w':=by
 have hD':=hid (fun o=>hD.below (Nat.le_refl _) ((Below.refl _ w).alloc (Nat.le_refl _) o));clear hD;rcases x with _ | ⟨c,_ | a⟩
 · go_enter Tryz.func19,Tryz.ntmps19;simp only[yh];go_wp2_with fail;go_ret;exact⟨rfl,(Below.refl _ _).alloc (Nat.le_refl _) _⟩
 · go_enter Tryz.func19,Tryz.ntmps19;simp only[yh];go_wp2_with fail;refine zgj _ _ _ _ (hD'.out _) (by simp) _ ?_;intro w1 A hb hA hAs;have hb2:Below w.heap.size w w1:=((Below.refl _ _).alloc (Nat.le_refl _) _).trans (hb.mono (by simp));have hc:w1.cell? ⟨w.heap.size,0,none⟩=some (.int .i64 0):=by rw[hb.cell (p:=⟨w.heap.size,0,none⟩) (by simp)];simp
   have hf:w1.frozen? ⟨w.heap.size,0,none⟩=false:=by rw[hb.frozen (p:=⟨w.heap.size,0,none⟩) (by simp)];simp
   refine(zqa c ⟨w.heap.size,0,none⟩ A _ w1 hA hc hf).mono ?_;rintro e w2 ⟨rfl,hg,hc2⟩;refine⟨true,rfl,?_⟩;have hb3:=zdt hb2 (Nat.le_refl _) hg;clear hg hc hf hb hb2 hA hAs;go_wp2_with fail;go_ret;exact⟨rfl,hb3⟩
 · go_enter Tryz.func19,Tryz.ntmps19;simp only[yh];go_wp2_with fail;refine zgj _ _ _ _ (hD'.out _) (by simp) _ ?_;intro w1 A hb hA hAs;have hb2:Below w.heap.size w w1:=((Below.refl _ _).alloc (Nat.le_refl _) _).trans (hb.mono (by simp));have hc:w1.cell? ⟨w.heap.size,0,none⟩=some (.int .i64 0):=by rw[hb.cell (p:=⟨w.heap.size,0,none⟩) (by simp)];simp
   have hf:w1.frozen? ⟨w.heap.size,0,none⟩=false:=by rw[hb.frozen (p:=⟨w.heap.size,0,none⟩) (by simp)];simp
   refine(zqb c a ⟨w.heap.size,0,none⟩ A _ w1 hA hc hf).mono ?_;rintro e w2 ⟨rfl,hg,hc2⟩;refine⟨true,rfl,?_⟩;have hb3:=zdt hb2 (Nat.le_refl _) hg;clear hg hc hf hb hb2 hA hAs;go_wp2_with fail;go_ret;exact⟨rfl,hb3⟩
theorem zbh (c a:Int) (w:World):
 Calls Tryz.prog 82 #[.int .i64 c,.int .i64 a] w fun e w'=>e=.returned (yh (zcf c a))∧w=w':=by
 by_cases h:c=0
 · subst h;go_enter Tryz.func82,Tryz.ntmps82;go_wp2;go_ret;exact⟨rfl,rfl⟩
 · have hb:(c == 0)=false:=by rw[beq_eq_false_iff_ne];exact h
   have he:=hid (show zcf c a=some (c,some a) from if_neg h);clear h;go_enter Tryz.func82,Tryz.ntmps82;go_wp2;go_ret;exact⟨by rw[he.out];rfl,rfl⟩
theorem zqq (w:World):
 Calls Tryz.prog 62 #[.nilIface] w fun e w'=>e=.returned (.tuple #[.agg #[.int .i64 0,.int .i64 0],.bool false])∧Below w.heap.size w w':=by
 go_enter Tryz.func62,Tryz.ntmps62;go_wp2_with fail;refine(zqc _ _).mono ?_;rintro e w' ⟨rfl,rfl⟩;go_wp2_with fail;exact bodyPost_ret (v:=.tuple #[.agg #[.int .i64 0,.int .i64 0],.bool false]) (by simp[results,Tryz.results62,go_sem]) rfl ⟨rfl,((Below.refl _ _).alloc (Nat.le_refl _) _).alloc (by simp) _⟩
theorem zqr (c:Int) (w:World) (hD:Door w):
 Calls Tryz.prog 62 #[.iface 35 (.int .i64 c)] w fun e w'=>e=.returned (.tuple #[.agg #[.int .i64 0,.int .i64 0],.bool false])∧Below w.heap.size w w':=by
 have hD':=hid (fun o1 o2=>hD.below (Nat.le_refl _) (((Below.refl _ w).alloc (Nat.le_refl _) o1).alloc (by simp) o2));clear hD;go_enter Tryz.func62,Tryz.ntmps62;go_wp2_with fail;refine zgk _ _ _ _ (hD'.out _ _) (by simp) _ ?_;intro w1 A hb hA hAs;have hb2:Below w.heap.size w w1:=(((Below.refl _ _).alloc (Nat.le_refl _) _).alloc (by simp) _).trans (hb.mono (by simp;omega));have hz:=hb.size;have hc0:w1.cell? ⟨w.heap.size+1,0,none⟩=some (.int .i64 0):=by rw[hb.cell (p:=⟨w.heap.size+1,0,none⟩) (by simp)];go_simp
 have hc1:w1.cell? ⟨w.heap.size+1,1,none⟩=some (.int .i64 0):=by rw[hb.cell (p:=⟨w.heap.size+1,1,none⟩) (by simp)];go_simp
 have hr0:w1.cell? ⟨w.heap.size,0,none⟩=some (.int .i64 0):=by rw[hb.cell (p:=⟨w.heap.size,0,none⟩) (by simp;omega)];go_simp
 have hr1:w1.cell? ⟨w.heap.size,1,none⟩=some (.int .i64 0):=by rw[hb.cell (p:=⟨w.heap.size,1,none⟩) (by simp;omega)];go_simp
 have hf0:w1.frozen? ⟨w.heap.size,0,none⟩=false:=by rw[hb.frozen (p:=⟨w.heap.size,0,none⟩) (by simp;omega)];go_simp
 have hf1:w1.frozen? ⟨w.heap.size,1,none⟩=false:=by rw[hb.frozen (p:=⟨w.heap.size,1,none⟩) (by simp;omega)];go_simp
 refine(zp9 c (w.heap.size+1) A w1).mono ?_;rintro e w2 ⟨rfl,hg⟩;refine⟨false,rfl,?_⟩;have hb3:=zdu hb2 hg;have keep:∀p:Addr,p.block<w1.heap.size→w2.cell? p=w1.cell? p:=fun p hp=>World.cell?_of_block (hg.block _ hp (by simp))
 have kfree:∀p:Addr,p.block<w1.heap.size→w2.frozen? p=w1.frozen? p:=fun p hp=>World.frozen?_of_block (hg.block _ hp (by simp))
 have hc0':=(keep ⟨w.heap.size+1,0,none⟩ (zd hc0)).trans hc0;have hc1':=(keep ⟨w.heap.size+1,1,none⟩ (zd hc1)).trans hc1;have hr0':=(keep ⟨w.heap.size,0,none⟩ (zd hr0)).trans hr0;have hr1':=(keep ⟨w.heap.size,1,none⟩ (zd hr1)).trans hr1;have hf0':=(kfree ⟨w.heap.size,0,none⟩ (zd hr0)).trans hf0;have hf1':=(kfree ⟨w.heap.size,1,none⟩ (zd hr1)).trans hf1;clear keep kfree hg hc0 hc1 hr0 hr1 hf0 hf1 hb hb2 hA hAs hz;go_wp2_with fail;exact bodyPost_ret (v:=.tuple #[.agg #[.int .i64 0,.int .i64 0],.bool false]) (by simp[results,Tryz.results62,go_sem,hr0',hr1']) rfl ⟨rfl,(hb3.setCell (p:=⟨w.heap.size,0,none⟩) (Nat.le_refl _) _).setCell (p:=⟨w.heap.size,1,none⟩) (Nat.le_refl _) _⟩
theorem zqs (c a:Int) (w:World) (hD:Door w):
 Calls Tryz.prog 62 #[.iface 112 (.agg #[.int .i64 c,.int .i64 a])] w fun e w'=>e=.returned (.tuple #[.agg #[.int .i64 c,.int .i64 a],.bool true])∧Below w.heap.size w w':=by
 have hD':=hid (fun o1 o2=>hD.below (Nat.le_refl _) (((Below.refl _ w).alloc (Nat.le_refl _) o1).alloc (by simp) o2));clear hD;go_enter Tryz.func62,Tryz.ntmps62;go_wp2_with fail;refine zgk _ _ _ _ (hD'.out _ _) (by simp) _ ?_;intro w1 A hb hA hAs;have hb2:Below w.heap.size w w1:=(((Below.refl _ _).alloc (Nat.le_refl _) _).alloc (by simp) _).trans (hb.mono (by simp;omega));have hz:=hb.size;have hc0:w1.cell? ⟨w.heap.size+1,0,none⟩=some (.int .i64 0):=by rw[hb.cell (p:=⟨w.heap.size+1,0,none⟩) (by simp)];go_simp
 have hc1:w1.cell? ⟨w.heap.size+1,1,none⟩=some (.int .i64 0):=by rw[hb.cell (p:=⟨w.heap.size+1,1,none⟩) (by simp)];go_simp
 have hg0:w1.frozen? ⟨w.heap.size+1,0,none⟩=false:=by rw[hb.frozen (p:=⟨w.heap.size+1,0,none⟩) (by simp)];go_simp
 have hg1:w1.frozen? ⟨w.heap.size+1,1,none⟩=false:=by rw[hb.frozen (p:=⟨w.heap.size+1,1,none⟩) (by simp)];go_simp
 have hr0:w1.cell? ⟨w.heap.size,0,none⟩=some (.int .i64 0):=by rw[hb.cell (p:=⟨w.heap.size,0,none⟩) (by simp;omega)];go_simp
 have hr1:w1.cell? ⟨w.heap.size,1,none⟩=some (.int .i64 0):=by rw[hb.cell (p:=⟨w.heap.size,1,none⟩) (by simp;omega)];go_simp
 have hf0:w1.frozen? ⟨w.heap.size,0,none⟩=false:=by rw[hb.frozen (p:=⟨w.heap.size,0,none⟩) (by simp;omega)];go_simp
 have hf1:w1.frozen? ⟨w.heap.size,1,none⟩=false:=by rw[hb.frozen (p:=⟨w.heap.size,1,none⟩) (by simp;omega)];go_simp
 refine(zp8 c a (w.heap.size+1) A _ _ w1 hA hc0 hc1 hg0 hg1).mono ?_;rintro e w2 ⟨rfl,hg,hc0',hc1'⟩;refine⟨true,rfl,?_⟩;have hb3:=zdt hb2 (by omega) hg;have keep:∀p:Addr,p.block<w1.heap.size→p.block≠w.heap.size+1→w2.cell? p=w1.cell? p:=fun p hp hne=>World.cell?_of_block (hg.block _ hp (by simpa using hne))
 have kfree:∀p:Addr,p.block<w1.heap.size→p.block≠w.heap.size+1→w2.frozen? p=w1.frozen? p:=fun p hp hne=>World.frozen?_of_block (hg.block _ hp (by simpa using hne))
 have hr0':=(keep ⟨w.heap.size,0,none⟩ (zd hr0) (by simp)).trans hr0;have hr1':=(keep ⟨w.heap.size,1,none⟩ (zd hr1) (by simp)).trans hr1;have hf0':=(kfree ⟨w.heap.size,0,none⟩ (zd hr0) (by simp)).trans hf0;have hf1':=(kfree ⟨w.heap.size,1,none⟩ (zd hr1) (by simp)).trans hf1;clear keep kfree hg hg0 hg1 hc0 hc1 hr0 hr1 hf0 hf1 hb hb2 hA hAs hz;go_wp2_with fail;exact bodyPost_ret (v:=.tuple #[.agg #[.int .i64 c,.int .i64 a],.bool true]) (by simp[results,Tryz.results62,go_sem,hr0',hr1']) rfl ⟨rfl,(hb3.setCell (p:=⟨w.heap.size,0,none⟩) (Nat.le_refl _) _).setCell (p:=⟨w.heap.size,1,none⟩) (Nat.le_refl _) _⟩
theorem zqt (x:Err) (w:World) (hD:Door w):
 Calls Tryz.prog 20 #[yh x] w fun e w'=>e=.returned (.int .i64 (zds x))∧Below w.heap.size w w':=by
 rcases x with _ | ⟨c,_ | a⟩
 · go_enter Tryz.func20,Tryz.ntmps20;simp only[yh];go_wp2_with fail;refine(zqq _).mono ?_;rintro e w1 ⟨rfl,hb⟩;go_wp2_with fail;go_ret;exact⟨rfl,hb.alloc hb.size _⟩
 · go_enter Tryz.func20,Tryz.ntmps20;simp only[yh];go_wp2_with fail;refine(zqr _ _ hD).mono ?_;rintro e w1 ⟨rfl,hb⟩;go_wp2_with fail;go_ret;exact⟨rfl,hb.alloc hb.size _⟩
 · go_enter Tryz.func20,Tryz.ntmps20;simp only[yh];go_wp2_with fail;refine(zqs _ _ _ hD).mono ?_;rintro e w1 ⟨rfl,hb⟩;go_wp2_with fail;go_ret;exact⟨rfl,hb.alloc hb.size _⟩
theorem Tryz.typeOfN (v:Value) (w:World):(ReflectliteType.typeOf #[.iface 212 v]).run Tryz.prog w=.ok (.iface 229 (.agg #[.pointer (some ⟨1,212,none⟩)])) w:=by kernel_rfl
theorem Tryz.assignableNE (w:World):(ReflectliteType.relation "AssignableTo" ReflectliteType.assignableTo #[.agg #[.pointer (some ⟨1,212,none⟩)],.iface 229 (.agg #[.pointer (some ⟨1,35,none⟩)])]).run Tryz.prog w=.ok (.bool false) w:=by kernel_rfl
theorem Tryz.assignableNF (w:World):(ReflectliteType.relation "AssignableTo" ReflectliteType.assignableTo #[.agg #[.pointer (some ⟨1,212,none⟩)],.iface 229 (.agg #[.pointer (some ⟨1,112,none⟩)])]).run Tryz.prog w=.ok (.bool false) w:=by kernel_rfl
theorem Tryz.asAsN (v:Value) (xT:TypeId) (w:World):(Instr.typeAssert (.iface 212 v) xT 234 true).run Tryz.prog w=.ok (.tuple #[.nilIface,.bool false]) w:=
 run_typeAssert_lacksB Tryz.underlying234 (by kernel_rfl) (by kernel_rfl) v xT w
theorem Tryz.asUnN (v:Value) (xT:TypeId) (w:World):(Instr.typeAssert (.iface 212 v) xT 237 true).run Tryz.prog w=.ok (.tuple #[.iface 212 v,.bool true]) w:=
 run_typeAssert_hasB Tryz.underlying237 (by kernel_rfl) v xT w
theorem Tryz.methodUnN (v:Value) (w:World):(Go.method 520 212 v "Unwrap").run Tryz.prog w=.ok (333,v) w:=by kernel_rfl
theorem zjs (s:ByteArray) (x:Value) (w:World):Calls Tryz.prog 333 #[.agg #[.string s,x]] w fun e w'=>e=.returned x∧w'=w.alloc (.cells #[.string s,x] 212):=by
 go_enter Tryz.func333,Tryz.ntmps333;go_wp2;go_ret;exact⟨rfl,rfl⟩
theorem zqu (s:ByteArray) (c a:Int) (t A:Addr) (old:Value) (w:World) (hA:w.cell? A=some (.pointer (some t))) (ht:w.cell? t=some old) (hf:w.frozen? t=false):
 Calls Tryz.prog 105 #[.iface 212 (.agg #[.string s,.iface 112 (.agg #[.int .i64 c,.int .i64 a])]),.iface 111 (.pointer (some t)),.agg #[.pointer (some ⟨1,111,none⟩),.pointer (some A),.int .u64 150],.iface 229 (.agg #[.pointer (some ⟨1,35,none⟩)])] w
  fun e w'=>e=.returned (.bool true)∧w.grownBy w' (some t.block)∧w'.cell? t=some (.int .i64 c):=by
 have hTO:=@run_callFunc_extern Tryz.prog 138 _ ReflectliteType.typeOf Tryz.func138 (by kernel_rfl) (by kernel_rfl) (by kernel_rfl) (by kernel_rfl);have hAT:=@run_callFunc_extern Tryz.prog 335 _ (ReflectliteType.relation "AssignableTo" ReflectliteType.assignableTo) Tryz.func335 (by kernel_rfl) (by kernel_rfl) (by kernel_rfl) (by kernel_rfl);have hEl:=@run_callFunc_extern Tryz.prog 139 _ (ReflectliteValue.method (ReflectliteValue.valueError "reflectlite.Value.Elem" 0) ReflectliteValue.elem) Tryz.func139 (by kernel_rfl) (by kernel_rfl) (by kernel_rfl) (by kernel_rfl);have hVO:=@run_callFunc_extern Tryz.prog 102 _ (fun args=>ReflectliteValue.unpack (args.getD 0 (.tuple #[]))) Tryz.func102 (by kernel_rfl) (by kernel_rfl) (by kernel_rfl) (by kernel_rfl);have hSt:=@run_callFunc_extern Tryz.prog 140 _ ReflectliteValue.set Tryz.func140 (by kernel_rfl) (by kernel_rfl) (by kernel_rfl) (by kernel_rfl);have tO:=Tryz.typeOfE;have tO2:=Tryz.typeOfF;have tO3:=Tryz.typeOfN;have mA:=Tryz.methodAssignableTo;have aEE:=Tryz.assignableEE;have aFE:=Tryz.assignableFE;have aNE:=Tryz.assignableNE;have s1:=Tryz.asAsF;have s2:=Tryz.asUnF;have s3:=Tryz.asAsN;have s4:=Tryz.asUnN;have mU:=Tryz.methodUnF;have mN:=Tryz.methodUnN;have vE:=Tryz.valueOfE;have hAl:A.block<w.heap.size:=zd hA;have htl:t.block<w.heap.size:=zd ht
 have hA2:(((w.alloc (.cells #[.pointer (some ⟨1,111,none⟩),.pointer (some A),.int .u64 150] 179)).alloc (.cells #[.string s,.iface 112 (.agg #[.int .i64 c,.int .i64 a])] 212)).alloc (.cells #[.int .i64 c,.int .i64 a] 112)).cell? A=some (.pointer (some t)):=by
  rw[World.cell?_alloc_lt _ _ A (by simp;omega),World.cell?_alloc_lt _ _ A (by simp;omega),World.cell?_alloc_lt _ _ A hAl];exact hA
 have ht2:(((w.alloc (.cells #[.pointer (some ⟨1,111,none⟩),.pointer (some A),.int .u64 150] 179)).alloc (.cells #[.string s,.iface 112 (.agg #[.int .i64 c,.int .i64 a])] 212)).alloc (.cells #[.int .i64 c,.int .i64 a] 112)).cell? t=some old:=by
  rw[World.cell?_alloc_lt _ _ t (by simp;omega),World.cell?_alloc_lt _ _ t (by simp;omega),World.cell?_alloc_lt _ _ t htl];exact ht
 have hf2:(((w.alloc (.cells #[.pointer (some ⟨1,111,none⟩),.pointer (some A),.int .u64 150] 179)).alloc (.cells #[.string s,.iface 112 (.agg #[.int .i64 c,.int .i64 a])] 212)).alloc (.cells #[.int .i64 c,.int .i64 a] 112)).frozen? t=false:=by
  rw[World.frozen?_alloc_old _ _ t (by simp;omega),World.frozen?_alloc_old _ _ t (by simp;omega),World.frozen?_alloc_old _ _ t (Nat.ne_of_lt htl)];exact hf
 have el:=Tryz.elemVPE A t (((w.alloc (.cells #[.pointer (some ⟨1,111,none⟩),.pointer (some A),.int .u64 150] 179)).alloc (.cells #[.string s,.iface 112 (.agg #[.int .i64 c,.int .i64 a])] 212)).alloc (.cells #[.int .i64 c,.int .i64 a] 112)) hA2
 have st:=Tryz.setE t ⟨w.heap.size+1+1+1,0,none⟩ c old ((((w.alloc (.cells #[.pointer (some ⟨1,111,none⟩),.pointer (some A),.int .u64 150] 179)).alloc (.cells #[.string s,.iface 112 (.agg #[.int .i64 c,.int .i64 a])] 212)).alloc (.cells #[.int .i64 c,.int .i64 a] 112)).alloc (.cells #[.int .i64 c] 35))
  (by rw[World.cell?_alloc_at _ _ _ _ (by simp)];rfl)
  (by rw[World.cell?_alloc_lt _ _ t (by simp;omega)];exact ht2)
  (by rw[World.frozen?_alloc_old _ _ t (by simp;omega)];exact hf2)
 have hc2:(((((w.alloc (.cells #[.pointer (some ⟨1,111,none⟩),.pointer (some A),.int .u64 150] 179)).alloc (.cells #[.string s,.iface 112 (.agg #[.int .i64 c,.int .i64 a])] 212)).alloc (.cells #[.int .i64 c,.int .i64 a] 112)).alloc (.cells #[.int .i64 c] 35)).setCell t (.int .i64 c)).cell? t=some (.int .i64 c):=
  World.cell?_setCell_same _ _ _ (by rw[World.cell?_alloc_lt _ _ t (by simp;omega)];exact ht2)
 have Hc2:=hid hc2;clear hc2 hA2 ht2 hf2;go_enter Tryz.func105,Tryz.ntmps105;go_wp2;refine wp_loop_rounds 3 ?_;rw[rounds_succ];go_wp2_with fail;refine(zjs s _ _).mono ?_;rintro e w' ⟨rfl,rfl⟩;go_wp2_with fail;rw[rounds_succ];go_wp2_with fail;refine(zji c a _).mono ?_;rintro e w' ⟨rfl,rfl⟩;go_wp2_with fail;rw[rounds_succ];go_wp2_with fail;go_ret;exact⟨rfl,zg (zg (zg (zg (World.grownBy_alloc _ _ _) (World.grownBy_alloc _ _ _)) (World.grownBy_alloc _ _ _)) (World.grownBy_alloc _ _ _)) (zce _ _ _),Hc2.out⟩
theorem zqv (s:ByteArray) (c a:Int) (tb:Nat) (A:Addr) (o1 o2:Value) (w:World) (hA:w.cell? A=some (.pointer (some ⟨tb,0,none⟩))) (ht0:w.cell? ⟨tb,0,none⟩=some o1) (ht1:w.cell? ⟨tb,1,none⟩=some o2)
 (hf0:w.frozen? ⟨tb,0,none⟩=false) (hf1:w.frozen? ⟨tb,1,none⟩=false):
 Calls Tryz.prog 105 #[.iface 212 (.agg #[.string s,.iface 112 (.agg #[.int .i64 c,.int .i64 a])]),.iface 188 (.pointer (some ⟨tb,0,none⟩)),.agg #[.pointer (some ⟨1,188,none⟩),.pointer (some A),.int .u64 150],.iface 229 (.agg #[.pointer (some ⟨1,112,none⟩)])] w
  fun e w'=>e=.returned (.bool true)∧w.grownBy w' (some tb)∧w'.cell? ⟨tb,0,none⟩=some (.int .i64 c)∧w'.cell? ⟨tb,1,none⟩=some (.int .i64 a):=by
 have hTO:=@run_callFunc_extern Tryz.prog 138 _ ReflectliteType.typeOf Tryz.func138 (by kernel_rfl) (by kernel_rfl) (by kernel_rfl) (by kernel_rfl);have hAT:=@run_callFunc_extern Tryz.prog 335 _ (ReflectliteType.relation "AssignableTo" ReflectliteType.assignableTo) Tryz.func335 (by kernel_rfl) (by kernel_rfl) (by kernel_rfl) (by kernel_rfl);have hEl:=@run_callFunc_extern Tryz.prog 139 _ (ReflectliteValue.method (ReflectliteValue.valueError "reflectlite.Value.Elem" 0) ReflectliteValue.elem) Tryz.func139 (by kernel_rfl) (by kernel_rfl) (by kernel_rfl) (by kernel_rfl);have hVO:=@run_callFunc_extern Tryz.prog 102 _ (fun args=>ReflectliteValue.unpack (args.getD 0 (.tuple #[]))) Tryz.func102 (by kernel_rfl) (by kernel_rfl) (by kernel_rfl) (by kernel_rfl);have hSt:=@run_callFunc_extern Tryz.prog 140 _ ReflectliteValue.set Tryz.func140 (by kernel_rfl) (by kernel_rfl) (by kernel_rfl) (by kernel_rfl);have tO:=Tryz.typeOfF;have tN:=Tryz.typeOfN;have mA:=Tryz.methodAssignableTo;have aFF:=Tryz.assignableFF;have aNF:=Tryz.assignableNF;have s3:=Tryz.asAsN;have s4:=Tryz.asUnN;have mN:=Tryz.methodUnN;have vF:=Tryz.valueOfF;have hAl:A.block<w.heap.size:=zd hA;have htl:tb<w.heap.size:=zd ht0;have el:=Tryz.elemVPF A ⟨tb,0,none⟩ ((w.alloc (.cells #[.pointer (some ⟨1,188,none⟩),.pointer (some A),.int .u64 150] 179)).alloc (.cells #[.string s,.iface 112 (.agg #[.int .i64 c,.int .i64 a])] 212)) (by rw[World.cell?_alloc_lt _ _ A (by simp;omega),World.cell?_alloc_lt _ _ A hAl];exact hA);have h0:(((w.alloc (.cells #[.pointer (some ⟨1,188,none⟩),.pointer (some A),.int .u64 150] 179)).alloc (.cells #[.string s,.iface 112 (.agg #[.int .i64 c,.int .i64 a])] 212)).alloc (.cells #[.int .i64 c,.int .i64 a] 112)).cell? ⟨tb,0,none⟩=some o1:=by rw[World.cell?_alloc_lt _ _ ⟨tb,0,none⟩ (by simp;omega),World.cell?_alloc_lt _ _ ⟨tb,0,none⟩ (by simp;omega),World.cell?_alloc_lt _ _ ⟨tb,0,none⟩ htl];exact ht0
 have h1:(((w.alloc (.cells #[.pointer (some ⟨1,188,none⟩),.pointer (some A),.int .u64 150] 179)).alloc (.cells #[.string s,.iface 112 (.agg #[.int .i64 c,.int .i64 a])] 212)).alloc (.cells #[.int .i64 c,.int .i64 a] 112)).cell? ⟨tb,1,none⟩=some o2:=by rw[World.cell?_alloc_lt _ _ ⟨tb,1,none⟩ (by simp;omega),World.cell?_alloc_lt _ _ ⟨tb,1,none⟩ (by simp;omega),World.cell?_alloc_lt _ _ ⟨tb,1,none⟩ htl];exact ht1
 have g0:(((w.alloc (.cells #[.pointer (some ⟨1,188,none⟩),.pointer (some A),.int .u64 150] 179)).alloc (.cells #[.string s,.iface 112 (.agg #[.int .i64 c,.int .i64 a])] 212)).alloc (.cells #[.int .i64 c,.int .i64 a] 112)).frozen? ⟨tb,0,none⟩=false:=by rw[World.frozen?_alloc_old _ _ ⟨tb,0,none⟩ (by simp;omega),World.frozen?_alloc_old _ _ ⟨tb,0,none⟩ (by simp;omega),World.frozen?_alloc_old _ _ ⟨tb,0,none⟩ (Nat.ne_of_lt htl)];exact hf0
 have g1:(((w.alloc (.cells #[.pointer (some ⟨1,188,none⟩),.pointer (some A),.int .u64 150] 179)).alloc (.cells #[.string s,.iface 112 (.agg #[.int .i64 c,.int .i64 a])] 212)).alloc (.cells #[.int .i64 c,.int .i64 a] 112)).frozen? ⟨tb,1,none⟩=false:=by rw[World.frozen?_alloc_old _ _ ⟨tb,1,none⟩ (by simp;omega),World.frozen?_alloc_old _ _ ⟨tb,1,none⟩ (by simp;omega),World.frozen?_alloc_old _ _ ⟨tb,1,none⟩ (Nat.ne_of_lt htl)];exact hf1
 have st:=Tryz.setF tb (w.heap.size+1+1) c a o1 o2 (((w.alloc (.cells #[.pointer (some ⟨1,188,none⟩),.pointer (some A),.int .u64 150] 179)).alloc (.cells #[.string s,.iface 112 (.agg #[.int .i64 c,.int .i64 a])] 212)).alloc (.cells #[.int .i64 c,.int .i64 a] 112)) (by rw[World.cell?_alloc_at _ _ _ _ (by simp)];rfl) (by rw[World.cell?_alloc_at _ _ _ _ (by simp)];rfl) h0 h1 g0 g1
 have hc0:(((((w.alloc (.cells #[.pointer (some ⟨1,188,none⟩),.pointer (some A),.int .u64 150] 179)).alloc (.cells #[.string s,.iface 112 (.agg #[.int .i64 c,.int .i64 a])] 212)).alloc (.cells #[.int .i64 c,.int .i64 a] 112)).setCell ⟨tb,0,none⟩ (.int .i64 c)).setCell ⟨tb,1,none⟩ (.int .i64 a)).cell? ⟨tb,0,none⟩=some (.int .i64 c):=by
  rw[World.cell?_setCell_other _ _ _ _ (by simp)];exact World.cell?_setCell_same _ _ _ h0
 have hc1:(((((w.alloc (.cells #[.pointer (some ⟨1,188,none⟩),.pointer (some A),.int .u64 150] 179)).alloc (.cells #[.string s,.iface 112 (.agg #[.int .i64 c,.int .i64 a])] 212)).alloc (.cells #[.int .i64 c,.int .i64 a] 112)).setCell ⟨tb,0,none⟩ (.int .i64 c)).setCell ⟨tb,1,none⟩ (.int .i64 a)).cell? ⟨tb,1,none⟩=some (.int .i64 a):=
  World.cell?_setCell_same _ _ _ (by rw[World.cell?_setCell_other _ _ _ _ (by simp)];exact h1)
 have Hc0:=hid hc0;clear hc0 h0 h1 g0 g1;have Hc1:=hid hc1;clear hc1;go_enter Tryz.func105,Tryz.ntmps105;go_wp2;refine wp_loop_rounds 2 ?_;rw[rounds_succ];go_wp2_with fail;refine(zjs s _ _).mono ?_;rintro e w' ⟨rfl,rfl⟩;go_wp2_with fail;rw[rounds_succ];go_wp2_with fail;go_ret;exact⟨rfl,zg (zg (zg (zg (World.grownBy_alloc _ _ _) (World.grownBy_alloc _ _ _)) (World.grownBy_alloc _ _ _)) (zce _ ⟨tb,0,none⟩ _)) (zce _ ⟨tb,1,none⟩ _),Hc0.out,Hc1.out⟩
def vt (s:ByteArray) (c a:Int):Value:=.iface 212 (.agg #[.string s,.iface 112 (.agg #[.int .i64 c,.int .i64 a])])
theorem zgq (s:ByteArray) (c a:Int) (w:World) (hD:Door w):
 Calls Tryz.prog 19 #[vt s c a] w fun e w'=>e=.returned (.int .i64 c)∧Below w.heap.size w w':=by
 have hD':=hid (fun o=>hD.below (Nat.le_refl _) ((Below.refl _ w).alloc (Nat.le_refl _) o));clear hD;unfold vt;go_enter Tryz.func19,Tryz.ntmps19;go_wp2_with fail;refine zgj _ _ _ _ (hD'.out _) (by simp) _ ?_;intro w1 A hb hA hAs;have hb2:Below w.heap.size w w1:=((Below.refl _ _).alloc (Nat.le_refl _) _).trans (hb.mono (by simp));have hc:w1.cell? ⟨w.heap.size,0,none⟩=some (.int .i64 0):=by rw[hb.cell (p:=⟨w.heap.size,0,none⟩) (by simp)];simp
 have hf:w1.frozen? ⟨w.heap.size,0,none⟩=false:=by rw[hb.frozen (p:=⟨w.heap.size,0,none⟩) (by simp)];simp
 refine(zqu s c a ⟨w.heap.size,0,none⟩ A _ w1 hA hc hf).mono ?_;rintro e w2 ⟨rfl,hg,hc2⟩;refine⟨true,rfl,?_⟩;have hb3:=zdt hb2 (Nat.le_refl _) hg;clear hg hc hf hb hb2 hA hAs;go_wp2_with fail;go_ret;exact⟨rfl,hb3⟩
theorem zqw (s:ByteArray) (c a:Int) (w:World) (hD:Door w):
 Calls Tryz.prog 62 #[vt s c a] w fun e w'=>e=.returned (.tuple #[.agg #[.int .i64 c,.int .i64 a],.bool true])∧Below w.heap.size w w':=by
 have hD':=hid (fun o1 o2=>hD.below (Nat.le_refl _) (((Below.refl _ w).alloc (Nat.le_refl _) o1).alloc (by simp) o2));clear hD;unfold vt;go_enter Tryz.func62,Tryz.ntmps62;go_wp2_with fail;refine zgk _ _ _ _ (hD'.out _ _) (by simp) _ ?_;intro w1 A hb hA hAs;have hb2:Below w.heap.size w w1:=(((Below.refl _ _).alloc (Nat.le_refl _) _).alloc (by simp) _).trans (hb.mono (by simp;omega));have hz:=hb.size;have hc0:w1.cell? ⟨w.heap.size+1,0,none⟩=some (.int .i64 0):=by rw[hb.cell (p:=⟨w.heap.size+1,0,none⟩) (by simp)];go_simp
 have hc1:w1.cell? ⟨w.heap.size+1,1,none⟩=some (.int .i64 0):=by rw[hb.cell (p:=⟨w.heap.size+1,1,none⟩) (by simp)];go_simp
 have hg0:w1.frozen? ⟨w.heap.size+1,0,none⟩=false:=by rw[hb.frozen (p:=⟨w.heap.size+1,0,none⟩) (by simp)];go_simp
 have hg1:w1.frozen? ⟨w.heap.size+1,1,none⟩=false:=by rw[hb.frozen (p:=⟨w.heap.size+1,1,none⟩) (by simp)];go_simp
 have hr0:w1.cell? ⟨w.heap.size,0,none⟩=some (.int .i64 0):=by rw[hb.cell (p:=⟨w.heap.size,0,none⟩) (by simp;omega)];go_simp
 have hr1:w1.cell? ⟨w.heap.size,1,none⟩=some (.int .i64 0):=by rw[hb.cell (p:=⟨w.heap.size,1,none⟩) (by simp;omega)];go_simp
 have hf0:w1.frozen? ⟨w.heap.size,0,none⟩=false:=by rw[hb.frozen (p:=⟨w.heap.size,0,none⟩) (by simp;omega)];go_simp
 have hf1:w1.frozen? ⟨w.heap.size,1,none⟩=false:=by rw[hb.frozen (p:=⟨w.heap.size,1,none⟩) (by simp;omega)];go_simp
 refine(zqv s c a (w.heap.size+1) A _ _ w1 hA hc0 hc1 hg0 hg1).mono ?_;rintro e w2 ⟨rfl,hg,hc0',hc1'⟩;refine⟨true,rfl,?_⟩;have hb3:=zdt hb2 (by omega) hg;have keep:∀p:Addr,p.block<w1.heap.size→p.block≠w.heap.size+1→w2.cell? p=w1.cell? p:=fun p hp hne=>World.cell?_of_block (hg.block _ hp (by simpa using hne))
 have kfree:∀p:Addr,p.block<w1.heap.size→p.block≠w.heap.size+1→w2.frozen? p=w1.frozen? p:=fun p hp hne=>World.frozen?_of_block (hg.block _ hp (by simpa using hne))
 have hr0':=(keep ⟨w.heap.size,0,none⟩ (zd hr0) (by simp)).trans hr0;have hr1':=(keep ⟨w.heap.size,1,none⟩ (zd hr1) (by simp)).trans hr1;have hf0':=(kfree ⟨w.heap.size,0,none⟩ (zd hr0) (by simp)).trans hf0;have hf1':=(kfree ⟨w.heap.size,1,none⟩ (zd hr1) (by simp)).trans hf1;clear keep kfree hg hg0 hg1 hc0 hc1 hr0 hr1 hf0 hf1 hb hb2 hA hAs hz;go_wp2_with fail;exact bodyPost_ret (v:=.tuple #[.agg #[.int .i64 c,.int .i64 a],.bool true]) (by simp[results,Tryz.results62,go_sem,hr0',hr1']) rfl ⟨rfl,(hb3.setCell (p:=⟨w.heap.size,0,none⟩) (Nat.le_refl _) _).setCell (p:=⟨w.heap.size,1,none⟩) (Nat.le_refl _) _⟩
theorem zgr (s:ByteArray) (c a:Int) (w:World) (hD:Door w):
 Calls Tryz.prog 20 #[vt s c a] w fun e w'=>e=.returned (.int .i64 a)∧Below w.heap.size w w':=by
 have HC:=hid (zqw s c a w hD);clear hD;unfold vt at HC ⊢;go_enter Tryz.func20,Tryz.ntmps20;go_wp2_with fail;refine HC.out.mono ?_;rintro e w1 ⟨rfl,hb⟩;go_wp2_with fail;go_ret;exact⟨rfl,hb.alloc hb.size _⟩
theorem zjt (s:ByteArray) (c a:Int) (w:World):
 Calls Tryz.prog 81 #[.string s,.iface 112 (.agg #[.int .i64 c,.int .i64 a])] w fun e w'=>e=.returned (vt s c a)∧Below w.heap.size w w':=by
 go_enter Tryz.func81,Tryz.ntmps81;go_wp2;go_ret;exact⟨rfl,by first | exact Below.refl _ _ | exact(Below.refl _ _).alloc (Nat.le_refl _) _⟩
end
section
open Go.RowKit
theorem zju (w:World):Calls Tryz.prog 152 #[] w fun e w'=>e=.returned (.agg #[.int .u8 75,.int .u8 78,.int .u8 87,.int .u8 76])∧Below w.heap.size w w':=by
 go_enter Tryz.func152,Tryz.ntmps152;go_wp2;exact bodyPost_ret (v:=.agg #[.int .u8 75,.int .u8 78,.int .u8 87,.int .u8 76]) (by simp[results,Tryz.results152,go_sem]) rfl ⟨rfl,(Below.refl _ _).alloc (Nat.le_refl _) _⟩
def j9 (s:Iv) (x:Nat):Int:=if s.2<x then -1 else if x<s.1 then 1 else 0
theorem zjv (s:Iv) (x:Nat) (w:World):
 Calls Tryz.prog 259 #[ivV s,.int .u64 x] w fun e w'=>e=.returned (.int .i64 (j9 s x))∧Below w.heap.size w w':=by
 obtain⟨a,b⟩:=s;have hb:=(Below.refl w.heap.size w).alloc (Nat.le_refl _) (.cells #[.int .u64 a,.int .u64 b] 89);by_cases h1:b<x
 · have Hr:=hid (show j9 (a,b) x= -1 from by simp[j9,h1]);generalize j9 (a,b) x=r at*;go_enter Tryz.func259,Tryz.ntmps259;go_wp2;go_ret;exact⟨kw Hr.out.symm,hb⟩
 · by_cases h2:x<a
   · have Hr:=hid (show j9 (a,b) x=1 from by simp[j9,h1,h2]);generalize j9 (a,b) x=r at*;go_enter Tryz.func259,Tryz.ntmps259;go_wp2;go_ret;exact⟨kw Hr.out.symm,hb⟩
   · have Hr:=hid (show j9 (a,b) x=0 from by simp[j9,h1,h2]);generalize j9 (a,b) x=r at*;go_enter Tryz.func259,Tryz.ntmps259;go_wp2;go_ret;exact⟨kw Hr.out.symm,hb⟩
def fnd (l:List Iv) (x:Nat):Nat:=(l.takeWhile fun s=>decide (s.2<x)).length
theorem zjw:∀{l:List Iv} {x i:Nat},i≤l.length→(∀t,t<i→(zc l t).2<x)→(∀t,i≤t→t<l.length→¬(zc l t).2<x)→fnd l x=i
 | [],x,i,hi,_,_=>by simp at hi;subst hi;rfl
 | s :: l,x,i,hi,h1,h2=>by
   cases i with
   | zero=>
    have:=h2 0 (by omega) (by simp);have e:¬s.2<x:=this
    simp[fnd,e]
   | succ i=>
    have e:s.2<x:=h1 0 (by omega);have:=zjw (l:=l) (x:=x) (i:=i) (by simpa using hi) (fun t ht=>h1 (t+1) (by omega)) (fun t ht htl=>h2 (t+1) (by omega) (by simpa using htl));unfold fnd at this ⊢;rw[List.takeWhile_cons,if_pos (by simpa using e)];simpa using this
theorem zc0 {l:List Iv} (h:Good l) {i j:Nat} (hij:i<j) (hj:j<l.length):(zc l i).2+1<(zc l j).1:=by
 induction j with
 | zero=>omega
 | succ j ih=>
  have h1:=(za6 h (j+1) hj).2 (by omega);rw[Nat.add_sub_cancel] at h1;by_cases e:i=j
  · subst e;exact h1
  · have:=ih (by omega) (by omega);have:=(za6 h j (by omega)).1;omega
theorem zqx {l:List Iv} (h:Good l) {x i:Nat} (hi:i≤l.length) (h1:∀t,t<i→(zc l t).2<x) (h2:∀t,i≤t→t<l.length→¬(zc l t).2<x):
 mem l x=(decide (i<l.length) && decide ((zc l i).1≤x)):=by
 rw[Bool.eq_iff_iff,mem_iff];simp only[Bool.and_eq_true,decide_eq_true_iff];constructor
 · rintro⟨s,hs,k1,k2⟩;obtain⟨t,ht,rfl⟩:=List.getElem_of_mem hs;rw[←qo ht] at k1 k2
   have:i≤t:=by
    refine Nat.le_of_not_lt fun hlt=>?_
    have:=h1 t hlt;omega
   refine⟨by omega,?_⟩;by_cases e:i=t
   · subst e;exact k1
   · have:=zc0 h (i:=i) (j:=t) (by omega) ht;have:=(za6 h i (by omega)).1;omega
 · rintro⟨k1,k2⟩;exact⟨zc l i,za5 k1,k2,by have:=h2 i (Nat.le_refl _) k1;omega⟩
set_option maxRecDepth 20000 in
theorem zqy (a:Option Addr) (n cap x:Nat) (l:List Iv) (w:World) (hI:Ivs w a n cap l) (hG:Good l) (hn:n≤1000000):
 Calls Tryz.prog 258 #[.slice a n cap,.int .u64 x,.func (.func 259) #[] #[]] w fun e w'=>
  e=.returned (.tuple #[.int .i64 ((fnd l x:Nat):Int),.bool (mem l x)])∧Below w.heap.size w w':=by
 have HI:=hid hI;have HG:=hid hG;have Hl:=hid hI.len;clear hI hG;go_enter Tryz.func258,Tryz.ntmps258;go_wp2;go_loopw [9,10,11] (fun i j _ wr=>∃p q:Nat,p≤q∧q≤n∧i=.int .i64 p∧j=.int .i64 q∧Below w.heap.size w wr∧Hid ((∀t,t<p→(zc l t).2<x)∧∀t,q≤t→t<n→¬(zc l t).2<x)) (fun i j _ _=>(intOf j).toNat - (intOf i).toNat)
 case atStart=>exact⟨0,n,by omega,by omega,rfl,rfl,Below.refl _ _,fun t ht=>by omega,fun t h1 h2=>by omega⟩
 case round=>
  obtain⟨p,q,hpq,hqn,rfl,rfl,hb,ht⟩:=hrel;have Hb:=hid hb;clear hb;by_cases hlt:p<q
  · obtain⟨bb,oo,rfl,hcell⟩:=(HI.out.below Hb.out).cells (by omega);obtain⟨h,hh,hph,hhq⟩:∃h:Nat,((p:Int)+(q:Int)) / 2=(h:Int)∧p≤h∧h<q:=⟨(p+q) / 2,by omega,by omega,by omega⟩;have hhn:h<n:=by omega
    obtain⟨hc1,hc2⟩:=hcell h hhn;clear hcell;have hC:=hid (fun w=>zjv (zc l h) x w);have Hms:=hid (fun t (ht:t<h)=>zc0 HG.out ht (by rw[Hl.out];exact hhn));have Hms2:=hid (fun t (ht:h<t) (htl:t<n)=>zc0 HG.out ht (by rw[Hl.out];exact htl));have Hok:=hid (fun t (ht:t<n)=>(za6 HG.out t (by rw[Hl.out];exact ht)).1);by_cases hlx:(zc l h).2<x
    · have Hlx:=hid hlx;rw[show j9 (zc l h) x= -1 from by simp[j9,hlx]] at hC;clear hlx
      have Hr:=hid (show ∀t,t<h+1→(zc l t).2<x from by
       intro t htt;by_cases e:t=h
       · subst e;exact Hlx.out
       · have h1:=Hms.out t (by omega);have h2:=Hok.out h hhn;have h3:=Hlx.out;omega)
      generalize zc l h=s at*;go_wp2_with fail;refine(hC.out _).mono ?_;rintro e w1 ⟨rfl,hb1⟩;have Hb1:=hid (Hb.out.trans (hb1.mono Hb.out.size));clear hb1;clear hc1 hc2 hh;go_wp2_with fail;go_roundw
      case rel=>exact⟨h+1,q,by omega,by omega,by go_num,rfl,Hb1.out,Hr.out,ht.out.2⟩
      case measure=>simp[intOf];omega
    · have Hr:=hid (show ∀t,h≤t→t<n→¬(zc l t).2<x from by
       intro t htt htn;by_cases e:t=h
       · subst e;exact hlx
       · have h1:=Hms2.out t (by omega) htn;have h2:=Hok.out t htn;omega)
      have hcv:0≤j9 (zc l h) x:=by unfold j9;rw[if_neg hlx];split <;> omega
      generalize j9 (zc l h) x=cv at*;generalize zc l h=s at*;clear hlx;go_wp2_with fail;refine(hC.out _).mono ?_;rintro e w1 ⟨rfl,hb1⟩;have Hb1:=hid (Hb.out.trans (hb1.mono Hb.out.size));clear hb1;clear hc1 hc2 hh;go_wp2_with fail;go_roundw
      case rel=>exact⟨p,h,by omega,by omega,rfl,rfl,Hb1.out,ht.out.1,Hr.out⟩
      case measure=>simp[intOf];omega
  · obtain rfl:p=q:=by omega
    have Hf:=hid (zjw (l:=l) (x:=x) (i:=p) (by rw[Hl.out];exact hqn) ht.out.1 (fun t h1 h2=>ht.out.2 t h1 (by rw[←Hl.out];exact h2)));have Hm:=hid (zqx HG.out (x:=x) (i:=p) (by rw[Hl.out];exact hqn) ht.out.1 (fun t h1 h2=>ht.out.2 t h1 (by rw[←Hl.out];exact h2)));rw[Hl.out] at Hm;by_cases hpn:p<n
    · obtain⟨bb,oo,rfl,hcell⟩:=(HI.out.below Hb.out).cells (by omega);obtain⟨hc1,hc2⟩:=hcell p hpn;clear hcell;have hC:=hid (fun w=>zjv (zc l p) x w);have hnl:=ht.out.2 p (Nat.le_refl _) hpn;rw[decide_eq_true hpn,Bool.true_and] at Hm;by_cases hxs:(zc l p).1≤x
      · rw[decide_eq_true hxs] at Hm;rw[show j9 (zc l p) x=0 from by unfold j9;rw[if_neg hnl,if_neg (by omega)]] at hC;generalize zc l p=s at*;clear hnl hxs;go_wp2_with fail;refine(hC.out _).mono ?_;rintro e w1 ⟨rfl,hb1⟩;have Hb1:=hid (Hb.out.trans (hb1.mono Hb.out.size));clear hb1;clear hc1 hc2;go_wp2_with fail;go_ret2;exact⟨by rw[Hf.out,Hm.out];rfl,Hb1.out⟩
      · rw[decide_eq_false hxs] at Hm;rw[show j9 (zc l p) x=1 from by unfold j9;rw[if_neg hnl,if_pos (by omega)]] at hC;generalize zc l p=s at*;clear hnl hxs;go_wp2_with fail;refine(hC.out _).mono ?_;rintro e w1 ⟨rfl,hb1⟩;have Hb1:=hid (Hb.out.trans (hb1.mono Hb.out.size));clear hb1;clear hc1 hc2;go_wp2_with fail;go_ret2;exact⟨by rw[Hf.out,Hm.out];rfl,Hb1.out⟩
    · obtain rfl:p=n:=by omega
      rw[decide_eq_false hpn,Bool.false_and] at Hm;have hd:decide ((p:Int)<(p:Int))=false:=by simp
      go_wp2_with fail;go_ret2;exact⟨by rw[Hf.out,Hm.out];rfl,Hb.out⟩
def zc1 (l:List Iv) (x:Nat):Int:=if mem l x=true then ((fnd l x:Nat):Int) else -1
theorem zqz (a:Option Addr) (n cap x:Nat) (l:List Iv) (w:World) (hI:Ivs w a n cap l) (hG:Good l) (hn:n≤1000000):
 Calls Tryz.prog 225 #[.slice a n cap,.int .u64 x] w fun e w'=>e=.returned (.int .i64 (zc1 l x))∧Below w.heap.size w w':=by
 have hC:=hid (zqy a n cap x l w hI hG hn);clear hI hG;unfold zc1
 cases hm:mem l x with
 | true=>
  rw[hm] at hC;rw[if_pos rfl];clear hm;generalize fnd l x=f at*;go_enter Tryz.func225,Tryz.ntmps225;go_wp2_with fail;refine hC.out.mono ?_;rintro e w1 ⟨rfl,hb1⟩;go_wp2;go_ret
  exact⟨rfl,hb1⟩
 | false=>
  rw[hm] at hC;rw[if_neg (by simp)];clear hm;generalize fnd l x=f at*;go_enter Tryz.func225,Tryz.ntmps225;go_wp2_with fail;refine hC.out.mono ?_;rintro e w1 ⟨rfl,hb1⟩;go_wp2;go_ret;exact⟨rfl,hb1⟩
theorem zq0 (a:Option Addr) (n cap x:Nat) (l:List Iv) (w:World) (hI:Ivs w a n cap l) (hG:Good l) (hn:n≤1000000):
 Calls Tryz.prog 181 #[.slice a n cap,.int .u64 x] w fun e w'=>e=.returned (.bool (mem l x))∧Below w.heap.size w w':=by
 have hC:=hid (zqz a n cap x l w hI hG hn);clear hI hG
 cases h:mem l x with
 | true=>
  have hd:zc1 l x=((fnd l x:Nat):Int):=by unfold zc1;rw[if_pos h]
  rw[hd] at hC;clear h hd;generalize fnd l x=f at*;have hd:decide (0≤(f:Int))=true:=by rw[decide_eq_true_iff];omega
  go_enter Tryz.func181,Tryz.ntmps181;go_wp2_with fail;refine hC.out.mono ?_;rintro e w1 ⟨rfl,hb1⟩;go_wp2;go_ret
  exact⟨zi3 (by simp),hb1⟩
 | false=>
  have hd:zc1 l x= -1:=by unfold zc1;rw[if_neg (by rw[h];simp)]
  rw[hd] at hC;clear h hd;go_enter Tryz.func181,Tryz.ntmps181;go_wp2_with fail;refine hC.out.mono ?_;rintro e w1 ⟨rfl,hb1⟩;go_wp2;go_ret;exact⟨zi3 (by simp),hb1⟩
def qz (l:List Nat):List Value:=l.map fun x=>Value.int .i64 ((x:Nat):Int)
theorem zq1 (a b:List Nat):qz (a++b)=qz a++qz b:=by simp[qz]
theorem zq2 (l:List Nat):∀u∈qz l,u.oneCell'=true:=by
 intro u hu;simp only[qz,List.mem_map] at hu;obtain⟨x,_,rfl⟩:=hu
 rfl
structure I64s (w:World) (a:Option Addr) (n cap:Nat) (l:List Nat):Prop where
 len:l.length=n
 room:n≤cap
 most:cap≤9223372036854775807
 nilc:a=none→cap=0
 cells:0<n→∃b o,a=some ⟨b,o,none⟩∧∀i,i<n→w.cell? ⟨b,o+i,none⟩=some (.int .i64 ((nth l i:Nat):Int))
theorem I64s.below {w w':World} {a:Option Addr} {n cap:Nat} {l:List Nat} (h:I64s w a n cap l) (hb:Below w.heap.size w w'):I64s w' a n cap l:=by
 refine⟨h.len,h.room,h.most,h.nilc,fun hn=>?_⟩;obtain⟨b,o,ha,hc⟩:=h.cells hn;refine⟨b,o,ha,fun i hi=>?_⟩;have:=hc i hi;exact(hb.cell (p:=⟨b,o+i,none⟩) (zd this)).trans this
theorem Tryz.info_int:(Tryz.prog.info? 3).map (fun i=>(i.zero,i.size,i.bytes))=some (some (.int .i64 0),1,8):=by kernel_rfl
theorem zjx {w:World} (base:Nat) (v:Value) (n:Nat) (xs:List Nat) (hown:w.ownsRow base 3 1 v n (qz xs)) (A:Option Addr) (m c:Nat) (l:List Nat) (hr:Rd w 1 A m (qz l)) (hb:n+m≤1000000) (hbase:base≤w.heap.size):
 ∃v' w',(Builtin.append_ #[60,60] 60 #[v,.slice A m c]).run Tryz.prog w=.ok v' w'∧w'.ownsRow base 3 1 v' (n+m) (qz (xs++l))∧w.grownBy w' v.ownBlock:=by
 rw[zq1];exact zbu base _ _ _ _ 1 8 Tryz.underlying60 Tryz.info_int rfl (by omega) v n _ hown A m c _ hr (zq2 l) (by unfold maxLen;omega) (by omega) hbase
theorem zq3 {w:World} {ops:Array Oper} {rest:List Oper} {o:Oper} {a:Act} {Q:Exit→Act→World→Prop} (hgd:o.guard=none) (s x:Operand)
 (ho:o.op=.call { callee:=.builtin .append,args:= #[s,x],argTypes:= #[60,60] }) (hty:o.type=60)
 (base:Nat) (v:Value) (n:Nat) (xs:List Nat) (hs:a.eval s=v) (hown:w.ownsRow base 3 1 v n (qz xs)) (A:Option Addr) (m c:Nat) (l:List Nat) (hx:a.eval x=.slice A m c) (hr:Rd w 1 A m (qz l)) (hb:n+m≤1000000) (hbase:base≤w.heap.size)
 (h:∀v' w',w'.ownsRow base 3 1 v' (n+m) (qz (xs++l))→w.grownBy w' v.ownBlock→wpList Tryz.prog ops Q rest (a.put o.dst v') w'):wpList Tryz.prog ops Q (o :: rest) a w:=by
 obtain⟨v',w',hrun,h1,h2⟩:=zjx base v n xs hown A m c l hr hb hbase;exact yv _ _ _ ho (by simp[Region.wanted,hgd]) _ _ hs hx v' w' (by rw[hty];exact hrun) (h v' w' h1 h2)
abbrev vu:ByteArray:=⟨#[115,116,114,101,97,109]⟩
def zc2 (c a:Int):Value:=if c=0 then .nilIface else vt vu c a
theorem zjy (c a:Int) (w:World) (h:c≠0):Calls Tryz.prog 82 #[.int .i64 c,.int .i64 a] w fun e w'=>e=.returned (.iface 112 (.agg #[.int .i64 c,.int .i64 a]))∧w=w':=
 (zbh c a w).mono fun e w' ⟨h1,h2⟩=>⟨by rw[h1];unfold zcf;rw[if_neg h];rfl,h2⟩
theorem zjz {P:Program} {f:FuncId} {xs:Array Value} {w:World} {v:Value} (h:Calls P f xs w fun e w'=>e=.returned v∧w=w'):Calls P f xs w fun e w'=>e=.returned v∧Below w.heap.size w w':=
 h.mono fun e w' ⟨h1,h2⟩=>⟨h1,h2 ▸ Below.refl _ _⟩
