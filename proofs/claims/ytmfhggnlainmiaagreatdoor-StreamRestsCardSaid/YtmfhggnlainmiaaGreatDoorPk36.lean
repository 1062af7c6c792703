/- Part 36. -/
import Derived.Laws.BytesArg
import Derived.Test.YtmfhggnlainmiaaGreatDoorPk31
import Derived.Test.YtmfhggnlainmiaaGreatDoorPk32
set_option linter.unusedVariables false
set_option maxHeartbeats 16000000
namespace Go.Proofs.YtmfhggnlainmiaaGreatDoor
open Lib (hid)
section
open Go.RowKit
theorem ydo (x:Nat):4294967295 ^^^ (4294967295 ^^^ x)=x:=by rw[←Nat.xor_assoc,Nat.xor_self,Nat.zero_xor]
end
section
open Go.RowKit Go.Joins
theorem ydp (p:Addr) (s:Nat) (w:World) (hs:w.cell? p=some (.int .u32 s)) (hf:w.frozen? p=false):
 Calls Tryz.prog 169 #[.pointer (some p)] w fun e w'=>e=.returned (.tuple #[])∧w'=w.setCell p (.int .u32 0):=by
 obtain⟨b,o,sp⟩:=p;go_enter Tryz.func169,Tryz.ntmps169;go_wp2;go_end0
 exact⟨rfl,rfl⟩
theorem ydq (x y:List Nat):4294967295 ^^^ reg (4294967295 ^^^ sum x) y=sum (x++y):=by
 unfold sum;rw[ydo,zz9]
theorem ydr:(0:Nat)=sum []:=by simp[sum,reg]
end
section
open Go.RowKit Go.Extern.Stop Go.Stop Go.Extern
theorem yds (s:ByteArray) (c a:Int) (t A:Addr) (old:Value) (w:World) (hA:w.cell? A=some (.pointer (some t))) (ht:w.cell? t=some old) (hf:w.frozen? t=false):
 Calls Tryz.prog 118 #[.iface 176 (.agg #[.string s,.iface 110 (.agg #[.int .i64 c,.int .i64 a])]),.iface 131 (.pointer (some t)),.agg #[.pointer (some ⟨2,131,none⟩),.pointer (some A),.int .u64 150],.iface 272 (.agg #[.pointer (some ⟨2,27,none⟩)])] w
  fun e w'=>e=.returned (.bool true)∧w.grownBy w' (some t.block)∧w'.cell? t=some (.int .i64 c):=by
 have hTO:=@run_callFunc_extern Tryz.prog 179 _ ReflectliteType.typeOf Tryz.func179 (by kernel_rfl) (by kernel_rfl) (by kernel_rfl) (by kernel_rfl);have hAT:=@run_callFunc_extern Tryz.prog 374 _ (ReflectliteType.relation "AssignableTo" ReflectliteType.assignableTo) Tryz.func374 (by kernel_rfl) (by kernel_rfl) (by kernel_rfl) (by kernel_rfl);have hEl:=@run_callFunc_extern Tryz.prog 180 _ (ReflectliteValue.method (ReflectliteValue.valueError "reflectlite.Value.Elem" 0) ReflectliteValue.elem) Tryz.func180 (by kernel_rfl) (by kernel_rfl) (by kernel_rfl) (by kernel_rfl);have hVO:=@run_callFunc_extern Tryz.prog 115 _ (fun args=>ReflectliteValue.unpack (args.getD 0 (.tuple #[]))) Tryz.func115 (by kernel_rfl) (by kernel_rfl) (by kernel_rfl) (by kernel_rfl);have hSt:=@run_callFunc_extern Tryz.prog 181 _ ReflectliteValue.set Tryz.func181 (by kernel_rfl) (by kernel_rfl) (by kernel_rfl) (by kernel_rfl);have tO:=Tryz.typeOfE;have tO2:=Tryz.typeOfF;have tO3:=Tryz.typeOfN;have mA:=Tryz.methodAssignableTo;have aEE:=Tryz.assignableEE;have aFE:=Tryz.assignableFE;have aNE:=Tryz.assignableNE;have s1:=Tryz.asAsF;have s2:=Tryz.asUnF;have s3:=Tryz.asAsN;have s4:=Tryz.asUnN;have mU:=Tryz.methodUnF;have mN:=Tryz.methodUnN;have vE:=Tryz.valueOfE;have hAl:A.block<w.heap.size:=zf hA;have htl:t.block<w.heap.size:=zf ht
 have hA2:(((w.alloc (.cells #[.pointer (some ⟨2,131,none⟩),.pointer (some A),.int .u64 150] 184)).alloc (.cells #[.string s,.iface 110 (.agg #[.int .i64 c,.int .i64 a])] 176)).alloc (.cells #[.int .i64 c,.int .i64 a] 110)).cell? A=some (.pointer (some t)):=by
  rw[World.cell?_alloc_lt _ _ A (by simp;omega),World.cell?_alloc_lt _ _ A (by simp;omega),World.cell?_alloc_lt _ _ A hAl];exact hA
 have ht2:(((w.alloc (.cells #[.pointer (some ⟨2,131,none⟩),.pointer (some A),.int .u64 150] 184)).alloc (.cells #[.string s,.iface 110 (.agg #[.int .i64 c,.int .i64 a])] 176)).alloc (.cells #[.int .i64 c,.int .i64 a] 110)).cell? t=some old:=by
  rw[World.cell?_alloc_lt _ _ t (by simp;omega),World.cell?_alloc_lt _ _ t (by simp;omega),World.cell?_alloc_lt _ _ t htl];exact ht
 have hf2:(((w.alloc (.cells #[.pointer (some ⟨2,131,none⟩),.pointer (some A),.int .u64 150] 184)).alloc (.cells #[.string s,.iface 110 (.agg #[.int .i64 c,.int .i64 a])] 176)).alloc (.cells #[.int .i64 c,.int .i64 a] 110)).frozen? t=false:=by
  rw[World.frozen?_alloc_old _ _ t (by simp;omega),World.frozen?_alloc_old _ _ t (by simp;omega),World.frozen?_alloc_old _ _ t (Nat.ne_of_lt htl)];exact hf
 have el:=Tryz.elemVPE A t (((w.alloc (.cells #[.pointer (some ⟨2,131,none⟩),.pointer (some A),.int .u64 150] 184)).alloc (.cells #[.string s,.iface 110 (.agg #[.int .i64 c,.int .i64 a])] 176)).alloc (.cells #[.int .i64 c,.int .i64 a] 110)) hA2
 have st:=Tryz.setE t ⟨w.heap.size+1+1+1,0,none⟩ c old ((((w.alloc (.cells #[.pointer (some ⟨2,131,none⟩),.pointer (some A),.int .u64 150] 184)).alloc (.cells #[.string s,.iface 110 (.agg #[.int .i64 c,.int .i64 a])] 176)).alloc (.cells #[.int .i64 c,.int .i64 a] 110)).alloc (.cells #[.int .i64 c] 27))
  (by rw[World.cell?_alloc_at _ _ _ _ (by simp)];rfl)
  (by rw[World.cell?_alloc_lt _ _ t (by simp;omega)];exact ht2)
  (by rw[World.frozen?_alloc_old _ _ t (by simp;omega)];exact hf2)
 have hc2:(((((w.alloc (.cells #[.pointer (some ⟨2,131,none⟩),.pointer (some A),.int .u64 150] 184)).alloc (.cells #[.string s,.iface 110 (.agg #[.int .i64 c,.int .i64 a])] 176)).alloc (.cells #[.int .i64 c,.int .i64 a] 110)).alloc (.cells #[.int .i64 c] 27)).setCell t (.int .i64 c)).cell? t=some (.int .i64 c):=
  World.cell?_setCell_same _ _ _ (by rw[World.cell?_alloc_lt _ _ t (by simp;omega)];exact ht2)
 have Hc2:=hid hc2;clear hc2 hA2 ht2 hf2;go_enter Tryz.func118,Tryz.ntmps118;go_wp2;refine wp_loop_rounds 3 ?_;rw[rounds_succ];go_wp2_with fail;refine(zpa s _ _).mono ?_;rintro e w' ⟨rfl,rfl⟩;go_wp2_with fail;rw[rounds_succ];go_wp2_with fail;refine(zk5 c a _).mono ?_;rintro e w' ⟨rfl,rfl⟩;go_wp2_with fail;rw[rounds_succ];go_wp2_with fail;go_ret;exact⟨rfl,zw (zw (zw (zw (World.grownBy_alloc _ _ _) (World.grownBy_alloc _ _ _)) (World.grownBy_alloc _ _ _)) (World.grownBy_alloc _ _ _)) (zfq _ _ _),Hc2.out⟩
theorem ydt (s:ByteArray) (c a:Int) (tb:Nat) (A:Addr) (o1 o2:Value) (w:World) (hA:w.cell? A=some (.pointer (some ⟨tb,0,none⟩))) (ht0:w.cell? ⟨tb,0,none⟩=some o1) (ht1:w.cell? ⟨tb,1,none⟩=some o2)
 (hf0:w.frozen? ⟨tb,0,none⟩=false) (hf1:w.frozen? ⟨tb,1,none⟩=false):
 Calls Tryz.prog 118 #[.iface 176 (.agg #[.string s,.iface 110 (.agg #[.int .i64 c,.int .i64 a])]),.iface 116 (.pointer (some ⟨tb,0,none⟩)),.agg #[.pointer (some ⟨2,116,none⟩),.pointer (some A),.int .u64 150],.iface 272 (.agg #[.pointer (some ⟨2,110,none⟩)])] w
  fun e w'=>e=.returned (.bool true)∧w.grownBy w' (some tb)∧w'.cell? ⟨tb,0,none⟩=some (.int .i64 c)∧w'.cell? ⟨tb,1,none⟩=some (.int .i64 a):=by
 have hTO:=@run_callFunc_extern Tryz.prog 179 _ ReflectliteType.typeOf Tryz.func179 (by kernel_rfl) (by kernel_rfl) (by kernel_rfl) (by kernel_rfl);have hAT:=@run_callFunc_extern Tryz.prog 374 _ (ReflectliteType.relation "AssignableTo" ReflectliteType.assignableTo) Tryz.func374 (by kernel_rfl) (by kernel_rfl) (by kernel_rfl) (by kernel_rfl);have hEl:=@run_callFunc_extern Tryz.prog 180 _ (ReflectliteValue.method (ReflectliteValue.valueError "reflectlite.Value.Elem" 0) ReflectliteValue.elem) Tryz.func180 (by kernel_rfl) (by kernel_rfl) (by kernel_rfl) (by kernel_rfl);have hVO:=@run_callFunc_extern Tryz.prog 115 _ (fun args=>ReflectliteValue.unpack (args.getD 0 (.tuple #[]))) Tryz.func115 (by kernel_rfl) (by kernel_rfl) (by kernel_rfl) (by kernel_rfl);have hSt:=@run_callFunc_extern Tryz.prog 181 _ ReflectliteValue.set Tryz.func181 (by kernel_rfl) (by kernel_rfl) (by kernel_rfl) (by kernel_rfl);have tO:=Tryz.typeOfF;have tN:=Tryz.typeOfN;have mA:=Tryz.methodAssignableTo;have aFF:=Tryz.assignableFF;have aNF:=Tryz.assignableNF;have s3:=Tryz.asAsN;have s4:=Tryz.asUnN;have mN:=Tryz.methodUnN;have vF:=Tryz.valueOfF;have hAl:A.block<w.heap.size:=zf hA;have htl:tb<w.heap.size:=zf ht0;have el:=Tryz.elemVPF A ⟨tb,0,none⟩ ((w.alloc (.cells #[.pointer (some ⟨2,116,none⟩),.pointer (some A),.int .u64 150] 184)).alloc (.cells #[.string s,.iface 110 (.agg #[.int .i64 c,.int .i64 a])] 176)) (by rw[World.cell?_alloc_lt _ _ A (by simp;omega),World.cell?_alloc_lt _ _ A hAl];exact hA);have h0:(((w.alloc (.cells #[.pointer (some ⟨2,116,none⟩),.pointer (some A),.int .u64 150] 184)).alloc (.cells #[.string s,.iface 110 (.agg #[.int .i64 c,.int .i64 a])] 176)).alloc (.cells #[.int .i64 c,.int .i64 a] 110)).cell? ⟨tb,0,none⟩=some o1:=by rw[World.cell?_alloc_lt _ _ ⟨tb,0,none⟩ (by simp;omega),World.cell?_alloc_lt _ _ ⟨tb,0,none⟩ (by simp;omega),World.cell?_alloc_lt _ _ ⟨tb,0,none⟩ htl];exact ht0
 have h1:(((w.alloc (.cells #[.pointer (some ⟨2,116,none⟩),.pointer (some A),.int .u64 150] 184)).alloc (.cells #[.string s,.iface 110 (.agg #[.int .i64 c,.int .i64 a])] 176)).alloc (.cells #[.int .i64 c,.int .i64 a] 110)).cell? ⟨tb,1,none⟩=some o2:=by rw[World.cell?_alloc_lt _ _ ⟨tb,1,none⟩ (by simp;omega),World.cell?_alloc_lt _ _ ⟨tb,1,none⟩ (by simp;omega),World.cell?_alloc_lt _ _ ⟨tb,1,none⟩ htl];exact ht1
 have g0:(((w.alloc (.cells #[.pointer (some ⟨2,116,none⟩),.pointer (some A),.int .u64 150] 184)).alloc (.cells #[.string s,.iface 110 (.agg #[.int .i64 c,.int .i64 a])] 176)).alloc (.cells #[.int .i64 c,.int .i64 a] 110)).frozen? ⟨tb,0,none⟩=false:=by rw[World.frozen?_alloc_old _ _ ⟨tb,0,none⟩ (by simp;omega),World.frozen?_alloc_old _ _ ⟨tb,0,none⟩ (by simp;omega),World.frozen?_alloc_old _ _ ⟨tb,0,none⟩ (Nat.ne_of_lt htl)];exact hf0
 have g1:(((w.alloc (.cells #[.pointer (some ⟨2,116,none⟩),.pointer (some A),.int .u64 150] 184)).alloc (.cells #[.string s,.iface 110 (.agg #[.int .i64 c,.int .i64 a])] 176)).alloc (.cells #[.int .i64 c,.int .i64 a] 110)).frozen? ⟨tb,1,none⟩=false:=by rw[World.frozen?_alloc_old _ _ ⟨tb,1,none⟩ (by simp;omega),World.frozen?_alloc_old _ _ ⟨tb,1,none⟩ (by simp;omega),World.frozen?_alloc_old _ _ ⟨tb,1,none⟩ (Nat.ne_of_lt htl)];exact hf1
 have st:=Tryz.setF tb (w.heap.size+1+1) c a o1 o2 (((w.alloc (.cells #[.pointer (some ⟨2,116,none⟩),.pointer (some A),.int .u64 150] 184)).alloc (.cells #[.string s,.iface 110 (.agg #[.int .i64 c,.int .i64 a])] 176)).alloc (.cells #[.int .i64 c,.int .i64 a] 110)) (by rw[World.cell?_alloc_at _ _ _ _ (by simp)];rfl) (by rw[World.cell?_alloc_at _ _ _ _ (by simp)];rfl) h0 h1 g0 g1
 have hc0:(((((w.alloc (.cells #[.pointer (some ⟨2,116,none⟩),.pointer (some A),.int .u64 150] 184)).alloc (.cells #[.string s,.iface 110 (.agg #[.int .i64 c,.int .i64 a])] 176)).alloc (.cells #[.int .i64 c,.int .i64 a] 110)).setCell ⟨tb,0,none⟩ (.int .i64 c)).setCell ⟨tb,1,none⟩ (.int .i64 a)).cell? ⟨tb,0,none⟩=some (.int .i64 c):=by
  rw[World.cell?_setCell_other _ _ _ _ (by simp)];exact World.cell?_setCell_same _ _ _ h0
 have hc1:(((((w.alloc (.cells #[.pointer (some ⟨2,116,none⟩),.pointer (some A),.int .u64 150] 184)).alloc (.cells #[.string s,.iface 110 (.agg #[.int .i64 c,.int .i64 a])] 176)).alloc (.cells #[.int .i64 c,.int .i64 a] 110)).setCell ⟨tb,0,none⟩ (.int .i64 c)).setCell ⟨tb,1,none⟩ (.int .i64 a)).cell? ⟨tb,1,none⟩=some (.int .i64 a):=
  World.cell?_setCell_same _ _ _ (by rw[World.cell?_setCell_other _ _ _ _ (by simp)];exact h1)
 have Hc0:=hid hc0;clear hc0 h0 h1 g0 g1;have Hc1:=hid hc1;clear hc1;go_enter Tryz.func118,Tryz.ntmps118;go_wp2;refine wp_loop_rounds 2 ?_;rw[rounds_succ];go_wp2_with fail;refine(zpa s _ _).mono ?_;rintro e w' ⟨rfl,rfl⟩;go_wp2_with fail;rw[rounds_succ];go_wp2_with fail;go_ret;exact⟨rfl,zw (zw (zw (zw (World.grownBy_alloc _ _ _) (World.grownBy_alloc _ _ _)) (World.grownBy_alloc _ _ _)) (zfq _ ⟨tb,0,none⟩ _)) (zfq _ ⟨tb,1,none⟩ _),Hc0.out,Hc1.out⟩
theorem ydu (s:ByteArray) (c a:Int) (w:World) (hD:Door w):
 Calls Tryz.prog 31 #[zcs s c a] w fun e w'=>e=.returned (.int .i64 c)∧Below w.heap.size w w':=by
 have hD':=hid (fun o=>hD.below (Nat.le_refl _) ((Below.refl _ w).alloc (Nat.le_refl _) o));clear hD;unfold zcs;go_enter Tryz.func31,Tryz.ntmps31;go_wp2_with fail;refine zno _ _ _ _ (hD'.out _) (by simp) _ ?_;intro w1 A hb hA hAs;have hb2:Below w.heap.size w w1:=((Below.refl _ _).alloc (Nat.le_refl _) _).trans (hb.mono (by simp));have hc:w1.cell? ⟨w.heap.size,0,none⟩=some (.int .i64 0):=by rw[hb.cell (p:=⟨w.heap.size,0,none⟩) (by simp)];simp
 have hf:w1.frozen? ⟨w.heap.size,0,none⟩=false:=by rw[hb.frozen (p:=⟨w.heap.size,0,none⟩) (by simp)];simp
 refine(yds s c a ⟨w.heap.size,0,none⟩ A _ w1 hA hc hf).mono ?_;rintro e w2 ⟨rfl,hg,hc2⟩;refine⟨true,rfl,?_⟩;have hb3:=zis hb2 (Nat.le_refl _) hg;clear hg hc hf hb hb2 hA hAs;go_wp2_with fail;go_ret;exact⟨rfl,hb3⟩
theorem ydv (s:ByteArray) (c a:Int) (w:World) (hD:Door w):
 Calls Tryz.prog 65 #[zcs s c a] w fun e w'=>e=.returned (.tuple #[.agg #[.int .i64 c,.int .i64 a],.bool true])∧Below w.heap.size w w':=by
 have hD':=hid (fun o1 o2=>hD.below (Nat.le_refl _) (((Below.refl _ w).alloc (Nat.le_refl _) o1).alloc (by simp) o2));clear hD;unfold zcs;go_enter Tryz.func65,Tryz.ntmps65;go_wp2_with fail;refine znp _ _ _ _ (hD'.out _ _) (by simp) _ ?_;intro w1 A hb hA hAs;have hb2:Below w.heap.size w w1:=(((Below.refl _ _).alloc (Nat.le_refl _) _).alloc (by simp) _).trans (hb.mono (by simp;omega));have hz:=hb.size;have hc0:w1.cell? ⟨w.heap.size+1,0,none⟩=some (.int .i64 0):=by rw[hb.cell (p:=⟨w.heap.size+1,0,none⟩) (by simp)];go_simp
 have hc1:w1.cell? ⟨w.heap.size+1,1,none⟩=some (.int .i64 0):=by rw[hb.cell (p:=⟨w.heap.size+1,1,none⟩) (by simp)];go_simp
 have hg0:w1.frozen? ⟨w.heap.size+1,0,none⟩=false:=by rw[hb.frozen (p:=⟨w.heap.size+1,0,none⟩) (by simp)];go_simp
 have hg1:w1.frozen? ⟨w.heap.size+1,1,none⟩=false:=by rw[hb.frozen (p:=⟨w.heap.size+1,1,none⟩) (by simp)];go_simp
 have hr0:w1.cell? ⟨w.heap.size,0,none⟩=some (.int .i64 0):=by rw[hb.cell (p:=⟨w.heap.size,0,none⟩) (by simp;omega)];go_simp
 have hr1:w1.cell? ⟨w.heap.size,1,none⟩=some (.int .i64 0):=by rw[hb.cell (p:=⟨w.heap.size,1,none⟩) (by simp;omega)];go_simp
 have hf0:w1.frozen? ⟨w.heap.size,0,none⟩=false:=by rw[hb.frozen (p:=⟨w.heap.size,0,none⟩) (by simp;omega)];go_simp
 have hf1:w1.frozen? ⟨w.heap.size,1,none⟩=false:=by rw[hb.frozen (p:=⟨w.heap.size,1,none⟩) (by simp;omega)];go_simp
 refine(ydt s c a (w.heap.size+1) A _ _ w1 hA hc0 hc1 hg0 hg1).mono ?_;rintro e w2 ⟨rfl,hg,hc0',hc1'⟩;refine⟨true,rfl,?_⟩;have hb3:=zis hb2 (by omega) hg;have keep:∀p:Addr,p.block<w1.heap.size→p.block≠w.heap.size+1→w2.cell? p=w1.cell? p:=fun p hp hne=>World.cell?_of_block (hg.block _ hp (by simpa using hne))
 have kfree:∀p:Addr,p.block<w1.heap.size→p.block≠w.heap.size+1→w2.frozen? p=w1.frozen? p:=fun p hp hne=>World.frozen?_of_block (hg.block _ hp (by simpa using hne))
 have hr0':=(keep ⟨w.heap.size,0,none⟩ (zf hr0) (by simp)).trans hr0;have hr1':=(keep ⟨w.heap.size,1,none⟩ (zf hr1) (by simp)).trans hr1;have hf0':=(kfree ⟨w.heap.size,0,none⟩ (zf hr0) (by simp)).trans hf0;have hf1':=(kfree ⟨w.heap.size,1,none⟩ (zf hr1) (by simp)).trans hf1;clear keep kfree hg hg0 hg1 hc0 hc1 hr0 hr1 hf0 hf1 hb hb2 hA hAs hz;go_wp2_with fail;exact bodyPost_ret (v:=.tuple #[.agg #[.int .i64 c,.int .i64 a],.bool true]) (by simp[results,Tryz.results65,go_sem,hr0',hr1']) rfl ⟨rfl,(hb3.setCell (p:=⟨w.heap.size,0,none⟩) (Nat.le_refl _) _).setCell (p:=⟨w.heap.size,1,none⟩) (Nat.le_refl _) _⟩
theorem ydw (s:ByteArray) (c a:Int) (w:World) (hD:Door w):
 Calls Tryz.prog 23 #[zcs s c a] w fun e w'=>e=.returned (.int .i64 a)∧Below w.heap.size w w':=by
 have HC:=hid (ydv s c a w hD);clear hD;unfold zcs at HC ⊢;go_enter Tryz.func23,Tryz.ntmps23;go_wp2_with fail;refine HC.out.mono ?_;rintro e w1 ⟨rfl,hb⟩;go_wp2_with fail;go_ret;exact⟨rfl,hb.alloc hb.size _⟩
end
section
open Go.RowKit
abbrev zh0:ByteArray:=⟨#[115,116,114,101,97,109]⟩
def zkf (c a:Int):Value:=if c=0 then .nilIface else zcs zh0 c a
theorem z1a {P:Program} {f:FuncId} {xs:Array Value} {w:World} {v:Value} (h:Calls P f xs w fun e w'=>e=.returned v∧w=w'):Calls P f xs w fun e w'=>e=.returned v∧Below w.heap.size w w':=
 h.mono fun e w' ⟨h1,h2⟩=>⟨h1,h2 ▸ Below.refl _ _⟩
end
section
theorem zs9 {l:List Nat} (u:List Nat) {L:zc} {ks:List Kno} {es:List Nat} {e:Nat×Nat} (h:kq l L ks es e) (he:e.1≠0):kq (l++u) L ks es e:=by
 obtain⟨q,a,b⟩:=h;refine⟨q,zl4 u a,?_⟩;rcases z0o l u L q with h1 | h1
 · rw[b] at h1;injection h1 with h1;rw[h1] at he;exact absurd rfl he
 · rw[h1];exact b
end
section
open Go.RowKit
attribute [local go_sem] y9
theorem TwoM.grown {w wr w':World} {base g:Nat} {o E:Value} {ks:List Kno} {es:List Nat} {T:TypeId} {C:List Value} (h:TwoM w wr base o E ks es) (hr:Row wr g T C) (hT:¬jw T) (h1:T≠48) (h2:T≠3) (hg:wr.grownBy w' (some g)) (hgb:w.heap.size≤g):TwoM w w' base o E ks es:=by
 obtain⟨Ks,k1,k2⟩:=h.kn
 exact⟨h.lo,Nat.le_trans h.hi hg.size,⟨Ks,vh k1 fun j hj=>hg.block j (k1.lt j hj).2 (fun e=>by injection e with e;exact hr.ne_own k1 h1 j hj e),k2.steady (zhm (hr.notT hT) (Nat.zero_le _) hg)⟩,
  vh h.en fun j hj=>hg.block j (h.en.lt j hj).2 (fun e=>by injection e with e;exact hr.ne_own h.en h2 j hj e),zfw h.gr hg fun k hk=>by injection hk with hk;omega⟩
end
section
theorem zkg (L:zc) (s:Dc) (c:Nat) (l:List Nat):yk L s (c :: l)=yk L (if s.st=4 then s else jr L s c) l:=rfl
theorem zta (L:zc) (s:Dc) (l u:List Nat):yk L s (l++u)=yk L (yk L s l) u:=List.foldl_append
theorem zl6 (L:zc) (s:Dc) (h:s.st=4):∀l,yk L s l=s
 | []=>rfl
 | c :: l=>by rw[zkg,if_pos h];exact zl6 L s h l
theorem z1b {l:List Nat} {i:Nat} (h:i<l.length):l[i]?=some (nth l i):=by
 unfold nth;rw[List.getElem?_eq_getElem h,List.getD_eq_getElem?_getD,List.getElem?_eq_getElem h]
 rfl
theorem ydx (L:zc) (s:Dc) {l:List Nat} {i:Nat} (h:i<l.length):yk L s (l.take (i+1))=if (yk L s (l.take i)).st=4 then yk L s (l.take i) else jr L (yk L s (l.take i)) (nth l i):=by
 rw[List.take_add_one,zta,z1b h]
 rfl
theorem ydy (L:zc) (s:Dc) {l:List Nat} {i:Nat} (h:(yk L s (l.take i)).st=4):yk L s l=yk L s (l.take i):=by
 conv=>lhs;rw[←List.take_append_drop i l,zta]
 exact zl6 L _ h _
theorem z1c {t:WS} {E q:Nat} {e:Nat×Nat} (h:zbn E t q=.error e):e.1≤20:=by
 unfold zbn at h;split at h
 · cases h;simp
 · split at h
   · cases h;simp
   · cases h
theorem zpb (x:Nat) (lim:Int) (rest:Nat):ql x lim rest≤20:=by
 unfold ql;split
 · decide
 · split <;> decide
theorem ydz {le lh:Int} {s:PS} {x rest c:Nat} (h:jm le lh s x rest=.error c):c≤20:=by
 unfold jm at h;split at h
 · split at h
   · cases h;exact zpb _ _ _
   · split at h
     · cases h;simp
     · cases h
 · split at h
   · cases h;simp
   · cases h
 · cases h
 · split at h
   · cases h;exact zpb _ _ _
   · cases h
 · split at h
   · cases h;simp
   · cases h
 · split at h
   · cases h
   · cases h;simp
theorem yd0 {E:Nat} {L:zc} {w:WS} {x p q:Nat} {e:Nat×Nat} (h:jd E L w x p q=.error e):e.1≤20:=by
 unfold jd at h;split at h
 · split at h
   · cases h;exact zpb _ _ _
   · split at h <;> cases h
 · split at h
   · rename_i hi;cases h;exact ydz hi
   · split at h
     · split at h
       · cases h;simp
       · split at h <;> cases h
     · cases h
 · split at h
   · cases h;exact zpb _ _ _
   · split at h
     · exact z1c h
     · cases h
 · split at h
   · split at h
     · cases h;simp
     · cases h
   · split at h
     · cases h
     · cases h;simp
   · split at h
     · cases h;simp
     · split at h
       · cases h;simp
       · split at h
         · exact z1c h
         · cases h
 · cases h
theorem ztb (s:Dc) (h:s.vc≤20):s.void.vc≤20:=by unfold Dc.void;split;exact(by decide:5≤20);exact h
theorem zh1 (s:Dc):s.void.sn=s.sn:=by unfold Dc.void;split <;> rfl
theorem ztc (s:Dc):s.void.tk=s.tk:=by unfold Dc.void;split <;> rfl
theorem ztd (s:Dc):s.void.fin=s.fin:=by unfold Dc.void;split <;> rfl
theorem yd1 (s:Dc) (r:Except (Nat×Nat) WS) (h:s.vc≤20) (hr:∀e,r=.error e→e.1≤20):(s.put r).vc≤20:=by
 unfold Dc.put;split
 · rename_i e;exact hr e rfl
 · split
   · exact h
   · exact ztb _ h
theorem z1d (s:Dc) (r:Except (Nat×Nat) WS):(s.put r).sn=s.sn+1∧(s.put r).tk=s.tk∧(s.put r).fin=s.fin∧(s.put r).out=s.out:=by
 unfold Dc.put;split
 · exact⟨rfl,rfl,rfl,rfl⟩
 · split
   · exact⟨rfl,rfl,rfl,rfl⟩
   · rw[zh1,ztc,ztd,zfe];exact⟨rfl,rfl,rfl,rfl⟩
theorem z1e (L:zc) (s:Dc) (c:Nat) (hv:s.vc≤20):(jr L s c).vc≤20∧(jr L s c).sn≤s.sn+2∧s.sn+1≤(jr L s c).sn∧(jr L s c).tk=s.tk+1∧
 (((jr L s c).out=s.out∧(jr L s c).fin=s.fin)∨((jr L s c).out.length=s.out.length+1∧(jr L s c).fin=s.tk+1)):=by
 unfold jr;split
 · unfold zbe;split
   · refine⟨?_,Nat.le_succ _,Nat.le_refl _,rfl,.inl ⟨rfl,rfl⟩⟩;show (if s.hd=4 then 13 else 12)≤20;split <;> decide
   · split
     · exact⟨hv,Nat.le_succ _,Nat.le_refl _,rfl,.inl ⟨rfl,rfl⟩⟩
     · exact⟨hv,Nat.le_succ _,Nat.le_refl _,rfl,.inl ⟨rfl,rfl⟩⟩
 · unfold za6;split
   · exact⟨hv,Nat.le_succ _,Nat.le_refl _,rfl,.inl ⟨rfl,rfl⟩⟩
   · split
     · exact⟨(by decide:7≤20),Nat.le_refl _,Nat.le_succ _,rfl,.inl ⟨rfl,rfl⟩⟩
     · refine⟨ztb _ hv,by rw[zh1];exact Nat.le_refl _,by rw[zh1];exact Nat.le_succ _,by rw[ztc];rfl,.inl ⟨by rw[zfe];rfl,by rw[ztd];rfl⟩⟩
   · exact⟨(by decide:6≤20),Nat.le_succ _,Nat.le_refl _,rfl,.inl ⟨rfl,rfl⟩⟩
 · unfold zbf;split
   · exact⟨ztb _ hv,by rw[zh1];exact Nat.le_succ _,by rw[zh1];exact Nat.le_refl _,by rw[ztc];rfl,.inl ⟨by rw[zfe];rfl,by rw[ztd];rfl⟩⟩
   · obtain⟨h1,h2,h3,h4⟩:=z1d ((zu s).took c) (jd ((zu s).tk+((zu s).left - 1)) L (zu s).ws (y8 (zu s).nx (zu s).nn c) (zu s).frm (zu s).tk);exact⟨yd1 _ _ hv fun e he=>yd0 he,by rw[h1];exact Nat.le_refl _,by rw[h1];exact Nat.le_succ _,by rw[h2];rfl,.inl ⟨by rw[h4];rfl,by rw[h3];rfl⟩⟩
   · exact⟨(by decide:6≤20),Nat.le_succ _,Nat.le_refl _,rfl,.inl ⟨rfl,rfl⟩⟩
 · unfold zbw;split
   · exact⟨hv,Nat.le_succ _,Nat.le_refl _,rfl,.inl ⟨rfl,rfl⟩⟩
   · split
     · exact⟨Nat.zero_le _,Nat.le_refl _,Nat.le_succ _,rfl,.inr ⟨List.length_append,rfl⟩⟩
     · exact⟨(by decide:14≤20),Nat.le_succ _,Nat.le_refl _,rfl,.inl ⟨rfl,rfl⟩⟩
theorem zi7 (L:zc):∀(l:List Nat) (s:Dc),s.vc≤20→(yk L s l).vc≤20∧(yk L s l).sn≤s.sn+2*l.length∧s.sn≤(yk L s l).sn∧(yk L s l).tk≤s.tk+l.length
 | [],s,h=>⟨h,Nat.le_refl _,Nat.le_refl _,Nat.le_refl _⟩
 | c :: l,s,h=>by
   rw[zkg,List.length_cons];split
   · obtain⟨a,b,d,e⟩:=zi7 L l s h;exact⟨a,by omega,d,by omega⟩
   · obtain⟨a1,b1,d1,e1,-⟩:=z1e L s c h;obtain⟨a,b,d,e⟩:=zi7 L l (jr L s c) a1;exact⟨a,by omega,by omega,by omega⟩
theorem zl7 (L:zc):∀(l:List Nat) (s:Dc),s.vc≤20→(yk L s l).out.length≤s.out.length+l.length
 | [],s,h=>Nat.le_refl _
 | c :: l,s,h=>by
   rw[zkg,List.length_cons];split
   · have:=zl7 L l s h;omega
   · obtain⟨a1,-,-,-,e1⟩:=z1e L s c h;have:=zl7 L l (jr L s c) a1;rcases e1 with ⟨e1,-⟩ | ⟨e1,-⟩
     · rw[e1] at this;omega
     · omega
theorem zl8 {L:zc} {t u l:List Nat} {s:Dc} {ks:List Kno} {es:List Nat} (e:t++u=l) (h:SI L t s ks es) (hu:s.st<4→u=[]):kq l L ks es (s.vc,s.vo):=by
 have hp:=h.parsV;by_cases h4:s.st=4
 · rw[←e];exact zs9 u hp (h.bad h4).2.1
 · have:=h.st;rw[hu (by omega),List.append_nil] at e;rw[←e];exact hp
end
section
open Go.RowKit
attribute [local go_sem] y9 Tryz.eqGuard_if
theorem zpc {L:zc} {t u pre c t5 u5:List Nat} {s:Dc} {ks ks5:List Kno} {es es5:List Nat} (h:t++u=pre) (hu:s.st<4→u=[]) (hS:SI L t s ks es)
 (h5:t5++u5=t++c) (hu5:(yk L { s with out:=[],sn:=0 } c).st<4→u5=[]) (hS5:SI L t5 (yk L { s with out:=[],sn:=0 } c) ks5 es5):
 ∃v,t5++v=pre++c∧((yk L { s with out:=[],sn:=0 } c).st<4→v=[]):=by
 by_cases h4:s.st=4
 · have hst:=zl6 L { s with out:=[],sn:=0 } h4 c;rw[hst] at hS5;have hlen:t5.length=t.length:=by rw[←hS5.tk,←hS.tk]
   obtain⟨e1,-⟩:=List.append_inj h5 hlen;subst e1;refine⟨u++c,by rw[←List.append_assoc,h],fun h'=>?_⟩;rw[hst] at h';have h':s.st<4:=h';omega
 · have hs:=hS.st;rw[hu (by omega),List.append_nil] at h;subst h;exact⟨u5,h5,hu5⟩
end
section
open Go.RowKit
abbrev DcQ (w:World) (d:Nat) (L:zc) (s:Dc) (vp:Option Addr) (y:Value) (e:Ending) (w':World):Prop:=e=.returned (.tuple #[])∧w.grownBy w' (some d)∧DcR w' d L s vp y
theorem zh2 {w:World} {d:Nat} {L:zc} {s:Dc} {vp:Option Addr} {y:Value} (h:DcR w d L s vp y) (c o:Nat):Calls Tryz.prog 165 #[.pointer (some ⟨d,0,none⟩),.int .i64 (c:Int),.int .i64 (o:Int)] w (DcQ w d L (s.bad c o) vp y):=by
 have H:=hid (show DcR (((w.setCell ⟨d,5,none⟩ (.int .i64 4)).setCell ⟨d,21,none⟩ (.int .i64 (c:Int))).setCell ⟨d,22,none⟩ (.int .i64 (o:Int))) d L (s.bad c o) vp y from((Row.set h 5 _).set 21 _).set 22 _);have c5:=Row.cell h 5 rfl;have c21:=Row.cell h 21 rfl;have c22:=Row.cell h 22 rfl;have f5:=Row.fz h 5;have f21:=Row.fz h 21;have f22:=Row.fz h 22;clear h;go_enter Tryz.func165,Tryz.ntmps165;go_wp2;go_end0
 exact⟨rfl,zw (zw (qh w d 5 _) (qh _ d 21 _)) (qh _ d 22 _),H.out⟩
theorem yd2 {w:World} {d:Nat} {L:zc} {s:Dc} {vp:Option Addr} {y:Value} (h:DcR w d L s vp y):Calls Tryz.prog 234 #[.pointer (some ⟨d,7,none⟩)] w (DcQ w d L { s with nx:=0,nn:=0,ns:=0 } vp y):=by
 have H:=hid (show DcR (((w.setCell ⟨d,7,none⟩ (.int .u64 0)).setCell ⟨d,8,none⟩ (.int .i64 0)).setCell ⟨d,9,none⟩ (.int .i64 0)) d L { s with nx:=0,nn:=0,ns:=0 } vp y from((Row.set h 7 _).set 8 _).set 9 _);have c5:=Row.cell h 7 rfl;have c21:=Row.cell h 8 rfl;have c22:=Row.cell h 9 rfl;have f5:=Row.fz h 7;have f21:=Row.fz h 8;have f22:=Row.fz h 9;clear h;go_enter Tryz.func234,Tryz.ntmps234;go_wp2;go_end0
 exact⟨rfl,zw (zw (qh w d 7 _) (qh _ d 8 _)) (qh _ d 9 _),H.out⟩
theorem zpd {w:World} {d:Nat} {L:zc} {s:Dc} {vp:Option Addr} {y:Value} (h:DcR w d L s vp y):Calls Tryz.prog 166 #[.pointer (some ⟨d,0,none⟩)] w (DcQ w d L s.next vp y):=by
 have HR:=hid (yd2 h);clear h;go_enter Tryz.func166,Tryz.ntmps166;go_wp2_with fail;refine HR.out.mono ?_;rintro e w1 ⟨rfl,hg1,h1⟩;have H:=hid (show DcR (w1.setCell ⟨d,10,none⟩ (.int .i64 (s.tk:Nat))) d L s.next vp y from Row.set h1 10 _);have c10:=Row.cell h1 10 rfl;have c19:=Row.cell h1 19 rfl;have f10:=Row.fz h1 10;have Hg:=hid (zw hg1 (qh w1 d 10 (.int .i64 (s.tk:Nat))));clear h1 hg1;go_wp2;go_end0
 exact⟨rfl,Hg.out,H.out⟩
theorem zkh {w:World} {d:Nat} {L:zc} {s:Dc} {vp:Option Addr} {y:Value} (h:DcR w d L s vp y):Calls Tryz.prog 170 #[.pointer (some ⟨d,0,none⟩)] w (DcQ w d L (if s.st=2 then s.void else s) vp y):=by
 have HF:=hid (zh2 h 5 s.frm);have H:=hid h;have c5:=Row.cell h 5 rfl;have c11:=Row.cell h 11 rfl;have c10:=Row.cell h 10 rfl;clear h;by_cases h2:s.st=2
 · have d2:((s.st:Int) == 2)=true:=by rw[beq_iff_eq];omega
   rw[if_pos h2];unfold Dc.void;by_cases h0:s.left=0
   · have d0:((s.left:Int) == 0)=true:=by rw[beq_iff_eq];omega
     rw[if_pos h0];clear h2 h0;go_enter Tryz.func170,Tryz.ntmps170;go_wp2_with fail;refine HF.out.mono ?_;rintro e w1 ⟨rfl,hg1,h1⟩;have HD:=hid h1;have Hg:=hid hg1;clear h1 hg1;go_wp2;go_end0
     exact⟨rfl,Hg.out,HD.out⟩
   · have d0:((s.left:Int) == 0)=false:=by rw[beq_eq_false_iff_ne];omega
     rw[if_neg h0];clear h2 h0;go_enter Tryz.func170,Tryz.ntmps170;go_wp2_with fail;go_end0
     exact⟨rfl,vy _ _,H.out⟩
 · have d2:((s.st:Int) == 2)=false:=by rw[beq_eq_false_iff_ne];omega
   rw[if_neg h2];clear h2;go_enter Tryz.func170,Tryz.ntmps170;go_wp2_with fail;go_end0
   exact⟨rfl,vy _ _,H.out⟩
end
section
abbrev exS:List Nat:=zaa [0,0]
theorem z1f:exS.length=12:=by decide +kernel
theorem yd3:∀x∈exS,x<256:=by decide +kernel
def exA:Dc:=yk unl dc0 (exS.take 11)
def exB:Dc:=yk unl { exA with out:=[],sn:=0 } (exS.drop 11)
set_option maxRecDepth 100000 in
theorem zte:exA.out=[]∧exA.st=3∧exA.tk=11∧exA.fin=0∧exA.sn=14:=⟨by kernel_rfl,by kernel_rfl,by kernel_rfl,by kernel_rfl,by kernel_rfl⟩
set_option maxRecDepth 100000 in
theorem zg2:exB.out=[[]]∧exB.st=0∧exB.tk=12∧exB.fin=12∧exB.sn=2∧exB.vc=0∧exB.vo=12:=⟨by kernel_rfl,by kernel_rfl,by kernel_rfl,by kernel_rfl,by kernel_rfl,by kernel_rfl,by kernel_rfl⟩
end
section
open Go.RowKit
attribute [local go_sem] y9
theorem z1g {w:World} {d:Nat} {L:zc} {s:Dc} {vp:Option Addr} {y:Value} (h:DcR w d L s vp y):Calls Tryz.prog 22 #[.pointer (some ⟨d,0,none⟩)] w fun e w'=>e=.returned (.agg #[.int .i64 (s.vc:Nat),.int .i64 (s.vo:Nat)])∧Below w.heap.size w w':=by
 have hal:=(Below.refl w.heap.size w).alloc (Nat.le_refl _) (.cells #[.int .i64 0,.int .i64 0] 29);have c21:(w.alloc (.cells #[.int .i64 0,.int .i64 0] 29)).cell? ⟨d,21,none⟩=some (.int .i64 (s.vc:Nat)):=(Row.later h hal).cell 21 rfl;have c22:(w.alloc (.cells #[.int .i64 0,.int .i64 0] 29)).cell? ⟨d,22,none⟩=some (.int .i64 (s.vo:Nat)):=(Row.later h hal).cell 22 rfl;clear h hal;go_enter Tryz.func22,Tryz.ntmps22;go_wp2;exact bodyPost_ret (v:=.agg #[.int .i64 (s.vc:Nat),.int .i64 (s.vo:Nat)]) (by simp[results,Tryz.results22,go_sem]) rfl ⟨rfl,by first | exact(Below.refl _ _).alloc (Nat.le_refl _) _ | exact((Below.refl _ _).alloc (Nat.le_refl _) _).setCell (Nat.le_refl _) _⟩
theorem z1h {w:World} {d:Nat} {L:zc} {s:Dc} {vp:Option Addr} {y:Value} (h:DcR w d L s vp y):Calls Tryz.prog 49 #[.pointer (some ⟨d,0,none⟩)] w fun e w'=>e=.returned (.int .i64 (s.tk:Nat))∧w=w':=by
 have c19:=Row.cell h 19 rfl;clear h;go_enter Tryz.func49,Tryz.ntmps49;go_wp2;go_ret;exact⟨rfl,rfl⟩
theorem yd4 {w:World} {d:Nat} {L:zc} {s:Dc} {vp:Option Addr} {y:Value} (h:DcR w d L s vp y) (h1:s.fin≤s.tk) (h2:s.tk≤1000000000000000):Calls Tryz.prog 18 #[.pointer (some ⟨d,0,none⟩)] w fun e w'=>e=.returned (.int .i64 ((s.tk - s.fin:Nat):Int))∧Below w.heap.size w w':=by
 have c19:=fun k=>(show DcR (w.drewN k) d L s vp y from h).cell 19 rfl
 have c20:=fun k=>(show DcR (w.drewN k) d L s vp y from h).cell 20 rfl
 have hw:IntKind.i64.wrap ((s.tk:Int) - (s.fin:Int))=((s.tk - s.fin:Nat):Int):=by rw[IntKind.wrap_i64];omega
 clear h h1 h2;go_enter Tryz.func18,Tryz.ntmps18;go_wp2;go_quiet (fail);go_wp2_with fail;go_ret;exact⟨rfl,by first | exact Below.refl _ _ | exact z7 (Below.refl _ _) _⟩
def zee (s:Dc):Value:=if s.st=4 then zkf s.vc s.vo else if s.fin<s.tk then zkf 5 s.tk else .nilIface
set_option maxRecDepth 20000 in
theorem yd5 {w:World} {d:Nat} {L:zc} {s:Dc} {vp:Option Addr} {y:Value} (h:DcR w d L s vp y) (hv:s.st=4→s.vc≠0):Calls Tryz.prog 19 #[.pointer (some ⟨d,0,none⟩)] w fun e w'=>e=.returned (zee s)∧Below w.heap.size w w':=by
 have c5:=Row.cell h 5 rfl;unfold zee;by_cases h4:s.st=4
 · have d4:((s.st:Int) == 4)=true:=by rw[beq_iff_eq];omega
   rw[if_pos h4];unfold zkf;have hv0:(s.vc:Int)≠0:=by have:=hv h4;omega
   rw[if_neg hv0];have HN:=hid (fun W=>zs8 (s.vc:Nat) (s.vo:Nat) W hv0);have HW:=hid (fun W=>zs7 zh0 (s.vc:Nat) (s.vo:Nat) W);have HR:=hid (fun W (hb:Below w.heap.size w W)=>Row.later h hb);unfold zcs at HW ⊢;clear h h4 hv hv0;go_enter Tryz.func19,Tryz.ntmps19;go_upto_region 4 with fail
   refine jl (by kernel_rfl) (by kernel_rfl) ?_
   repeat (go_big_quiet_step ((intro hw;first
    | rfl
    | (go_at_call 64;exact jt hw (z1a (HN.out _)))
    | (go_at_call 63;exact jt hw (HW.out _))
    | (have y0:=(HR.out _ hw).cell 21 rfl
       have y1:=(HR.out _ hw).cell 22 rfl;go_simp;first | rfl | exact⟨rfl,hw⟩ | (trace_state;fail)))))
   refine wpQuiet_nil ?_;intro w3 hb3;go_wp2_with fail;go_ret;exact⟨rfl,hb3⟩
 · have d4:((s.st:Int) == 4)=false:=by rw[beq_eq_false_iff_ne];omega
   rw[if_neg h4];have c19:=fun k=>(show DcR (w.drewN k) d L s vp y from h).cell 19 rfl
   have c20:=fun k=>(show DcR (w.drewN k) d L s vp y from h).cell 20 rfl
   by_cases hf:s.fin<s.tk
   · have hd:decide ((s.fin:Int)<(s.tk:Int))=true:=by rw[decide_eq_true_iff];omega
     have hd2:decide (s.fin<s.tk)=true:=decide_eq_true hf;rw[if_pos hf];unfold zkf;rw[if_neg (by decide)];have HN:=hid (fun W=>zs8 5 (s.tk:Nat) W (by decide));have HW:=hid (fun W=>zs7 zh0 5 (s.tk:Nat) W);unfold zcs at HW ⊢;clear h h4 hv hf;go_enter Tryz.func19,Tryz.ntmps19;go_wp2_with fail;go_quiet (fail);go_wp2_with fail;refine(HN.out _).mono ?_;rintro e w1 ⟨rfl,rfl⟩;go_wp2_with fail;refine(HW.out _).mono ?_;rintro e w1 ⟨rfl,hb1⟩;go_wp2_with fail;go_ret;exact⟨rfl,(z7 (Below.refl _ _) _).trans hb1⟩
   · have hd:decide ((s.fin:Int)<(s.tk:Int))=false:=by rw[decide_eq_false_iff_not];omega
     have hd2:decide (s.fin<s.tk)=false:=decide_eq_false hf;rw[if_neg hf];clear h h4 hv hf;go_enter Tryz.func19,Tryz.ntmps19;go_wp2_with fail;go_quiet (fail);go_wp2_with fail;go_ret;exact⟨rfl,z7 (Below.refl _ _) _⟩
end
section
open Go.RowKit
theorem DcR.hdUp {w:World} {d:Nat} {L:zc} {s:Dc} {vp:Option Addr} {y:Value} (h:DcR w d L s vp y):DcR (w.setCell ⟨d,6,none⟩ (.int .i64 ((s.hd+1:Nat):Int))) d L { s with hd:=s.hd+1 } vp y:=Row.set h 6 _
set_option maxRecDepth 20000 in
theorem yd6 {w:World} {d c:Nat} {L:zc} {s:Dc} {vp:Option Addr} {y:Value} (h:DcR w d L s vp y) (hc:c<256) (hs:s.st=0) (hh:s.hd<5) (ht:1≤s.tk) (hk:s.tk≤1000000000000000):
 Calls Tryz.prog 104 #[.pointer (some ⟨d,0,none⟩),.int .u8 (c:Int)] w (DcQ w d L (zbe s c) vp y):=by
 have HR:=hid (fun W (hb:Below w.heap.size w W)=>Row.later h hb);have Hd:=hid (Row.lt h);have hk1:IntKind.i64.wrap ((s.tk:Int) - 1)=((s.tk - 1:Nat):Int):=by rw[IntKind.wrap_i64];omega
 have hh1:IntKind.i64.wrap ((s.hd:Int)+1)=((s.hd+1:Nat):Int):=by rw[IntKind.wrap_i64];omega
 have hm0:s.hd<4→∀w1:World,(w1.alloc (.cells #[.int .u8 75,.int .u8 78,.int .u8 87,.int .u8 76] 102)).cell? ⟨w1.heap.size,s.hd,none⟩=some (.int .u8 ((nth qw s.hd:Nat):Int)):=by
  intro h4 w1;have hx:=heap_alloc_new w1 (.cells #[.int .u8 75,.int .u8 78,.int .u8 87,.int .u8 76] 102);generalize w1.alloc (.cells #[.int .u8 75,.int .u8 78,.int .u8 87,.int .u8 76] 102)=w2 at*;rcases(by omega:s.hd=0∨s.hd=1∨s.hd=2∨s.hd=3) with e | e | e | e <;> rw[e] <;> simp only[World.cell?,hx] <;> rfl
 have h4m:s.hd=4→nth qw s.hd=1:=fun e=>by rw[e];rfl
 have Hst:=hid hs;clear h;obtain⟨m,hm⟩:∃m,m=nth qw s.hd:=⟨_,rfl⟩;rw[←hm] at hm0 h4m;have Hm:=hid hm;have Hm0:=hid hm0;have H4m:=hid h4m;clear hm hm0 h4m hs;go_enter Tryz.func104,Tryz.ntmps104;go_wp2_with fail;refine(zhv _).mono ?_;rintro e w1 ⟨rfl,hb1⟩;go_upto_region 1 with fail
 have hal:=(Below.refl w1.heap.size w1).alloc (Nat.le_refl _) (.cells #[.int .u8 75,.int .u8 78,.int .u8 87,.int .u8 76] 102);have hb2:=hb1.trans (hal.mono hb1.size);have h2:=HR.out _ hb2;have Hg2:=hid (vg (vy w (some d)) hb2);have Hmc:=hid (fun h=>Hm0.out h w1);generalize hB:w1.heap.size=B at*;clear hb1 hal hb2;generalize w1.alloc (.cells #[.int .u8 75,.int .u8 78,.int .u8 87,.int .u8 76] 102)=w2 at*;clear hB;have H2:=hid h2;have c6:=Row.cell h2 6 rfl;have c19:=Row.cell h2 19 rfl;clear h2;by_cases h4:s.hd<4
 · have d4:decide ((s.hd:Int)<4)=true:=by rw[decide_eq_true_iff];omega
   have d4':((s.hd:Int) == 4)=false:=by rw[beq_eq_false_iff_ne];omega
   have h0:(0:Int)≤(s.hd:Int):=by omega
   have h04:(s.hd:Int)<4:=by omega
   have cm:=Hmc.out h4;by_cases hcm:c=m
   · have dc:((c:Int) != (m:Int))=false:=by rw[bne_eq_false_iff_eq];omega
     have HN:=hid (show zbe s c={ s with hd:=s.hd+1 } from by unfold zbe;rw[if_neg (fun h=>h (hcm.trans Hm.out)),if_neg (by omega)]);have HU:=hid (DcR.hdUp H2.out);have u6:=HU.out.cell 6 rfl;have u5:=HU.out.cell 5 rfl;have f6:=H2.out.fz 6;have d5:(((s.hd+1:Nat):Int) == 5)=false:=by rw[beq_eq_false_iff_ne];omega
     clear hcm h4;go_wp2_with fail;go_end0
     exact⟨rfl,zw Hg2.out (qh w2 d 6 _),by rw[HN.out];exact HU.out⟩
   · have dc:((c:Int) != (m:Int))=true:=by rw[bne_iff_ne];omega
     have HN:=hid (show zbe s c={ (s.bad 12 (s.tk - 1)) with hd:=s.hd+1 } from by unfold zbe;rw[if_pos (fun h=>hcm (h.trans Hm.out.symm)),if_neg (by omega)];rfl);clear hcm h4;go_wp2_with fail;refine(zh2 H2.out 12 (s.tk - 1)).mono ?_;rintro e w3 ⟨rfl,hg3,h3⟩;have HU:=hid (DcR.hdUp h3);have u6:=HU.out.cell 6 rfl;have u5:=HU.out.cell 5 rfl;have f6:=Row.fz h3 6;have v6:w3.cell? ⟨d,6,none⟩=some (.int .i64 (s.hd:Int)):=Row.cell h3 6 rfl;have u6:(w3.setCell ⟨d,6,none⟩ (.int .i64 ((s.hd+1:Nat):Int))).cell? ⟨d,6,none⟩=some (.int .i64 ((s.hd+1:Nat):Int)):=HU.out.cell 6 rfl;have Hg3:=hid (zw Hg2.out hg3);have d5:(((s.hd+1:Nat):Int) == 5)=false:=by rw[beq_eq_false_iff_ne];omega
     clear h3 hg3;go_wp2_with fail;go_end0
     exact⟨rfl,zw Hg3.out (qh w3 d 6 _),by rw[HN.out];exact HU.out⟩
 · have e4:s.hd=4:=by omega
   have k6:w2.cell? ⟨d,6,none⟩=some (.int .i64 4):=by rw[e4] at c6;exact c6
   have hm1:=H4m.out e4;clear c6 hh1;by_cases hcm:c=1
   · have dc:((c:Int) != 1)=false:=by rw[bne_eq_false_iff_eq];omega
     have HN:=hid (show zbe s c=({ s with hd:=5,st:=1 }:Dc).next from by unfold zbe;rw[if_neg (fun h=>h (by rw[←Hm.out,hm1,hcm])),if_pos e4,e4]);have HU:=hid (show DcR (w2.setCell ⟨d,6,none⟩ (.int .i64 5)) d L { s with hd:=5 } vp y from Row.set H2.out 6 _);have u6:(w2.setCell ⟨d,6,none⟩ (.int .i64 5)).cell? ⟨d,6,none⟩=some (.int .i64 5):=HU.out.cell 6 rfl;have u5:=HU.out.cell 5 rfl;rw[show (({ s with hd:=5 }:Dc).st)=0 from Hst.out] at u5;have f6:=H2.out.fz 6;have f5:=HU.out.fz 5;have HW:=hid (show DcR ((w2.setCell ⟨d,6,none⟩ (.int .i64 5)).setCell ⟨d,5,none⟩ (.int .i64 1)) d L { s with hd:=5,st:=1 } vp y from Row.set HU.out 5 _);have HX:=hid (zpd HW.out);clear hcm h4 e4 hm1;go_wp2_with fail;refine HX.out.mono ?_;rintro e w3 ⟨rfl,hg3,h3⟩;have Hg3:=hid hg3;have H3:=hid h3;clear h3 hg3;go_wp2_with fail;go_end0
     exact⟨rfl,zw (zw Hg2.out (qh w2 d 6 _)) (zw (qh _ d 5 _) Hg3.out),by rw[HN.out];exact H3.out⟩
   · have dc:((c:Int) != 1)=true:=by rw[bne_iff_ne];omega
     have HN:=hid (show zbe s c={ (s.bad 13 (s.tk - 1)) with hd:=5 } from by unfold zbe;rw[if_pos (fun h=>hcm (by rw[h,←Hm.out,hm1])),if_pos e4,e4];rfl);have He:=hid e4;clear hcm h4 e4 hm1;go_wp2_with fail;refine(zh2 H2.out 13 (s.tk - 1)).mono ?_;rintro e w3 ⟨rfl,hg3,h3⟩;have HU:=hid (show DcR (w3.setCell ⟨d,6,none⟩ (.int .i64 5)) d L { (s.bad 13 (s.tk - 1)) with hd:=5 } vp y from Row.set h3 6 _);have u6:(w3.setCell ⟨d,6,none⟩ (.int .i64 5)).cell? ⟨d,6,none⟩=some (.int .i64 5):=HU.out.cell 6 rfl;have u5:(w3.setCell ⟨d,6,none⟩ (.int .i64 5)).cell? ⟨d,5,none⟩=some (.int .i64 4):=HU.out.cell 5 rfl;have f6:=Row.fz h3 6;have v6:w3.cell? ⟨d,6,none⟩=some (.int .i64 4):=by rw[show (4:Int)=((s.hd:Nat):Int) from by rw[He.out];rfl];exact Row.cell h3 6 rfl
     have Hg3:=hid (zw Hg2.out hg3);clear h3 hg3;go_wp2_with fail;go_end0
     exact⟨rfl,zw Hg3.out (qh w3 d 6 _),by rw[HN.out];exact HU.out⟩
theorem z1i {w:World} {d c:Nat} {L:zc} {s:Dc} {vp:Option Addr} {y:Value} (h:DcR w d L s vp y) (hc:c<256) (hns:s.ns=0) (hx:s.nx<18446744073709551616) (hn:s.nn<10):
 Calls Tryz.prog 167 #[.pointer (some ⟨d,7,none⟩),.int .u8 (c:Int)] w fun e w'=>e=.returned (.int .i64 (yr s.nn c:Nat))∧w.grownBy w' (some d)∧DcR w' d L (s.more c) vp y:=by
 have c9:=Row.cell h 9 rfl;rw[hns] at c9;refine(zwi w d 7 s.nx s.nn c (Row.cell h 7 rfl) (Row.cell h 8 rfl) c9 (Row.fz h 7) (Row.fz h 8) (Row.fz h 9) hx hc hn).mono ?_;rintro e w' ⟨rfl,rfl⟩;exact⟨rfl,vg (zw (zw (qh w d 8 _) (qh _ d 7 _)) (qh _ d 9 _)) (Below.refl _ _).drew,((Row.set h 8 _).set 7 _).set 9 _⟩
theorem z1j {w:World} {d:Nat} {L:zc} {s:Dc} {vp:Option Addr} {y:Value} (h:DcR w d L s vp y) (hns:s.ns=1):
 Calls Tryz.prog 168 #[.pointer (some ⟨d,7,none⟩)] w fun e w'=>e=.returned (.int .u64 (s.nx:Nat))∧w=w':=by
 have c9:=Row.cell h 9 rfl;rw[hns] at c9;exact zwj w d 7 s.nx (Row.cell h 7 rfl) c9
theorem OwnV.stead {w w':World} {base:Nat} {V:Value} {v:Vec} (hE:OwnV w base V v) (hs:Steady 0 jw w w'):OwnV w' base V v:=by
 obtain⟨ss,h5,h6⟩:=hE;exact⟨ss,zd8 h5 hs (.inr (.inl rfl)),h6.steady hs (.inl rfl)⟩
theorem EntO.stead {w w':World} {base:Nat} {V:Value} {v:Vec} {r m:Nat} {h:List Iv} (hE:EntO w base V v r m h) (hs:Steady 0 jw w w'):EntO w' base V v r m h:=by
 obtain⟨lim,ss,S,h3,h4,h5,h6,h7,h8⟩:=hE;exact⟨lim,ss,S,h3,Nat.le_trans h4 hs.size,zd8 h5 hs (.inr (.inl rfl)),h6.steady hs (.inl rfl),h7,zd8 h8 hs (.inl rfl)⟩
theorem Row.keepR {w w':World} {g:Nat} {T:TypeId} {C:List Value} (h:Row w g T C) (hk:KeepR w w') (hT:zav T):Row w' g T C:=h.steady hk.st (.inl hT)
theorem CuAt.keepR {w w':World} {base:Nat} {cu:Value} {lo:Option Nat} {h:List Iv} (hc:CuAt w base cu lo h) (hk:KeepR w w'):CuAt w' base cu lo h:=by
 obtain⟨c,x,h1,h2,h3,h4⟩:=hc;exact⟨c,x,h1,h2,h3,h4.keepR hk (.inr (.inl rfl))⟩
theorem PkB.keepR {w w':World} {base:Nat} {s:PS} {V cu:Value} (h:PkB w base s V cu) (hk:KeepR w w'):PkB w' base s V cu:=by
 unfold PkB at h ⊢;split at h
 · exact h
 · exact h.stead hk.fr
 · exact h.stead hk.fr
 · exact h.stead hk.fr
 · exact⟨h.1.stead hk.fr,h.2.keepR hk⟩
 · exact⟨h.1.stead hk.fr,h.2.keepR hk⟩
 · exact h.stead hk.fr
theorem PkR.keepR {w w':World} {base g:Nat} {L:zc} {nx:Value} {s:PS} (h:PkR w base g L nx s) (hk:KeepR w w'):PkR w' base g L nx s:=by
 obtain⟨h1,V,cu,h2,h3⟩:=h;exact⟨h1,V,cu,h2.keepR hk (.inr (.inr (.inl rfl))),h3.keepR hk⟩
theorem UsedM.keepR {w w':World} {U:Nat} {ix:List Nat} (h:UsedM w U ix) (hk:KeepR w w'):UsedM w' U ix:=by
 have h0:=h;obtain⟨n,D,⟨es,clock,h1,h2⟩,h3⟩:=h;exact h0.same (hk.mp U es clock h1)
theorem VecAt.keepR {w w':World} {base R:Nat} {L:zc} {K:Value} {U C B:Nat} {s:WS} (h:VecAt w base R L K U C B s) (hk:KeepR w w'):VecAt w' base R L K U C B s:=by
 rcases h with ⟨h1,⟨ip,h2⟩,h3⟩ | ⟨h1,P,pb,wb,h2,h3,h4,h5,b1,b2,b3,b4,b5,h6⟩
 · exact .inl ⟨h1,⟨ip,h2.keepR hk (.inr (.inr (.inr (.inr (.inl rfl)))))⟩,h3.steady hk.fr⟩
 · exact .inr ⟨h1,P,pb,wb,h2.keepR hk (.inr (.inr (.inr (.inr (.inl rfl))))),h3,h4.trans hk.fr,h5,b1,b2,b3,b4,b5,h6.keepR hk⟩
theorem WkR.keepR {w w':World} {base R:Nat} {L:zc} {s:WS} (h:WkR w base R L s) (hk:KeepR w w'):WkR w' base R L s:=by
 obtain⟨hR0,part,K,U,C,hU,hC,hR,hu,hB⟩:=h;have hc:zav 230:=.inr (.inl rfl);refine⟨hR0,part,K,U,C,hU,hC,hR.keepR hk (.inr (.inr (.inr (.inl rfl)))),hu.keepR hk,?_⟩;unfold WkB at hB ⊢;split at hB
 · exact⟨hB.1,hB.2.1.steady hk.fr,hB.2.2.keepR hk hc⟩
 · obtain⟨B,e,hB0,hc',hV⟩:=hB;exact⟨B,e,hB0,hc'.keepR hk hc,hV.keepR hk⟩
 · exact⟨hB.1,hB.2.1.steady hk.fr,hB.2.2.keepR hk hc⟩
 · obtain⟨B,e,hB0,hM,last,touch,lo0,h1,h2,h3,h4⟩:=hB;exact⟨B,e,hB0,hM.steady hk.fr,last,touch,lo0,h1.keepR hk (.inr (.inr (.inr (.inr (.inr rfl))))),h2,h3,h4.keepR hk hc⟩
 · exact⟨hB.1,hB.2.steady hk.fr⟩
