/- Part 05. -/
import Derived.Test.YtdnipikdddfhfaaGreatDoorWd04
set_option linter.unusedVariables false
set_option maxHeartbeats 16000000
namespace Go.Proofs.YtdnipikdddfhfaaGreatDoor
open Lib (hid)
section
open Go.RowKit
def za (l:List Iv) (k:Nat):Iv:=l.getD k (0,0)
theorem yw {l:List Iv} {k:Nat} (h:k<l.length):za l k=l[k]:=by simp[za,h]
theorem zas {l:List Iv} {k:Nat} (h:k<l.length):za l k∈l:=by rw[yw h];exact List.getElem_mem h
structure Ivs (w:World) (a:Option Addr) (n cap:Nat) (l:List Iv):Prop where
 len:l.length=n
 lt:∀s∈l,s.1<18446744073709551616∧s.2<18446744073709551616
 room:n≤cap
 most:cap≤9223372036854775807
 nilc:a=none→cap=0
 cells:0<n→∃b o,a=some ⟨b,o,none⟩∧∀i,i<n→w.cell? ⟨b,o+i*2,none⟩=some (.int .u64 (((za l i).1:Nat):Int))∧w.cell? ⟨b,o+i*2+1,none⟩=some (.int .u64 (((za l i).2:Nat):Int))
theorem Ivs.below {w w':World} {a:Option Addr} {n cap:Nat} {l:List Iv} (h:Ivs w a n cap l) (hb:Below w.heap.size w w'):Ivs w' a n cap l:=by
 refine⟨h.len,h.lt,h.room,h.most,h.nilc,fun hn=>?_⟩;obtain⟨b,o,ha,hc⟩:=h.cells hn;refine⟨b,o,ha,fun i hi=>?_⟩;obtain⟨h1,h2⟩:=hc i hi;exact⟨(hb.cell (p:=⟨b,o+i*2,none⟩) (zh h1)).trans h1,(hb.cell (p:=⟨b,o+i*2+1,none⟩) (zh h2)).trans h2⟩
abbrev ivV (s:Iv):Value:=.agg #[.int .u64 ((s.1:Nat):Int),.int .u64 ((s.2:Nat):Int)]
def ivC (l:List Iv):List Value:=l.flatMap fun s=>[.int .u64 ((s.1:Nat):Int),.int .u64 ((s.2:Nat):Int)]
theorem zgt (s:Iv) (l:List Iv):ivC (s :: l)=.int .u64 ((s.1:Nat):Int) :: .int .u64 ((s.2:Nat):Int) :: ivC l:=rfl
theorem zja (a b:List Iv):ivC (a++b)=ivC a++ivC b:=by simp[ivC]
theorem zfj (l:List Iv):(ivC l).length=l.length*2:=by
 induction l with
 | nil=>rfl
 | cons s l ih=>rw[zgt];simp[ih];omega
theorem zen:∀(l:List Iv) (i:Nat),i<l.length→(ivC l)[i*2]?=some (.int .u64 (((za l i).1:Nat):Int))∧(ivC l)[i*2+1]?=some (.int .u64 (((za l i).2:Nat):Int))
 | [],i,h=>by simp at h
 | s :: l,0,_=>⟨rfl,rfl⟩
 | s :: l,i+1,h=>by
   have:=zen l i (by simpa using h);rw[zgt,show (i+1)*2=i*2+1+1 by omega];simpa [za] using this
theorem zmn (l:List Iv):∀u∈ivC l,u.oneCell'=true:=by
 intro u hu;simp only[ivC,List.mem_flatMap] at hu;obtain⟨s,_,hs⟩:=hu;simp at hs;rcases hs with rfl | rfl <;> rfl
theorem zjb:∀(l:List Iv) (i x:Nat),i<l.length→(ivC l).set (i*2+1) (.int .u64 ((x:Nat):Int))=ivC (l.set i ((za l i).1,x))
 | [],i,x,h=>by simp at h
 | s :: l,0,x,_=>rfl
 | s :: l,i+1,x,h=>by
   have:=zjb l i x (by simpa using h);rw[zgt,show (i+1)*2+1=(i*2+1)+1+1 by omega,List.set_cons_succ,List.set_cons_succ,this,List.set_cons_succ,zgt];simp[za]
theorem zgu (w:World):Ivs w none 0 0 []:=⟨rfl,by simp,by omega,by omega,fun _=>rfl,fun h=>by omega⟩
theorem zbd {w:World} {base n:Nat} {T:TypeId} {v:Value} {l:List Iv} (h:w.ownsRow base T 2 v n (ivC l)) (hl:∀s∈l,s.1<18446744073709551616∧s.2<18446744073709551616):∃a cap,v=.slice a n cap∧Ivs w a n cap l:=by
 have hlen:l.length=n:=by have:=h.1;rw[zfj] at this;omega
 rcases h.2 with ⟨rfl,rfl⟩ | ⟨g,cap,cur,rfl,hg,hh,hnc,hcm,_⟩
 · exact⟨none,0,rfl,hlen,hl,by omega,by omega,fun _=>rfl,fun h=>by omega⟩
 · refine⟨_,_,rfl,hlen,hl,hnc,by unfold maxLen at hcm;omega,(by intro h;cases h),fun hn=>⟨g,0,rfl,fun i hi=>?_⟩⟩;obtain⟨e1,e2⟩:=zen l i (by omega);have h1:=h.cells (g:=g) rfl _ _ e1;have h2:=h.cells (g:=g) rfl _ _ e2;rw[yk] at h1 h2;rw[Nat.add_assoc];exact⟨h1,h2⟩
theorem zcn {P:Program} {f:FuncId} {args:Array Value} {w w':World} {v:Value} (hw:Below w.heap.size w w') (h:Calls P f args w' fun e w''=>e=.returned v∧Below w'.heap.size w' w''):
 Calls P f args w' fun e w''=>e=.returned v∧Below w.heap.size w w'':=h.mono fun e w'' ⟨he,hb⟩=>⟨he,hw.trans (hb.mono hw.size)⟩
theorem zy {B:Nat} {a w:World} (h:Below B a w) (n:Nat):Below B a (w.drewN n):=⟨h.os,h.tape,h.output,h.size,h.block⟩
theorem za1 {P:Program} {id:Nat} {Q:Exit→Act→World→Prop} {a:Act} {w:World} {l:List Oper} (hm:P.follows .mixedOrders=true) (hB:Region.lexB .any l.toArray=true)
 (h:wpQuiet P l.toArray (fun w'=>Below w.heap.size w w') (fun a'=>∀w',Below w.heap.size w w'→Q .normal a' w') l a):(Code.region id l.toArray true).wp P Q a w:=
 wp_region_quiet (C:=fun w'=>Below w.heap.size w w') hm hB ((Below.refl _ _).drew) (by simpa using h)
end
section
open Go.RowKit Go.Extern.Stop Go.Stop Go.Extern
theorem zux (c a:Int) (tb:Nat) (A:Addr) (o1 o2:Value) (w:World) (hA:w.cell? A=some (.pointer (some ⟨tb,0,none⟩))) (ht0:w.cell? ⟨tb,0,none⟩=some o1) (ht1:w.cell? ⟨tb,1,none⟩=some o2)
 (hf0:w.frozen? ⟨tb,0,none⟩=false) (hf1:w.frozen? ⟨tb,1,none⟩=false):
 Calls Tryz.prog 105 #[.iface 112 (.agg #[.int .i64 c,.int .i64 a]),.iface 188 (.pointer (some ⟨tb,0,none⟩)),.agg #[.pointer (some ⟨1,188,none⟩),.pointer (some A),.int .u64 150],.iface 229 (.agg #[.pointer (some ⟨1,112,none⟩)])] w
  fun e w'=>e=.returned (.bool true)∧w.grownBy w' (some tb)∧w'.cell? ⟨tb,0,none⟩=some (.int .i64 c)∧w'.cell? ⟨tb,1,none⟩=some (.int .i64 a):=by
 have hTO:=@run_callFunc_extern Tryz.prog 138 _ ReflectliteType.typeOf Tryz.func138 (by kernel_rfl) (by kernel_rfl) (by kernel_rfl) (by kernel_rfl);have hAT:=@run_callFunc_extern Tryz.prog 335 _ (ReflectliteType.relation "AssignableTo" ReflectliteType.assignableTo) Tryz.func335 (by kernel_rfl) (by kernel_rfl) (by kernel_rfl) (by kernel_rfl);have hEl:=@run_callFunc_extern Tryz.prog 139 _ (ReflectliteValue.method (ReflectliteValue.valueError "reflectlite.Value.Elem" 0) ReflectliteValue.elem) Tryz.func139 (by kernel_rfl) (by kernel_rfl) (by kernel_rfl) (by kernel_rfl);have hVO:=@run_callFunc_extern Tryz.prog 102 _ (fun args=>ReflectliteValue.unpack (args.getD 0 (.tuple #[]))) Tryz.func102 (by kernel_rfl) (by kernel_rfl) (by kernel_rfl) (by kernel_rfl);have hSt:=@run_callFunc_extern Tryz.prog 140 _ ReflectliteValue.set Tryz.func140 (by kernel_rfl) (by kernel_rfl) (by kernel_rfl) (by kernel_rfl);have tO:=Tryz.typeOfF;have mA:=Tryz.methodAssignableTo;have aFF:=Tryz.assignableFF;have vF:=Tryz.valueOfF;have hAl:A.block<w.heap.size:=zh hA;have htl:tb<w.heap.size:=zh ht0;have el:=Tryz.elemVPF A ⟨tb,0,none⟩ (w.alloc (.cells #[.pointer (some ⟨1,188,none⟩),.pointer (some A),.int .u64 150] 179)) (by rw[World.cell?_alloc_lt _ _ A hAl];exact hA)
 have h0:((w.alloc (.cells #[.pointer (some ⟨1,188,none⟩),.pointer (some A),.int .u64 150] 179)).alloc (.cells #[.int .i64 c,.int .i64 a] 112)).cell? ⟨tb,0,none⟩=some o1:=by
  rw[World.cell?_alloc_lt _ _ ⟨tb,0,none⟩ (by simp;omega),World.cell?_alloc_lt _ _ ⟨tb,0,none⟩ htl];exact ht0
 have h1:((w.alloc (.cells #[.pointer (some ⟨1,188,none⟩),.pointer (some A),.int .u64 150] 179)).alloc (.cells #[.int .i64 c,.int .i64 a] 112)).cell? ⟨tb,1,none⟩=some o2:=by
  rw[World.cell?_alloc_lt _ _ ⟨tb,1,none⟩ (by simp;omega),World.cell?_alloc_lt _ _ ⟨tb,1,none⟩ htl];exact ht1
 have g0:((w.alloc (.cells #[.pointer (some ⟨1,188,none⟩),.pointer (some A),.int .u64 150] 179)).alloc (.cells #[.int .i64 c,.int .i64 a] 112)).frozen? ⟨tb,0,none⟩=false:=by
  rw[World.frozen?_alloc_old _ _ ⟨tb,0,none⟩ (by simp;omega),World.frozen?_alloc_old _ _ ⟨tb,0,none⟩ (Nat.ne_of_lt htl)];exact hf0
 have g1:((w.alloc (.cells #[.pointer (some ⟨1,188,none⟩),.pointer (some A),.int .u64 150] 179)).alloc (.cells #[.int .i64 c,.int .i64 a] 112)).frozen? ⟨tb,1,none⟩=false:=by
  rw[World.frozen?_alloc_old _ _ ⟨tb,1,none⟩ (by simp;omega),World.frozen?_alloc_old _ _ ⟨tb,1,none⟩ (Nat.ne_of_lt htl)];exact hf1
 have st:=Tryz.setF tb (w.heap.size+1) c a o1 o2 ((w.alloc (.cells #[.pointer (some ⟨1,188,none⟩),.pointer (some A),.int .u64 150] 179)).alloc (.cells #[.int .i64 c,.int .i64 a] 112))
  (by rw[World.cell?_alloc_at _ _ _ _ (by simp)];rfl) (by rw[World.cell?_alloc_at _ _ _ _ (by simp)];rfl) h0 h1 g0 g1
 have hz:((w.setCell ⟨tb,0,none⟩ (.int .i64 c)).setCell ⟨tb,1,none⟩ (.int .i64 a)).heap.size=w.heap.size:=by simp[World.setCell]
 have hc0:((((w.setCell ⟨tb,0,none⟩ (.int .i64 c)).setCell ⟨tb,1,none⟩ (.int .i64 a)).alloc (.cells #[.pointer (some ⟨1,188,none⟩),.pointer (some A),.int .u64 150] 179)).alloc (.cells #[.int .i64 c,.int .i64 a] 112)).cell? ⟨tb,0,none⟩=some (.int .i64 c):=by
  rw[World.cell?_alloc_lt _ _ ⟨tb,0,none⟩ (by simp only[World.size_alloc,hz];omega),World.cell?_alloc_lt _ _ ⟨tb,0,none⟩ (by rw[hz];exact htl),World.cell?_setCell_other _ _ _ _ (by simp)];exact World.cell?_setCell_same _ _ _ ht0
 have hc1:((((w.setCell ⟨tb,0,none⟩ (.int .i64 c)).setCell ⟨tb,1,none⟩ (.int .i64 a)).alloc (.cells #[.pointer (some ⟨1,188,none⟩),.pointer (some A),.int .u64 150] 179)).alloc (.cells #[.int .i64 c,.int .i64 a] 112)).cell? ⟨tb,1,none⟩=some (.int .i64 a):=by
  rw[World.cell?_alloc_lt _ _ ⟨tb,1,none⟩ (by simp only[World.size_alloc,hz];omega),World.cell?_alloc_lt _ _ ⟨tb,1,none⟩ (by rw[hz];exact htl)];exact World.cell?_setCell_same _ _ _ (by rw[World.cell?_setCell_other _ _ _ _ (by simp)];exact ht1)
 have Hc0:=hid hc0;clear hc0 h0 h1 g0 g1 hz;have Hc1:=hid hc1;clear hc1;go_enter Tryz.func105,Tryz.ntmps105;go_wp2;refine wp_loop_rounds 1 ?_;rw[rounds_succ];go_wp2;go_ret;exact⟨rfl,yr (yr (yr (zgs _ ⟨tb,0,none⟩ _) (zgs _ ⟨tb,1,none⟩ _)) (World.grownBy_alloc _ _ _)) (World.grownBy_alloc _ _ _),Hc0.out,Hc1.out⟩
theorem zuy (c:Int) (tb:Nat) (A:Addr) (w:World):
 Calls Tryz.prog 105 #[.iface 35 (.int .i64 c),.iface 188 (.pointer (some ⟨tb,0,none⟩)),.agg #[.pointer (some ⟨1,188,none⟩),.pointer (some A),.int .u64 150],.iface 229 (.agg #[.pointer (some ⟨1,112,none⟩)])] w
  fun e w'=>e=.returned (.bool false)∧w.grownBy w' none:=by
 have hTO:=@run_callFunc_extern Tryz.prog 138 _ ReflectliteType.typeOf Tryz.func138 (by kernel_rfl) (by kernel_rfl) (by kernel_rfl) (by kernel_rfl);have hAT:=@run_callFunc_extern Tryz.prog 335 _ (ReflectliteType.relation "AssignableTo" ReflectliteType.assignableTo) Tryz.func335 (by kernel_rfl) (by kernel_rfl) (by kernel_rfl) (by kernel_rfl);have tO:=Tryz.typeOfE;have mA:=Tryz.methodAssignableTo;have aEF:=Tryz.assignableEF;have s1:=Tryz.asAsE;have s2:=Tryz.asUnE;have s3:=Tryz.asUmE;go_enter Tryz.func105,Tryz.ntmps105;go_wp2;refine wp_loop_rounds 1 ?_;rw[rounds_succ];go_wp2;go_ret;exact⟨rfl,World.grownBy_alloc _ _ _⟩
theorem zuz (c:Int) (t A:Addr) (old:Value) (w:World) (hA:w.cell? A=some (.pointer (some t))) (ht:w.cell? t=some old) (hf:w.frozen? t=false):
 Calls Tryz.prog 105 #[.iface 35 (.int .i64 c),.iface 111 (.pointer (some t)),.agg #[.pointer (some ⟨1,111,none⟩),.pointer (some A),.int .u64 150],.iface 229 (.agg #[.pointer (some ⟨1,35,none⟩)])] w
  fun e w'=>e=.returned (.bool true)∧w.grownBy w' (some t.block)∧w'.cell? t=some (.int .i64 c):=by
 have hTO:=@run_callFunc_extern Tryz.prog 138 _ ReflectliteType.typeOf Tryz.func138 (by kernel_rfl) (by kernel_rfl) (by kernel_rfl) (by kernel_rfl);have hAT:=@run_callFunc_extern Tryz.prog 335 _ (ReflectliteType.relation "AssignableTo" ReflectliteType.assignableTo) Tryz.func335 (by kernel_rfl) (by kernel_rfl) (by kernel_rfl) (by kernel_rfl);have hEl:=@run_callFunc_extern Tryz.prog 139 _ (ReflectliteValue.method (ReflectliteValue.valueError "reflectlite.Value.Elem" 0) ReflectliteValue.elem) Tryz.func139 (by kernel_rfl) (by kernel_rfl) (by kernel_rfl) (by kernel_rfl);have hVO:=@run_callFunc_extern Tryz.prog 102 _ (fun args=>ReflectliteValue.unpack (args.getD 0 (.tuple #[]))) Tryz.func102 (by kernel_rfl) (by kernel_rfl) (by kernel_rfl) (by kernel_rfl);have hSt:=@run_callFunc_extern Tryz.prog 140 _ ReflectliteValue.set Tryz.func140 (by kernel_rfl) (by kernel_rfl) (by kernel_rfl) (by kernel_rfl);have tO:=Tryz.typeOfE;have mA:=Tryz.methodAssignableTo;have aEE:=Tryz.assignableEE;have vE:=Tryz.valueOfE;have hAl:A.block<w.heap.size:=zh hA;have htl:t.block<w.heap.size:=zh ht;have el:=Tryz.elemVPE A t (w.alloc (.cells #[.pointer (some ⟨1,111,none⟩),.pointer (some A),.int .u64 150] 179)) (by rw[World.cell?_alloc_lt _ _ A hAl];exact hA)
 have st:=Tryz.setE t ⟨w.heap.size+1,0,none⟩ c old ((w.alloc (.cells #[.pointer (some ⟨1,111,none⟩),.pointer (some A),.int .u64 150] 179)).alloc (.cells #[.int .i64 c] 35))
  (by rw[World.cell?_alloc_at _ _ _ _ (by simp)];rfl)
  (by rw[World.cell?_alloc_lt _ _ t (by simp;omega),World.cell?_alloc_lt _ _ t htl];exact ht)
  (by rw[World.frozen?_alloc_old _ _ t (by simp;omega),World.frozen?_alloc_old _ _ t (Nat.ne_of_lt htl)];exact hf)
 have hc2:(((w.alloc (.cells #[.pointer (some ⟨1,111,none⟩),.pointer (some A),.int .u64 150] 179)).alloc (.cells #[.int .i64 c] 35)).setCell t (.int .i64 c)).cell? t=some (.int .i64 c):=
  World.cell?_setCell_same _ _ _ (by rw[World.cell?_alloc_lt _ _ t (by simp;omega),World.cell?_alloc_lt _ _ t htl];exact ht)
 have Hc2:=hid hc2;clear hc2;go_enter Tryz.func105,Tryz.ntmps105;go_wp2;refine wp_loop_rounds 1 ?_;rw[rounds_succ];go_wp2;go_ret;exact⟨rfl,yr (yr (World.grownBy_alloc _ _ _) (World.grownBy_alloc _ _ _)) (zgs _ _ _),Hc2.out⟩
theorem zu0 (c a:Int) (w:World):Calls Tryz.prog 323 #[.agg #[.int .i64 c,.int .i64 a]] w fun e w'=>e=.returned (.iface 35 (.int .i64 c))∧w'=w.alloc (.cells #[.int .i64 c,.int .i64 a] 112):=by
 go_enter Tryz.func323,Tryz.ntmps323;go_wp2;go_ret;exact⟨rfl,rfl⟩
theorem zu1 (c a:Int) (t A:Addr) (old:Value) (w:World) (hA:w.cell? A=some (.pointer (some t))) (ht:w.cell? t=some old) (hf:w.frozen? t=false):
 Calls Tryz.prog 105 #[.iface 112 (.agg #[.int .i64 c,.int .i64 a]),.iface 111 (.pointer (some t)),.agg #[.pointer (some ⟨1,111,none⟩),.pointer (some A),.int .u64 150],.iface 229 (.agg #[.pointer (some ⟨1,35,none⟩)])] w
  fun e w'=>e=.returned (.bool true)∧w.grownBy w' (some t.block)∧w'.cell? t=some (.int .i64 c):=by
 have hTO:=@run_callFunc_extern Tryz.prog 138 _ ReflectliteType.typeOf Tryz.func138 (by kernel_rfl) (by kernel_rfl) (by kernel_rfl) (by kernel_rfl);have hAT:=@run_callFunc_extern Tryz.prog 335 _ (ReflectliteType.relation "AssignableTo" ReflectliteType.assignableTo) Tryz.func335 (by kernel_rfl) (by kernel_rfl) (by kernel_rfl) (by kernel_rfl);have hEl:=@run_callFunc_extern Tryz.prog 139 _ (ReflectliteValue.method (ReflectliteValue.valueError "reflectlite.Value.Elem" 0) ReflectliteValue.elem) Tryz.func139 (by kernel_rfl) (by kernel_rfl) (by kernel_rfl) (by kernel_rfl);have hVO:=@run_callFunc_extern Tryz.prog 102 _ (fun args=>ReflectliteValue.unpack (args.getD 0 (.tuple #[]))) Tryz.func102 (by kernel_rfl) (by kernel_rfl) (by kernel_rfl) (by kernel_rfl);have hSt:=@run_callFunc_extern Tryz.prog 140 _ ReflectliteValue.set Tryz.func140 (by kernel_rfl) (by kernel_rfl) (by kernel_rfl) (by kernel_rfl);have tO:=Tryz.typeOfE;have tO2:=Tryz.typeOfF;have mA:=Tryz.methodAssignableTo;have aEE:=Tryz.assignableEE;have aFE:=Tryz.assignableFE;have s1:=Tryz.asAsF;have s2:=Tryz.asUnF;have mU:=Tryz.methodUnF;have vE:=Tryz.valueOfE;have hAl:A.block<w.heap.size:=zh hA;have htl:t.block<w.heap.size:=zh ht
 have hA2:((w.alloc (.cells #[.pointer (some ⟨1,111,none⟩),.pointer (some A),.int .u64 150] 179)).alloc (.cells #[.int .i64 c,.int .i64 a] 112)).cell? A=some (.pointer (some t)):=by
  rw[World.cell?_alloc_lt _ _ A (by simp;omega),World.cell?_alloc_lt _ _ A hAl];exact hA
 have ht2:((w.alloc (.cells #[.pointer (some ⟨1,111,none⟩),.pointer (some A),.int .u64 150] 179)).alloc (.cells #[.int .i64 c,.int .i64 a] 112)).cell? t=some old:=by
  rw[World.cell?_alloc_lt _ _ t (by simp;omega),World.cell?_alloc_lt _ _ t htl];exact ht
 have hf2:((w.alloc (.cells #[.pointer (some ⟨1,111,none⟩),.pointer (some A),.int .u64 150] 179)).alloc (.cells #[.int .i64 c,.int .i64 a] 112)).frozen? t=false:=by
  rw[World.frozen?_alloc_old _ _ t (by simp;omega),World.frozen?_alloc_old _ _ t (Nat.ne_of_lt htl)];exact hf
 have el:=Tryz.elemVPE A t ((w.alloc (.cells #[.pointer (some ⟨1,111,none⟩),.pointer (some A),.int .u64 150] 179)).alloc (.cells #[.int .i64 c,.int .i64 a] 112)) hA2
 have st:=Tryz.setE t ⟨w.heap.size+1+1,0,none⟩ c old (((w.alloc (.cells #[.pointer (some ⟨1,111,none⟩),.pointer (some A),.int .u64 150] 179)).alloc (.cells #[.int .i64 c,.int .i64 a] 112)).alloc (.cells #[.int .i64 c] 35))
  (by rw[World.cell?_alloc_at _ _ _ _ (by simp)];rfl)
  (by rw[World.cell?_alloc_lt _ _ t (by simp;omega)];exact ht2)
  (by rw[World.frozen?_alloc_old _ _ t (by simp;omega)];exact hf2)
 have hc2:((((w.alloc (.cells #[.pointer (some ⟨1,111,none⟩),.pointer (some A),.int .u64 150] 179)).alloc (.cells #[.int .i64 c,.int .i64 a] 112)).alloc (.cells #[.int .i64 c] 35)).setCell t (.int .i64 c)).cell? t=some (.int .i64 c):=
  World.cell?_setCell_same _ _ _ (by rw[World.cell?_alloc_lt _ _ t (by simp;omega)];exact ht2)
 have Hc2:=hid hc2;clear hc2 hA2 ht2 hf2;go_enter Tryz.func105,Tryz.ntmps105;go_wp2;refine wp_loop_rounds 2 ?_;rw[rounds_succ];go_wp2_with fail;refine(zu0 c a _).mono ?_;rintro e w' ⟨rfl,rfl⟩;go_wp2_with fail;rw[rounds_succ];go_wp2_with fail;go_ret;exact⟨rfl,yr (yr (yr (World.grownBy_alloc _ _ _) (World.grownBy_alloc _ _ _)) (World.grownBy_alloc _ _ _)) (zgs _ _ _),Hc2.out⟩
theorem zu2 (t:Value) (w:World):Calls Tryz.prog 61 #[.nilIface,t] w fun e w'=>e=.returned (.bool false)∧w=w':=by
 go_enter Tryz.func61,Tryz.ntmps61;go_wp2;go_ret;exact⟨rfl,rfl⟩
theorem zmo (u:TypeId) (x:Value) (t:Addr) (w:World) (hD:Door w) (ht:t.block<w.heap.size) (Q:Ending→World→Prop)
 (h:∀(w1:World) (A:Addr),Below w.heap.size w w1→w1.cell? A=some (.pointer (some t))→w.heap.size≤A.block→
   Calls Tryz.prog 105 #[.iface u x,.iface 111 (.pointer (some t)),.agg #[.pointer (some ⟨1,111,none⟩),.pointer (some A),.int .u64 150],.iface 229 (.agg #[.pointer (some ⟨1,35,none⟩)])] w1 fun e w'=>∃b,e=.returned (.bool b)∧Q e w'):
 Calls Tryz.prog 61 #[.iface u x,.iface 111 (.pointer (some t))] w Q:=by
 have hVO:=@run_callFunc_extern Tryz.prog 102 _ (fun args=>ReflectliteValue.unpack (args.getD 0 (.tuple #[]))) Tryz.func102 (by kernel_rfl) (by kernel_rfl) (by kernel_rfl) (by kernel_rfl);have hTy:=@run_callFunc_extern Tryz.prog 103 _ (ReflectliteValue.methodAny (ReflectliteValue.valueError "reflectlite.Value.Type" 0) (fun t _ _ _=>ReflectliteType.toType t)) Tryz.func103 (by kernel_rfl) (by kernel_rfl) (by kernel_rfl) (by kernel_rfl);have hIN:=@run_callFunc_extern Tryz.prog 104 _ (ReflectliteValue.method (ReflectliteValue.valueError "reflectlite.Value.IsNil" 0) ReflectliteValue.isNil) Tryz.func104 (by kernel_rfl) (by kernel_rfl) (by kernel_rfl) (by kernel_rfl);have hKi:=@run_callFunc_extern Tryz.prog 319 _ (ReflectliteType.abiMethod fun t=>do pure (.int .u8 (←Rtype.kind t))) Tryz.func319 (by kernel_rfl) (by kernel_rfl) (by kernel_rfl) (by kernel_rfl);have hEl:=@run_callFunc_extern Tryz.prog 337 _ (ReflectliteType.method ReflectliteType.elem) Tryz.func337 (by kernel_rfl) (by kernel_rfl) (by kernel_rfl) (by kernel_rfl);have hIm:=@run_callFunc_extern Tryz.prog 338 _ (ReflectliteType.relation "Implements" ReflectliteType.implements_) Tryz.func338 (by kernel_rfl) (by kernel_rfl) (by kernel_rfl) (by kernel_rfl);have f6:=Tryz.valueOfPE;have f7:=Tryz.typePE;have mK:=Tryz.methodKind;have mE:=Tryz.methodElem;have mI:=Tryz.methodImplements;have k27:=Tryz.kindPE;have k25:=Tryz.kindE;have e27:=Tryz.elemPE;have i25:=Tryz.implementsE;have n8:=Tryz.isNilPE ⟨w.heap.size,0,none⟩ t ((w.alloc (.cells #[.pointer (some t)] 111)).alloc (.cells #[.pointer (some ⟨1,111,none⟩),.pointer (some ⟨w.heap.size,0,none⟩),.int .u64 150] 179)) (by simp);have hlt:0<w.heap.size:=zh hD
 have hg2:((w.alloc (.cells #[.pointer (some t)] 111)).alloc (.cells #[.pointer (some ⟨1,111,none⟩),.pointer (some ⟨w.heap.size,0,none⟩),.int .u64 150] 179)).cell? ⟨0,0,none⟩=some (.iface 229 (.agg #[.pointer (some ⟨1,29,none⟩)])):=by
  rw[World.cell?_alloc_lt _ _ ⟨0,0,none⟩ (by simp only[World.size_alloc];omega),World.cell?_alloc_lt _ _ ⟨0,0,none⟩ hlt];exact hD
 have H:=hid (h ((w.alloc (.cells #[.pointer (some t)] 111)).alloc (.cells #[.pointer (some ⟨1,111,none⟩),.pointer (some ⟨w.heap.size,0,none⟩),.int .u64 150] 179)) ⟨w.heap.size,0,none⟩
  (((Below.refl _ _).alloc (Nat.le_refl _) _).alloc (by simp only[World.size_alloc];omega) _) (by simp) (Nat.le_refl _))
 clear h hD;go_enter Tryz.func61,Tryz.ntmps61;go_wp2_with fail;refine H.out.mono ?_;rintro e w' ⟨b,rfl,hq⟩;have Hq:=hid hq;clear hq H;go_wp2_with fail;exact Hq.out
theorem zmp (u:TypeId) (x:Value) (t:Addr) (w:World) (hD:Door w) (ht:t.block<w.heap.size) (Q:Ending→World→Prop)
 (h:∀(w1:World) (A:Addr),Below w.heap.size w w1→w1.cell? A=some (.pointer (some t))→w.heap.size≤A.block→
   Calls Tryz.prog 105 #[.iface u x,.iface 188 (.pointer (some t)),.agg #[.pointer (some ⟨1,188,none⟩),.pointer (some A),.int .u64 150],.iface 229 (.agg #[.pointer (some ⟨1,112,none⟩)])] w1 fun e w'=>∃b,e=.returned (.bool b)∧Q e w'):
 Calls Tryz.prog 61 #[.iface u x,.iface 188 (.pointer (some t))] w Q:=by
 have hVO:=@run_callFunc_extern Tryz.prog 102 _ (fun args=>ReflectliteValue.unpack (args.getD 0 (.tuple #[]))) Tryz.func102 (by kernel_rfl) (by kernel_rfl) (by kernel_rfl) (by kernel_rfl);have hTy:=@run_callFunc_extern Tryz.prog 103 _ (ReflectliteValue.methodAny (ReflectliteValue.valueError "reflectlite.Value.Type" 0) (fun t _ _ _=>ReflectliteType.toType t)) Tryz.func103 (by kernel_rfl) (by kernel_rfl) (by kernel_rfl) (by kernel_rfl);have hIN:=@run_callFunc_extern Tryz.prog 104 _ (ReflectliteValue.method (ReflectliteValue.valueError "reflectlite.Value.IsNil" 0) ReflectliteValue.isNil) Tryz.func104 (by kernel_rfl) (by kernel_rfl) (by kernel_rfl) (by kernel_rfl);have hKi:=@run_callFunc_extern Tryz.prog 319 _ (ReflectliteType.abiMethod fun t=>do pure (.int .u8 (←Rtype.kind t))) Tryz.func319 (by kernel_rfl) (by kernel_rfl) (by kernel_rfl) (by kernel_rfl);have hEl:=@run_callFunc_extern Tryz.prog 337 _ (ReflectliteType.method ReflectliteType.elem) Tryz.func337 (by kernel_rfl) (by kernel_rfl) (by kernel_rfl) (by kernel_rfl);have hIm:=@run_callFunc_extern Tryz.prog 338 _ (ReflectliteType.relation "Implements" ReflectliteType.implements_) Tryz.func338 (by kernel_rfl) (by kernel_rfl) (by kernel_rfl) (by kernel_rfl);have f6:=Tryz.valueOfPF;have f7:=Tryz.typePF;have mK:=Tryz.methodKind;have mE:=Tryz.methodElem;have mI:=Tryz.methodImplements;have k27:=Tryz.kindPF;have k25:=Tryz.kindF;have e27:=Tryz.elemPF;have i25:=Tryz.implementsF;have n8:=Tryz.isNilPF ⟨w.heap.size,0,none⟩ t ((w.alloc (.cells #[.pointer (some t)] 188)).alloc (.cells #[.pointer (some ⟨1,188,none⟩),.pointer (some ⟨w.heap.size,0,none⟩),.int .u64 150] 179)) (by simp);have hlt:0<w.heap.size:=zh hD
 have hg2:((w.alloc (.cells #[.pointer (some t)] 188)).alloc (.cells #[.pointer (some ⟨1,188,none⟩),.pointer (some ⟨w.heap.size,0,none⟩),.int .u64 150] 179)).cell? ⟨0,0,none⟩=some (.iface 229 (.agg #[.pointer (some ⟨1,29,none⟩)])):=by
  rw[World.cell?_alloc_lt _ _ ⟨0,0,none⟩ (by simp only[World.size_alloc];omega),World.cell?_alloc_lt _ _ ⟨0,0,none⟩ hlt];exact hD
 have H:=hid (h ((w.alloc (.cells #[.pointer (some t)] 188)).alloc (.cells #[.pointer (some ⟨1,188,none⟩),.pointer (some ⟨w.heap.size,0,none⟩),.int .u64 150] 179)) ⟨w.heap.size,0,none⟩
  (((Below.refl _ _).alloc (Nat.le_refl _) _).alloc (by simp only[World.size_alloc];omega) _) (by simp) (Nat.le_refl _))
 clear h hD;go_enter Tryz.func61,Tryz.ntmps61;go_wp2_with fail;refine H.out.mono ?_;rintro e w' ⟨b,rfl,hq⟩;have Hq:=hid hq;clear hq H;go_wp2_with fail;exact Hq.out
end
section
open Go.RowKit Go.Sort
structure CalleesU:Prop where
 ins:∀(blk off cap a b:Nat) (d:Array Nat) (w:World),Holds zc w blk off d→a≤b→b≤d.size→d.size<4611686018427387904→
  Calls Tryz.prog 277 #[.slice (some ⟨blk,off,none⟩) d.size cap,.int .i64 a,.int .i64 b] w fun e w'=>e=.returned (.tuple #[])∧∃n,w'=putRow zc (Sort.ahead w n) blk off (insertionSort ltU d a b)
 brk:∀(blk off cap a b:Nat) (d:Array Nat) (w:World),Holds zc w blk off d→blk<w.heap.size→a≤b→b≤d.size→d.size<4611686018427387904→
  Calls Tryz.prog 279 #[.slice (some ⟨blk,off,none⟩) d.size cap,.int .i64 a,.int .i64 b] w fun e w'=>e=.returned (.tuple #[])∧∃n os,w'=grow (putRow zc (Sort.ahead w n) blk off (breakPatterns d a b)) os
 piv:∀(blk off cap a b:Nat) (d:Array Nat) (w:World),Holds zc w blk off d→blk<w.heap.size→a<b→b≤d.size→d.size<4611686018427387904→
  Calls Tryz.prog 280 #[.slice (some ⟨blk,off,none⟩) d.size cap,.int .i64 a,.int .i64 b] w fun e w'=>e=.returned (.tuple #[.int .i64 (choosePivot ltU d a b).1,.int .i64 (hintCode (choosePivot ltU d a b).2)])∧∃n os,w'=grow (Sort.ahead w n) os
 par:∀(blk off cap a b:Nat) (d:Array Nat) (w:World),Holds zc w blk off d→a<b→b≤d.size→d.size<4611686018427387904→
  Calls Tryz.prog 282 #[.slice (some ⟨blk,off,none⟩) d.size cap,.int .i64 a,.int .i64 b] w fun e w'=>e=.returned (.bool (partialInsertionSort ltU d a b).2)∧∃n,w'=putRow zc (Sort.ahead w n) blk off (partialInsertionSort ltU d a b).1
 peq:∀(blk off cap a b pivot:Nat) (d:Array Nat) (w:World),Holds zc w blk off d→a≤pivot→pivot<b→b≤d.size→d.size<4611686018427387904→
  Calls Tryz.prog 284 #[.slice (some ⟨blk,off,none⟩) d.size cap,.int .i64 a,.int .i64 b,.int .i64 pivot] w fun e w'=>e=.returned (.int .i64 (partitionEqual ltU d a b pivot).1)∧∃n,w'=putRow zc (Sort.ahead w n) blk off (partitionEqual ltU d a b pivot).2
 prt:∀(blk off cap a b pivot:Nat) (d:Array Nat) (w:World),Holds zc w blk off d→a≤pivot→pivot<b→b≤d.size→d.size<4611686018427387904→
  Calls Tryz.prog 285 #[.slice (some ⟨blk,off,none⟩) d.size cap,.int .i64 a,.int .i64 b,.int .i64 pivot] w fun e w'=>e=.returned (.tuple #[.int .i64 (partition ltU d a b pivot).1,.bool (partition ltU d a b pivot).2.1])∧∃n,w'=putRow zc (Sort.ahead w n) blk off (partition ltU d a b pivot).2.2
structure PlainU:Prop where
 swo:SWO ltU
 ins:insertionSort_stmt ltU
 par:partialInsertionSort_stmt ltU
 prt:partition_stmt ltU
 peq:partitionEqual_stmt ltU
 pdq:pdq_stmt ltU
set_option maxRecDepth 1000000 in
theorem zu3 (C:CalleesU) (S:PlainU):∀(N blk off cap a b limit:Nat) (d:Array Nat) (w:World),b - a<N→Holds zc w blk off d→blk<w.heap.size→a≤b→b≤d.size→d.size<4611686018427387904→limit<4611686018427387904→Below ltU a b d→
 Calls Tryz.prog 267 #[.slice (some ⟨blk,off,none⟩) d.size cap,.int .i64 a,.int .i64 b,.int .i64 limit] w fun e w'=>e=.returned (.tuple #[])∧At zc w blk off (pdq ltU d a b limit true true) w':=by
 intro N
 induction N with
 | zero=>intro _ _ _ _ _ _ _ _ h;exact absurd h (Nat.not_lt_zero _)
 | succ N ih=>
  intro blk off cap a b limit d w hN hH hblk hab hb hsz hlimit hBel0;go_enter Tryz.func267,Tryz.ntmps267;go_wp2
  go_loopg [1,2,3,8,9] (b - a) (fun k s1 s2 s3 s8 s9 wr=>∃(a' b' lim:Nat) (wb wp:Bool) (dk:Array Nat),s1=.int .i64 a'∧s2=.int .i64 b'∧s3=.int .i64 lim∧s8=.bool wb∧s9=.bool wp∧
   a'≤b'∧b'≤d.size∧b' - a'≤k∧k≤b - a∧lim≤limit∧dk.size=d.size∧Below ltU a' b' dk∧At zc w blk off dk wr∧pdq ltU dk a' b' lim wb wp=pdq ltU d a b limit true true)
  case atStart=>exact⟨a,b,limit,true,true,d,rfl,rfl,rfl,rfl,rfl,hab,hb,Nat.le_refl _,Nat.le_refl _,Nat.le_refl _,rfl,hBel0,At.refl hH,rfl⟩
  case round=>
   obtain⟨a',b',lim,wb,wp,dk,rfl,rfl,rfl,rfl,rfl,hab',hb',hk,hkN,hlim,hds,hBel,hAt,heq⟩:=hrel;obtain⟨hHk,hblk'⟩:=hAt.holds hH hds hblk;have A:Aside (pdq ltU dk a' b' lim wb wp=pdq ltU d a b limit true true):=heq;clear heq;by_cases h12:b' - a'≤12
   ·
    have h12z:(b':Int) - (a':Int)≤12:=by omega
    have hc:=C.ins blk off cap a' b' dk wr hHk hab' (by omega) (by omega);rw[hds] at hc;go_wp2_with (go_at_call 277;refine hc.mono ?_;rintro e w1 ⟨rfl,hw1⟩)
    (try simp only[Exit.inBlock,Exit.then]);refine bodyPost_ret (results_none rfl _ _ _) rfl ?_
    refine⟨rfl,?_⟩;rw[←A.out,pdq_small h12];exact hAt.step hblk (S.ins S.swo dk a' b' hab' (by omega)).1.1 hw1
   · have h12z:¬((b':Int) - (a':Int)≤12):=by omega
     by_cases hl0:lim=0
     ·
      subst hl0;have hc:=zut blk off cap a' b' dk wr hHk hab' (by omega) (by omega);rw[hds] at hc;go_wp2_with (go_at_call 278;refine hc.mono ?_;rintro e w1 ⟨rfl,hw1⟩)
      (try simp only[Exit.inBlock,Exit.then]);refine bodyPost_ret (results_none rfl _ _ _) rfl ?_
      refine⟨rfl,?_⟩;rw[←A.out,pdq_heap h12 rfl];exact hAt.step hblk (heapSort_holds S.swo dk a' b' hab' (by omega)).1.1 hw1
     · have hl0z:¬((lim:Int)=0):=by omega
       obtain⟨s1,B1,hc1,s2,B2,hpv,s3,B3⟩:=rd_facts (limit:=lim) (wb:=wb) (wp:=wp) S.swo S.par reverseRange_holds (show a'<b' by omega) (show b'≤dk.size by omega) hBel;go_upto_if 35 with fail
       go_cut [3] from 19 (fun s3 wc=>s3=.int .i64 (rd ltU dk a' b' lim wb wp).lim∧At zc w blk off (rd ltU dk a' b' lim wb wp).d1 wc)
       case first=>
        cases wb
        · have hc:=C.brk blk off cap a' b' dk wr hHk hblk' hab' (by omega) (by omega);rw[hds] at hc;go_wp2_with (go_at_call 279;refine hc.mono ?_;rintro e w1 ⟨rfl,hw1⟩);go_meet
          case rel=>
           refine⟨?_,hAt.stepG hblk s1 hw1⟩;show Value.int .i64 ((lim:Int) - 1)=Value.int .i64 ((lim - 1:Nat):Int);congr 1;omega
        · go_wp2_with fail;go_meet
          case rel=>exact⟨rfl,hAt⟩
       case rest=>
        obtain⟨rfl,hAt1⟩:=hcut;obtain⟨hH1,hblk1⟩:=hAt1.holds hH (s1.trans hds) hblk
        have hc17:Calls Tryz.prog 280 #[.slice (some ⟨blk,off,none⟩) d.size cap,.int .i64 a',.int .i64 b'] wc fun e w'=>e=.returned (.tuple #[.int .i64 (rd ltU dk a' b' lim wb wp).c.1,.int .i64 (hintCode (rd ltU dk a' b' lim wb wp).c.2)])∧∃n os,w'=grow (Sort.ahead wc n) os:=by
         have:=C.piv blk off cap a' b' (rd ltU dk a' b' lim wb wp).d1 wc hH1 hblk1 (by omega) (by omega) (by omega);rw[s1,hds] at this;exact this
        go_upto_if 50 with (go_at_call 280;refine hc17.mono ?_;rintro e w2 ⟨rfl,hw2⟩)
        have hAt2:At zc w blk off (rd ltU dk a' b' lim wb wp).d1 w2:=hAt1.same hH (s1.trans hds) hblk hw2;obtain⟨hH2,hblk2⟩:=hAt2.holds hH (s1.trans hds) hblk;go_cut [11,12] from 19 (fun s11 s12 wc=>s11=.int .i64 (rd ltU dk a' b' lim wb wp).pivot∧s12=.int .i64 (hintCode (rd ltU dk a' b' lim wb wp).hint)∧At zc w blk off (rd ltU dk a' b' lim wb wp).d2 wc)
        case first=>
         by_cases hh:(rd ltU dk a' b' lim wb wp).c.2=.decreasing
         · have hcode:hintCode (rd ltU dk a' b' lim wb wp).c.2=2:=by rw[hh];rfl
           obtain⟨e2,epv,eht⟩:=rd_dec hh;have hc18:=zud blk off cap a' b' (rd ltU dk a' b' lim wb wp).d1 w2 hH2 hab' (by omega) (by omega);rw[s1,hds] at hc18;go_wp2_with (go_at_call 281;refine hc18.mono ?_;rintro e w3 ⟨rfl,hw3⟩);go_meet
           case rel=>
            refine⟨?_,by rw[eht];rfl,by rw[e2];exact hAt2.step hblk (by rw[←e2,s2,s1]) hw3⟩;rw[epv];congr 1;omega
         · have hcode:¬(hintCode (rd ltU dk a' b' lim wb wp).c.2=2):=fun h=>hh (hintCode_two h)
           obtain⟨e2,epv,eht⟩:=rd_not hh;go_wp2_with fail;go_meet
           case rel=>exact⟨by rw[epv],by rw[eht],by rw[e2];exact hAt2⟩
        case rest=>
         obtain⟨rfl,rfl,hAt3⟩:=hcut;obtain⟨hH3,hblk3⟩:=hAt3.holds hH (s2.trans hds) hblk;go_upto_region 15 with fail
         go_cut [12,68] from 19 (fun s12 s68 wx=>s12=.int .i64 (hintCode (rd ltU dk a' b' lim wb wp).hint)∧s68=.bool (wb && wp && decide ((rd ltU dk a' b' lim wb wp).hint=.increasing))∧wx=wc)
         case first=>
          cases wb <;> cases wp <;> cases hh3:(rd ltU dk a' b' lim _ _).hint <;>
           (have hcode3:=congrArg hintCode hh3
            simp only[hintCode] at hcode3;go_wp2_with fail;go_meet
            exact⟨by simp[hh3,hintCode],by simp[hh3,hintCode],rfl⟩)
         case rest=>
          obtain⟨rfl,rfl,rfl⟩:=hcut;go_upto_if 68 with fail
          go_cut [] from 19 (fun wx=>(rd ltU dk a' b' lim wb wp).pi.2=false∧At zc w blk off (rd ltU dk a' b' lim wb wp).pi.1 wx)
          case first=>
           cases h68:(wb && wp && decide ((rd ltU dk a' b' lim wb wp).hint=.increasing))
           · have epi:=rd_pi_no h68;go_wp2_with fail;go_meet
             case rel=>exact⟨by rw[epi],by rw[epi];exact hAt3⟩
           · have epi:=rd_pi_yes h68;have hc19:=C.par blk off cap a' b' (rd ltU dk a' b' lim wb wp).d2 wc hH3 (by omega) (by omega) (by omega);rw[s2,hds,←epi] at hc19;go_wp2_with (go_at_call 282;refine hc19.mono ?_;rintro e w4 ⟨rfl,hw4⟩)
             all_goals first
              | (have hp2:(rd ltU dk a' b' lim wb wp).pi.2=false:=by rw[epi];assumption
                 go_meet
                 exact⟨hp2,hAt3.step hblk (by rw[s3,s2]) hw4⟩)
              | (have hp2:(rd ltU dk a' b' lim wb wp).pi.2=true:=by rw[epi];assumption
                 (try simp only[Exit.inBlock,Exit.then]);refine bodyPost_ret (results_none rfl _ _ _) rfl ?_
                 refine⟨rfl,?_⟩;rw[←A.out,pdq_done h12 hl0 hp2];exact hAt3.step hblk (by rw[s3,s2]) hw4)
          case rest=>
           obtain⟨hp2,hAt5⟩:=hcut;obtain⟨hH5,hblk5⟩:=hAt5.holds hH (s3.trans hds) hblk;have hcw:∀t,t<d.size→wc.cell? ⟨blk,off+t,none⟩=some (.int .u64 (((rd ltU dk a' b' lim wb wp).pi.1[t]! :Nat):Int)):=fun t ht=>(hH5 t (by omega)).1
           have hfw:∀t,t<d.size→wc.frozen? ⟨blk,off+t,none⟩=false:=fun t ht=>(hH5 t (by omega)).2
           go_upto_region 17 with fail
           go_cut [87] from 19 (fun s87 wx=>s87=.bool (decide (a'>0) && !ltU (rd ltU dk a' b' lim wb wp).pi.1[a' - 1]! (rd ltU dk a' b' lim wb wp).pi.1[(rd ltU dk a' b' lim wb wp).pivot]!)∧At zc w blk off (rd ltU dk a' b' lim wb wp).pi.1 wx)
           case first=>
            rcases Nat.eq_zero_or_pos a' with ha0 | ha0
            · have ha0z:decide ((a':Int)>0)=false:=decide_eq_false (by omega);go_big_quiet (first | (go_at_call 283;refine Calls.quiet_of_same (qw _ _ _)))
              go_wp2_with fail;go_meet
              case rel=>exact⟨by simp[ha0],hAt5.ahead nq⟩
            · have ha0z:(a':Int)>0:=by omega
              go_big_quiet (first | (go_at_call 283;refine Calls.quiet_of_same (qw _ _ _)))
              go_wp2_with fail;go_meet
              case rel=>exact⟨by simp[ha0],hAt5.ahead nq⟩
           case rest=>
            obtain⟨rfl,hAt6⟩:=hcut;obtain⟨hH6,hblk6⟩:=hAt6.holds hH (s3.trans hds) hblk;clear hcw hfw;cases h87:(decide (a'>0) && !ltU (rd ltU dk a' b' lim wb wp).pi.1[a' - 1]! (rd ltU dk a' b' lim wb wp).pi.1[(rd ltU dk a' b' lim wb wp).pivot]!)
            ·
             obtain⟨mid,ap,d4,hx⟩:∃mid ap d4,partition ltU (rd ltU dk a' b' lim wb wp).pi.1 a' b' (rd ltU dk a' b' lim wb wp).pivot=(mid,ap,d4):=⟨(partition ltU (rd ltU dk a' b' lim wb wp).pi.1 a' b' (rd ltU dk a' b' lim wb wp).pivot).1,(partition ltU (rd ltU dk a' b' lim wb wp).pi.1 a' b' (rd ltU dk a' b' lim wb wp).pivot).2.1,(partition ltU (rd ltU dk a' b' lim wb wp).pi.1 a' b' (rd ltU dk a' b' lim wb wp).pivot).2.2,rfl⟩;obtain⟨r1,r2,r3,r4,r5,r6,r7⟩:=round_part S.swo S.prt hpv.1 hpv.2 (show b'≤(rd ltU dk a' b' lim wb wp).pi.1.size by omega) B3 hx;have hc22:=C.prt blk off cap a' b' (rd ltU dk a' b' lim wb wp).pivot (rd ltU dk a' b' lim wb wp).pi.1 wc hH6 hpv.1 hpv.2 (by omega) (by omega);rw[s3,hds,hx] at hc22;have X:Aside (partition ltU (rd ltU dk a' b' lim wb wp).pi.1 a' b' (rd ltU dk a' b' lim wb wp).pivot=(mid,ap,d4)):=hx;clear hx;go_upto_if 113 with (go_at_call 285;refine hc22.mono ?_;rintro e w7 ⟨rfl,hw7⟩)
             have hx:=X.out;have hAt7:At zc w blk off d4 w7:=hAt6.step hblk r3 hw7;obtain⟨hH7,hblk7⟩:=hAt7.holds hH (r3.trans (s3.trans hds)) hblk;by_cases h4:mid - a'<b' - mid
             · have h4z:(mid:Int) - (a':Int)<(b':Int) - (mid:Int):=by omega
               have hih:=ih blk off cap a' mid (rd ltU dk a' b' lim wb wp).lim d4 w7 (by omega) hH7 hblk7 (by omega) (by omega) (by omega) (Nat.lt_of_le_of_lt (Nat.le_trans rd_lim_le hlim) hlimit) r4;rw[r3,s3,hds] at hih;obtain⟨pL,sL⟩:=S.pdq S.swo d4 a' mid (rd ltU dk a' b' lim wb wp).lim true true (by omega) (by omega) r4;go_wp2_with (go_at_call 267;refine hih.mono ?_;rintro e w8 ⟨rfl,hw8⟩);go_roundg (b' - (mid+1))
               case measure=>omega
               case rel=>
                refine⟨mid+1,b',(rd ltU dk a' b' lim wb wp).lim,decide (mid - a'≥(b' - a') / 8),ap,pdq ltU d4 a' mid (rd ltU dk a' b' lim wb wp).lim true true,by simp,rfl,rfl,?_,rfl,by omega,by omega,Nat.le_refl _,by omega,Nat.le_trans rd_lim_le hlim,by rw[pL.1,r3,s3,hds],(r6 _ pL sL).1,hAt7.stepG hblk pL.1 hw8,?_⟩
                · exact congrArg Value.bool (eighth (by omega) (by omega))
                · rw[←A.out,pdq_left h12 hl0 hp2 h87 (by rw[hx];exact⟨r1,r2⟩) (by rw[hx];exact h4),hx]
             · have h4z:¬((mid:Int) - (a':Int)<(b':Int) - (mid:Int)):=by omega
               have hih:=ih blk off cap (mid+1) b' (rd ltU dk a' b' lim wb wp).lim d4 w7 (by omega) hH7 hblk7 (by omega) (by omega) (by omega) (Nat.lt_of_le_of_lt (Nat.le_trans rd_lim_le hlim) hlimit) r5;rw[r3,s3,hds] at hih;obtain⟨pL,sL⟩:=S.pdq S.swo d4 (mid+1) b' (rd ltU dk a' b' lim wb wp).lim true true (by omega) (by omega) r5;go_wp2_with (go_at_call 267;refine hih.mono ?_;rintro e w8 ⟨rfl,hw8⟩);go_roundg (mid - a')
               case measure=>omega
               case rel=>
                refine⟨a',mid,(rd ltU dk a' b' lim wb wp).lim,decide (b' - mid≥(b' - a') / 8),ap,pdq ltU d4 (mid+1) b' (rd ltU dk a' b' lim wb wp).lim true true,rfl,rfl,rfl,?_,rfl,by omega,by omega,Nat.le_refl _,by omega,Nat.le_trans rd_lim_le hlim,by rw[pL.1,r3,s3,hds],(r7 _ pL sL).1,hAt7.stepG hblk pL.1 hw8,?_⟩
                · exact congrArg Value.bool (eighth (by omega) (by omega))
                · rw[←A.out,pdq_right h12 hl0 hp2 h87 (by rw[hx];exact⟨r1,r2⟩) (by rw[hx];exact h4),hx]
            ·
             have h87':=h87;simp only[Bool.and_eq_true,decide_eq_true_eq,Bool.not_eq_true'] at h87';obtain⟨mid,d4,hx⟩:∃mid d4,partitionEqual ltU (rd ltU dk a' b' lim wb wp).pi.1 a' b' (rd ltU dk a' b' lim wb wp).pivot=(mid,d4):=⟨(partitionEqual ltU (rd ltU dk a' b' lim wb wp).pi.1 a' b' (rd ltU dk a' b' lim wb wp).pivot).1,(partitionEqual ltU (rd ltU dk a' b' lim wb wp).pi.1 a' b' (rd ltU dk a' b' lim wb wp).pivot).2,rfl⟩;obtain⟨r1,r2,r3,r4,_⟩:=round_eq S.swo S.peq h87'.1 hpv.1 hpv.2 (show b'≤(rd ltU dk a' b' lim wb wp).pi.1.size by omega) B3 h87'.2 hx;have hc21:=C.peq blk off cap a' b' (rd ltU dk a' b' lim wb wp).pivot (rd ltU dk a' b' lim wb wp).pi.1 wc hH6 hpv.1 hpv.2 (by omega) (by omega);rw[s3,hds,hx] at hc21;have X:Aside (partitionEqual ltU (rd ltU dk a' b' lim wb wp).pi.1 a' b' (rd ltU dk a' b' lim wb wp).pivot=(mid,d4)):=hx;clear hx;go_wp2_with (go_at_call 284;refine hc21.mono ?_;rintro e w7 ⟨rfl,hw7⟩);go_roundg (b' - mid)
             case measure=>omega
             case rel=>
              have hx:=X.out;exact⟨mid,b',(rd ltU dk a' b' lim wb wp).lim,wb,wp,d4,rfl,rfl,rfl,rfl,rfl,r2,hb',Nat.le_refl _,by omega,Nat.le_trans rd_lim_le hlim,by rw[r3,s3,hds],r4,hAt6.step hblk r3 hw7,by rw[←A.out,pdq_eq h12 hl0 hp2 h87 (by rw[hx];exact⟨r1,r2⟩),hx]⟩
