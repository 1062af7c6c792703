/- Part 03. -/
import Derived.LoopN
import Derived.Maps.Own
import Derived.Maps.OwnOps
import Derived.Maps.OwnSet
import Derived.Maps.RangeWalk
import Derived.Maps.Ext
import Derived.Sort.WalkA
import Derived.Sort.WalkA6
import Derived.Sort.WalkB3
import Derived.Sort.WalkC4
import Derived.Sort.WalkD2
import Derived.Sort.Walk7
import Derived.Sort.Walk11
import Derived.Sort.Walk13
import Derived.Sort.WalkA14
import Derived.Sort.AssemblyPlain
import Derived.Laws.StructEq
import Derived.Laws.CopyOwn
import Derived.Lib.Overlaps
import Derived.Lib.AppendZerosOnto
import Derived.Shelf.RegionOpenPlain
import Derived.Test.YtdnipikdddfhfaaGreatDoorOb02
set_option linter.unusedVariables false
set_option maxHeartbeats 16000000
namespace Go.Proofs.YtdnipikdddfhfaaGreatDoor
open Lib (hid)
section
open Go.RowKit Go.Extern.Stop Go.Stop Go.Extern
theorem zm6 (c:Int) (t A:Addr) (old:Value) (w:World) (hA:w.cell? A=some (.pointer (some t))) (ht:w.cell? t=some old) (hf:w.frozen? t=false):
 Calls Tryz.prog 105 #[.iface 35 (.int .i64 c),.iface 111 (.pointer (some t)),.agg #[.pointer (some ⟨1,111,none⟩),.pointer (some A),.int .u64 150],.iface 229 (.agg #[.pointer (some ⟨1,35,none⟩)])] w
  fun e w'=>e=.returned (.bool true)∧w.grownBy w' (some t.block)∧w'.cell? t=some (.int .i64 c):=by
 have hTO:=@run_callFunc_extern Tryz.prog 138 _ ReflectliteType.typeOf Tryz.func138 (by kernel_rfl) (by kernel_rfl) (by kernel_rfl) (by kernel_rfl);have hAT:=@run_callFunc_extern Tryz.prog 335 _ (ReflectliteType.relation "AssignableTo" ReflectliteType.assignableTo) Tryz.func335 (by kernel_rfl) (by kernel_rfl) (by kernel_rfl) (by kernel_rfl);have hEl:=@run_callFunc_extern Tryz.prog 139 _ (ReflectliteValue.method (ReflectliteValue.valueError "reflectlite.Value.Elem" 0) ReflectliteValue.elem) Tryz.func139 (by kernel_rfl) (by kernel_rfl) (by kernel_rfl) (by kernel_rfl);have hVO:=@run_callFunc_extern Tryz.prog 102 _ (fun args=>ReflectliteValue.unpack (args.getD 0 (.tuple #[]))) Tryz.func102 (by kernel_rfl) (by kernel_rfl) (by kernel_rfl) (by kernel_rfl);have hSt:=@run_callFunc_extern Tryz.prog 140 _ ReflectliteValue.set Tryz.func140 (by kernel_rfl) (by kernel_rfl) (by kernel_rfl) (by kernel_rfl);have tO:=Tryz.typeOfE;have mA:=Tryz.methodAssignableTo;have aEE:=Tryz.assignableEE;have vE:=Tryz.valueOfE;have hAl:A.block<w.heap.size:=ze hA;have htl:t.block<w.heap.size:=ze ht;have el:=Tryz.elemVPE A t (w.alloc (.cells #[.pointer (some ⟨1,111,none⟩),.pointer (some A),.int .u64 150] 179)) (by rw[World.cell?_alloc_lt _ _ A hAl];exact hA)
 have st:=Tryz.setE t ⟨w.heap.size+1,0,none⟩ c old ((w.alloc (.cells #[.pointer (some ⟨1,111,none⟩),.pointer (some A),.int .u64 150] 179)).alloc (.cells #[.int .i64 c] 35))
  (by rw[World.cell?_alloc_at _ _ _ _ (by simp)];rfl)
  (by rw[World.cell?_alloc_lt _ _ t (by simp;omega),World.cell?_alloc_lt _ _ t htl];exact ht)
  (by rw[World.frozen?_alloc_old _ _ t (by simp;omega),World.frozen?_alloc_old _ _ t (Nat.ne_of_lt htl)];exact hf)
 have hc2:(((w.alloc (.cells #[.pointer (some ⟨1,111,none⟩),.pointer (some A),.int .u64 150] 179)).alloc (.cells #[.int .i64 c] 35)).setCell t (.int .i64 c)).cell? t=some (.int .i64 c):=
  World.cell?_setCell_same _ _ _ (by rw[World.cell?_alloc_lt _ _ t (by simp;omega),World.cell?_alloc_lt _ _ t htl];exact ht)
 have Hc2:=hid hc2;clear hc2;go_enter Tryz.func105,Tryz.ntmps105;go_wp2;refine wp_loop_rounds 1 ?_;rw[rounds_succ];go_wp2;go_ret;exact⟨rfl,vg (vg (World.grownBy_alloc _ _ _) (World.grownBy_alloc _ _ _)) (zdg _ _ _),Hc2.out⟩
theorem ze3 (c a:Int) (w:World):Calls Tryz.prog 323 #[.agg #[.int .i64 c,.int .i64 a]] w fun e w'=>e=.returned (.iface 35 (.int .i64 c))∧w'=w.alloc (.cells #[.int .i64 c,.int .i64 a] 112):=by
 go_enter Tryz.func323,Tryz.ntmps323;go_wp2;go_ret;exact⟨rfl,rfl⟩
theorem zm7 (c a:Int) (t A:Addr) (old:Value) (w:World) (hA:w.cell? A=some (.pointer (some t))) (ht:w.cell? t=some old) (hf:w.frozen? t=false):
 Calls Tryz.prog 105 #[.iface 112 (.agg #[.int .i64 c,.int .i64 a]),.iface 111 (.pointer (some t)),.agg #[.pointer (some ⟨1,111,none⟩),.pointer (some A),.int .u64 150],.iface 229 (.agg #[.pointer (some ⟨1,35,none⟩)])] w
  fun e w'=>e=.returned (.bool true)∧w.grownBy w' (some t.block)∧w'.cell? t=some (.int .i64 c):=by
 have hTO:=@run_callFunc_extern Tryz.prog 138 _ ReflectliteType.typeOf Tryz.func138 (by kernel_rfl) (by kernel_rfl) (by kernel_rfl) (by kernel_rfl);have hAT:=@run_callFunc_extern Tryz.prog 335 _ (ReflectliteType.relation "AssignableTo" ReflectliteType.assignableTo) Tryz.func335 (by kernel_rfl) (by kernel_rfl) (by kernel_rfl) (by kernel_rfl);have hEl:=@run_callFunc_extern Tryz.prog 139 _ (ReflectliteValue.method (ReflectliteValue.valueError "reflectlite.Value.Elem" 0) ReflectliteValue.elem) Tryz.func139 (by kernel_rfl) (by kernel_rfl) (by kernel_rfl) (by kernel_rfl);have hVO:=@run_callFunc_extern Tryz.prog 102 _ (fun args=>ReflectliteValue.unpack (args.getD 0 (.tuple #[]))) Tryz.func102 (by kernel_rfl) (by kernel_rfl) (by kernel_rfl) (by kernel_rfl);have hSt:=@run_callFunc_extern Tryz.prog 140 _ ReflectliteValue.set Tryz.func140 (by kernel_rfl) (by kernel_rfl) (by kernel_rfl) (by kernel_rfl);have tO:=Tryz.typeOfE;have tO2:=Tryz.typeOfF;have mA:=Tryz.methodAssignableTo;have aEE:=Tryz.assignableEE;have aFE:=Tryz.assignableFE;have s1:=Tryz.asAsF;have s2:=Tryz.asUnF;have mU:=Tryz.methodUnF;have vE:=Tryz.valueOfE;have hAl:A.block<w.heap.size:=ze hA;have htl:t.block<w.heap.size:=ze ht
 have hA2:((w.alloc (.cells #[.pointer (some ⟨1,111,none⟩),.pointer (some A),.int .u64 150] 179)).alloc (.cells #[.int .i64 c,.int .i64 a] 112)).cell? A=some (.pointer (some t)):=by
  rw[World.cell?_alloc_lt _ _ A (by simp;omega),World.cell?_alloc_lt _ _ A hAl];exact hA
 have ht2:((w.alloc (.cells #[.pointer (some ⟨1,111,none⟩),.pointer (some A),.int .u64 150] 179)).alloc (.cells #[.int .i64 c,.int .i64 a] 112)).cell? t=some old:=by
  rw[World.cell?_alloc_lt _ _ t (by simp;omega),World.cell?_alloc_lt _ _ t htl];exact ht
 have hf2:((w.alloc (.cells #[.pointer (some ⟨1,111,none⟩),.pointer (some A),.int .u64 150] 179)).alloc (.cells #[.int .i64 c,.int .i64 a] 112)).frozen? t=false:=by
  rw[World.frozen?_alloc_old _ _ t (by simp;omega),World.frozen?_alloc_old _ _ t (Nat.ne_of_lt htl)];exact hf
 have el:=Tryz.elemVPE A t ((w.alloc (.cells #[.pointer (some ⟨1,111,none⟩),.pointer (some A),.int .u64 150] 179)).alloc (.cells #[.int .i64 c,.int .i64 a] 112)) hA2
 have st:=Tryz.setE t ⟨w.heap.size+1+1,0,none⟩ c old (((w.alloc (.cells #[.pointer (some ⟨1,111,none⟩),.pointer (some A),.int .u64 150] 179)).alloc (.cells #[.int .i64 c,.int .i64 a] 112)).alloc (.cells #[.int .i64 c] 35))
  (by rw[World.cell?_alloc_at _ _ _ _ (by simp)];rfl)
  (by rw[World.cell?_alloc_lt _ _ t (by simp;omega)];exact ht2)
  (by rw[World.frozen?_alloc_old _ _ t (by simp;omega)];exact hf2)
 have hc2:((((w.alloc (.cells #[.pointer (some ⟨1,111,none⟩),.pointer (some A),.int .u64 150] 179)).alloc (.cells #[.int .i64 c,.int .i64 a] 112)).alloc (.cells #[.int .i64 c] 35)).setCell t (.int .i64 c)).cell? t=some (.int .i64 c):=
  World.cell?_setCell_same _ _ _ (by rw[World.cell?_alloc_lt _ _ t (by simp;omega)];exact ht2)
 have Hc2:=hid hc2;clear hc2 hA2 ht2 hf2;go_enter Tryz.func105,Tryz.ntmps105;go_wp2;refine wp_loop_rounds 2 ?_;rw[rounds_succ];go_wp2_with fail;refine(ze3 c a _).mono ?_;rintro e w' ⟨rfl,rfl⟩;go_wp2_with fail;rw[rounds_succ];go_wp2_with fail;go_ret;exact⟨rfl,vg (vg (vg (World.grownBy_alloc _ _ _) (World.grownBy_alloc _ _ _)) (World.grownBy_alloc _ _ _)) (zdg _ _ _),Hc2.out⟩
theorem zm8 (t:Value) (w:World):Calls Tryz.prog 61 #[.nilIface,t] w fun e w'=>e=.returned (.bool false)∧w=w':=by
 go_enter Tryz.func61,Tryz.ntmps61;go_wp2;go_ret;exact⟨rfl,rfl⟩
theorem zhb (u:TypeId) (x:Value) (t:Addr) (w:World) (hD:Door w) (ht:t.block<w.heap.size) (Q:Ending→World→Prop)
 (h:∀(w1:World) (A:Addr),Below w.heap.size w w1→w1.cell? A=some (.pointer (some t))→w.heap.size≤A.block→
   Calls Tryz.prog 105 #[.iface u x,.iface 111 (.pointer (some t)),.agg #[.pointer (some ⟨1,111,none⟩),.pointer (some A),.int .u64 150],.iface 229 (.agg #[.pointer (some ⟨1,35,none⟩)])] w1 fun e w'=>∃b,e=.returned (.bool b)∧Q e w'):
 Calls Tryz.prog 61 #[.iface u x,.iface 111 (.pointer (some t))] w Q:=by
 have hVO:=@run_callFunc_extern Tryz.prog 102 _ (fun args=>ReflectliteValue.unpack (args.getD 0 (.tuple #[]))) Tryz.func102 (by kernel_rfl) (by kernel_rfl) (by kernel_rfl) (by kernel_rfl);have hTy:=@run_callFunc_extern Tryz.prog 103 _ (ReflectliteValue.methodAny (ReflectliteValue.valueError "reflectlite.Value.Type" 0) (fun t _ _ _=>ReflectliteType.toType t)) Tryz.func103 (by kernel_rfl) (by kernel_rfl) (by kernel_rfl) (by kernel_rfl);have hIN:=@run_callFunc_extern Tryz.prog 104 _ (ReflectliteValue.method (ReflectliteValue.valueError "reflectlite.Value.IsNil" 0) ReflectliteValue.isNil) Tryz.func104 (by kernel_rfl) (by kernel_rfl) (by kernel_rfl) (by kernel_rfl);have hKi:=@run_callFunc_extern Tryz.prog 319 _ (ReflectliteType.abiMethod fun t=>do pure (.int .u8 (←Rtype.kind t))) Tryz.func319 (by kernel_rfl) (by kernel_rfl) (by kernel_rfl) (by kernel_rfl);have hEl:=@run_callFunc_extern Tryz.prog 337 _ (ReflectliteType.method ReflectliteType.elem) Tryz.func337 (by kernel_rfl) (by kernel_rfl) (by kernel_rfl) (by kernel_rfl);have hIm:=@run_callFunc_extern Tryz.prog 338 _ (ReflectliteType.relation "Implements" ReflectliteType.implements_) Tryz.func338 (by kernel_rfl) (by kernel_rfl) (by kernel_rfl) (by kernel_rfl);have f6:=Tryz.valueOfPE;have f7:=Tryz.typePE;have mK:=Tryz.methodKind;have mE:=Tryz.methodElem;have mI:=Tryz.methodImplements;have k27:=Tryz.kindPE;have k25:=Tryz.kindE;have e27:=Tryz.elemPE;have i25:=Tryz.implementsE;have n8:=Tryz.isNilPE ⟨w.heap.size,0,none⟩ t ((w.alloc (.cells #[.pointer (some t)] 111)).alloc (.cells #[.pointer (some ⟨1,111,none⟩),.pointer (some ⟨w.heap.size,0,none⟩),.int .u64 150] 179)) (by simp);have hlt:0<w.heap.size:=ze hD
 have hg2:((w.alloc (.cells #[.pointer (some t)] 111)).alloc (.cells #[.pointer (some ⟨1,111,none⟩),.pointer (some ⟨w.heap.size,0,none⟩),.int .u64 150] 179)).cell? ⟨0,0,none⟩=some (.iface 229 (.agg #[.pointer (some ⟨1,29,none⟩)])):=by
  rw[World.cell?_alloc_lt _ _ ⟨0,0,none⟩ (by simp only[World.size_alloc];omega),World.cell?_alloc_lt _ _ ⟨0,0,none⟩ hlt];exact hD
 have H:=hid (h ((w.alloc (.cells #[.pointer (some t)] 111)).alloc (.cells #[.pointer (some ⟨1,111,none⟩),.pointer (some ⟨w.heap.size,0,none⟩),.int .u64 150] 179)) ⟨w.heap.size,0,none⟩
  (((Below.refl _ _).alloc (Nat.le_refl _) _).alloc (by simp only[World.size_alloc];omega) _) (by simp) (Nat.le_refl _))
 clear h hD;go_enter Tryz.func61,Tryz.ntmps61;go_wp2_with fail;refine H.out.mono ?_;rintro e w' ⟨b,rfl,hq⟩;have Hq:=hid hq;clear hq H;go_wp2_with fail;exact Hq.out
theorem zhc (u:TypeId) (x:Value) (t:Addr) (w:World) (hD:Door w) (ht:t.block<w.heap.size) (Q:Ending→World→Prop)
 (h:∀(w1:World) (A:Addr),Below w.heap.size w w1→w1.cell? A=some (.pointer (some t))→w.heap.size≤A.block→
   Calls Tryz.prog 105 #[.iface u x,.iface 188 (.pointer (some t)),.agg #[.pointer (some ⟨1,188,none⟩),.pointer (some A),.int .u64 150],.iface 229 (.agg #[.pointer (some ⟨1,112,none⟩)])] w1 fun e w'=>∃b,e=.returned (.bool b)∧Q e w'):
 Calls Tryz.prog 61 #[.iface u x,.iface 188 (.pointer (some t))] w Q:=by
 have hVO:=@run_callFunc_extern Tryz.prog 102 _ (fun args=>ReflectliteValue.unpack (args.getD 0 (.tuple #[]))) Tryz.func102 (by kernel_rfl) (by kernel_rfl) (by kernel_rfl) (by kernel_rfl);have hTy:=@run_callFunc_extern Tryz.prog 103 _ (ReflectliteValue.methodAny (ReflectliteValue.valueError "reflectlite.Value.Type" 0) (fun t _ _ _=>ReflectliteType.toType t)) Tryz.func103 (by kernel_rfl) (by kernel_rfl) (by kernel_rfl) (by kernel_rfl);have hIN:=@run_callFunc_extern Tryz.prog 104 _ (ReflectliteValue.method (ReflectliteValue.valueError "reflectlite.Value.IsNil" 0) ReflectliteValue.isNil) Tryz.func104 (by kernel_rfl) (by kernel_rfl) (by kernel_rfl) (by kernel_rfl);have hKi:=@run_callFunc_extern Tryz.prog 319 _ (ReflectliteType.abiMethod fun t=>do pure (.int .u8 (←Rtype.kind t))) Tryz.func319 (by kernel_rfl) (by kernel_rfl) (by kernel_rfl) (by kernel_rfl);have hEl:=@run_callFunc_extern Tryz.prog 337 _ (ReflectliteType.method ReflectliteType.elem) Tryz.func337 (by kernel_rfl) (by kernel_rfl) (by kernel_rfl) (by kernel_rfl);have hIm:=@run_callFunc_extern Tryz.prog 338 _ (ReflectliteType.relation "Implements" ReflectliteType.implements_) Tryz.func338 (by kernel_rfl) (by kernel_rfl) (by kernel_rfl) (by kernel_rfl);have f6:=Tryz.valueOfPF;have f7:=Tryz.typePF;have mK:=Tryz.methodKind;have mE:=Tryz.methodElem;have mI:=Tryz.methodImplements;have k27:=Tryz.kindPF;have k25:=Tryz.kindF;have e27:=Tryz.elemPF;have i25:=Tryz.implementsF;have n8:=Tryz.isNilPF ⟨w.heap.size,0,none⟩ t ((w.alloc (.cells #[.pointer (some t)] 188)).alloc (.cells #[.pointer (some ⟨1,188,none⟩),.pointer (some ⟨w.heap.size,0,none⟩),.int .u64 150] 179)) (by simp);have hlt:0<w.heap.size:=ze hD
 have hg2:((w.alloc (.cells #[.pointer (some t)] 188)).alloc (.cells #[.pointer (some ⟨1,188,none⟩),.pointer (some ⟨w.heap.size,0,none⟩),.int .u64 150] 179)).cell? ⟨0,0,none⟩=some (.iface 229 (.agg #[.pointer (some ⟨1,29,none⟩)])):=by
  rw[World.cell?_alloc_lt _ _ ⟨0,0,none⟩ (by simp only[World.size_alloc];omega),World.cell?_alloc_lt _ _ ⟨0,0,none⟩ hlt];exact hD
 have H:=hid (h ((w.alloc (.cells #[.pointer (some t)] 188)).alloc (.cells #[.pointer (some ⟨1,188,none⟩),.pointer (some ⟨w.heap.size,0,none⟩),.int .u64 150] 179)) ⟨w.heap.size,0,none⟩
  (((Below.refl _ _).alloc (Nat.le_refl _) _).alloc (by simp only[World.size_alloc];omega) _) (by simp) (Nat.le_refl _))
 clear h hD;go_enter Tryz.func61,Tryz.ntmps61;go_wp2_with fail;refine H.out.mono ?_;rintro e w' ⟨b,rfl,hq⟩;have Hq:=hid hq;clear hq H;go_wp2_with fail;exact Hq.out
end
section
def qw:List Nat:=[75,78,87,76,1]
def qq (l:List Nat) (p i:Nat):Option (Nat×Nat):=
 if l.length≤p+i then some (5,p)
 else if nth l (p+i)=nth qw i then none
 else some (if i=4 then 13 else 12,p+i)
def qg (l:List Nat) (p:Nat):Option (Nat×Nat):=[0,1,2,3,4].findSome? (qq l p)
def qk (l:List Nat) (p:Nat) (most:Int):Nat×Nat×Err:=
 match qg l p with
 | some (c,q)=>(0,0,some ((c:Int),some (q:Int)))
 | none=>
  match zk (l.drop (p+5)) 0 0 with
  | (1,x,j)=>if max most 0<(x:Int) then (0,0,some (7,some ((p+5:Nat):Int))) else (p+5+j,x,none)
  | (2,_,_)=>(0,0,some (6,some ((p+5:Nat):Int)))
  | _=>(0,0,some (5,some (p:Int)))
theorem za3 {l:List Nat} {p i:Nat} {e:Nat×Nat} (hi:i<5) (h:∀j,j<i→qq l p j=none) (he:qq l p i=some e):qg l p=some e:=by
 unfold qg;obtain rfl | rfl | rfl | rfl | rfl:i=0∨i=1∨i=2∨i=3∨i=4:=by omega
 · simp[List.findSome?,he]
 · simp[List.findSome?,he,h 0 (by omega)]
 · simp[List.findSome?,he,h 0 (by omega),h 1 (by omega)]
 · simp[List.findSome?,he,h 0 (by omega),h 1 (by omega),h 2 (by omega)]
 · simp[List.findSome?,he,h 0 (by omega),h 1 (by omega),h 2 (by omega),h 3 (by omega)]
theorem zhd {l:List Nat} {p:Nat} (h:∀j,j<5→qq l p j=none):qg l p=none:=by
 unfold qg;simp[List.findSome?,h 0 (by omega),h 1 (by omega),h 2 (by omega),h 3 (by omega),h 4 (by omega)]
theorem zcf {l:List Nat} {p i:Nat} (h:l.length≤p+i):qq l p i=some (5,p):=if_pos h
theorem zbl {l:List Nat} {p i:Nat} (h:p+i<l.length) (e:nth l (p+i)=nth qw i):qq l p i=none:=by
 unfold qq;rw[if_neg (by omega),if_pos e]
theorem ze4 {l:List Nat} {p i:Nat} (h:p+i<l.length) (e:nth l (p+i)≠nth qw i):qq l p i=some (if i=4 then 13 else 12,p+i):=by
 unfold qq;rw[if_neg (by omega),if_neg e]
theorem zcg {l:List Nat} {p c q:Nat} {most:Int} (h:qg l p=some (c,q)):qk l p most=(0,0,some ((c:Int),some (q:Int))):=by
 unfold qk;rw[h]
theorem zdl (l:List Nat) (p i:Nat):nth (l.drop p) i=nth l (p+i):=by
 simp[nth]
abbrev Ent:=Nat×Nat×List Iv
abbrev Vec:=List Ent
abbrev Frg:=List Iv×Vec
abbrev Kno:=List Frg
abbrev yg (l:List Iv):Prop:=∀t∈l,t.1<18446744073709551616∧t.2<18446744073709551616
def zai:List Nat→Nat→List Nat
 | [],x=>[x]
 | a :: l,x=>if x<a then x :: a :: l else if x=a then a :: l else a :: zai l x
theorem ze5:∀{l:List Nat} {x y:Nat},y∈zai l x↔y∈l∨y=x
 | [],x,y=>by simp[zai]
 | a :: l,x,y=>by
   rw[zai];split
   · simp only[List.mem_cons];constructor
     · rintro(h | h | h)
       · exact .inr h
       · exact .inl (.inl h)
       · exact .inl (.inr h)
     · rintro((h | h) | h)
       · exact .inr (.inl h)
       · exact .inr (.inr h)
       · exact .inl h
   · split
     · rename_i h;subst h;simp only[List.mem_cons];constructor
       · exact .inl
       · rintro(h | h)
         · exact h
         · exact .inl h
     · simp only[List.mem_cons,ze5 (l:=l)];constructor
       · rintro(h | h | h)
         · exact .inl (.inl h)
         · exact .inl (.inr h)
         · exact .inr h
       · rintro((h | h) | h)
         · exact .inl h
         · exact .inr (.inl h)
         · exact .inr (.inr h)
theorem zhe:∀{l:List Nat} {x:Nat},Asc l→Asc (zai l x)
 | [],x,_=>trivial
 | a :: l,x,h=>by
   rw[zai];split
   · rename_i hx
     exact zgs (fun y hy=>by
      rcases List.mem_cons.1 hy with rfl | hy
      · exact hx
      · have:=h.lower y hy;omega) h
   · split
     · exact h
     · refine zgs (fun y hy=>?_) (zhe h.tail);rcases ze5.1 hy with hy | rfl
       · exact h.lower y hy
       · omega
def zm9 (l:List Nat):List Nat:=l.foldl zai []
structure LtE (e:Ent):Prop where
 rep:e.1<18446744073709551616
 max:e.2.1<18446744073709551616
 holes:yg e.2.2
theorem zna {a b:Nat} (ha:a<18446744073709551616) (hb:b<18446744073709551616):yg [(a,b)]:=by
 intro t ht;simp at ht;subst ht;exact⟨ha,hb⟩
structure CanE (e:Ent):Prop where
 good:Good e.2.2
 below:∀s∈e.2.2,s.2≤e.2.1
 top:mem e.2.2 e.2.1=false
end
section
open Go.RowKit
def vr (l:List Nat):List Nat:=qw++zo l.length++l++qo (sum l)
theorem znb (l:List Nat):(vr l).length=5+(zo l.length).length+l.length+4:=by
 simp[vr,qw,qo];omega
end
section
def zc (k:Kno) (i:Nat):Frg:=k.getD i ([],[])
theorem z7 {k:Kno} {i:Nat} (h:i<k.length):zc k i=k[i]:=by simp[zc,h]
theorem jh {k:Kno} {i:Nat} (h:i<k.length):zc k i∈k:=by rw[z7 h];exact List.getElem_mem h
def jo (k:Kno) (x:Nat):List Nat:=(List.range k.length).filter fun i=>mem (zc k i).1 x
def zdm (k:Kno):List Nat:=zm9 (zl6 (k.map (·.1)))
def zch (k:Kno):List Nat:=(zdm k).filter fun x=>decide (x=0) || decide (jo k (x - 1)≠jo k x)
theorem znc {k:Kno} {y:Nat}:y∈zch k↔y∈zdm k∧(y=0∨jo k (y - 1)≠jo k y):=by
 unfold zch;rw[List.mem_filter,Bool.or_eq_true,decide_eq_true_iff,decide_eq_true_iff]
def y8:List Nat→List Nat→Int
 | [],[]=>0
 | [],_ :: _=> -1
 | _ :: _,[]=>1
 | a :: l,b :: m=>if a<b then -1 else if b<a then 1 else y8 l m
theorem zhf:∀(l:List Nat),y8 l l=0
 | []=>rfl
 | a :: l=>by rw[y8,if_neg (Nat.lt_irrefl _),if_neg (Nat.lt_irrefl _),zhf l]
theorem zhg:∀(a b:List Nat),y8 a b= -1∨y8 a b=0∨y8 a b=1
 | [],[]=>.inr (.inl rfl)
 | [],_ :: _=>.inl rfl
 | _ :: _,[]=>.inr (.inr rfl)
 | a :: l,b :: m=>by
   rw[y8];split
   · exact .inl rfl
   · split
     · exact .inr (.inr rfl)
     · exact zhg l m
theorem zhh:∀{a b c:List Nat},y8 a b= -1→y8 b c= -1→y8 a c= -1
 | [],[],_,h,_=>by simp[y8] at h
 | [],_ :: _,[],_,h=>by simp[y8] at h
 | [],_ :: _,_ :: _,_,_=>rfl
 | _ :: _,[],_,h,_=>by simp[y8] at h
 | _ :: _,_ :: _,[],_,h=>by simp[y8] at h
 | a :: l,b :: m,c :: n,h1,h2=>by
   rw[y8] at h1 h2 ⊢;split at h1
   · split at h2
     · rw[if_pos (by omega)]
     · split at h2
       · cases h2
       · rw[if_pos (by omega)]
   · split at h1
     · cases h1
     · split at h2
       · rw[if_pos (by omega)]
       · split at h2
         · cases h2
         · rw[if_neg (by omega),if_neg (by omega),zhh h1 h2]
def ql (l:List Iv):List Nat:=l.flatMap fun s=>[s.1,s.2]
def ji (e:Ent):List Nat:=e.1 :: e.2.1 :: e.2.2.length :: ql e.2.2
def zj (v:Vec):List Nat:=v.length :: v.flatMap ji
def jp (a b:Vec):Int:=y8 (zj a) (zj b)
theorem zhi (a:Vec):jp a a=0:=zhf _
theorem ze6 (a b:Vec):jp a b= -1∨jp a b=0∨jp a b=1:=zhg _ _
theorem znd {a b c:Vec} (h1:jp a b= -1) (h2:jp b c= -1):jp a c= -1:=zhh h1 h2
def zci (e f:Ent):Prop:=e.1<f.1
structure CanV (v:Vec):Prop where
 asc:v.Pairwise zci
 ent:∀e∈v,CanE e
def zcj (f g:Frg):Prop:=jp f.2 g.2= -1
structure CanK (k:Kno):Prop where
 items:∀f∈k,Good f.1∧f.1≠[]
 vec:∀f∈k,CanV f.2∧f.2≠[]
 apart:∀f∈k,∀g∈k,∀x,mem f.1 x=true→mem g.1 x=true→f=g
 asc:k.Pairwise zcj
theorem ze7:∀{l:List Iv},(∀i,i<l.length→(zb l i).1≤(zb l i).2∧(0<i→(zb l (i - 1)).2+1<(zb l i).1))→Good l
 | [],_=>trivial
 | [s],h=>(h 0 (by simp)).1
 | s :: t :: l,h=>by
   have h0:=(h 0 (by simp)).1;have h1:=(h 1 (by simp)).2 (by omega);refine⟨h0,h1,ze7 fun i hi=>?_⟩;have:=h (i+1) (by simpa using hi);refine⟨this.1,fun hi0=>?_⟩;obtain⟨j,rfl⟩:∃j,i=j+1:=⟨i - 1,by omega⟩;exact this.2 (by omega)
theorem ku:∀{l:List Iv},Good l→∀i,i<l.length→(zb l i).1≤(zb l i).2∧(0<i→(zb l (i - 1)).2+1<(zb l i).1)
 | [],_,i,hi=>by simp at hi
 | [s],h,i,hi=>by
   obtain rfl:i=0:=by simpa using hi
   exact⟨h,by omega⟩
 | s :: t :: l,h,i,hi=>by
   obtain⟨h1,h2,h3⟩:=h
   cases i with
   | zero=>exact⟨h1,by omega⟩
   | succ i=>
    have:=ku h3 i (by simpa using hi);refine⟨this.1,fun _=>?_⟩
    cases i with
    | zero=>exact h2
    | succ i=>exact this.2 (by omega)
abbrev LtV (v:Vec):Prop:=∀e∈v,LtE e
structure LtF (f:Frg):Prop where
 items:yg f.1
 vec:LtV f.2
 asc:f.2.Pairwise zci
abbrev LtK (k:Kno):Prop:=∀f∈k,LtF f
theorem ze8 {l:List Iv} (h:Good l) {s:Iv} (hs:s∈l):mem l s.1=true∧(s.1=0∨mem l (s.1 - 1)=false):=by
 refine⟨mem_iff.2 ⟨s,hs,Nat.le_refl _,h.ok s hs⟩,?_⟩;by_cases h0:s.1=0
 · exact .inl h0
 · refine .inr ?_;rw[zlu];intro t ht htx;obtain⟨i,hi,rfl⟩:=List.getElem_of_mem hs;obtain⟨j,hj,rfl⟩:=List.getElem_of_mem ht;have hgi:=ku h i hi;have hgj:=ku h j hj;rw[yr hi] at hgi;rw[yr hj] at hgj;rcases Nat.lt_trichotomy i j with e | e | e
   · have:=good_mono' h e hj;omega
   · subst e;omega
   · have:=good_mono' h e hi;omega
 where
 good_mono' {l:List Iv} (h:Good l) {i j:Nat} (hij:i<j) (hj:j<l.length):(l[i]'(Nat.lt_trans hij hj)).2+1<(l[j]).1:=by
  induction l generalizing i j with
  | nil=>simp at hj
  | cons s l ih=>
   cases j with
   | zero=>omega
   | succ j=>
    cases i with
    | zero=>exact h.lower _ (List.getElem_mem _)
    | succ i=>exact ih h.tail (by omega) (by simpa using hj)
end
section
open Go.RowKit
abbrev zdn (e:Ent) (s:Value):Value:=.agg #[.int .u64 ((e.1:Nat):Int),.int .u64 ((e.2.1:Nat):Int),s]
structure VecFits (v:Vec):Prop where
 len:v.length≤300
 holes:∀e∈v,e.2.2.length≤500
theorem j1 {w:World} {base sz n:Nat} {e:TypeId} {v:Value} {xs:List Value} (ho:w.ownsRow base e sz v n xs):∃a c,v=.slice a n c:=by
 rcases ho.2 with ⟨rfl,rfl⟩ | ⟨g,cap,cur,rfl,_⟩
 · exact⟨_,_,rfl⟩
 · exact⟨_,_,rfl⟩
def Rd (w:World) (sz:Nat) (A:Option Addr) (n:Nat) (xs:List Value):Prop:=
 xs.length=n*sz∧(0<n→∃b o,A=some ⟨b,o,none⟩∧∀j u,xs[j]?=some u→w.cell? ⟨b,o+j,none⟩=some u)
theorem Rd.below {w w':World} {sz n:Nat} {A:Option Addr} {xs:List Value} (h:Rd w sz A n xs) (hb:Below w.heap.size w w'):Rd w' sz A n xs:=
 ⟨h.1,fun hn=>by
  obtain⟨b,o,e,hc⟩:=h.2 hn;refine⟨b,o,e,fun j u hu=>?_⟩;have:=hc j u hu;exact(hb.cell (p:=⟨b,o+j,none⟩) (ze this)).trans this⟩
theorem Rd.own {w:World} {base sz n c:Nat} {e:TypeId} {A:Option Addr} {xs:List Value} (h:w.ownsRow base e sz (.slice A n c) n xs):Rd w sz A n xs:=by
 refine⟨h.1,fun hn=>?_⟩;obtain⟨g,cap,hv,_,hlt⟩:=h.form hn;have hA:A=some ⟨g,0,none⟩:=by injection hv
 subst hA;refine⟨g,0,rfl,fun j u hu=>?_⟩;have:=h.cells (g:=g) rfl j u hu;rwa [ye] at this
theorem Rd.news {w:World} {sz n:Nat} {x:Addr} {xs:List Value} (h:Rd w sz (some x) n xs) (hz:0<sz):∀j u,xs[j]?=some u→w.cell? (x.add j)=some u:=by
 intro j u hu
 have hn:0<n:=by
  refine Nat.pos_of_ne_zero fun h0=>?_
  subst h0;have:xs=[]:=List.eq_nil_of_length_eq_zero (by simpa using h.1);rw[this] at hu;simp at hu
 obtain⟨b,o,e,hc⟩:=h.2 hn;cases e;rw[ye];exact hc j u hu
theorem zne {P:Program} (w:World) (base:Nat) (t ty e:TypeId) (i:TypeInfo) (size:Nat) (ht:P.underlying t=some (.slice e)) (hi:P.info? e=some i)
 (v:Value) (n:Nat) (xs:List Value) (hown:w.ownsRow base e size v n xs) (c:Nat):(Builtin.append_ #[t,t] ty #[v,.slice none 0 c]).run P w=.ok v w:=by
 rcases hown.2 with ⟨rfl,rfl⟩ | ⟨g,cap,cur,rfl,_,_,hnc,_⟩
 · simp[Builtin.append_,run_underlying ht,sizeOf,typeInfo,hi,Builtin.lenOf,Builtin.firstCells]
 · simp[Builtin.append_,run_underlying ht,sizeOf,typeInfo,hi,Builtin.lenOf,Builtin.firstCells,hnc,storeCells]
theorem za4 {P:Program} {w:World} (base:Nat) (t ty e:TypeId) (z:Value) (size bytes:Nat) (ht:P.underlying t=some (.slice e))
 (hinfo:(P.info? e).map (fun i=>(i.zero,i.size,i.bytes))=some (some z,size,bytes)) (hzs:z.cells.size=size) (hsz:0<size)
 (v:Value) (n:Nat) (xs:List Value) (hown:w.ownsRow base e size v n xs) (A:Option Addr) (m c:Nat) (news:List Value) (hr:Rd w size A m news) (h1:∀u∈news,u.oneCell'=true)
 (hlen:n+m≤maxLen) (hbytes:(n+m)*bytes≤140737488355328) (hbase:base≤w.heap.size):
 ∃v' w',(Builtin.append_ #[t,t] ty #[v,.slice A m c]).run P w=.ok v' w'∧w'.ownsRow base e size v' (n+m) (xs++news)∧w.grownBy w' v.ownBlock:=by
 obtain⟨i,hi,hz,hs,hby⟩:=info_parts hinfo;rcases A with _ | x
 · have hm:m=0:=by
    rcases Nat.eq_zero_or_pos m with h0 | h0
    · exact h0
    · obtain⟨b,o,h,_⟩:=hr.2 h0;cases h
   subst hm;have hn:news=[]:=List.eq_nil_of_length_eq_zero (by simpa using hr.1);subst hn;exact⟨v,w,zne w base t ty e i size ht hi v n xs hown c,by simpa using hown,World.grownBy.refl w _⟩
 · obtain⟨v',w',hrun,ho,hg,_⟩:=run_append_own (P:=P) w base t ty e i z size bytes ht hi hz hs hby hzs hsz v n xs hown x m c news hr.1 (hr.news hsz) h1 hlen hbytes hbase;exact⟨v',w',hrun,ho,hg⟩
theorem zhj {P:Program} {w:World} {ops:Array Oper} {o:Oper} {a:Act} {K:Act→World→Prop} {Q:Exit→Act→World→Prop} {E:Prop} (hgd:o.guard=none) (s x:Operand) (t:TypeId)
 (ho:o.op=.call { callee:=.builtin .append,args:= #[s,x],argTypes:= #[t,t] })
 (v u:Value) (hs:a.eval s=v) (hx:a.eval x=u) (v':Value) (w':World) (hrun:(Builtin.append_ #[t,t] o.type #[v,u]).run P w=.ok v' w')
 (h:K (a.put o.dst v') w'):if Region.wanted o (yielded ops a.tmps)=true then Oper.wp P o a w K Q else E:=by
 have hw:Region.wanted o (yielded ops a.tmps)=true:=by simp[Region.wanted,hgd]
 rw[if_pos hw];unfold Oper.wp;simp[execOp,ho,resolve,invoke,builtin,hs,hx,hrun,Result.andThen];exact h
structure U64s (w:World) (a:Option Addr) (n cap:Nat) (l:List Nat):Prop where
 len:l.length=n
 lt:∀x∈l,x<18446744073709551616
 room:n≤cap
 most:cap≤9223372036854775807
 nilc:a=none→cap=0
 cells:0<n→∃b o,a=some ⟨b,o,none⟩∧∀i,i<n→w.cell? ⟨b,o+i,none⟩=some (.int .u64 ((nth l i:Nat):Int))
def yi (l:List Nat):List Value:=l.map fun x=>Value.int .u64 ((x:Nat):Int)
theorem znf (a b:List Nat):yi (a++b)=yi a++yi b:=by simp[yi]
theorem zck (a:List Nat):(yi a).length=a.length:=by simp[yi]
theorem zdo (l:List Nat) (i:Nat) (h:i<l.length):(yi l)[i]?=some (.int .u64 ((nth l i:Nat):Int)):=by simp[yi,nth,h]
theorem zng (l:List Nat):∀u∈yi l,u.oneCell'=true:=by
 intro u hu;simp only[yi,List.mem_map] at hu;obtain⟨x,_,rfl⟩:=hu
 rfl
theorem U64s.below {w w':World} {a:Option Addr} {n cap:Nat} {l:List Nat} (h:U64s w a n cap l) (hb:Below w.heap.size w w'):U64s w' a n cap l:=by
 refine⟨h.len,h.lt,h.room,h.most,h.nilc,fun hn=>?_⟩;obtain⟨b,o,ha,hc⟩:=h.cells hn;refine⟨b,o,ha,fun i hi=>?_⟩;have:=hc i hi;exact(hb.cell (p:=⟨b,o+i,none⟩) (ze this)).trans this
theorem U64s.rd {w:World} {a:Option Addr} {n cap:Nat} {l:List Nat} (h:U64s w a n cap l):Rd w 1 a n (yi l):=by
 refine⟨by rw[zck,h.len];omega,fun hn=>?_⟩;obtain⟨b,o,e,hc⟩:=h.cells hn;refine⟨b,o,e,fun j u hu=>?_⟩
 have hj:j<l.length:=by
  rcases Nat.lt_or_ge j l.length with h' | h'
  · exact h'
  · rw[List.getElem?_eq_none (by rw[zck];exact h')] at hu;cases hu
 rw[zdo l j hj] at hu;cases hu;exact hc j (by rw[←h.len];exact hj)
theorem zhk {w:World} {base n:Nat} {T:TypeId} {v:Value} {l:List Nat} (h:w.ownsRow base T 1 v n (yi l)) (hl:∀x∈l,x<18446744073709551616):∃a cap,v=.slice a n cap∧U64s w a n cap l:=by
 have hlen:l.length=n:=by have:=h.1;rw[zck] at this;omega
 rcases h.2 with ⟨rfl,rfl⟩ | ⟨g,cap,cur,rfl,hg,hh,hnc,hcm,_⟩
 · exact⟨none,0,rfl,hlen,hl,by omega,by omega,fun _=>rfl,fun h=>by omega⟩
 · refine⟨_,_,rfl,hlen,hl,hnc,by unfold maxLen at hcm;omega,(by intro h;cases h),fun hn=>⟨g,0,rfl,fun i hi=>?_⟩⟩;have hc:=h.cells (g:=g) rfl i (.int .u64 ((nth l i:Nat):Int)) (zdo l i (by omega));rw[ye] at hc;exact hc
theorem Ivs.rd {w:World} {a:Option Addr} {n cap:Nat} {l:List Iv} (h:Ivs w a n cap l):Rd w 2 a n (ivC l):=by
 refine⟨by rw[zdi,h.len],fun hn=>?_⟩;obtain⟨b,o,e,hc⟩:=h.cells hn;refine⟨b,o,e,fun j u hu=>?_⟩
 have hj:j<l.length*2:=by
  rcases Nat.lt_or_ge j (l.length*2) with h' | h'
  · exact h'
  · rw[List.getElem?_eq_none (by rw[zdi];exact h')] at hu;cases hu
 have hi:j / 2<l.length:=by omega
 obtain⟨e1,e2⟩:=zez l (j / 2) hi;obtain⟨c1,c2⟩:=hc (j / 2) (by rw[←h.len];exact hi);rcases Nat.mod_two_eq_zero_or_one j with hm | hm
 · rw[show j / 2*2=j by omega] at e1 c1;rw[e1] at hu;cases hu;exact c1
 · rw[show j / 2*2+1=j by omega] at e2;rw[show o+j / 2*2+1=o+j by omega] at c2;rw[e2] at hu;cases hu;exact c2
theorem Tryz.info_u64:(Tryz.prog.info? 43).map (fun i=>(i.zero,i.size,i.bytes))=some (some (.int .u64 0),1,8):=by kernel_rfl
theorem Tryz.info_iv:(Tryz.prog.info? 89).map (fun i=>(i.zero,i.size,i.bytes))=some (some (.agg #[.int .u64 0,.int .u64 0]),2,16):=by kernel_rfl
theorem ze9 {w:World} (base:Nat) (v:Value) (n:Nat) (xs:List Nat) (hown:w.ownsRow base 43 1 v n (yi xs)) (A:Option Addr) (m c:Nat) (l:List Nat) (hr:Rd w 1 A m (yi l)) (hb:n+m≤1000000000000) (hbase:base≤w.heap.size):
 ∃v' w',(Builtin.append_ #[41,41] 41 #[v,.slice A m c]).run Tryz.prog w=.ok v' w'∧w'.ownsRow base 43 1 v' (n+m) (yi (xs++l))∧w.grownBy w' v.ownBlock:=by
 rw[znf];exact za4 base _ _ _ _ 1 8 Tryz.underlying41 Tryz.info_u64 rfl (by omega) v n _ hown A m c _ hr (zng l) (by unfold maxLen;omega) (by omega) hbase
theorem znh {w:World} (base:Nat) (v:Value) (n:Nat) (xs:List Iv) (hown:w.ownsRow base 89 2 v n (ivC xs)) (A:Option Addr) (m c:Nat) (l:List Iv) (hr:Rd w 2 A m (ivC l)) (hb:n+m≤1000000) (hbase:base≤w.heap.size):
 ∃v' w',(Builtin.append_ #[91,91] 91 #[v,.slice A m c]).run Tryz.prog w=.ok v' w'∧w'.ownsRow base 89 2 v' (n+m) (ivC (xs++l))∧w.grownBy w' v.ownBlock:=by
 rw[zey];exact za4 base _ _ _ _ 2 16 Tryz.underlying91 Tryz.info_iv rfl (by omega) v n _ hown A m c _ hr (zha l) (by unfold maxLen;omega) (by omega) hbase
theorem zhl {w:World} {sz:Nat} (C:Array Value) (T:TypeId) (fr:Nat×Nat) (n:Nat) (xs:List Value) (hC:C=xs.toArray) (hx:xs.length=n*sz):Rd (w.alloc (.cells C T fr)) sz (some ⟨w.heap.size,0,none⟩) n xs:=by
 subst hC;refine⟨hx,fun _=>⟨w.heap.size,0,rfl,fun j u hu=>?_⟩⟩;rw[World.cell?_alloc_mark];simpa using hu
structure Rls (w:World) (a:Option Addr) (n cap:Nat) (ls:List (List Iv)):Prop where
 len:ls.length=n
 room:n≤cap
 most:cap≤9223372036854775807
 nilc:a=none→cap=0
 cells:0<n→∃b o,a=some ⟨b,o,none⟩∧∀i,i<n→∃A c,w.cell? ⟨b,o+i,none⟩=some (.slice A (ls.getD i []).length c)∧Ivs w A (ls.getD i []).length c (ls.getD i [])
theorem Rls.below {w w':World} {a:Option Addr} {n cap:Nat} {ls:List (List Iv)} (h:Rls w a n cap ls) (hb:Below w.heap.size w w'):Rls w' a n cap ls:=by
 refine⟨h.len,h.room,h.most,h.nilc,fun hn=>?_⟩;obtain⟨b,o,ha,hc⟩:=h.cells hn;refine⟨b,o,ha,fun i hi=>?_⟩;obtain⟨A,c,h1,h2⟩:=hc i hi;exact⟨A,c,(hb.cell (p:=⟨b,o+i,none⟩) (ze h1)).trans h1,h2.below hb⟩
theorem zni {w:World} {base n c:Nat} {T:TypeId} {a:Option Addr} {l:List Nat} (h:w.ownsRow base T 1 (.slice a n c) n (yi l)) (hn:0<n):∃g,a=some ⟨g,0,none⟩∧base≤g∧n≤c∧∀i,i<n→w.cell? ⟨g,i,none⟩=some (.int .u64 ((nth l i:Nat):Int)):=by
 have hlen:l.length=n:=by have:=h.1;rw[zck] at this;omega
 rcases h.2 with ⟨_,h0⟩ | ⟨g,cap,cur,hv,hg,hh,hnc,hcm,_⟩
 · omega
 · obtain⟨rfl,rfl⟩:a=some ⟨g,0,none⟩∧c=cap:=by simpa using hv
   refine⟨g,rfl,hg,hnc,fun i hi=>?_⟩;have hc:=h.cells (g:=g) rfl i (.int .u64 ((nth l i:Nat):Int)) (zdo l i (by omega));rw[ye,Nat.zero_add] at hc;exact hc
theorem znj {w:World} {base n c:Nat} {T:TypeId} {a:Option Addr} {xs:List Value} {sz:Nat} (h:w.ownsRow base T sz (.slice a n c) n xs):(a=none∧n=0∧c=0)∨∃g,a=some ⟨g,0,none⟩∧base≤g∧n≤c∧g<w.heap.size:=by
 rcases h.2 with ⟨hv,h0⟩ | ⟨g,cap,cur,hv,hg,hh,hnc,hcm,_⟩
 · obtain⟨rfl,rfl,rfl⟩:a=none∧n=0∧c=0:=by simpa using hv
   exact .inl ⟨rfl,rfl,rfl⟩
 · obtain⟨rfl,rfl⟩:a=some ⟨g,0,none⟩∧c=cap:=by simpa using hv
   exact .inr ⟨g,rfl,hg,hnc,(Array.getElem?_eq_some_iff.1 hh).1⟩
theorem kw {w:World} {g sz n:Nat} {e:TypeId} {C:Array Value} {fr:Nat×Nat} {xs:List Value} (h:w.heap[g]?=some (.cells C e fr)) (hC:C=xs.toArray) (hx:xs.length=n*sz):Rd w sz (some ⟨g,0,none⟩) n xs:=by
 subst hC;refine⟨hx,fun _=>⟨g,0,rfl,fun j u hu=>?_⟩⟩;simp only[World.cell?,h];simpa using hu
theorem j2 (w:World) (o:Obj) (g:Nat) (h:g=w.heap.size):(w.alloc o).heap[g]?=some o:=by subst h;exact heap_alloc_new w o
theorem j3 {w:World} {base b size n:Nat} {e:TypeId} {v:Value} {xs:List Value} (h:w.ownsRow base e size v n xs) (hb:b≤base):w.ownsRow b e size v n xs:=
 ⟨h.1,h.2.imp id fun ⟨g,cap,cur,h1,h2,r⟩=>⟨g,cap,cur,h1,Nat.le_trans hb h2,r⟩⟩
def yb (a b:Iv):Nat:=
 if a.2<b.1 then (if 0<b.1 - a.2 - 1 then (if b.2<a.1 then (if 0<a.1 - b.2 - 1 then 2 else 1) else 0) else (if b.2<a.1 then (if 0<a.1 - b.2 - 1 then 3 else 2) else 1))
 else (if b.2<a.1 then (if 0<a.1 - b.2 - 1 then 4 else 3) else 2)
theorem znk {k:IntKind} {a b:Int} {x:Value} (h:a=b):Ending.returned (.tuple #[.int k a,x])=.returned (.tuple #[.int k b,x]):=by rw[h]
theorem zcl (a b:Nat) (w:World) (h:a<b) (hb:b<18446744073709551616):
 Calls Tryz.prog 128 #[.int .u64 a,.int .u64 b] w fun e w'=>e=.returned (.tuple #[.int .u64 ((b - a - 1:Nat):Int),.bool true])∧w=w':=by
 have e1:=hid (show IntKind.u64.wrap ((b:Int) - (a:Int))=((b - a:Nat):Int) from by rw[IntKind.wrap_u64];omega);have e2:=hid (show IntKind.u64.wrap (((b - a:Nat):Int) - 1)=((b - a - 1:Nat):Int) from by rw[IntKind.wrap_u64];omega);clear hb;go_enter Tryz.func128,Tryz.ntmps128;go_wp2;go_ret2;refine⟨znk ?_,rfl⟩;rw[e1.out,e2.out]
theorem zdp (a b:Nat) (w:World) (h:¬a<b):
 Calls Tryz.prog 128 #[.int .u64 a,.int .u64 b] w fun e w'=>e=.returned (.tuple #[.int .u64 0,.bool false])∧w=w':=by
 go_enter Tryz.func128,Tryz.ntmps128;go_wp2;go_ret2;exact⟨rfl,rfl⟩
theorem zhm (s:Iv) (w:World):
 Calls Tryz.prog 168 #[ivV s] w fun e w'=>e=.returned (zh (if s.2<s.1 then some (2,none) else none))∧Below w.heap.size w w':=by
 obtain⟨a,b⟩:=s;by_cases h:b<a
 · rw[if_pos h];simp only[zh];go_enter Tryz.func168,Tryz.ntmps168;go_wp2;go_ret;exact⟨rfl,(Below.refl _ _).alloc (Nat.le_refl _) _⟩
 · rw[if_neg h];simp only[zh];go_enter Tryz.func168,Tryz.ntmps168;go_wp2;go_ret;exact⟨rfl,(Below.refl _ _).alloc (Nat.le_refl _) _⟩
theorem znl (a b:Iv) (w:World) (ha:a.1<18446744073709551616∧a.2<18446744073709551616) (hb:b.1<18446744073709551616∧b.2<18446744073709551616):
 Calls Tryz.prog 169 #[ivV a,ivV b] w fun e w'=>e=.returned (.int .i64 ((yb a b:Nat):Int))∧Below w.heap.size w w':=by
 obtain⟨x,y⟩:=a;obtain⟨z,u⟩:=b;have hz:=hb.1;have hx:=ha.1;clear ha hb;simp only at hx hz
 have hw:Below w.heap.size w ((w.alloc (.cells #[.int .u64 x,.int .u64 y] 89)).alloc (.cells #[.int .u64 z,.int .u64 u] 89)):=
  ((Below.refl _ _).alloc (Nat.le_refl _) _).alloc (by simp) _
 by_cases h1:y<z
 · have C1:=hid (fun w=>zcl y z w h1 hz);by_cases g1:0<z - y - 1
   · by_cases h2:u<x
     · have C2:=hid (fun w=>zcl u x w h2 hx);by_cases g2:0<x - u - 1
       · have hr:=hid (show yb (x,y) (z,u)=2 from by simp[yb,h1,h2,g1,g2]);generalize yb (x,y) (z,u)=r at*;generalize z - y - 1=p at*;generalize x - u - 1=q at*;clear hx hz h1 h2;go_enter Tryz.func169,Tryz.ntmps169;go_wp2_with fail;refine(C1.out _).mono ?_;rintro e w1 ⟨rfl,rfl⟩;go_wp2_with fail;refine(C2.out _).mono ?_;rintro e w1 ⟨rfl,rfl⟩;go_wp2_with fail;go_ret;exact⟨vq (by rw[hr.out];rfl),hw⟩
       · have hr:=hid (show yb (x,y) (z,u)=1 from by simp[yb,h1,h2,g1,g2]);obtain e2:x - u - 1=0:=by omega
         rw[e2] at C2;clear e2 g2;generalize yb (x,y) (z,u)=r at*;generalize z - y - 1=p at*;clear hx hz h1 h2;go_enter Tryz.func169,Tryz.ntmps169;go_wp2_with fail;refine(C1.out _).mono ?_;rintro e w1 ⟨rfl,rfl⟩;go_wp2_with fail;refine(C2.out _).mono ?_;rintro e w1 ⟨rfl,rfl⟩;go_wp2_with fail;go_ret;exact⟨vq (by rw[hr.out];rfl),hw⟩
     · have C2:=hid (fun w=>zdp u x w h2);have hr:=hid (show yb (x,y) (z,u)=0 from by simp[yb,h1,h2,g1]);generalize yb (x,y) (z,u)=r at*;generalize z - y - 1=p at*;clear hx hz h1 h2;go_enter Tryz.func169,Tryz.ntmps169;go_wp2_with fail;refine(C1.out _).mono ?_;rintro e w1 ⟨rfl,rfl⟩;go_wp2_with fail;refine(C2.out _).mono ?_;rintro e w1 ⟨rfl,rfl⟩;go_wp2_with fail;go_ret;exact⟨vq (by rw[hr.out];rfl),hw⟩
   · have e1:z - y - 1=0:=by omega
     rw[e1] at C1;clear e1;by_cases h2:u<x
     · have C2:=hid (fun w=>zcl u x w h2 hx);by_cases g2:0<x - u - 1
       · have hr:=hid (show yb (x,y) (z,u)=3 from by simp[yb,h1,h2,g1,g2]);generalize yb (x,y) (z,u)=r at*;generalize x - u - 1=q at*;clear hx hz h1 h2;go_enter Tryz.func169,Tryz.ntmps169;go_wp2_with fail;refine(C1.out _).mono ?_;rintro e w1 ⟨rfl,rfl⟩;go_wp2_with fail;refine(C2.out _).mono ?_;rintro e w1 ⟨rfl,rfl⟩;go_wp2_with fail;go_ret;exact⟨vq (by rw[hr.out];rfl),hw⟩
       · have hr:=hid (show yb (x,y) (z,u)=2 from by simp[yb,h1,h2,g1,g2]);obtain e2:x - u - 1=0:=by omega
         rw[e2] at C2;clear e2 g2;generalize yb (x,y) (z,u)=r at*;clear hx hz h1 h2;go_enter Tryz.func169,Tryz.ntmps169;go_wp2_with fail;refine(C1.out _).mono ?_;rintro e w1 ⟨rfl,rfl⟩;go_wp2_with fail;refine(C2.out _).mono ?_;rintro e w1 ⟨rfl,rfl⟩;go_wp2_with fail;go_ret;exact⟨vq (by rw[hr.out];rfl),hw⟩
     · have C2:=hid (fun w=>zdp u x w h2);have hr:=hid (show yb (x,y) (z,u)=1 from by simp[yb,h1,h2,g1]);generalize yb (x,y) (z,u)=r at*;clear hx hz h1 h2;go_enter Tryz.func169,Tryz.ntmps169;go_wp2_with fail;refine(C1.out _).mono ?_;rintro e w1 ⟨rfl,rfl⟩;go_wp2_with fail;refine(C2.out _).mono ?_;rintro e w1 ⟨rfl,rfl⟩;go_wp2_with fail;go_ret;exact⟨vq (by rw[hr.out];rfl),hw⟩
 · have C1:=hid (fun w=>zdp y z w h1);by_cases h2:u<x
   · have C2:=hid (fun w=>zcl u x w h2 hx);by_cases g2:0<x - u - 1
     · have hr:=hid (show yb (x,y) (z,u)=4 from by simp[yb,h1,h2,g2]);generalize yb (x,y) (z,u)=r at*;generalize x - u - 1=q at*;clear hx hz h1 h2;go_enter Tryz.func169,Tryz.ntmps169;go_wp2_with fail;refine(C1.out _).mono ?_;rintro e w1 ⟨rfl,rfl⟩;go_wp2_with fail;refine(C2.out _).mono ?_;rintro e w1 ⟨rfl,rfl⟩;go_wp2_with fail;go_ret;exact⟨vq (by rw[hr.out];rfl),hw⟩
     · have hr:=hid (show yb (x,y) (z,u)=3 from by simp[yb,h1,h2,g2]);obtain e2:x - u - 1=0:=by omega
       rw[e2] at C2;clear e2 g2;generalize yb (x,y) (z,u)=r at*;clear hx hz h1 h2;go_enter Tryz.func169,Tryz.ntmps169;go_wp2_with fail;refine(C1.out _).mono ?_;rintro e w1 ⟨rfl,rfl⟩;go_wp2_with fail;refine(C2.out _).mono ?_;rintro e w1 ⟨rfl,rfl⟩;go_wp2_with fail;go_ret;exact⟨vq (by rw[hr.out];rfl),hw⟩
   · have C2:=hid (fun w=>zdp u x w h2);have hr:=hid (show yb (x,y) (z,u)=2 from by simp[yb,h1,h2]);generalize yb (x,y) (z,u)=r at*;clear hx hz h1 h2;go_enter Tryz.func169,Tryz.ntmps169;go_wp2_with fail;refine(C1.out _).mono ?_;rintro e w1 ⟨rfl,rfl⟩;go_wp2_with fail;refine(C2.out _).mono ?_;rintro e w1 ⟨rfl,rfl⟩;go_wp2_with fail;go_ret;exact⟨vq (by rw[hr.out];rfl),hw⟩
