/- Part 02. -/
import Derived.Laws.StructEq
import Derived.Deep.QuietTactic
import Derived.Test.YtmfhggnlainmiaaGreatDoorPk01
set_option linter.unusedVariables false
set_option maxHeartbeats 16000000
namespace Go.Proofs.YtmfhggnlainmiaaGreatDoor
open Lib (hid)
section
open Go.RowKit
structure RdV (w0 w:World) (g x n st:Nat):Prop where
 below:Below w0.heap.size w0 w
 base:w0.heap.size≤g
 lt:g<w.heap.size
 c0:w.cell? ⟨g,0,none⟩=some (.int .u64 (x:Int))
 c1:w.cell? ⟨g,1,none⟩=some (.int .i64 (n:Int))
 c2:w.cell? ⟨g,2,none⟩=some (.int .i64 (st:Int))
 f0:w.frozen? ⟨g,0,none⟩=false
 f1:w.frozen? ⟨g,1,none⟩=false
 f2:w.frozen? ⟨g,2,none⟩=false
 x64:x<18446744073709551616
theorem RdV.later {w0 w w':World} {g x n st:Nat} (h:RdV w0 w g x n st) (hb:Below w.heap.size w w'):RdV w0 w' g x n st:=by
 refine⟨h.below.trans (hb.mono h.below.size),h.base,Nat.lt_of_lt_of_le h.lt hb.size,?_,?_,?_,?_,?_,?_,h.x64⟩
 · rw[hb.cell (p:=⟨g,0,none⟩) h.lt];exact h.c0
 · rw[hb.cell (p:=⟨g,1,none⟩) h.lt];exact h.c1
 · rw[hb.cell (p:=⟨g,2,none⟩) h.lt];exact h.c2
 · rw[hb.frozen (p:=⟨g,0,none⟩) h.lt];exact h.f0
 · rw[hb.frozen (p:=⟨g,1,none⟩) h.lt];exact h.f1
 · rw[hb.frozen (p:=⟨g,2,none⟩) h.lt];exact h.f2
theorem RdV.set {w0 w:World} {g x n st:Nat} (h:RdV w0 w g x n st) (x' n' st':Nat) (hx:x'<18446744073709551616):
 RdV w0 (((w.setCell ⟨g,1,none⟩ (.int .i64 (n':Int))).setCell ⟨g,0,none⟩ (.int .u64 (x':Int))).setCell ⟨g,2,none⟩ (.int .i64 (st':Int))) g x' n' st':=by
 refine⟨((h.below.setCell (p:=⟨g,1,none⟩) h.base _).setCell (p:=⟨g,0,none⟩) h.base _).setCell (p:=⟨g,2,none⟩) h.base _,h.base,by have:=h.lt;simpa [World.setCell] using this,?_,?_,?_,?_,?_,?_,hx⟩
 · rw[World.cell?_setCell_other _ _ _ _ (by simp)];exact World.cell?_setCell_same _ _ _ (by rw[World.cell?_setCell_other _ _ _ _ (by simp)];exact h.c0)
 · rw[World.cell?_setCell_other _ _ _ _ (by simp),World.cell?_setCell_other _ _ _ _ (by simp)];exact World.cell?_setCell_same _ _ _ h.c1
 · exact World.cell?_setCell_same _ _ _ (by rw[World.cell?_setCell_other _ _ _ _ (by simp),World.cell?_setCell_other _ _ _ _ (by simp)];exact h.c2)
 · simp only[World.frozen?_setCell];exact h.f0
 · simp only[World.frozen?_setCell];exact h.f1
 · simp only[World.frozen?_setCell];exact h.f2
theorem z8o:∀c:Fin 256,c.val &&& (255 - 128)=c.val % 128:=by decide +kernel
theorem z8p (c:Nat) (hc:c<256):bits .andNot .u8 (c:Int) 128=((c % 128:Nat):Int):=by
 have h:=u8_andNot_nat c 128 hc (by omega);rw[z8o ⟨c,hc⟩] at h;exact h
theorem zwh (x n c:Nat) (hx:x<18446744073709551616):bits .or .u64 (x:Int) (IntKind.u64.wrap ((c:Int) % 128*2 ^ (7*n)))=((y8 x n c:Nat):Int):=by
 rw[IntKind.wrap_u64,show (((c:Int) % 128*2 ^ (7*n)) % 18446744073709551616)=((c % 128*2 ^ (7*n) % 18446744073709551616:Nat):Int) from by
  rw[Int.natCast_emod,Int.natCast_mul,Int.natCast_emod,Int.natCast_pow];rfl]
 exact u64_or_nat x _ hx (Nat.mod_lt _ (by omega))
theorem RdV.drew {w0 w:World} {g x n st:Nat} (h:RdV w0 w g x n st):RdV w0 w.drew g x n st:=h.later ((Below.refl _ _).drew)
abbrev z8q (w:World) (g o x n c st:Nat):World:=(((w.setCell ⟨g,o+1,none⟩ (.int .i64 ((n+1:Nat):Int))).setCell ⟨g,o,none⟩ (.int .u64 ((y8 x n c:Nat):Int))).setCell ⟨g,o+2,none⟩ (.int .i64 (st:Int))).drew
theorem zwi (w:World) (g o x n c:Nat) (hc0:w.cell? ⟨g,o,none⟩=some (.int .u64 (x:Int))) (hc1:w.cell? ⟨g,o+1,none⟩=some (.int .i64 (n:Int))) (hc2:w.cell? ⟨g,o+2,none⟩=some (.int .i64 0))
 (hf0:w.frozen? ⟨g,o,none⟩=false) (hf1:w.frozen? ⟨g,o+1,none⟩=false) (hf2:w.frozen? ⟨g,o+2,none⟩=false) (hx:x<18446744073709551616) (hc:c<256) (hn10:n<10):
 Calls Tryz.prog 167 #[.pointer (some ⟨g,o,none⟩),.int .u8 c] w fun e w'=>e=.returned (.int .i64 (yr n c:Nat))∧w'=z8q w g o x n c (yr n c):=by
 have Hx:=hid (zwh x n c hx);have ka:=z8p c hc
 have K:((((c:Int) == 0)=true∧decide (1<(c:Int))=false)∧decide (1<(n:Int)+1)=false∧decide ((c:Int)<128)=true∧yr n c=1)∨((((c:Int) == 0)=true∧decide (1<(c:Int))=false)∧decide (1<(n:Int)+1)=true∧decide ((c:Int)<128)=true∧yr n c=2)∨
  ((((c:Int) == 0)=false∧decide (1<(c:Int))=false)∧True∧decide ((c:Int)<128)=true∧yr n c=1)∨((((c:Int) == 0)=false∧decide (1<(c:Int))=true)∧((n:Int)+1 == 10)=true∧True∧yr n c=2)∨
  ((((c:Int) == 0)=false∧decide (1<(c:Int))=true)∧((n:Int)+1 == 10)=false∧decide ((c:Int)<128)=true∧yr n c=1)∨((((c:Int) == 0)=false∧decide (1<(c:Int))=true)∧((n:Int)+1 == 10)=false∧decide ((c:Int)<128)=false∧yr n c=0):=by
  simp only[beq_iff_eq,beq_eq_false_iff_ne,decide_eq_true_iff,decide_eq_false_iff_not,yr];by_cases h0:c=0
  · by_cases h1:n=0
    · exact .inl ⟨by omega,by omega,by omega,by rw[if_neg (by omega),if_pos (by omega)]⟩
    · exact .inr (.inl ⟨by omega,by omega,by omega,if_pos (by omega)⟩)
  · by_cases h1:c=1
    · exact .inr (.inr (.inl ⟨by omega,trivial,by omega,by rw[if_neg (by omega),if_pos (by omega)]⟩))
    · by_cases h2:n=9
      · exact .inr (.inr (.inr (.inl ⟨by omega,by omega,trivial,if_pos (by omega)⟩)))
      · by_cases h3:c<128
        · exact .inr (.inr (.inr (.inr (.inl ⟨by omega,by omega,by omega,by rw[if_neg (by omega),if_pos (by omega)]⟩))))
        · exact .inr (.inr (.inr (.inr (.inr ⟨by omega,by omega,by omega,by rw[if_neg (by omega),if_neg (by omega)]⟩))))
 clear hx;rcases K with ⟨⟨k1,k2⟩,k3,k5,ks⟩ | ⟨⟨k1,k2⟩,k3,k5,ks⟩ | ⟨⟨k1,k2⟩,k3,k5,ks⟩ | ⟨⟨k1,k2⟩,k3,k5,ks⟩ | ⟨⟨k1,k2⟩,k3,k5,ks⟩ | ⟨⟨k1,k2⟩,k3,k5,ks⟩
 all_goals
  rw[ks];clear ks;go_enter Tryz.func167,Tryz.ntmps167;go_wp2;go_region
  go_wp2;rw[Hx.out];go_ret;exact⟨rfl,rfl⟩
theorem zwj (w:World) (g o x:Nat) (hc0:w.cell? ⟨g,o,none⟩=some (.int .u64 (x:Int))) (hc2:w.cell? ⟨g,o+2,none⟩=some (.int .i64 1)):
 Calls Tryz.prog 168 #[.pointer (some ⟨g,o,none⟩)] w fun e w'=>e=.returned (.int .u64 (x:Int))∧w=w':=by
 go_enter Tryz.func168,Tryz.ntmps168;go_wp2;go_ret;exact⟨rfl,rfl⟩
def Door (w:World):Prop:=w.cell? ⟨0,0,none⟩=some (.iface 272 (.agg #[.pointer (some ⟨2,38,none⟩)]))
theorem Door.below {w w':World} (h:Door w) {B:Nat} (hB:w.heap.size≤B) (hb:Below B w w'):Door w':=by
 unfold Door;rw[hb.cell (p:=⟨0,0,none⟩) (Nat.lt_of_lt_of_le (zf h) hB)];exact h
theorem zfq (w:World) (p:Addr) (v:Value):w.grownBy (w.setCell p v) (some p.block):=
 ⟨rfl,rfl,rfl,by simp[World.setCell],fun k _ hne=>Below.heap_setCell _ _ _ _ (fun e=>hne (by rw[e]))⟩
abbrev Err:=Option (Int×Option Int)
def zy:Err→Value
 | none=>.nilIface
 | some (c,none)=>.iface 27 (.int .i64 c)
 | some (c,some a)=>.iface 110 (.agg #[.int .i64 c,.int .i64 a])
def je:Err→Int
 | none=>0
 | some (c,_)=>c
def j9:Err→Int
 | some (_,some a)=>a
 | _=> -1
def zfr (c a:Int):Err:=if c=0 then none else some (c,some a)
theorem zis {w0 w w':World} {g:Nat} (hb:Below w0.heap.size w0 w) (hg:w0.heap.size≤g) (h:w.grownBy w' (some g)):Below w0.heap.size w0 w':=
 hb.grown h hb.size (fun k hk=>by cases hk;exact hg)
theorem zfs {w0 w w':World} (hb:Below w0.heap.size w0 w) (h:w.grownBy w' none):Below w0.heap.size w0 w':=
 hb.grown h hb.size (fun k hk=>by cases hk)
def zb (l:List Iv) (k:Nat):Iv:=l.getD k (0,0)
theorem jg {l:List Iv} {k:Nat} (h:k<l.length):zb l k=l[k]:=by simp[zb,h]
theorem zbo {l:List Iv} {k:Nat} (h:k<l.length):zb l k∈l:=by rw[jg h];exact List.getElem_mem h
structure Ivs (w:World) (a:Option Addr) (n cap:Nat) (l:List Iv):Prop where
 len:l.length=n
 lt:∀s∈l,s.1<18446744073709551616∧s.2<18446744073709551616
 room:n≤cap
 most:cap≤9223372036854775807
 nilc:a=none→cap=0
 cells:0<n→∃b o,a=some ⟨b,o,none⟩∧∀i,i<n→w.cell? ⟨b,o+i*2,none⟩=some (.int .u64 (((zb l i).1:Nat):Int))∧w.cell? ⟨b,o+i*2+1,none⟩=some (.int .u64 (((zb l i).2:Nat):Int))
theorem Ivs.below {w w':World} {a:Option Addr} {n cap:Nat} {l:List Iv} (h:Ivs w a n cap l) (hb:Below w.heap.size w w'):Ivs w' a n cap l:=by
 refine⟨h.len,h.lt,h.room,h.most,h.nilc,fun hn=>?_⟩;obtain⟨b,o,ha,hc⟩:=h.cells hn;refine⟨b,o,ha,fun i hi=>?_⟩;obtain⟨h1,h2⟩:=hc i hi;exact⟨(hb.cell (p:=⟨b,o+i*2,none⟩) (zf h1)).trans h1,(hb.cell (p:=⟨b,o+i*2+1,none⟩) (zf h2)).trans h2⟩
abbrev ivV (s:Iv):Value:=.agg #[.int .u64 ((s.1:Nat):Int),.int .u64 ((s.2:Nat):Int)]
def ivC (l:List Iv):List Value:=l.flatMap fun s=>[.int .u64 ((s.1:Nat):Int),.int .u64 ((s.2:Nat):Int)]
theorem znm (s:Iv) (l:List Iv):ivC (s :: l)=.int .u64 ((s.1:Nat):Int) :: .int .u64 ((s.2:Nat):Int) :: ivC l:=rfl
theorem znn (a b:List Iv):ivC (a++b)=ivC a++ivC b:=by simp[ivC]
theorem zgg (l:List Iv):(ivC l).length=l.length*2:=by
 induction l with
 | nil=>rfl
 | cons s l ih=>rw[znm];simp[ih];omega
theorem zgh:∀(l:List Iv) (i:Nat),i<l.length→(ivC l)[i*2]?=some (.int .u64 (((zb l i).1:Nat):Int))∧(ivC l)[i*2+1]?=some (.int .u64 (((zb l i).2:Nat):Int))
 | [],i,h=>by simp at h
 | s :: l,0,_=>⟨rfl,rfl⟩
 | s :: l,i+1,h=>by
   have:=zgh l i (by simpa using h);rw[znm,show (i+1)*2=i*2+1+1 by omega];simpa [zb] using this
theorem zwk (l:List Iv):∀u∈ivC l,u.oneCell'=true:=by
 intro u hu;simp only[ivC,List.mem_flatMap] at hu;obtain⟨s,_,hs⟩:=hu;simp at hs;rcases hs with rfl | rfl <;> rfl
theorem zjr (w:World):Ivs w none 0 0 []:=⟨rfl,by simp,by omega,by omega,fun _=>rfl,fun h=>by omega⟩
theorem za2 {w:World} {base n:Nat} {T:TypeId} {v:Value} {l:List Iv} (h:w.ownsRow base T 2 v n (ivC l)) (hl:∀s∈l,s.1<18446744073709551616∧s.2<18446744073709551616):∃a cap,v=.slice a n cap∧Ivs w a n cap l:=by
 have hlen:l.length=n:=by have:=h.1;rw[zgg] at this;omega
 rcases h.2 with ⟨rfl,rfl⟩ | ⟨g,cap,cur,rfl,hg,hh,hnc,hcm,_⟩
 · exact⟨none,0,rfl,hlen,hl,by omega,by omega,fun _=>rfl,fun h=>by omega⟩
 · refine⟨_,_,rfl,hlen,hl,hnc,by unfold maxLen at hcm;omega,(by intro h;cases h),fun hn=>⟨g,0,rfl,fun i hi=>?_⟩⟩;obtain⟨e1,e2⟩:=zgh l i (by omega);have h1:=h.cells (g:=g) rfl _ _ e1;have h2:=h.cells (g:=g) rfl _ _ e2;rw[qg] at h1 h2;rw[Nat.add_assoc];exact⟨h1,h2⟩
theorem jt {P:Program} {f:FuncId} {args:Array Value} {w w':World} {v:Value} (hw:Below w.heap.size w w') (h:Calls P f args w' fun e w''=>e=.returned v∧Below w'.heap.size w' w''):
 Calls P f args w' fun e w''=>e=.returned v∧Below w.heap.size w w'':=h.mono fun e w'' ⟨he,hb⟩=>⟨he,hw.trans (hb.mono hw.size)⟩
theorem z7 {B:Nat} {a w:World} (h:Below B a w) (n:Nat):Below B a (w.drewN n):=⟨h.os,h.tape,h.output,h.size,h.block⟩
theorem jl {P:Program} {id:Nat} {Q:Exit→Act→World→Prop} {a:Act} {w:World} {l:List Oper} (hm:P.follows .mixedOrders=true) (hB:Region.lexB .any l.toArray=true)
 (h:wpQuiet P l.toArray (fun w'=>Below w.heap.size w w') (fun a'=>∀w',Below w.heap.size w w'→Q .normal a' w') l a):(Code.region id l.toArray true).wp P Q a w:=
 wp_region_quiet (C:=fun w'=>Below w.heap.size w w') hm hB ((Below.refl _ _).drew) (by simpa using h)
end
section
def zit (l:List Iv):Prop:=∀i j,i<j→j<l.length→(zb l i).1≤(zb l j).1
end
section
open Go.RowKit
def zco (o:Option Nat):Value:=.tuple #[.int .u64 ((o.getD 0:Nat):Int),.bool o.isSome]
def zjs (x:Nat):Option Nat:=if x=0 then none else some (x - 1)
theorem zri (x:Nat) (hx:x<18446744073709551616) (w:World):Calls Tryz.prog 249 #[.int .u64 x] w fun e w'=>e=.returned (zco (zjs x))∧Below w.heap.size w w':=by
 by_cases h:x=0
 · subst h;go_enter Tryz.func249,Tryz.ntmps249;go_wp2;all_goals go_ret2
   all_goals exact⟨by simp[zco,zjs],by first | exact Below.refl _ _ | exact z7 (Below.refl _ _) _⟩
 · have hw:IntKind.u64.wrap ((x:Int) - 1)=((x - 1:Nat):Int):=by rw[IntKind.wrap_u64];omega
   have hne:((x:Int) == 0)=false:=by rw[beq_eq_false_iff_ne];omega
   have e:zjs x=some (x - 1):=if_neg h;rw[e];go_enter Tryz.func249,Tryz.ntmps249;go_wp2;all_goals go_ret2
   all_goals exact⟨by simp[zco],by first | exact Below.refl _ _ | exact z7 (Below.refl _ _) _⟩
end
section
open Go.RowKit Go.Extern.Stop Go.Stop Go.Extern
theorem z8r (c a:Int) (tb:Nat) (A:Addr) (o1 o2:Value) (w:World) (hA:w.cell? A=some (.pointer (some ⟨tb,0,none⟩))) (ht0:w.cell? ⟨tb,0,none⟩=some o1) (ht1:w.cell? ⟨tb,1,none⟩=some o2)
 (hf0:w.frozen? ⟨tb,0,none⟩=false) (hf1:w.frozen? ⟨tb,1,none⟩=false):
 Calls Tryz.prog 118 #[.iface 110 (.agg #[.int .i64 c,.int .i64 a]),.iface 116 (.pointer (some ⟨tb,0,none⟩)),.agg #[.pointer (some ⟨2,116,none⟩),.pointer (some A),.int .u64 150],.iface 272 (.agg #[.pointer (some ⟨2,110,none⟩)])] w
  fun e w'=>e=.returned (.bool true)∧w.grownBy w' (some tb)∧w'.cell? ⟨tb,0,none⟩=some (.int .i64 c)∧w'.cell? ⟨tb,1,none⟩=some (.int .i64 a):=by
 have hTO:=@run_callFunc_extern Tryz.prog 179 _ ReflectliteType.typeOf Tryz.func179 (by kernel_rfl) (by kernel_rfl) (by kernel_rfl) (by kernel_rfl);have hAT:=@run_callFunc_extern Tryz.prog 374 _ (ReflectliteType.relation "AssignableTo" ReflectliteType.assignableTo) Tryz.func374 (by kernel_rfl) (by kernel_rfl) (by kernel_rfl) (by kernel_rfl);have hEl:=@run_callFunc_extern Tryz.prog 180 _ (ReflectliteValue.method (ReflectliteValue.valueError "reflectlite.Value.Elem" 0) ReflectliteValue.elem) Tryz.func180 (by kernel_rfl) (by kernel_rfl) (by kernel_rfl) (by kernel_rfl);have hVO:=@run_callFunc_extern Tryz.prog 115 _ (fun args=>ReflectliteValue.unpack (args.getD 0 (.tuple #[]))) Tryz.func115 (by kernel_rfl) (by kernel_rfl) (by kernel_rfl) (by kernel_rfl);have hSt:=@run_callFunc_extern Tryz.prog 181 _ ReflectliteValue.set Tryz.func181 (by kernel_rfl) (by kernel_rfl) (by kernel_rfl) (by kernel_rfl);have tO:=Tryz.typeOfF;have mA:=Tryz.methodAssignableTo;have aFF:=Tryz.assignableFF;have vF:=Tryz.valueOfF;have hAl:A.block<w.heap.size:=zf hA;have htl:tb<w.heap.size:=zf ht0;have el:=Tryz.elemVPF A ⟨tb,0,none⟩ (w.alloc (.cells #[.pointer (some ⟨2,116,none⟩),.pointer (some A),.int .u64 150] 184)) (by rw[World.cell?_alloc_lt _ _ A hAl];exact hA)
 have h0:((w.alloc (.cells #[.pointer (some ⟨2,116,none⟩),.pointer (some A),.int .u64 150] 184)).alloc (.cells #[.int .i64 c,.int .i64 a] 110)).cell? ⟨tb,0,none⟩=some o1:=by
  rw[World.cell?_alloc_lt _ _ ⟨tb,0,none⟩ (by simp;omega),World.cell?_alloc_lt _ _ ⟨tb,0,none⟩ htl];exact ht0
 have h1:((w.alloc (.cells #[.pointer (some ⟨2,116,none⟩),.pointer (some A),.int .u64 150] 184)).alloc (.cells #[.int .i64 c,.int .i64 a] 110)).cell? ⟨tb,1,none⟩=some o2:=by
  rw[World.cell?_alloc_lt _ _ ⟨tb,1,none⟩ (by simp;omega),World.cell?_alloc_lt _ _ ⟨tb,1,none⟩ htl];exact ht1
 have g0:((w.alloc (.cells #[.pointer (some ⟨2,116,none⟩),.pointer (some A),.int .u64 150] 184)).alloc (.cells #[.int .i64 c,.int .i64 a] 110)).frozen? ⟨tb,0,none⟩=false:=by
  rw[World.frozen?_alloc_old _ _ ⟨tb,0,none⟩ (by simp;omega),World.frozen?_alloc_old _ _ ⟨tb,0,none⟩ (Nat.ne_of_lt htl)];exact hf0
 have g1:((w.alloc (.cells #[.pointer (some ⟨2,116,none⟩),.pointer (some A),.int .u64 150] 184)).alloc (.cells #[.int .i64 c,.int .i64 a] 110)).frozen? ⟨tb,1,none⟩=false:=by
  rw[World.frozen?_alloc_old _ _ ⟨tb,1,none⟩ (by simp;omega),World.frozen?_alloc_old _ _ ⟨tb,1,none⟩ (Nat.ne_of_lt htl)];exact hf1
 have st:=Tryz.setF tb (w.heap.size+1) c a o1 o2 ((w.alloc (.cells #[.pointer (some ⟨2,116,none⟩),.pointer (some A),.int .u64 150] 184)).alloc (.cells #[.int .i64 c,.int .i64 a] 110))
  (by rw[World.cell?_alloc_at _ _ _ _ (by simp)];rfl) (by rw[World.cell?_alloc_at _ _ _ _ (by simp)];rfl) h0 h1 g0 g1
 have hz:((w.setCell ⟨tb,0,none⟩ (.int .i64 c)).setCell ⟨tb,1,none⟩ (.int .i64 a)).heap.size=w.heap.size:=by simp[World.setCell]
 have hc0:((((w.setCell ⟨tb,0,none⟩ (.int .i64 c)).setCell ⟨tb,1,none⟩ (.int .i64 a)).alloc (.cells #[.pointer (some ⟨2,116,none⟩),.pointer (some A),.int .u64 150] 184)).alloc (.cells #[.int .i64 c,.int .i64 a] 110)).cell? ⟨tb,0,none⟩=some (.int .i64 c):=by
  rw[World.cell?_alloc_lt _ _ ⟨tb,0,none⟩ (by simp only[World.size_alloc,hz];omega),World.cell?_alloc_lt _ _ ⟨tb,0,none⟩ (by rw[hz];exact htl),World.cell?_setCell_other _ _ _ _ (by simp)];exact World.cell?_setCell_same _ _ _ ht0
 have hc1:((((w.setCell ⟨tb,0,none⟩ (.int .i64 c)).setCell ⟨tb,1,none⟩ (.int .i64 a)).alloc (.cells #[.pointer (some ⟨2,116,none⟩),.pointer (some A),.int .u64 150] 184)).alloc (.cells #[.int .i64 c,.int .i64 a] 110)).cell? ⟨tb,1,none⟩=some (.int .i64 a):=by
  rw[World.cell?_alloc_lt _ _ ⟨tb,1,none⟩ (by simp only[World.size_alloc,hz];omega),World.cell?_alloc_lt _ _ ⟨tb,1,none⟩ (by rw[hz];exact htl)];exact World.cell?_setCell_same _ _ _ (by rw[World.cell?_setCell_other _ _ _ _ (by simp)];exact ht1)
 have Hc0:=hid hc0;clear hc0 h0 h1 g0 g1 hz;have Hc1:=hid hc1;clear hc1;go_enter Tryz.func118,Tryz.ntmps118;go_wp2;refine wp_loop_rounds 1 ?_;rw[rounds_succ];go_wp2;go_ret;exact⟨rfl,zw (zw (zw (zfq _ ⟨tb,0,none⟩ _) (zfq _ ⟨tb,1,none⟩ _)) (World.grownBy_alloc _ _ _)) (World.grownBy_alloc _ _ _),Hc0.out,Hc1.out⟩
theorem z8s (c:Int) (tb:Nat) (A:Addr) (w:World):
 Calls Tryz.prog 118 #[.iface 27 (.int .i64 c),.iface 116 (.pointer (some ⟨tb,0,none⟩)),.agg #[.pointer (some ⟨2,116,none⟩),.pointer (some A),.int .u64 150],.iface 272 (.agg #[.pointer (some ⟨2,110,none⟩)])] w
  fun e w'=>e=.returned (.bool false)∧w.grownBy w' none:=by
 have hTO:=@run_callFunc_extern Tryz.prog 179 _ ReflectliteType.typeOf Tryz.func179 (by kernel_rfl) (by kernel_rfl) (by kernel_rfl) (by kernel_rfl);have hAT:=@run_callFunc_extern Tryz.prog 374 _ (ReflectliteType.relation "AssignableTo" ReflectliteType.assignableTo) Tryz.func374 (by kernel_rfl) (by kernel_rfl) (by kernel_rfl) (by kernel_rfl);have tO:=Tryz.typeOfE;have mA:=Tryz.methodAssignableTo;have aEF:=Tryz.assignableEF;have s1:=Tryz.asAsE;have s2:=Tryz.asUnE;have s3:=Tryz.asUmE;go_enter Tryz.func118,Tryz.ntmps118;go_wp2;refine wp_loop_rounds 1 ?_;rw[rounds_succ];go_wp2;go_ret;exact⟨rfl,World.grownBy_alloc _ _ _⟩
theorem z8t (c:Int) (t A:Addr) (old:Value) (w:World) (hA:w.cell? A=some (.pointer (some t))) (ht:w.cell? t=some old) (hf:w.frozen? t=false):
 Calls Tryz.prog 118 #[.iface 27 (.int .i64 c),.iface 131 (.pointer (some t)),.agg #[.pointer (some ⟨2,131,none⟩),.pointer (some A),.int .u64 150],.iface 272 (.agg #[.pointer (some ⟨2,27,none⟩)])] w
  fun e w'=>e=.returned (.bool true)∧w.grownBy w' (some t.block)∧w'.cell? t=some (.int .i64 c):=by
 have hTO:=@run_callFunc_extern Tryz.prog 179 _ ReflectliteType.typeOf Tryz.func179 (by kernel_rfl) (by kernel_rfl) (by kernel_rfl) (by kernel_rfl);have hAT:=@run_callFunc_extern Tryz.prog 374 _ (ReflectliteType.relation "AssignableTo" ReflectliteType.assignableTo) Tryz.func374 (by kernel_rfl) (by kernel_rfl) (by kernel_rfl) (by kernel_rfl);have hEl:=@run_callFunc_extern Tryz.prog 180 _ (ReflectliteValue.method (ReflectliteValue.valueError "reflectlite.Value.Elem" 0) ReflectliteValue.elem) Tryz.func180 (by kernel_rfl) (by kernel_rfl) (by kernel_rfl) (by kernel_rfl);have hVO:=@run_callFunc_extern Tryz.prog 115 _ (fun args=>ReflectliteValue.unpack (args.getD 0 (.tuple #[]))) Tryz.func115 (by kernel_rfl) (by kernel_rfl) (by kernel_rfl) (by kernel_rfl);have hSt:=@run_callFunc_extern Tryz.prog 181 _ ReflectliteValue.set Tryz.func181 (by kernel_rfl) (by kernel_rfl) (by kernel_rfl) (by kernel_rfl);have tO:=Tryz.typeOfE;have mA:=Tryz.methodAssignableTo;have aEE:=Tryz.assignableEE;have vE:=Tryz.valueOfE;have hAl:A.block<w.heap.size:=zf hA;have htl:t.block<w.heap.size:=zf ht;have el:=Tryz.elemVPE A t (w.alloc (.cells #[.pointer (some ⟨2,131,none⟩),.pointer (some A),.int .u64 150] 184)) (by rw[World.cell?_alloc_lt _ _ A hAl];exact hA)
 have st:=Tryz.setE t ⟨w.heap.size+1,0,none⟩ c old ((w.alloc (.cells #[.pointer (some ⟨2,131,none⟩),.pointer (some A),.int .u64 150] 184)).alloc (.cells #[.int .i64 c] 27))
  (by rw[World.cell?_alloc_at _ _ _ _ (by simp)];rfl)
  (by rw[World.cell?_alloc_lt _ _ t (by simp;omega),World.cell?_alloc_lt _ _ t htl];exact ht)
  (by rw[World.frozen?_alloc_old _ _ t (by simp;omega),World.frozen?_alloc_old _ _ t (Nat.ne_of_lt htl)];exact hf)
 have hc2:(((w.alloc (.cells #[.pointer (some ⟨2,131,none⟩),.pointer (some A),.int .u64 150] 184)).alloc (.cells #[.int .i64 c] 27)).setCell t (.int .i64 c)).cell? t=some (.int .i64 c):=
  World.cell?_setCell_same _ _ _ (by rw[World.cell?_alloc_lt _ _ t (by simp;omega),World.cell?_alloc_lt _ _ t htl];exact ht)
 have Hc2:=hid hc2;clear hc2;go_enter Tryz.func118,Tryz.ntmps118;go_wp2;refine wp_loop_rounds 1 ?_;rw[rounds_succ];go_wp2;go_ret;exact⟨rfl,zw (zw (World.grownBy_alloc _ _ _) (World.grownBy_alloc _ _ _)) (zfq _ _ _),Hc2.out⟩
theorem zk5 (c a:Int) (w:World):Calls Tryz.prog 362 #[.agg #[.int .i64 c,.int .i64 a]] w fun e w'=>e=.returned (.iface 27 (.int .i64 c))∧w'=w.alloc (.cells #[.int .i64 c,.int .i64 a] 110):=by
 go_enter Tryz.func362,Tryz.ntmps362;go_wp2;go_ret;exact⟨rfl,rfl⟩
theorem z8u (c a:Int) (t A:Addr) (old:Value) (w:World) (hA:w.cell? A=some (.pointer (some t))) (ht:w.cell? t=some old) (hf:w.frozen? t=false):
 Calls Tryz.prog 118 #[.iface 110 (.agg #[.int .i64 c,.int .i64 a]),.iface 131 (.pointer (some t)),.agg #[.pointer (some ⟨2,131,none⟩),.pointer (some A),.int .u64 150],.iface 272 (.agg #[.pointer (some ⟨2,27,none⟩)])] w
  fun e w'=>e=.returned (.bool true)∧w.grownBy w' (some t.block)∧w'.cell? t=some (.int .i64 c):=by
 have hTO:=@run_callFunc_extern Tryz.prog 179 _ ReflectliteType.typeOf Tryz.func179 (by kernel_rfl) (by kernel_rfl) (by kernel_rfl) (by kernel_rfl);have hAT:=@run_callFunc_extern Tryz.prog 374 _ (ReflectliteType.relation "AssignableTo" ReflectliteType.assignableTo) Tryz.func374 (by kernel_rfl) (by kernel_rfl) (by kernel_rfl) (by kernel_rfl);have hEl:=@run_callFunc_extern Tryz.prog 180 _ (ReflectliteValue.method (ReflectliteValue.valueError "reflectlite.Value.Elem" 0) ReflectliteValue.elem) Tryz.func180 (by kernel_rfl) (by kernel_rfl) (by kernel_rfl) (by kernel_rfl);have hVO:=@run_callFunc_extern Tryz.prog 115 _ (fun args=>ReflectliteValue.unpack (args.getD 0 (.tuple #[]))) Tryz.func115 (by kernel_rfl) (by kernel_rfl) (by kernel_rfl) (by kernel_rfl);have hSt:=@run_callFunc_extern Tryz.prog 181 _ ReflectliteValue.set Tryz.func181 (by kernel_rfl) (by kernel_rfl) (by kernel_rfl) (by kernel_rfl);have tO:=Tryz.typeOfE;have tO2:=Tryz.typeOfF;have mA:=Tryz.methodAssignableTo;have aEE:=Tryz.assignableEE;have aFE:=Tryz.assignableFE;have s1:=Tryz.asAsF;have s2:=Tryz.asUnF;have mU:=Tryz.methodUnF;have vE:=Tryz.valueOfE;have hAl:A.block<w.heap.size:=zf hA;have htl:t.block<w.heap.size:=zf ht
 have hA2:((w.alloc (.cells #[.pointer (some ⟨2,131,none⟩),.pointer (some A),.int .u64 150] 184)).alloc (.cells #[.int .i64 c,.int .i64 a] 110)).cell? A=some (.pointer (some t)):=by
  rw[World.cell?_alloc_lt _ _ A (by simp;omega),World.cell?_alloc_lt _ _ A hAl];exact hA
 have ht2:((w.alloc (.cells #[.pointer (some ⟨2,131,none⟩),.pointer (some A),.int .u64 150] 184)).alloc (.cells #[.int .i64 c,.int .i64 a] 110)).cell? t=some old:=by
  rw[World.cell?_alloc_lt _ _ t (by simp;omega),World.cell?_alloc_lt _ _ t htl];exact ht
 have hf2:((w.alloc (.cells #[.pointer (some ⟨2,131,none⟩),.pointer (some A),.int .u64 150] 184)).alloc (.cells #[.int .i64 c,.int .i64 a] 110)).frozen? t=false:=by
  rw[World.frozen?_alloc_old _ _ t (by simp;omega),World.frozen?_alloc_old _ _ t (Nat.ne_of_lt htl)];exact hf
 have el:=Tryz.elemVPE A t ((w.alloc (.cells #[.pointer (some ⟨2,131,none⟩),.pointer (some A),.int .u64 150] 184)).alloc (.cells #[.int .i64 c,.int .i64 a] 110)) hA2
 have st:=Tryz.setE t ⟨w.heap.size+1+1,0,none⟩ c old (((w.alloc (.cells #[.pointer (some ⟨2,131,none⟩),.pointer (some A),.int .u64 150] 184)).alloc (.cells #[.int .i64 c,.int .i64 a] 110)).alloc (.cells #[.int .i64 c] 27))
  (by rw[World.cell?_alloc_at _ _ _ _ (by simp)];rfl)
  (by rw[World.cell?_alloc_lt _ _ t (by simp;omega)];exact ht2)
  (by rw[World.frozen?_alloc_old _ _ t (by simp;omega)];exact hf2)
 have hc2:((((w.alloc (.cells #[.pointer (some ⟨2,131,none⟩),.pointer (some A),.int .u64 150] 184)).alloc (.cells #[.int .i64 c,.int .i64 a] 110)).alloc (.cells #[.int .i64 c] 27)).setCell t (.int .i64 c)).cell? t=some (.int .i64 c):=
  World.cell?_setCell_same _ _ _ (by rw[World.cell?_alloc_lt _ _ t (by simp;omega)];exact ht2)
 have Hc2:=hid hc2;clear hc2 hA2 ht2 hf2;go_enter Tryz.func118,Tryz.ntmps118;go_wp2;refine wp_loop_rounds 2 ?_;rw[rounds_succ];go_wp2_with fail;refine(zk5 c a _).mono ?_;rintro e w' ⟨rfl,rfl⟩;go_wp2_with fail;rw[rounds_succ];go_wp2_with fail;go_ret;exact⟨rfl,zw (zw (zw (World.grownBy_alloc _ _ _) (World.grownBy_alloc _ _ _)) (World.grownBy_alloc _ _ _)) (zfq _ _ _),Hc2.out⟩
theorem z8v (t:Value) (w:World):Calls Tryz.prog 68 #[.nilIface,t] w fun e w'=>e=.returned (.bool false)∧w=w':=by
 go_enter Tryz.func68,Tryz.ntmps68;go_wp2;go_ret;exact⟨rfl,rfl⟩
theorem zno (u:TypeId) (x:Value) (t:Addr) (w:World) (hD:Door w) (ht:t.block<w.heap.size) (Q:Ending→World→Prop)
 (h:∀(w1:World) (A:Addr),Below w.heap.size w w1→w1.cell? A=some (.pointer (some t))→w.heap.size≤A.block→
   Calls Tryz.prog 118 #[.iface u x,.iface 131 (.pointer (some t)),.agg #[.pointer (some ⟨2,131,none⟩),.pointer (some A),.int .u64 150],.iface 272 (.agg #[.pointer (some ⟨2,27,none⟩)])] w1 fun e w'=>∃b,e=.returned (.bool b)∧Q e w'):
 Calls Tryz.prog 68 #[.iface u x,.iface 131 (.pointer (some t))] w Q:=by
 have hVO:=@run_callFunc_extern Tryz.prog 115 _ (fun args=>ReflectliteValue.unpack (args.getD 0 (.tuple #[]))) Tryz.func115 (by kernel_rfl) (by kernel_rfl) (by kernel_rfl) (by kernel_rfl);have hTy:=@run_callFunc_extern Tryz.prog 116 _ (ReflectliteValue.methodAny (ReflectliteValue.valueError "reflectlite.Value.Type" 0) (fun t _ _ _=>ReflectliteType.toType t)) Tryz.func116 (by kernel_rfl) (by kernel_rfl) (by kernel_rfl) (by kernel_rfl);have hIN:=@run_callFunc_extern Tryz.prog 117 _ (ReflectliteValue.method (ReflectliteValue.valueError "reflectlite.Value.IsNil" 0) ReflectliteValue.isNil) Tryz.func117 (by kernel_rfl) (by kernel_rfl) (by kernel_rfl) (by kernel_rfl);have hKi:=@run_callFunc_extern Tryz.prog 358 _ (ReflectliteType.abiMethod fun t=>do pure (.int .u8 (←Rtype.kind t))) Tryz.func358 (by kernel_rfl) (by kernel_rfl) (by kernel_rfl) (by kernel_rfl);have hEl:=@run_callFunc_extern Tryz.prog 376 _ (ReflectliteType.method ReflectliteType.elem) Tryz.func376 (by kernel_rfl) (by kernel_rfl) (by kernel_rfl) (by kernel_rfl);have hIm:=@run_callFunc_extern Tryz.prog 377 _ (ReflectliteType.relation "Implements" ReflectliteType.implements_) Tryz.func377 (by kernel_rfl) (by kernel_rfl) (by kernel_rfl) (by kernel_rfl);have f6:=Tryz.valueOfPE;have f7:=Tryz.typePE;have mK:=Tryz.methodKind;have mE:=Tryz.methodElem;have mI:=Tryz.methodImplements;have k27:=Tryz.kindPE;have k25:=Tryz.kindE;have e27:=Tryz.elemPE;have i25:=Tryz.implementsE;have n8:=Tryz.isNilPE ⟨w.heap.size,0,none⟩ t ((w.alloc (.cells #[.pointer (some t)] 131)).alloc (.cells #[.pointer (some ⟨2,131,none⟩),.pointer (some ⟨w.heap.size,0,none⟩),.int .u64 150] 184)) (by simp);have hlt:0<w.heap.size:=zf hD
 have hg2:((w.alloc (.cells #[.pointer (some t)] 131)).alloc (.cells #[.pointer (some ⟨2,131,none⟩),.pointer (some ⟨w.heap.size,0,none⟩),.int .u64 150] 184)).cell? ⟨0,0,none⟩=some (.iface 272 (.agg #[.pointer (some ⟨2,38,none⟩)])):=by
  rw[World.cell?_alloc_lt _ _ ⟨0,0,none⟩ (by simp only[World.size_alloc];omega),World.cell?_alloc_lt _ _ ⟨0,0,none⟩ hlt];exact hD
 have H:=hid (h ((w.alloc (.cells #[.pointer (some t)] 131)).alloc (.cells #[.pointer (some ⟨2,131,none⟩),.pointer (some ⟨w.heap.size,0,none⟩),.int .u64 150] 184)) ⟨w.heap.size,0,none⟩
  (((Below.refl _ _).alloc (Nat.le_refl _) _).alloc (by simp only[World.size_alloc];omega) _) (by simp) (Nat.le_refl _))
 clear h hD;go_enter Tryz.func68,Tryz.ntmps68;go_wp2_with fail;refine H.out.mono ?_;rintro e w' ⟨b,rfl,hq⟩;have Hq:=hid hq;clear hq H;go_wp2_with fail;exact Hq.out
theorem znp (u:TypeId) (x:Value) (t:Addr) (w:World) (hD:Door w) (ht:t.block<w.heap.size) (Q:Ending→World→Prop)
 (h:∀(w1:World) (A:Addr),Below w.heap.size w w1→w1.cell? A=some (.pointer (some t))→w.heap.size≤A.block→
   Calls Tryz.prog 118 #[.iface u x,.iface 116 (.pointer (some t)),.agg #[.pointer (some ⟨2,116,none⟩),.pointer (some A),.int .u64 150],.iface 272 (.agg #[.pointer (some ⟨2,110,none⟩)])] w1 fun e w'=>∃b,e=.returned (.bool b)∧Q e w'):
 Calls Tryz.prog 68 #[.iface u x,.iface 116 (.pointer (some t))] w Q:=by
 have hVO:=@run_callFunc_extern Tryz.prog 115 _ (fun args=>ReflectliteValue.unpack (args.getD 0 (.tuple #[]))) Tryz.func115 (by kernel_rfl) (by kernel_rfl) (by kernel_rfl) (by kernel_rfl);have hTy:=@run_callFunc_extern Tryz.prog 116 _ (ReflectliteValue.methodAny (ReflectliteValue.valueError "reflectlite.Value.Type" 0) (fun t _ _ _=>ReflectliteType.toType t)) Tryz.func116 (by kernel_rfl) (by kernel_rfl) (by kernel_rfl) (by kernel_rfl);have hIN:=@run_callFunc_extern Tryz.prog 117 _ (ReflectliteValue.method (ReflectliteValue.valueError "reflectlite.Value.IsNil" 0) ReflectliteValue.isNil) Tryz.func117 (by kernel_rfl) (by kernel_rfl) (by kernel_rfl) (by kernel_rfl);have hKi:=@run_callFunc_extern Tryz.prog 358 _ (ReflectliteType.abiMethod fun t=>do pure (.int .u8 (←Rtype.kind t))) Tryz.func358 (by kernel_rfl) (by kernel_rfl) (by kernel_rfl) (by kernel_rfl);have hEl:=@run_callFunc_extern Tryz.prog 376 _ (ReflectliteType.method ReflectliteType.elem) Tryz.func376 (by kernel_rfl) (by kernel_rfl) (by kernel_rfl) (by kernel_rfl);have hIm:=@run_callFunc_extern Tryz.prog 377 _ (ReflectliteType.relation "Implements" ReflectliteType.implements_) Tryz.func377 (by kernel_rfl) (by kernel_rfl) (by kernel_rfl) (by kernel_rfl);have f6:=Tryz.valueOfPF;have f7:=Tryz.typePF;have mK:=Tryz.methodKind;have mE:=Tryz.methodElem;have mI:=Tryz.methodImplements;have k27:=Tryz.kindPF;have k25:=Tryz.kindF;have e27:=Tryz.elemPF;have i25:=Tryz.implementsF;have n8:=Tryz.isNilPF ⟨w.heap.size,0,none⟩ t ((w.alloc (.cells #[.pointer (some t)] 116)).alloc (.cells #[.pointer (some ⟨2,116,none⟩),.pointer (some ⟨w.heap.size,0,none⟩),.int .u64 150] 184)) (by simp);have hlt:0<w.heap.size:=zf hD
 have hg2:((w.alloc (.cells #[.pointer (some t)] 116)).alloc (.cells #[.pointer (some ⟨2,116,none⟩),.pointer (some ⟨w.heap.size,0,none⟩),.int .u64 150] 184)).cell? ⟨0,0,none⟩=some (.iface 272 (.agg #[.pointer (some ⟨2,38,none⟩)])):=by
  rw[World.cell?_alloc_lt _ _ ⟨0,0,none⟩ (by simp only[World.size_alloc];omega),World.cell?_alloc_lt _ _ ⟨0,0,none⟩ hlt];exact hD
 have H:=hid (h ((w.alloc (.cells #[.pointer (some t)] 116)).alloc (.cells #[.pointer (some ⟨2,116,none⟩),.pointer (some ⟨w.heap.size,0,none⟩),.int .u64 150] 184)) ⟨w.heap.size,0,none⟩
  (((Below.refl _ _).alloc (Nat.le_refl _) _).alloc (by simp only[World.size_alloc];omega) _) (by simp) (Nat.le_refl _))
 clear h hD;go_enter Tryz.func68,Tryz.ntmps68;go_wp2_with fail;refine H.out.mono ?_;rintro e w' ⟨b,rfl,hq⟩;have Hq:=hid hq;clear hq H;go_wp2_with fail;exact Hq.out
end
section
abbrev Ent:=Nat×Nat×List Iv
abbrev Vec:=List Ent
abbrev Frg:=List Iv×Vec
abbrev Kno:=List Frg
abbrev zo (l:List Iv):Prop:=∀t∈l,t.1<18446744073709551616∧t.2<18446744073709551616
def ky:List Nat→Nat→List Nat
 | [],x=>[x]
 | a :: l,x=>if x<a then x :: a :: l else if x=a then a :: l else a :: ky l x
theorem zhc:∀{l:List Nat} {x y:Nat},y∈ky l x↔y∈l∨y=x
 | [],x,y=>by simp[ky]
 | a :: l,x,y=>by
   rw[ky];split
   · simp only[List.mem_cons];constructor
     · rintro(h | h | h)
       · exact .inr h
       · exact .inl (.inl h)
       · exact .inl (.inr h)
     · rintro((h | h) | h)
       · exact .inr (.inl h)
       · exact .inr (.inr h)
       · exact .inl h
   · split
     · rename_i h;subst h;simp only[List.mem_cons];constructor
       · exact .inl
       · rintro(h | h)
         · exact h
         · exact .inl h
     · simp only[List.mem_cons,zhc (l:=l)];constructor
       · rintro(h | h | h)
         · exact .inl (.inl h)
         · exact .inl (.inr h)
         · exact .inr h
       · rintro((h | h) | h)
         · exact .inl h
         · exact .inr (.inl h)
         · exact .inr (.inr h)
theorem ziu:∀{l:List Nat} {x:Nat},Asc l→Asc (ky l x)
 | [],x,_=>trivial
 | a :: l,x,h=>by
   rw[ky];split
   · rename_i hx
     exact zgf (fun y hy=>by
      rcases List.mem_cons.1 hy with rfl | hy
      · exact hx
      · have:=h.lower y hy;omega) h
   · split
     · exact h
     · refine zgf (fun y hy=>?_) (ziu h.tail);rcases zhc.1 hy with hy | rfl
       · exact h.lower y hy
       · omega
def zek (l:List Nat):List Nat:=l.foldl ky []
structure LtE (e:Ent):Prop where
 rep:e.1<18446744073709551616
 max:e.2.1<18446744073709551616
 holes:zo e.2.2
theorem zhd {a b:Nat} (ha:a<18446744073709551616) (hb:b<18446744073709551616):zo [(a,b)]:=by
 intro t ht;simp at ht;subst ht;exact⟨ha,hb⟩
structure CanE (e:Ent):Prop where
 good:Good e.2.2
 below:∀s∈e.2.2,s.2≤e.2.1
 top:mem e.2.2 e.2.1=false
def za (k:Kno) (i:Nat):Frg:=k.getD i ([],[])
theorem qm {k:Kno} {i:Nat} (h:i<k.length):za k i=k[i]:=by simp[za,h]
theorem yh {k:Kno} {i:Nat} (h:i<k.length):za k i∈k:=by rw[qm h];exact List.getElem_mem h
def zx (k:Kno) (x:Nat):List Nat:=(List.range k.length).filter fun i=>mem (za k i).1 x
def ki (k:Kno):List Nat:=zek (jk (k.map (·.1)))
def yb (k:Kno):List Nat:=(ki k).filter fun x=>decide (x=0) || decide (zx k (x - 1)≠zx k x)
theorem zk6 {k:Kno} {y:Nat}:y∈yb k↔y∈ki k∧(y=0∨zx k (y - 1)≠zx k y):=by
 unfold yb;rw[List.mem_filter,Bool.or_eq_true,decide_eq_true_iff,decide_eq_true_iff]
end
section
open Go.RowKit
def zbl (k:Kno) (x d:Nat):List Nat:=(List.range d).filter fun i=>mem (za k i).1 x
theorem zk7 (k:Kno) (x d:Nat):zbl k x (d+1)=zbl k x d++(if mem (za k d).1 x=true then [d] else []):=by
 unfold zbl;rw[List.range_succ,List.filter_append];congr 1;by_cases h:mem (za k d).1 x=true
 · simp[h]
 · simp[h]
theorem znq (k:Kno) (x d:Nat):(zbl k x d).length≤d:=by
 have:=List.length_filter_le (fun i=>mem (za k i).1 x) (List.range d);simpa [zbl] using this
end
section
def vm:List Nat→List Nat→Int
 | [],[]=>0
 | [],_ :: _=> -1
 | _ :: _,[]=>1
 | a :: l,b :: m=>if a<b then -1 else if b<a then 1 else vm l m
theorem zwl:∀(l:List Nat),vm l l=0
 | []=>rfl
 | a :: l=>by rw[vm,if_neg (Nat.lt_irrefl _),if_neg (Nat.lt_irrefl _),zwl l]
theorem zwm:∀(a b:List Nat),vm a b= -1∨vm a b=0∨vm a b=1
 | [],[]=>.inr (.inl rfl)
 | [],_ :: _=>.inl rfl
 | _ :: _,[]=>.inr (.inr rfl)
 | a :: l,b :: m=>by
   rw[vm];split
   · exact .inl rfl
   · split
     · exact .inr (.inr rfl)
     · exact zwm l m
theorem zwn:∀{a b c:List Nat},vm a b= -1→vm b c= -1→vm a c= -1
 | [],[],_,h,_=>by simp[vm] at h
 | [],_ :: _,[],_,h=>by simp[vm] at h
 | [],_ :: _,_ :: _,_,_=>rfl
 | _ :: _,[],_,h,_=>by simp[vm] at h
 | _ :: _,_ :: _,[],_,h=>by simp[vm] at h
 | a :: l,b :: m,c :: n,h1,h2=>by
   rw[vm] at h1 h2 ⊢;split at h1
   · split at h2
     · rw[if_pos (by omega)]
     · split at h2
       · cases h2
       · rw[if_pos (by omega)]
   · split at h1
     · cases h1
     · split at h2
       · rw[if_pos (by omega)]
       · split at h2
         · cases h2
         · rw[if_neg (by omega),if_neg (by omega),zwn h1 h2]
def ve (l:List Iv):List Nat:=l.flatMap fun s=>[s.1,s.2]
def ko (e:Ent):List Nat:=e.1 :: e.2.1 :: e.2.2.length :: ve e.2.2
def yj (v:Vec):List Nat:=v.length :: v.flatMap ko
def yx (a b:Vec):Int:=vm (yj a) (yj b)
theorem zjt (a:Vec):yx a a=0:=zwl _
theorem zhe (a b:Vec):yx a b= -1∨yx a b=0∨yx a b=1:=zwm _ _
theorem zju {a b c:Vec} (h1:yx a b= -1) (h2:yx b c= -1):yx a c= -1:=zwn h1 h2
def zay (e f:Ent):Prop:=e.1<f.1
structure CanV (v:Vec):Prop where
 asc:v.Pairwise zay
 ent:∀e∈v,CanE e
def zae (f g:Frg):Prop:=yx f.2 g.2= -1
structure CanK (k:Kno):Prop where
 items:∀f∈k,Good f.1∧f.1≠[]
 vec:∀f∈k,CanV f.2∧f.2≠[]
 apart:∀f∈k,∀g∈k,∀x,mem f.1 x=true→mem g.1 x=true→f=g
 asc:k.Pairwise zae
theorem znr:∀{l:List Iv},(∀i,i<l.length→(zb l i).1≤(zb l i).2∧(0<i→(zb l (i - 1)).2+1<(zb l i).1))→Good l
 | [],_=>trivial
 | [s],h=>(h 0 (by simp)).1
 | s :: t :: l,h=>by
   have h0:=(h 0 (by simp)).1;have h1:=(h 1 (by simp)).2 (by omega);refine⟨h0,h1,znr fun i hi=>?_⟩;have:=h (i+1) (by simpa using hi);refine⟨this.1,fun hi0=>?_⟩;obtain⟨j,rfl⟩:∃j,i=j+1:=⟨i - 1,by omega⟩;exact this.2 (by omega)
theorem zel:∀{l:List Iv},Good l→∀i,i<l.length→(zb l i).1≤(zb l i).2∧(0<i→(zb l (i - 1)).2+1<(zb l i).1)
 | [],_,i,hi=>by simp at hi
 | [s],h,i,hi=>by
   obtain rfl:i=0:=by simpa using hi
   exact⟨h,by omega⟩
 | s :: t :: l,h,i,hi=>by
   obtain⟨h1,h2,h3⟩:=h
   cases i with
   | zero=>exact⟨h1,by omega⟩
   | succ i=>
    have:=zel h3 i (by simpa using hi);refine⟨this.1,fun _=>?_⟩
    cases i with
    | zero=>exact h2
    | succ i=>exact this.2 (by omega)
abbrev LtV (v:Vec):Prop:=∀e∈v,LtE e
structure LtF (f:Frg):Prop where
 items:zo f.1
 vec:LtV f.2
 asc:f.2.Pairwise zay
abbrev LtK (k:Kno):Prop:=∀f∈k,LtF f
theorem zk8 {l:List Iv} (h:Good l) {s:Iv} (hs:s∈l):mem l s.1=true∧(s.1=0∨mem l (s.1 - 1)=false):=by
 refine⟨mem_iff.2 ⟨s,hs,Nat.le_refl _,h.ok s hs⟩,?_⟩;by_cases h0:s.1=0
 · exact .inl h0
 · refine .inr ?_;rw[ziq];intro t ht htx;obtain⟨i,hi,rfl⟩:=List.getElem_of_mem hs;obtain⟨j,hj,rfl⟩:=List.getElem_of_mem ht;have hgi:=zel h i hi;have hgj:=zel h j hj;rw[jg hi] at hgi;rw[jg hj] at hgj;rcases Nat.lt_trichotomy i j with e | e | e
   · have:=good_mono' h e hj;omega
   · subst e;omega
   · have:=good_mono' h e hi;omega
 where
 good_mono' {l:List Iv} (h:Good l) {i j:Nat} (hij:i<j) (hj:j<l.length):(l[i]'(Nat.lt_trans hij hj)).2+1<(l[j]).1:=by
  induction l generalizing i j with
  | nil=>simp at hj
  | cons s l ih=>
   cases j with
   | zero=>omega
   | succ j=>
    cases i with
    | zero=>exact h.lower _ (List.getElem_mem _)
    | succ i=>exact ih h.tail (by omega) (by simpa using hj)
end
section
open Go.RowKit
abbrev zbm (e:Ent) (s:Value):Value:=.agg #[.int .u64 ((e.1:Nat):Int),.int .u64 ((e.2.1:Nat):Int),s]
structure VecFits (v:Vec):Prop where
 len:v.length≤340
 holes:∀e∈v,e.2.2.length≤500
theorem jh {w:World} {base sz n:Nat} {e:TypeId} {v:Value} {xs:List Value} (ho:w.ownsRow base e sz v n xs):∃a c,v=.slice a n c:=by
 rcases ho.2 with ⟨rfl,rfl⟩ | ⟨g,cap,cur,rfl,_⟩
 · exact⟨_,_,rfl⟩
 · exact⟨_,_,rfl⟩
