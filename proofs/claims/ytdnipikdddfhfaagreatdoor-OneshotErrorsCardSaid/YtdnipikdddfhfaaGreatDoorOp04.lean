/- Part 04. -/
import Derived.Test.YtdnipikdddfhfaaGreatDoorOp03
set_option linter.unusedVariables false
set_option maxHeartbeats 16000000
namespace Go.Proofs.YtdnipikdddfhfaaGreatDoor
open Lib (hid)
section
open Go.RowKit Go.Shelf
structure Kept (p:Nat→Prop) (A B:World):Prop where
 os:B.os=A.os
 tape:B.tape=A.tape
 output:B.output=A.output
 size:A.heap.size≤B.heap.size
 row:∀k,k<A.heap.size→p k→B.heap[k]?=A.heap[k]?
variable {p q:Nat→Prop} {A B C:World}
theorem Kept.refl (p:Nat→Prop) (A:World):Kept p A A:=⟨rfl,rfl,rfl,Nat.le_refl _,fun _ _ _=>rfl⟩
theorem Kept.trans (h:Kept p A B) (k:Kept p B C):Kept p A C:=
 ⟨k.os.trans h.os,k.tape.trans h.tape,k.output.trans h.output,Nat.le_trans h.size k.size,fun i hi hp=>(k.row i (Nat.lt_of_lt_of_le hi h.size) hp).trans (h.row i hi hp)⟩
theorem Kept.mono (h:Kept p A B) (hq:∀k,k<A.heap.size→q k→p k):Kept q A B:=⟨h.os,h.tape,h.output,h.size,fun i hi hp=>h.row i hi (hq i hi hp)⟩
theorem Kept.alloc (h:Kept p A B) (o:Obj):Kept p A (B.alloc o):=
 h.trans ⟨rfl,rfl,rfl,by simp,fun k hk _=>Below.heap_alloc _ _ _ hk⟩
theorem Kept.setCell (h:Kept p A B) {a:Addr} (ha:a.block<A.heap.size→¬p a.block) (u:Value):Kept p A (B.setCell a u):=
 ⟨h.os,h.tape,h.output,by simpa [World.setCell] using h.size,fun k hk hp=>(Below.heap_setCell _ _ _ _ (fun e=>by subst e;exact ha hk hp)).trans (h.row k hk hp)⟩
theorem Kept.putObj (h:Kept p A B) {r:Nat} (ha:r<A.heap.size→¬p r) (o:Obj):Kept p A (B.putObj r o):=
 ⟨h.os,h.tape,h.output,by simpa using h.size,fun k hk hp=>(World.putObj_heap_other (fun e=>by subst e;exact ha hk hp)).trans (h.row k hk hp)⟩
theorem Kept.below (h:Kept p A B) (hb:Below B.heap.size B C):Kept p A C:=
 h.trans ⟨hb.os,hb.tape,hb.output,hb.size,fun k hk _=>hb.block k hk⟩
theorem Kept.grown {row:Option Nat} (h:Kept p A B) (hg:B.grownBy C row) (hr:∀k,row=some k→k<A.heap.size→¬p k):Kept p A C:=
 ⟨hg.os.trans h.os,hg.tape.trans h.tape,hg.output.trans h.output,Nat.le_trans h.size hg.size,
  fun k hk hp=>(hg.block k (Nat.lt_of_lt_of_le hk h.size) (fun e=>hr k e.symm hk hp)).trans (h.row k hk hp)⟩
theorem Kept.drewN (h:Kept p A B) (n:Nat):Kept p A (B.drewN n):=⟨h.os,h.tape,h.output,h.size,h.row⟩
theorem Kept.drew (h:Kept p A B):Kept p A B.drew:=⟨h.os,h.tape,h.output,h.size,h.row⟩
theorem Kept.cell (h:Kept p A B) {a:Addr} {v:Value} (hc:A.cell? a=some v) (ha:p a.block):B.cell? a=some v:=
 (World.cell?_of_block (h.row a.block (ze hc) ha)).trans hc
theorem Kept.frozen (h:Kept p A B) {a:Addr} (hc:a.block<A.heap.size) (ha:p a.block):B.frozen? a=A.frozen? a:=
 World.frozen?_of_block (h.row a.block hc ha)
theorem zpv {n:Nat} (h:Below n A B):Kept (fun k=>k<n) A B:=⟨h.os,h.tape,h.output,h.size,fun k _ hk=>h.block k hk⟩
theorem Kept.toBelow {n:Nat} (h:Kept p A B) (hp:∀k,k<n→p k) (hn:n≤A.heap.size):Below n A B:=⟨h.os,h.tape,h.output,h.size,fun k hk=>h.row k (Nat.lt_of_lt_of_le hk hn) (hp k hk)⟩
end
section
open Go.RowKit Go.Shelf
attribute [local go_sem] Oper.semAt_some
def BoxI (w0 W:World) (b:Nat) (l:List Iv):Prop:=∃a n c,W.heap[b]?=some (.cells #[.slice a n c] 91)∧Ivs w0 a n c l
theorem zjb {W:World} {b:Nat} {v u:Value} {t:TypeId} (h:W.heap[b]?=some (.cells #[v] t)):(W.setCell ⟨b,0,none⟩ u).heap[b]?=some (.cells #[u] t):=by
 simp[World.setCell,Array.getElem?_modify,h]
theorem zao {W:World} {b:Nat} {v:Value} {t:TypeId} (h:W.heap[b]?=some (.cells #[v] t)):W.cell? ⟨b,0,none⟩=some v:=by simp[World.cell?,h]
theorem zgr {W:World} {b:Nat} {v:Value} {t:TypeId} (h:W.heap[b]?=some (.cells #[v] t)):W.frozen? ⟨b,0,none⟩=false:=by simp[World.frozen?,h]
theorem BoxI.kept {w0 W W':World} {b:Nat} {l:List Iv} (h:BoxI w0 W b l) (hk:W'.heap[b]?=W.heap[b]?):BoxI w0 W' b l:=by
 obtain⟨a,n,c,h1,h2⟩:=h;exact⟨a,n,c,hk.trans h1,h2⟩
end
section
open Go.RowKit Go.Extern.Stop Go.Stop Go.Extern
theorem zaz (x:Err) (w:World) (hD:Door w):
 Calls Tryz.prog 19 #[zn x] w fun e w'=>e=.returned (.int .i64 (kw x))∧Below w.heap.size w w':=by
 have hD':=hid (fun o=>hD.below (Nat.le_refl _) ((Below.refl _ w).alloc (Nat.le_refl _) o));clear hD;rcases x with _ | ⟨c,_ | a⟩
 · go_enter Tryz.func19,Tryz.ntmps19;simp only[zn];go_wp2_with fail;go_ret;exact⟨rfl,(Below.refl _ _).alloc (Nat.le_refl _) _⟩
 · go_enter Tryz.func19,Tryz.ntmps19;simp only[zn];go_wp2_with fail;refine zgk _ _ _ _ (hD'.out _) (by simp) _ ?_;intro w1 A hb hA hAs;have hb2:Below w.heap.size w w1:=((Below.refl _ _).alloc (Nat.le_refl _) _).trans (hb.mono (by simp));have hc:w1.cell? ⟨w.heap.size,0,none⟩=some (.int .i64 0):=by rw[hb.cell (p:=⟨w.heap.size,0,none⟩) (by simp)];simp
   have hf:w1.frozen? ⟨w.heap.size,0,none⟩=false:=by rw[hb.frozen (p:=⟨w.heap.size,0,none⟩) (by simp)];simp
   refine(zpf c ⟨w.heap.size,0,none⟩ A _ w1 hA hc hf).mono ?_;rintro e w2 ⟨rfl,hg,hc2⟩;refine⟨true,rfl,?_⟩;have hb3:=zds hb2 (Nat.le_refl _) hg;clear hg hc hf hb hb2 hA hAs;go_wp2_with fail;go_ret;exact⟨rfl,hb3⟩
 · go_enter Tryz.func19,Tryz.ntmps19;simp only[zn];go_wp2_with fail;refine zgk _ _ _ _ (hD'.out _) (by simp) _ ?_;intro w1 A hb hA hAs;have hb2:Below w.heap.size w w1:=((Below.refl _ _).alloc (Nat.le_refl _) _).trans (hb.mono (by simp));have hc:w1.cell? ⟨w.heap.size,0,none⟩=some (.int .i64 0):=by rw[hb.cell (p:=⟨w.heap.size,0,none⟩) (by simp)];simp
   have hf:w1.frozen? ⟨w.heap.size,0,none⟩=false:=by rw[hb.frozen (p:=⟨w.heap.size,0,none⟩) (by simp)];simp
   refine(zpg c a ⟨w.heap.size,0,none⟩ A _ w1 hA hc hf).mono ?_;rintro e w2 ⟨rfl,hg,hc2⟩;refine⟨true,rfl,?_⟩;have hb3:=zds hb2 (Nat.le_refl _) hg;clear hg hc hf hb hb2 hA hAs;go_wp2_with fail;go_ret;exact⟨rfl,hb3⟩
theorem je (c a:Int) (w:World):
 Calls Tryz.prog 82 #[.int .i64 c,.int .i64 a] w fun e w'=>e=.returned (zn (zcc c a))∧w=w':=by
 by_cases h:c=0
 · subst h;go_enter Tryz.func82,Tryz.ntmps82;go_wp2;go_ret;exact⟨rfl,rfl⟩
 · have hb:(c == 0)=false:=by rw[beq_eq_false_iff_ne];exact h
   have he:=hid (show zcc c a=some (c,some a) from if_neg h);clear h;go_enter Tryz.func82,Tryz.ntmps82;go_wp2;go_ret;exact⟨by rw[he.out];rfl,rfl⟩
theorem zpw (w:World):
 Calls Tryz.prog 62 #[.nilIface] w fun e w'=>e=.returned (.tuple #[.agg #[.int .i64 0,.int .i64 0],.bool false])∧Below w.heap.size w w':=by
 go_enter Tryz.func62,Tryz.ntmps62;go_wp2_with fail;refine(zph _ _).mono ?_;rintro e w' ⟨rfl,rfl⟩;go_wp2_with fail;exact bodyPost_ret (v:=.tuple #[.agg #[.int .i64 0,.int .i64 0],.bool false]) (by simp[results,Tryz.results62,go_sem]) rfl ⟨rfl,((Below.refl _ _).alloc (Nat.le_refl _) _).alloc (by simp) _⟩
theorem zpx (c:Int) (w:World) (hD:Door w):
 Calls Tryz.prog 62 #[.iface 35 (.int .i64 c)] w fun e w'=>e=.returned (.tuple #[.agg #[.int .i64 0,.int .i64 0],.bool false])∧Below w.heap.size w w':=by
 have hD':=hid (fun o1 o2=>hD.below (Nat.le_refl _) (((Below.refl _ w).alloc (Nat.le_refl _) o1).alloc (by simp) o2));clear hD;go_enter Tryz.func62,Tryz.ntmps62;go_wp2_with fail;refine zgl _ _ _ _ (hD'.out _ _) (by simp) _ ?_;intro w1 A hb hA hAs;have hb2:Below w.heap.size w w1:=(((Below.refl _ _).alloc (Nat.le_refl _) _).alloc (by simp) _).trans (hb.mono (by simp;omega));have hz:=hb.size;have hc0:w1.cell? ⟨w.heap.size+1,0,none⟩=some (.int .i64 0):=by rw[hb.cell (p:=⟨w.heap.size+1,0,none⟩) (by simp)];go_simp
 have hc1:w1.cell? ⟨w.heap.size+1,1,none⟩=some (.int .i64 0):=by rw[hb.cell (p:=⟨w.heap.size+1,1,none⟩) (by simp)];go_simp
 have hr0:w1.cell? ⟨w.heap.size,0,none⟩=some (.int .i64 0):=by rw[hb.cell (p:=⟨w.heap.size,0,none⟩) (by simp;omega)];go_simp
 have hr1:w1.cell? ⟨w.heap.size,1,none⟩=some (.int .i64 0):=by rw[hb.cell (p:=⟨w.heap.size,1,none⟩) (by simp;omega)];go_simp
 have hf0:w1.frozen? ⟨w.heap.size,0,none⟩=false:=by rw[hb.frozen (p:=⟨w.heap.size,0,none⟩) (by simp;omega)];go_simp
 have hf1:w1.frozen? ⟨w.heap.size,1,none⟩=false:=by rw[hb.frozen (p:=⟨w.heap.size,1,none⟩) (by simp;omega)];go_simp
 refine(zpe c (w.heap.size+1) A w1).mono ?_;rintro e w2 ⟨rfl,hg⟩;refine⟨false,rfl,?_⟩;have hb3:=zbm hb2 hg;have keep:∀p:Addr,p.block<w1.heap.size→w2.cell? p=w1.cell? p:=fun p hp=>World.cell?_of_block (hg.block _ hp (by simp))
 have kfree:∀p:Addr,p.block<w1.heap.size→w2.frozen? p=w1.frozen? p:=fun p hp=>World.frozen?_of_block (hg.block _ hp (by simp))
 have hc0':=(keep ⟨w.heap.size+1,0,none⟩ (ze hc0)).trans hc0;have hc1':=(keep ⟨w.heap.size+1,1,none⟩ (ze hc1)).trans hc1;have hr0':=(keep ⟨w.heap.size,0,none⟩ (ze hr0)).trans hr0;have hr1':=(keep ⟨w.heap.size,1,none⟩ (ze hr1)).trans hr1;have hf0':=(kfree ⟨w.heap.size,0,none⟩ (ze hr0)).trans hf0;have hf1':=(kfree ⟨w.heap.size,1,none⟩ (ze hr1)).trans hf1;clear keep kfree hg hc0 hc1 hr0 hr1 hf0 hf1 hb hb2 hA hAs hz;go_wp2_with fail;exact bodyPost_ret (v:=.tuple #[.agg #[.int .i64 0,.int .i64 0],.bool false]) (by simp[results,Tryz.results62,go_sem,hr0',hr1']) rfl ⟨rfl,(hb3.setCell (p:=⟨w.heap.size,0,none⟩) (Nat.le_refl _) _).setCell (p:=⟨w.heap.size,1,none⟩) (Nat.le_refl _) _⟩
theorem zjc (c a:Int) (w:World) (hD:Door w):
 Calls Tryz.prog 62 #[.iface 112 (.agg #[.int .i64 c,.int .i64 a])] w fun e w'=>e=.returned (.tuple #[.agg #[.int .i64 c,.int .i64 a],.bool true])∧Below w.heap.size w w':=by
 have hD':=hid (fun o1 o2=>hD.below (Nat.le_refl _) (((Below.refl _ w).alloc (Nat.le_refl _) o1).alloc (by simp) o2));clear hD;go_enter Tryz.func62,Tryz.ntmps62;go_wp2_with fail;refine zgl _ _ _ _ (hD'.out _ _) (by simp) _ ?_;intro w1 A hb hA hAs;have hb2:Below w.heap.size w w1:=(((Below.refl _ _).alloc (Nat.le_refl _) _).alloc (by simp) _).trans (hb.mono (by simp;omega));have hz:=hb.size;have hc0:w1.cell? ⟨w.heap.size+1,0,none⟩=some (.int .i64 0):=by rw[hb.cell (p:=⟨w.heap.size+1,0,none⟩) (by simp)];go_simp
 have hc1:w1.cell? ⟨w.heap.size+1,1,none⟩=some (.int .i64 0):=by rw[hb.cell (p:=⟨w.heap.size+1,1,none⟩) (by simp)];go_simp
 have hg0:w1.frozen? ⟨w.heap.size+1,0,none⟩=false:=by rw[hb.frozen (p:=⟨w.heap.size+1,0,none⟩) (by simp)];go_simp
 have hg1:w1.frozen? ⟨w.heap.size+1,1,none⟩=false:=by rw[hb.frozen (p:=⟨w.heap.size+1,1,none⟩) (by simp)];go_simp
 have hr0:w1.cell? ⟨w.heap.size,0,none⟩=some (.int .i64 0):=by rw[hb.cell (p:=⟨w.heap.size,0,none⟩) (by simp;omega)];go_simp
 have hr1:w1.cell? ⟨w.heap.size,1,none⟩=some (.int .i64 0):=by rw[hb.cell (p:=⟨w.heap.size,1,none⟩) (by simp;omega)];go_simp
 have hf0:w1.frozen? ⟨w.heap.size,0,none⟩=false:=by rw[hb.frozen (p:=⟨w.heap.size,0,none⟩) (by simp;omega)];go_simp
 have hf1:w1.frozen? ⟨w.heap.size,1,none⟩=false:=by rw[hb.frozen (p:=⟨w.heap.size,1,none⟩) (by simp;omega)];go_simp
 refine(zpd c a (w.heap.size+1) A _ _ w1 hA hc0 hc1 hg0 hg1).mono ?_;rintro e w2 ⟨rfl,hg,hc0',hc1'⟩;refine⟨true,rfl,?_⟩;have hb3:=zds hb2 (by omega) hg;have keep:∀p:Addr,p.block<w1.heap.size→p.block≠w.heap.size+1→w2.cell? p=w1.cell? p:=fun p hp hne=>World.cell?_of_block (hg.block _ hp (by simpa using hne))
 have kfree:∀p:Addr,p.block<w1.heap.size→p.block≠w.heap.size+1→w2.frozen? p=w1.frozen? p:=fun p hp hne=>World.frozen?_of_block (hg.block _ hp (by simpa using hne))
 have hr0':=(keep ⟨w.heap.size,0,none⟩ (ze hr0) (by simp)).trans hr0;have hr1':=(keep ⟨w.heap.size,1,none⟩ (ze hr1) (by simp)).trans hr1;have hf0':=(kfree ⟨w.heap.size,0,none⟩ (ze hr0) (by simp)).trans hf0;have hf1':=(kfree ⟨w.heap.size,1,none⟩ (ze hr1) (by simp)).trans hf1;clear keep kfree hg hg0 hg1 hc0 hc1 hr0 hr1 hf0 hf1 hb hb2 hA hAs hz;go_wp2_with fail;exact bodyPost_ret (v:=.tuple #[.agg #[.int .i64 c,.int .i64 a],.bool true]) (by simp[results,Tryz.results62,go_sem,hr0',hr1']) rfl ⟨rfl,(hb3.setCell (p:=⟨w.heap.size,0,none⟩) (Nat.le_refl _) _).setCell (p:=⟨w.heap.size,1,none⟩) (Nat.le_refl _) _⟩
theorem zpy (x:Err) (w:World) (hD:Door w):
 Calls Tryz.prog 20 #[zn x] w fun e w'=>e=.returned (.int .i64 (zdr x))∧Below w.heap.size w w':=by
 rcases x with _ | ⟨c,_ | a⟩
 · go_enter Tryz.func20,Tryz.ntmps20;simp only[zn];go_wp2_with fail;refine(zpw _).mono ?_;rintro e w1 ⟨rfl,hb⟩;go_wp2_with fail;go_ret;exact⟨rfl,hb.alloc hb.size _⟩
 · go_enter Tryz.func20,Tryz.ntmps20;simp only[zn];go_wp2_with fail;refine(zpx _ _ hD).mono ?_;rintro e w1 ⟨rfl,hb⟩;go_wp2_with fail;go_ret;exact⟨rfl,hb.alloc hb.size _⟩
 · go_enter Tryz.func20,Tryz.ntmps20;simp only[zn];go_wp2_with fail;refine(zjc _ _ _ hD).mono ?_;rintro e w1 ⟨rfl,hb⟩;go_wp2_with fail;go_ret;exact⟨rfl,hb.alloc hb.size _⟩
theorem Tryz.asIsF (v:Value) (xT:TypeId) (w:World):(Instr.typeAssert (.iface 112 v) xT 356 true).run Tryz.prog w=.ok (.tuple #[.nilIface,.bool false]) w:=
 run_typeAssert_lacksB Tryz.underlying356 (by kernel_rfl) (by kernel_rfl) v xT w
theorem zpz (x:Value) (d:Int) (w:World):(binOp .eql 29 (.iface 112 x) (.iface 35 (.int .i64 d))).run Tryz.prog w=.ok (.bool false) w:=
 run_eql_iface_types 112 35 x _ Tryz.underlying29 (by decide) w
theorem zp0 (c a d:Int) (w:World):
 Calls Tryz.prog 241 #[.iface 112 (.agg #[.int .i64 c,.int .i64 a]),.iface 35 (.int .i64 d),.bool true] w fun e w'=>e=.returned (.bool (decide (c=d)))∧Below w.heap.size w w':=by
 have s1:=Tryz.asIsE;have s2:=Tryz.asUnE;have s3:=Tryz.asUmE;have s4:=Tryz.asIsF;have s5:=Tryz.asUnF;have mU:=Tryz.methodUnF;have q1:=zpz (.agg #[.int .i64 c,.int .i64 a]) d;by_cases h:c=d
 · have hq:∀w:World,(binOp .eql 29 (.iface 35 (.int .i64 c)) (.iface 35 (.int .i64 d))).run Tryz.prog w=.ok (.bool true) w:=fun w=>by rw[zeu,decide_eq_true h]
   have He:=hid (decide_eq_true h);clear h;go_enter Tryz.func241,Tryz.ntmps241;go_wp2;refine wp_loop_rounds 2 ?_;rw[rounds_succ];go_wp2_with fail;refine(zez c a _).mono ?_;rintro e w' ⟨rfl,rfl⟩;go_wp2_with fail;rw[rounds_succ];go_wp2;go_ret;exact⟨by rw[He.out];rfl,(Below.refl _ _).alloc (Nat.le_refl _) _⟩
 · have hq:∀w:World,(binOp .eql 29 (.iface 35 (.int .i64 c)) (.iface 35 (.int .i64 d))).run Tryz.prog w=.ok (.bool false) w:=fun w=>by rw[zeu,decide_eq_false h]
   have He:=hid (decide_eq_false h);clear h;go_enter Tryz.func241,Tryz.ntmps241;go_wp2;refine wp_loop_rounds 2 ?_;rw[rounds_succ];go_wp2_with fail;refine(zez c a _).mono ?_;rintro e w' ⟨rfl,rfl⟩;go_wp2_with fail;rw[rounds_succ];go_wp2;go_ret;exact⟨by rw[He.out];rfl,(Below.refl _ _).alloc (Nat.le_refl _) _⟩
set_option maxRecDepth 20000 in
theorem zp1 (c a d:Int) (w:World):
 Calls Tryz.prog 201 #[.iface 112 (.agg #[.int .i64 c,.int .i64 a]),.iface 35 (.int .i64 d)] w fun e w'=>e=.returned (.bool (decide (c=d)))∧Below w.heap.size w w':=by
 have hTO:=@run_callFunc_extern Tryz.prog 138 _ ReflectliteType.typeOf Tryz.func138 (by kernel_rfl) (by kernel_rfl) (by kernel_rfl) (by kernel_rfl);have hCm:=@run_callFunc_extern Tryz.prog 336 _ (ReflectliteType.method (fun t=>do Rtype.noPackHeld "Comparable" t;pure (.bool (←typeInfo t).comparable))) Tryz.func336 (by kernel_rfl) (by kernel_rfl) (by kernel_rfl) (by kernel_rfl);have tO:=Tryz.typeOfE;have mC:=Tryz.methodComparable;have cE:=Tryz.comparableE;have hC:=hid (zp0 c a d);go_enter Tryz.func201,Tryz.ntmps201;go_wp2_with fail;refine(hC.out _).mono ?_;rintro e w1 ⟨rfl,hb⟩;have Hb:=hid hb;clear hb;go_wp2_with fail;go_ret;exact⟨rfl,Hb.out⟩
end
section
open Go.RowKit
theorem zdy (w:World):Calls Tryz.prog 152 #[] w fun e w'=>e=.returned (.agg #[.int .u8 75,.int .u8 78,.int .u8 87,.int .u8 76])∧Below w.heap.size w w':=by
 go_enter Tryz.func152,Tryz.ntmps152;go_wp2;exact bodyPost_ret (v:=.agg #[.int .u8 75,.int .u8 78,.int .u8 87,.int .u8 76]) (by simp[results,Tryz.results152,go_sem]) rfl ⟨rfl,(Below.refl _ _).alloc (Nat.le_refl _) _⟩
def j8 (s:Iv) (x:Nat):Int:=if s.2<x then -1 else if x<s.1 then 1 else 0
theorem zjd (s:Iv) (x:Nat) (w:World):
 Calls Tryz.prog 259 #[ivV s,.int .u64 x] w fun e w'=>e=.returned (.int .i64 (j8 s x))∧Below w.heap.size w w':=by
 obtain⟨a,b⟩:=s;have hb:=(Below.refl w.heap.size w).alloc (Nat.le_refl _) (.cells #[.int .u64 a,.int .u64 b] 89);by_cases h1:b<x
 · have Hr:=hid (show j8 (a,b) x= -1 from by simp[j8,h1]);generalize j8 (a,b) x=r at*;go_enter Tryz.func259,Tryz.ntmps259;go_wp2;go_ret;exact⟨ku Hr.out.symm,hb⟩
 · by_cases h2:x<a
   · have Hr:=hid (show j8 (a,b) x=1 from by simp[j8,h1,h2]);generalize j8 (a,b) x=r at*;go_enter Tryz.func259,Tryz.ntmps259;go_wp2;go_ret;exact⟨ku Hr.out.symm,hb⟩
   · have Hr:=hid (show j8 (a,b) x=0 from by simp[j8,h1,h2]);generalize j8 (a,b) x=r at*;go_enter Tryz.func259,Tryz.ntmps259;go_wp2;go_ret;exact⟨ku Hr.out.symm,hb⟩
def fnd (l:List Iv) (x:Nat):Nat:=(l.takeWhile fun s=>decide (s.2<x)).length
theorem zje:∀{l:List Iv} {x i:Nat},i≤l.length→(∀t,t<i→(zc l t).2<x)→(∀t,i≤t→t<l.length→¬(zc l t).2<x)→fnd l x=i
 | [],x,i,hi,_,_=>by simp at hi;subst hi;rfl
 | s :: l,x,i,hi,h1,h2=>by
   cases i with
   | zero=>
    have:=h2 0 (by omega) (by simp);have e:¬s.2<x:=this
    simp[fnd,e]
   | succ i=>
    have e:s.2<x:=h1 0 (by omega);have:=zje (l:=l) (x:=x) (i:=i) (by simpa using hi) (fun t ht=>h1 (t+1) (by omega)) (fun t ht htl=>h2 (t+1) (by omega) (by simpa using htl));unfold fnd at this ⊢;rw[List.takeWhile_cons,if_pos (by simpa using e)];simpa using this
theorem zc0 {l:List Iv} (h:Good l) {i j:Nat} (hij:i<j) (hj:j<l.length):(zc l i).2+1<(zc l j).1:=by
 induction j with
 | zero=>omega
 | succ j ih=>
  have h1:=(zay h (j+1) hj).2 (by omega);rw[Nat.add_sub_cancel] at h1;by_cases e:i=j
  · subst e;exact h1
  · have:=ih (by omega) (by omega);have:=(zay h j (by omega)).1;omega
theorem zp2 {l:List Iv} (h:Good l) {x i:Nat} (hi:i≤l.length) (h1:∀t,t<i→(zc l t).2<x) (h2:∀t,i≤t→t<l.length→¬(zc l t).2<x):
 mem l x=(decide (i<l.length) && decide ((zc l i).1≤x)):=by
 rw[Bool.eq_iff_iff,mem_iff];simp only[Bool.and_eq_true,decide_eq_true_iff];constructor
 · rintro⟨s,hs,k1,k2⟩;obtain⟨t,ht,rfl⟩:=List.getElem_of_mem hs;rw[←qg ht] at k1 k2
   have:i≤t:=by
    refine Nat.le_of_not_lt fun hlt=>?_
    have:=h1 t hlt;omega
   refine⟨by omega,?_⟩;by_cases e:i=t
   · subst e;exact k1
   · have:=zc0 h (i:=i) (j:=t) (by omega) ht;have:=(zay h i (by omega)).1;omega
 · rintro⟨k1,k2⟩;exact⟨zc l i,zax k1,k2,by have:=h2 i (Nat.le_refl _) k1;omega⟩
set_option maxRecDepth 20000 in
theorem zp3 (a:Option Addr) (n cap x:Nat) (l:List Iv) (w:World) (hI:Ivs w a n cap l) (hG:Good l) (hn:n≤1000000):
 Calls Tryz.prog 258 #[.slice a n cap,.int .u64 x,.func (.func 259) #[] #[]] w fun e w'=>
  e=.returned (.tuple #[.int .i64 ((fnd l x:Nat):Int),.bool (mem l x)])∧Below w.heap.size w w':=by
 have HI:=hid hI;have HG:=hid hG;have Hl:=hid hI.len;clear hI hG;go_enter Tryz.func258,Tryz.ntmps258;go_wp2;go_loopw [9,10,11] (fun i j _ wr=>∃p q:Nat,p≤q∧q≤n∧i=.int .i64 p∧j=.int .i64 q∧Below w.heap.size w wr∧Hid ((∀t,t<p→(zc l t).2<x)∧∀t,q≤t→t<n→¬(zc l t).2<x)) (fun i j _ _=>(intOf j).toNat - (intOf i).toNat)
 case atStart=>exact⟨0,n,by omega,by omega,rfl,rfl,Below.refl _ _,fun t ht=>by omega,fun t h1 h2=>by omega⟩
 case round=>
  obtain⟨p,q,hpq,hqn,rfl,rfl,hb,ht⟩:=hrel;have Hb:=hid hb;clear hb;by_cases hlt:p<q
  · obtain⟨bb,oo,rfl,hcell⟩:=(HI.out.below Hb.out).cells (by omega);obtain⟨h,hh,hph,hhq⟩:∃h:Nat,((p:Int)+(q:Int)) / 2=(h:Int)∧p≤h∧h<q:=⟨(p+q) / 2,by omega,by omega,by omega⟩;have hhn:h<n:=by omega
    obtain⟨hc1,hc2⟩:=hcell h hhn;clear hcell;have hC:=hid (fun w=>zjd (zc l h) x w);have Hms:=hid (fun t (ht:t<h)=>zc0 HG.out ht (by rw[Hl.out];exact hhn));have Hms2:=hid (fun t (ht:h<t) (htl:t<n)=>zc0 HG.out ht (by rw[Hl.out];exact htl));have Hok:=hid (fun t (ht:t<n)=>(zay HG.out t (by rw[Hl.out];exact ht)).1);by_cases hlx:(zc l h).2<x
    · have Hlx:=hid hlx;rw[show j8 (zc l h) x= -1 from by simp[j8,hlx]] at hC;clear hlx
      have Hr:=hid (show ∀t,t<h+1→(zc l t).2<x from by
       intro t htt;by_cases e:t=h
       · subst e;exact Hlx.out
       · have h1:=Hms.out t (by omega);have h2:=Hok.out h hhn;have h3:=Hlx.out;omega)
      generalize zc l h=s at*;go_wp2_with fail;refine(hC.out _).mono ?_;rintro e w1 ⟨rfl,hb1⟩;have Hb1:=hid (Hb.out.trans (hb1.mono Hb.out.size));clear hb1;clear hc1 hc2 hh;go_wp2_with fail;go_roundw
      case rel=>exact⟨h+1,q,by omega,by omega,by go_num,rfl,Hb1.out,Hr.out,ht.out.2⟩
      case measure=>simp[intOf];omega
    · have Hr:=hid (show ∀t,h≤t→t<n→¬(zc l t).2<x from by
       intro t htt htn;by_cases e:t=h
       · subst e;exact hlx
       · have h1:=Hms2.out t (by omega) htn;have h2:=Hok.out t htn;omega)
      have hcv:0≤j8 (zc l h) x:=by unfold j8;rw[if_neg hlx];split <;> omega
      generalize j8 (zc l h) x=cv at*;generalize zc l h=s at*;clear hlx;go_wp2_with fail;refine(hC.out _).mono ?_;rintro e w1 ⟨rfl,hb1⟩;have Hb1:=hid (Hb.out.trans (hb1.mono Hb.out.size));clear hb1;clear hc1 hc2 hh;go_wp2_with fail;go_roundw
      case rel=>exact⟨p,h,by omega,by omega,rfl,rfl,Hb1.out,ht.out.1,Hr.out⟩
      case measure=>simp[intOf];omega
  · obtain rfl:p=q:=by omega
    have Hf:=hid (zje (l:=l) (x:=x) (i:=p) (by rw[Hl.out];exact hqn) ht.out.1 (fun t h1 h2=>ht.out.2 t h1 (by rw[←Hl.out];exact h2)));have Hm:=hid (zp2 HG.out (x:=x) (i:=p) (by rw[Hl.out];exact hqn) ht.out.1 (fun t h1 h2=>ht.out.2 t h1 (by rw[←Hl.out];exact h2)));rw[Hl.out] at Hm;by_cases hpn:p<n
    · obtain⟨bb,oo,rfl,hcell⟩:=(HI.out.below Hb.out).cells (by omega);obtain⟨hc1,hc2⟩:=hcell p hpn;clear hcell;have hC:=hid (fun w=>zjd (zc l p) x w);have hnl:=ht.out.2 p (Nat.le_refl _) hpn;rw[decide_eq_true hpn,Bool.true_and] at Hm;by_cases hxs:(zc l p).1≤x
      · rw[decide_eq_true hxs] at Hm;rw[show j8 (zc l p) x=0 from by unfold j8;rw[if_neg hnl,if_neg (by omega)]] at hC;generalize zc l p=s at*;clear hnl hxs;go_wp2_with fail;refine(hC.out _).mono ?_;rintro e w1 ⟨rfl,hb1⟩;have Hb1:=hid (Hb.out.trans (hb1.mono Hb.out.size));clear hb1;clear hc1 hc2;go_wp2_with fail;go_ret2;exact⟨by rw[Hf.out,Hm.out];rfl,Hb1.out⟩
      · rw[decide_eq_false hxs] at Hm;rw[show j8 (zc l p) x=1 from by unfold j8;rw[if_neg hnl,if_pos (by omega)]] at hC;generalize zc l p=s at*;clear hnl hxs;go_wp2_with fail;refine(hC.out _).mono ?_;rintro e w1 ⟨rfl,hb1⟩;have Hb1:=hid (Hb.out.trans (hb1.mono Hb.out.size));clear hb1;clear hc1 hc2;go_wp2_with fail;go_ret2;exact⟨by rw[Hf.out,Hm.out];rfl,Hb1.out⟩
    · obtain rfl:p=n:=by omega
      rw[decide_eq_false hpn,Bool.false_and] at Hm;have hd:decide ((p:Int)<(p:Int))=false:=by simp
      go_wp2_with fail;go_ret2;exact⟨by rw[Hf.out,Hm.out];rfl,Hb.out⟩
def zc1 (l:List Iv) (x:Nat):Int:=if mem l x=true then ((fnd l x:Nat):Int) else -1
theorem zp4 (a:Option Addr) (n cap x:Nat) (l:List Iv) (w:World) (hI:Ivs w a n cap l) (hG:Good l) (hn:n≤1000000):
 Calls Tryz.prog 225 #[.slice a n cap,.int .u64 x] w fun e w'=>e=.returned (.int .i64 (zc1 l x))∧Below w.heap.size w w':=by
 have hC:=hid (zp3 a n cap x l w hI hG hn);clear hI hG;unfold zc1
 cases hm:mem l x with
 | true=>
  rw[hm] at hC;rw[if_pos rfl];clear hm;generalize fnd l x=f at*;go_enter Tryz.func225,Tryz.ntmps225;go_wp2_with fail;refine hC.out.mono ?_;rintro e w1 ⟨rfl,hb1⟩;go_wp2;go_ret
  exact⟨rfl,hb1⟩
 | false=>
  rw[hm] at hC;rw[if_neg (by simp)];clear hm;generalize fnd l x=f at*;go_enter Tryz.func225,Tryz.ntmps225;go_wp2_with fail;refine hC.out.mono ?_;rintro e w1 ⟨rfl,hb1⟩;go_wp2;go_ret;exact⟨rfl,hb1⟩
theorem zp5 (a:Option Addr) (n cap x:Nat) (l:List Iv) (w:World) (hI:Ivs w a n cap l) (hG:Good l) (hn:n≤1000000):
 Calls Tryz.prog 181 #[.slice a n cap,.int .u64 x] w fun e w'=>e=.returned (.bool (mem l x))∧Below w.heap.size w w':=by
 have hC:=hid (zp4 a n cap x l w hI hG hn);clear hI hG
 cases h:mem l x with
 | true=>
  have hd:zc1 l x=((fnd l x:Nat):Int):=by unfold zc1;rw[if_pos h]
  rw[hd] at hC;clear h hd;generalize fnd l x=f at*;have hd:decide (0≤(f:Int))=true:=by rw[decide_eq_true_iff];omega
  go_enter Tryz.func181,Tryz.ntmps181;go_wp2_with fail;refine hC.out.mono ?_;rintro e w1 ⟨rfl,hb1⟩;go_wp2;go_ret
  exact⟨zca (by simp),hb1⟩
 | false=>
  have hd:zc1 l x= -1:=by unfold zc1;rw[if_neg (by rw[h];simp)]
  rw[hd] at hC;clear h hd;go_enter Tryz.func181,Tryz.ntmps181;go_wp2_with fail;refine hC.out.mono ?_;rintro e w1 ⟨rfl,hb1⟩;go_wp2;go_ret;exact⟨zca (by simp),hb1⟩
def qa (l:List Nat):List Value:=l.map fun x=>Value.int .i64 ((x:Nat):Int)
theorem zp6 (a b:List Nat):qa (a++b)=qa a++qa b:=by simp[qa]
theorem zjf (l:List Nat) (i:Nat) (h:i<l.length):(qa l)[i]?=some (.int .i64 ((nth l i:Nat):Int)):=by simp[qa,nth,h]
theorem zp7 (l:List Nat):∀u∈qa l,u.oneCell'=true:=by
 intro u hu;simp only[qa,List.mem_map] at hu;obtain⟨x,_,rfl⟩:=hu
 rfl
structure I64s (w:World) (a:Option Addr) (n cap:Nat) (l:List Nat):Prop where
 len:l.length=n
 room:n≤cap
 most:cap≤9223372036854775807
 nilc:a=none→cap=0
 cells:0<n→∃b o,a=some ⟨b,o,none⟩∧∀i,i<n→w.cell? ⟨b,o+i,none⟩=some (.int .i64 ((nth l i:Nat):Int))
theorem I64s.below {w w':World} {a:Option Addr} {n cap:Nat} {l:List Nat} (h:I64s w a n cap l) (hb:Below w.heap.size w w'):I64s w' a n cap l:=by
 refine⟨h.len,h.room,h.most,h.nilc,fun hn=>?_⟩;obtain⟨b,o,ha,hc⟩:=h.cells hn;refine⟨b,o,ha,fun i hi=>?_⟩;have:=hc i hi;exact(hb.cell (p:=⟨b,o+i,none⟩) (ze this)).trans this
theorem Tryz.info_int:(Tryz.prog.info? 3).map (fun i=>(i.zero,i.size,i.bytes))=some (some (.int .i64 0),1,8):=by kernel_rfl
theorem zjg {w:World} (base:Nat) (v:Value) (n:Nat) (xs:List Nat) (hown:w.ownsRow base 3 1 v n (qa xs)) (A:Option Addr) (m c:Nat) (l:List Nat) (hr:Rd w 1 A m (qa l)) (hb:n+m≤1000000) (hbase:base≤w.heap.size):
 ∃v' w',(Builtin.append_ #[60,60] 60 #[v,.slice A m c]).run Tryz.prog w=.ok v' w'∧w'.ownsRow base 3 1 v' (n+m) (qa (xs++l))∧w.grownBy w' v.ownBlock:=by
 rw[zp6];exact zbp base _ _ _ _ 1 8 Tryz.underlying60 Tryz.info_int rfl (by omega) v n _ hown A m c _ hr (zp7 l) (by unfold maxLen;omega) (by omega) hbase
theorem zp8 {w:World} {ops:Array Oper} {rest:List Oper} {o:Oper} {a:Act} {Q:Exit→Act→World→Prop} (hgd:o.guard=none) (s x:Operand)
 (ho:o.op=.call { callee:=.builtin .append,args:= #[s,x],argTypes:= #[60,60] }) (hty:o.type=60)
 (base:Nat) (v:Value) (n:Nat) (xs:List Nat) (hs:a.eval s=v) (hown:w.ownsRow base 3 1 v n (qa xs)) (A:Option Addr) (m c:Nat) (l:List Nat) (hx:a.eval x=.slice A m c) (hr:Rd w 1 A m (qa l)) (hb:n+m≤1000000) (hbase:base≤w.heap.size)
 (h:∀v' w',w'.ownsRow base 3 1 v' (n+m) (qa (xs++l))→w.grownBy w' v.ownBlock→wpList Tryz.prog ops Q rest (a.put o.dst v') w'):wpList Tryz.prog ops Q (o :: rest) a w:=by
 obtain⟨v',w',hrun,h1,h2⟩:=zjg base v n xs hown A m c l hr hb hbase;exact ym _ _ _ ho (by simp[Region.wanted,hgd]) _ _ hs hx v' w' (by rw[hty];exact hrun) (h v' w' h1 h2)
end
section
open Go.RowKit Go.Shelf
def zg (v:Vec) (i:Nat):Ent:=v.getD i (0,0,[])
theorem ve {v:Vec} {i:Nat} (h:i<v.length):zg v i=v[i]:=by simp[zg,h]
theorem zc2 {v:Vec} {i:Nat} (h:i<v.length):zg v i∈v:=by rw[ve h];exact List.getElem_mem h
structure Ents (w:World) (a:Option Addr) (n cap:Nat) (v:Vec):Prop where
 len:v.length=n
 lt:LtV v
 room:n≤cap
 most:cap≤9223372036854775807
 nilc:a=none→cap=0
 cells:0<n→∃b o,a=some ⟨b,o,none⟩∧∀i,i<n→w.cell? ⟨b,o+i*3,none⟩=some (.int .u64 (((zg v i).1:Nat):Int))∧w.cell? ⟨b,o+i*3+1,none⟩=some (.int .u64 (((zg v i).2.1:Nat):Int))∧
  ∃x k c,w.cell? ⟨b,o+i*3+2,none⟩=some (.slice x k c)∧Ivs w x k c (zg v i).2.2
theorem Ents.below {w w':World} {a:Option Addr} {n cap:Nat} {v:Vec} (h:Ents w a n cap v) (hb:Below w.heap.size w w'):Ents w' a n cap v:=by
 refine⟨h.len,h.lt,h.room,h.most,h.nilc,fun hn=>?_⟩;obtain⟨b,o,ha,hc⟩:=h.cells hn;refine⟨b,o,ha,fun i hi=>?_⟩;obtain⟨h1,h2,x,k,c,h3,h4⟩:=hc i hi;exact⟨(hb.cell (p:=⟨b,o+i*3,none⟩) (ze h1)).trans h1,(hb.cell (p:=⟨b,o+i*3+1,none⟩) (ze h2)).trans h2,x,k,c,(hb.cell (p:=⟨b,o+i*3+2,none⟩) (ze h3)).trans h3,h4.below hb⟩
theorem zjh (w:World):Ents w none 0 0 []:=⟨rfl,by simp,by omega,by omega,fun _=>rfl,fun h=>by omega⟩
def zbq (w:World) (base:Nat) (T:TypeId) (b:Nat):Prop:=b<base∨∃C fr,w.heap[b]?=some (.cells C T fr)
structure Steady (base:Nat) (P:TypeId→Prop) (w w':World):Prop where
 size:w.heap.size≤w'.heap.size
 row:∀k,k<w.heap.size→(k<base∨∃C T fr,P T∧w.heap[k]?=some (.cells C T fr))→w'.heap[k]?=w.heap[k]?
theorem Steady.of_below {base:Nat} {P:TypeId→Prop} {w w':World} (h:Below w.heap.size w w'):Steady base P w w':=⟨h.size,fun k hk _=>h.block k hk⟩
theorem Steady.trans {base:Nat} {P:TypeId→Prop} {a b c:World} (h:Steady base P a b) (k:Steady base P b c):Steady base P a c:=
 ⟨Nat.le_trans h.size k.size,fun i hi hp=>(k.row i (Nat.lt_of_lt_of_le hi h.size) (hp.imp id fun ⟨C,T,fr,hT,hr⟩=>⟨C,T,fr,hT,(h.row i hi (.inr ⟨C,T,fr,hT,hr⟩)).trans hr⟩)).trans (h.row i hi hp)⟩
theorem Steady.weak {base:Nat} {P Q:TypeId→Prop} {w w':World} (h:Steady base P w w') (hq:∀T,Q T→P T):Steady base Q w w':=⟨h.size,fun k hk hp=>h.row k hk (hp.imp id fun ⟨C,T,fr,hT,hr⟩=>⟨C,T,fr,hq T hT,hr⟩)⟩
theorem Steady.lower {base base':Nat} {P:TypeId→Prop} {w w':World} (h:Steady base P w w') (hb:base'≤base):Steady base' P w w':=⟨h.size,fun k hk hp=>h.row k hk (hp.imp (fun h=>by omega) id)⟩
theorem Steady.grown {base sz n:Nat} {P:TypeId→Prop} {w w':World} {e:TypeId} {v:Value} {xs:List Value} (ho:w.ownsRow base e sz v n xs) (hg:w.grownBy w' v.ownBlock) (he:¬P e):Steady base P w w':=by
 refine⟨hg.size,fun k hk hp=>hg.block k hk fun hr=>?_⟩;rcases ho.2 with ⟨rfl,_⟩ | ⟨g,cap,cur,rfl,hb,hh,_⟩
 · simp[Value.ownBlock] at hr
 · simp[Value.ownBlock] at hr;subst hr;rcases hp with h | ⟨C,T,fr,hT,h⟩
   · omega
   · rw[hh] at h;cases h;exact he hT
theorem Steady.setCell {base:Nat} {P:TypeId→Prop} {w:World} {a:Addr} {u:Value} {e:TypeId} {C:Array Value} {fr:Nat×Nat} (h:w.heap[a.block]?=some (.cells C e fr)) (hb:base≤a.block) (he:¬P e):Steady base P w (w.setCell a u):=by
 refine⟨by simp[World.setCell],fun k hk hp=>Below.heap_setCell _ _ _ _ fun hr=>?_⟩;subst hr;rcases hp with h' | ⟨C',T,fr',hT,h'⟩
 · omega
 · rw[h] at h';cases h';exact he hT
def ze9 (T:TypeId):Prop:=T=89
def za0 (T:TypeId):Prop:=T=89∨T=93
theorem zfa {w w':World} {base:Nat} {T:TypeId} {P:TypeId→Prop} {b:Nat} (h:zbq w base T b) (hb:b<w.heap.size) (hs:Steady base P w w') (hT:P T):zbq w' base T b∧w'.heap[b]?=w.heap[b]?:=by
 rcases h with h | ⟨C,fr,h⟩
 · exact⟨.inl h,hs.row b hb (.inl h)⟩
 · have:=hs.row b hb (.inr ⟨C,T,fr,hT,h⟩);exact⟨.inr ⟨C,fr,this.trans h⟩,this⟩
structure IvsT (w:World) (base:Nat) (a:Option Addr) (n c:Nat) (l:List Iv):Prop where
 ivs:Ivs w a n c l
 row:0<n→∀p,a=some p→zbq w base 89 p.block
theorem IvsT.steady {w w':World} {base:Nat} {P:TypeId→Prop} {a:Option Addr} {n c:Nat} {l:List Iv} (h:IvsT w base a n c l) (hs:Steady base P w w') (hP:P 89):IvsT w' base a n c l:=by
 refine⟨⟨h.ivs.len,h.ivs.lt,h.ivs.room,h.ivs.most,h.ivs.nilc,fun hn=>?_⟩,fun hn p hp=>?_⟩
 · obtain⟨b,o,ha,hc⟩:=h.ivs.cells hn;have hb:=ze (hc 0 hn).1;obtain⟨-,hrow⟩:=zfa (h.row hn _ ha) hb hs hP;exact⟨b,o,ha,fun i hi=>⟨(World.cell?_of_block (a:=⟨b,o+i*2,none⟩) hrow).trans (hc i hi).1,(World.cell?_of_block (a:=⟨b,o+i*2+1,none⟩) hrow).trans (hc i hi).2⟩⟩
 · obtain⟨b,o,ha,hc⟩:=h.ivs.cells hn;rw[ha] at hp;cases hp;exact(zfa (h.row hn _ ha) (ze (hc 0 hn).1) hs hP).1
theorem IvsT.lower {w:World} {base base':Nat} {a:Option Addr} {n c:Nat} {l:List Iv} (h:IvsT w base a n c l) (hr:∀b,zbq w base 89 b→zbq w base' 89 b):IvsT w base' a n c l:=⟨h.ivs,fun hn p hp=>hr _ (h.row hn p hp)⟩
theorem zji {w:World} {base base' n:Nat} {v:Value} {l:List Iv} (h:w.ownsRow base 89 2 v n (ivC l)) (hl:yj l):∃a c,v=.slice a n c∧IvsT w base' a n c l:=by
 obtain⟨a,c,rfl,hI⟩:=zbn h hl;refine⟨a,c,rfl,hI,fun hn p hp=>?_⟩;rcases h.2 with ⟨h',_⟩ | ⟨g,cap,cur,h',_,hh,_⟩
 · cases h';cases hp
 · simp only[Value.slice.injEq] at h';obtain⟨rfl,_⟩:=h';cases hp;exact .inr ⟨_,_,hh⟩
def vp (v:Vec) (ss:List Value):List Value:=(v.zip ss).flatMap fun p=>[.int .u64 ((p.1.1:Nat):Int),.int .u64 ((p.1.2.1:Nat):Int),p.2]
theorem zfb:∀{v:Vec} {ss:List Value},ss.length=v.length→(vp v ss).length=v.length*3
 | [],_,_=>by simp[vp]
 | e :: v,[],h=>by simp at h
 | e :: v,s :: ss,h=>by
   have:=zfb (v:=v) (ss:=ss) (by simpa using h);simp only[vp,List.zip_cons_cons,List.flatMap_cons,List.length_append,List.length_cons,List.length_nil] at this ⊢;omega
theorem zjj {v u:Vec} {ss ts:List Value} (h:ss.length=v.length):vp (v++u) (ss++ts)=vp v ss++vp u ts:=by
 unfold vp;rw[List.zip_append h.symm,List.flatMap_append]
theorem zgs:∀{v:Vec} {ss:List Value} {i:Nat},ss.length=v.length→i<v.length→
 (vp v ss)[i*3]?=some (.int .u64 (((zg v i).1:Nat):Int))∧(vp v ss)[i*3+1]?=some (.int .u64 (((zg v i).2.1:Nat):Int))∧(vp v ss)[i*3+2]?=ss[i]?
 | [],_,i,_,h=>by simp at h
 | e :: v,[],i,h,_=>by simp at h
 | e :: v,s :: ss,0,_,_=>⟨rfl,rfl,rfl⟩
 | e :: v,s :: ss,i+1,h,hi=>by
   have:=zgs (v:=v) (ss:=ss) (i:=i) (by simpa using h) (by simpa using hi);have e1:vp (e :: v) (s :: ss)=.int .u64 ((e.1:Nat):Int) :: .int .u64 ((e.2.1:Nat):Int) :: s :: vp v ss:=rfl;rw[e1,show (i+1)*3=i*3+1+1+1 by omega,show i*3+1+1+1+1=(i*3+1)+1+1+1 by omega,show i*3+1+1+1+2=(i*3+2)+1+1+1 by omega];simpa [zg] using this
def HolesT (w:World) (base:Nat) (v:Vec) (ss:List Value):Prop:=ss.length=v.length∧∀i,i<v.length→∃a n c,ss[i]?=some (.slice a n c)∧IvsT w base a n c (zg v i).2.2
theorem HolesT.steady {w w':World} {base:Nat} {P:TypeId→Prop} {v:Vec} {ss:List Value} (h:HolesT w base v ss) (hs:Steady base P w w') (hP:P 89):HolesT w' base v ss:=
 ⟨h.1,fun i hi=>let ⟨a,n,c,h1,h2⟩:=h.2 i hi;⟨a,n,c,h1,h2.steady hs hP⟩⟩
theorem zp9 (w:World) (base:Nat):HolesT w base [] []:=⟨rfl,fun i hi=>by simp at hi⟩
theorem HolesT.snoc {w:World} {base:Nat} {v:Vec} {ss:List Value} {e:Ent} {a:Option Addr} {n c:Nat} (h:HolesT w base v ss) (hI:IvsT w base a n c e.2.2):HolesT w base (v++[e]) (ss++[.slice a n c]):=by
 refine⟨by simp[h.1],fun i hi=>?_⟩;by_cases hv:i<v.length
 · obtain⟨x,k,d,h1,h2⟩:=h.2 i hv;refine⟨x,k,d,by rw[List.getElem?_append_left (by rw[h.1];exact hv)];exact h1,?_⟩;have:zg (v++[e]) i=zg v i:=by rw[ve hi,ve hv,List.getElem_append_left hv]
   rw[this];exact h2
 · have hiv:i=v.length:=by simp at hi;omega
   subst hiv;refine⟨a,n,c,by rw[List.getElem?_append_right (by rw[h.1];omega),h.1];simp,?_⟩;have:zg (v++[e]) v.length=e:=by simp[zg]
   rw[this];exact hI
def OwnV (w:World) (base:Nat) (x:Value) (v:Vec):Prop:=∃ss,w.ownsRow base 93 3 x v.length (vp v ss)∧HolesT w 0 v ss
theorem zjk (w:World) (base:Nat):OwnV w base (.slice none 0 0) []:=⟨[],World.ownsRow_nil ..,zp9 w 0⟩
theorem OwnV.steady {w w':World} {base:Nat} {P:TypeId→Prop} {x:Value} {v:Vec} (h:OwnV w base x v) (hs:Steady base P w w') (h1:P 89) (h2:P 93):OwnV w' base x v:=by
 obtain⟨ss,ho,hh⟩:=h;refine⟨ss,⟨ho.1,?_⟩,hh.steady (hs.lower (Nat.zero_le _)) h1⟩;rcases ho.2 with h' | ⟨g,cap,cur,hv,hg,hr,rest⟩
 · exact .inl h'
 · exact .inr ⟨g,cap,cur,hv,hg,(hs.row g (Array.getElem?_eq_some_iff.1 hr).1 (.inr ⟨_,_,_,h2,hr⟩)).trans hr,rest⟩
theorem OwnV.below {w w':World} {base:Nat} {x:Value} {v:Vec} (h:OwnV w base x v) (hb:Below w.heap.size w w'):OwnV w' base x v:=
 h.steady (P:=fun _=>True) (.of_below hb) trivial trivial
theorem OwnV.ents {w:World} {base:Nat} {x:Value} {v:Vec} (h:OwnV w base x v) (hl:LtV v):∃a c,x=.slice a v.length c∧Ents w a v.length c v:=by
 obtain⟨ss,ho,hs⟩:=h;have ho2:=ho;rcases ho.2 with ⟨rfl,h0⟩ | ⟨g,cap,cur,rfl,hg,hh,hnc,hcm,_⟩
 · rw[h0];have:v=[]:=List.length_eq_zero_iff.1 h0;subst this;exact⟨none,0,rfl,zjh w⟩
 · refine⟨_,_,rfl,rfl,hl,hnc,by unfold maxLen at hcm;omega,(by intro h;cases h),fun hn=>⟨g,0,rfl,fun i hi=>?_⟩⟩;obtain⟨e1,e2,e3⟩:=zgs hs.1 hi;obtain⟨a,n,c,h1,h2⟩:=hs.2 i hi;rw[h1] at e3;have c1:=ho2.cells (g:=g) rfl _ _ e1;have c2:=ho2.cells (g:=g) rfl _ _ e2;have c3:=ho2.cells (g:=g) rfl _ _ e3;rw[yv] at c1 c2 c3;exact⟨c1,by rw[Nat.add_assoc];exact c2,a,n,c,by rw[Nat.add_assoc];exact c3,h2.ivs⟩
theorem OwnV.lower {w:World} {base base':Nat} {x:Value} {v:Vec} (h:OwnV w base x v) (hb:base'≤base):OwnV w base' x v:=by
 obtain⟨ss,ho,hh⟩:=h;exact⟨ss,vw ho hb,hh⟩
theorem Tryz.info_ent:(Tryz.prog.info? 93).map (fun i=>(i.zero,i.size,i.bytes))=some (some (.agg #[.int .u64 0,.int .u64 0,.slice none 0 0]),3,40):=by kernel_rfl
end
section
open Go.RowKit
theorem zgt {B g i j:Nat} {w W:World} {x y:Value} (h:Below B w W) (hg:B≤g):Below B w ((W.setCell ⟨g,i,none⟩ x).setCell ⟨g,j,none⟩ y):=(h.setCell hg _).setCell hg _
theorem zdz (w:World) (x y z:Value) (T:TypeId) (w':World) (h:Below (w.alloc (.cells #[x,y,z] T)).heap.size (w.alloc (.cells #[x,y,z] T)) w'):
 w'.cell? ⟨w.heap.size,0,none⟩=some x∧w'.cell? ⟨w.heap.size,1,none⟩=some y∧w'.cell? ⟨w.heap.size,2,none⟩=some z:=by
 have hrow:(w.alloc (.cells #[x,y,z] T)).heap[w.heap.size]?=some (.cells #[x,y,z] T):=zaa rfl
 exact⟨(h.cell (p:=⟨w.heap.size,0,none⟩) (by simp)).trans (kf (i:=0) hrow rfl),
  (h.cell (p:=⟨w.heap.size,1,none⟩) (by simp)).trans (kf (i:=1) hrow rfl),
  (h.cell (p:=⟨w.heap.size,2,none⟩) (by simp)).trans (kf (i:=2) hrow rfl)⟩
theorem Ents.at {w:World} {b o n cap:Nat} {v:Vec} (h:Ents w (some ⟨b,o,none⟩) n cap v) {k:Nat} (hk:k<n):∀w',Below w.heap.size w w'→
 w'.cell? ⟨b,o+k*3,none⟩=some (.int .u64 (((zg v k).1:Nat):Int))∧w'.cell? ⟨b,o+k*3+1,none⟩=some (.int .u64 (((zg v k).2.1:Nat):Int))∧
  ∃x m c,w'.cell? ⟨b,o+k*3+2,none⟩=some (.slice x m c)∧Ivs w' x m c (zg v k).2.2:=by
 intro w' hb;obtain⟨b',o',hs,hc⟩:=h.cells (by omega);cases hs;obtain⟨h1,h2,x,m,c,h3,h4⟩:=hc k hk;exact⟨(hb.cell (p:=⟨b,o+k*3,none⟩) (ze h1)).trans h1,(hb.cell (p:=⟨b,o+k*3+1,none⟩) (ze h2)).trans h2,x,m,c,(hb.cell (p:=⟨b,o+k*3+2,none⟩) (ze h3)).trans h3,h4.below hb⟩
theorem Ents.fix {w:World} {b o n cap:Nat} {v:Vec} (h:Ents w (some ⟨b,o,none⟩) n cap v) {k:Nat} (hk:k<n):∃x m c,∀w',Below w.heap.size w w'→
 w'.cell? ⟨b,o+k*3,none⟩=some (.int .u64 (((zg v k).1:Nat):Int))∧w'.cell? ⟨b,o+k*3+1,none⟩=some (.int .u64 (((zg v k).2.1:Nat):Int))∧
  w'.cell? ⟨b,o+k*3+2,none⟩=some (.slice x m c)∧Ivs w' x m c (zg v k).2.2:=by
 obtain⟨b',o',hs,hc⟩:=h.cells (by omega);cases hs;obtain⟨h1,h2,x,m,c,h3,h4⟩:=hc k hk;exact⟨x,m,c,fun w' hb=>⟨(hb.cell (p:=⟨b,o+k*3,none⟩) (ze h1)).trans h1,(hb.cell (p:=⟨b,o+k*3+1,none⟩) (ze h2)).trans h2,(hb.cell (p:=⟨b,o+k*3+2,none⟩) (ze h3)).trans h3,h4.below hb⟩⟩
theorem Ents.some {w:World} {a:Option Addr} {n cap:Nat} {v:Vec} (h:Ents w a n cap v) (hn:0<n):∃b o,a=some ⟨b,o,none⟩:=by
 obtain⟨b,o,ha,-⟩:=h.cells hn;exact⟨b,o,ha⟩
def ju {α:Type} (f:Nat→Option α) (n:Nat):Option α:=(List.range n).findSome? f
theorem zbr {α:Type} {f:Nat→Option α} {n k:Nat} {x:α} (hk:k<n) (h:∀j,j<k→f j=none) (hx:f k=some x):ju f n=some x:=by
 unfold ju
 induction n with
 | zero=>omega
 | succ n ih=>
  rw[List.range_succ,List.findSome?_append];by_cases e:k=n
  · subst e
    have h0:(List.range k).findSome? f=none:=by
     rw[List.findSome?_eq_none_iff];intro j hj;exact h j (by simpa using hj)
    rw[h0];simp[hx]
  · rw[ih (by omega)]
    rfl
theorem zfc {α:Type} {f:Nat→Option α} {n:Nat} (h:∀j,j<n→f j=none):ju f n=none:=by
 unfold ju;rw[List.findSome?_eq_none_iff];intro j hj;exact h j (by simpa using hj)
theorem zqa {α:Type} {f:Nat→Option α} {n:Nat} (h:ju f n=none):∀j,j<n→f j=none:=by
 unfold ju at h;rw[List.findSome?_eq_none_iff] at h;intro j hj;exact h j (by simpa using hj)
theorem zgu {α:Type} {f:Nat→Option α} {n:Nat} {x:α} (h:ju f n=some x):∃k,k<n∧(∀j,j<k→f j=none)∧f k=some x:=by
 induction n with
 | zero=>cases h
 | succ n ih=>
  unfold ju at h ih;rw[List.range_succ,List.findSome?_append] at h
  cases e:(List.range n).findSome? f with
  | some y=>
   rw[e] at h ih;obtain⟨k,h1,h2,h3⟩:=ih h
   exact⟨k,by omega,h2,h3⟩
  | none=>
   rw[e] at h;refine⟨n,by omega,zqa e,?_⟩;simpa using h
def zc3 (l:List Iv) (i:Nat):Option (Nat×Nat):=
 if (zc l i).2<(zc l i).1 then some (2,i) else if 0<i∧yw (zc l (i - 1)) (zc l i)≠0 then some (3,i) else none
def ck (l:List Iv):Option (Nat×Nat):=ju (zc3 l) l.length
def vq:Option (Nat×Nat)→Err
 | none=>none
 | some (c,i)=>some ((c:Int),some (i:Int))
theorem zqb {w':World} {g:Nat} {x y z:Value} {T:TypeId} (hr:w'.heap[g]?=some (.cells #[x,y,z] T)):
 w'.cell? ⟨g,0,none⟩=some x∧w'.cell? ⟨g,1,none⟩=some y∧w'.cell? ⟨g,2,none⟩=some z∧w'.frozen? ⟨g,0,none⟩=false∧w'.frozen? ⟨g,1,none⟩=false∧w'.frozen? ⟨g,2,none⟩=false:=
 ⟨kf (i:=0) hr rfl,kf (i:=1) hr rfl,kf (i:=2) hr rfl,by simp[World.frozen?,hr],by simp[World.frozen?,hr],by simp[World.frozen?,hr]⟩
