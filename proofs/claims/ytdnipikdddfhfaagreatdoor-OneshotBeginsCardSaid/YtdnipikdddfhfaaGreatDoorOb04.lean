/- Part 04. -/
import Derived.Test.YtdnipikdddfhfaaGreatDoorOb03
set_option linter.unusedVariables false
set_option maxHeartbeats 16000000
namespace Go.Proofs.YtdnipikdddfhfaaGreatDoor
open Lib (hid)
section
open Go.RowKit
theorem znm (x y z u:Nat) (w:World):(Op.equalIn 10000 89 (.agg #[.int .u64 (x:Int),.int .u64 (y:Int)]) (.agg #[.int .u64 (z:Int),.int .u64 (u:Int)])).run Tryz.prog w=.ok (decide (x=z) && decide (y=u)) w:=by
 have u3:=Tryz.underlying43;have a3:∀w,(isAgg 43).run Tryz.prog w=.ok false w:=fun w=>by simp[isAgg,run_underlying u3]
 have z3:∀w,(sizeOf 43).run Tryz.prog w=.ok 1 w:=fun w=>by kernel_rfl
 have hS:Tryz.prog.underlying 89=some (.struct (Tryz.prog.fieldsOf 89)):=by kernel_rfl
 have hp:Tryz.prog.stoodInHeld 89=false:=by kernel_rfl
 rw[show (10000:Nat)=9999+1 from rfl,run_equalIn_agg w 9999 89 _ _ hS hp];simp only[Program.fieldsOf,Tryz.underlying89];go_simp;by_cases h1:x=z <;> by_cases h2:y=u <;> simp[h1,h2] <;> omega
theorem znn {l l':List Iv} {k:Nat} (h:l.take k=l'.take k) (hk:k<l.length) (hk':k<l'.length) (e:zb l k=zb l' k):l.take (k+1)=l'.take (k+1):=by
 rw[List.take_succ_eq_append_getElem hk,List.take_succ_eq_append_getElem hk',h,←yr hk,←yr hk',e]
theorem zno {l l':List Iv} {k:Nat} (e:zb l k≠zb l' k):l≠l':=fun h=>e (by rw[h])
theorem zhn (a a':Option Addr) (n cap n' cap':Nat) (l l':List Iv) (w:World) (hI:Ivs w a n cap l) (hI':Ivs w a' n' cap' l'):
 Calls Tryz.prog 59 #[.slice a n cap,.slice a' n' cap'] w fun e w'=>e=.returned (.bool (decide (l=l')))∧Below w.heap.size w w':=by
 have HI:=hid hI;have HI':=hid hI';have Hl:=hid hI.len;have Hl':=hid hI'.len;have hm:n≤9223372036854775807:=Nat.le_trans hI.room hI.most;by_cases hnn:n=n'
 · subst hnn;clear hI hI';have hnb:((n:Int) != (n:Int))=false:=by simp
   go_enter Tryz.func59,Tryz.ntmps59;go_wp2;go_loopw [5] (fun i wr=>∃k q:Nat,k≤n∧i=.int .i64 k∧wr=w.drewN q∧Hid (l.take k=l'.take k)) (fun i _=>n - (intOf i).toNat)
   case atStart=>exact⟨0,0,by omega,rfl,rfl,rfl⟩
   case round=>
    obtain⟨k,q,hk,rfl,rfl,ht⟩:=hrel;by_cases hkn:k<n
    · obtain⟨cb,co,rfl,hcell⟩:=HI.out.cells (by omega);obtain⟨cb',co',rfl,hcell'⟩:=HI'.out.cells (by omega);obtain⟨c1,c2⟩:=hcell k hkn;obtain⟨c1',c2'⟩:=hcell' k hkn;clear hcell hcell';have h0:(0:Int)≤k:=by omega
      have h04:(k:Int)<(n:Int):=by omega
      have hkl:k<l.length:=by rw[Hl.out];exact hkn
      have hkl':k<l'.length:=by rw[Hl'.out];exact hkn
      have He:=hid (fun e=>znn ht.out hkl hkl' e);have Hn:=hid (fun e=>zno (l:=l) (l':=l') (k:=k) e);clear hkl hkl';generalize zb l k=s at*;generalize zb l' k=t at*;obtain⟨x,y⟩:=s;obtain⟨z,u⟩:=t;have heq:=znm x y z u;simp only at c1 c2 c1' c2';by_cases e:x=z∧y=u
      · obtain⟨rfl,rfl⟩:=e;have Ht:=hid (He.out rfl);simp only[decide_true,Bool.and_self] at heq;clear He Hn;go_wp2;go_quiet (fail);go_wp2;go_roundw
        case rel=>exact⟨k+1,_,by omega,by go_num,rfl,Ht.out⟩
        case measure=>simp[intOf];omega
      · have Hne:=hid (Hn.out (by intro h;cases h;exact e ⟨rfl,rfl⟩))
        have eb:(decide (x=z) && decide (y=u))=false:=by
         rw[Bool.eq_false_iff];intro h;rw[Bool.and_eq_true,decide_eq_true_iff,decide_eq_true_iff] at h;exact e h
        simp only[eb] at heq;clear He Hn eb e;go_wp2;go_quiet (fail);go_wp2;go_ret;exact⟨za0 (by rw[decide_eq_false Hne.out]),by first | exact zv (Below.refl _ _) _ | exact zv (zv (Below.refl _ _) _) _⟩
    · obtain rfl:k=n:=by omega
      have h1:=ht.out;rw[List.take_of_length_le (by rw[Hl.out];omega),List.take_of_length_le (by rw[Hl'.out];omega)] at h1;have H1:=hid h1;clear h1;go_wp2;go_ret;exact⟨za0 (by rw[decide_eq_true H1.out]),zv (Below.refl _ _) _⟩
 · have hnb:((n:Int) != (n':Int))=true:=by rw[bne_iff_ne];omega
   have hne:=hid (show l≠l' from fun h=>hnn (by rw[←hI.len,←hI'.len,h]));clear hI hI' HI HI' Hl Hl';go_enter Tryz.func59,Tryz.ntmps59;go_wp2;go_ret;exact⟨za0 (by rw[decide_eq_false hne.out]),Below.refl _ _⟩
end
section
open Go.RowKit Go.Shelf
structure Kept (p:Nat→Prop) (A B:World):Prop where
 os:B.os=A.os
 tape:B.tape=A.tape
 output:B.output=A.output
 size:A.heap.size≤B.heap.size
 row:∀k,k<A.heap.size→p k→B.heap[k]?=A.heap[k]?
variable {p q:Nat→Prop} {A B C:World}
theorem Kept.refl (p:Nat→Prop) (A:World):Kept p A A:=⟨rfl,rfl,rfl,Nat.le_refl _,fun _ _ _=>rfl⟩
theorem Kept.trans (h:Kept p A B) (k:Kept p B C):Kept p A C:=
 ⟨k.os.trans h.os,k.tape.trans h.tape,k.output.trans h.output,Nat.le_trans h.size k.size,fun i hi hp=>(k.row i (Nat.lt_of_lt_of_le hi h.size) hp).trans (h.row i hi hp)⟩
theorem Kept.mono (h:Kept p A B) (hq:∀k,k<A.heap.size→q k→p k):Kept q A B:=⟨h.os,h.tape,h.output,h.size,fun i hi hp=>h.row i hi (hq i hi hp)⟩
theorem Kept.alloc (h:Kept p A B) (o:Obj):Kept p A (B.alloc o):=
 h.trans ⟨rfl,rfl,rfl,by simp,fun k hk _=>Below.heap_alloc _ _ _ hk⟩
theorem Kept.setCell (h:Kept p A B) {a:Addr} (ha:a.block<A.heap.size→¬p a.block) (u:Value):Kept p A (B.setCell a u):=
 ⟨h.os,h.tape,h.output,by simpa [World.setCell] using h.size,fun k hk hp=>(Below.heap_setCell _ _ _ _ (fun e=>by subst e;exact ha hk hp)).trans (h.row k hk hp)⟩
theorem Kept.putObj (h:Kept p A B) {r:Nat} (ha:r<A.heap.size→¬p r) (o:Obj):Kept p A (B.putObj r o):=
 ⟨h.os,h.tape,h.output,by simpa using h.size,fun k hk hp=>(World.putObj_heap_other (fun e=>by subst e;exact ha hk hp)).trans (h.row k hk hp)⟩
theorem Kept.below (h:Kept p A B) (hb:Below B.heap.size B C):Kept p A C:=
 h.trans ⟨hb.os,hb.tape,hb.output,hb.size,fun k hk _=>hb.block k hk⟩
theorem Kept.grown {row:Option Nat} (h:Kept p A B) (hg:B.grownBy C row) (hr:∀k,row=some k→k<A.heap.size→¬p k):Kept p A C:=
 ⟨hg.os.trans h.os,hg.tape.trans h.tape,hg.output.trans h.output,Nat.le_trans h.size hg.size,
  fun k hk hp=>(hg.block k (Nat.lt_of_lt_of_le hk h.size) (fun e=>hr k e.symm hk hp)).trans (h.row k hk hp)⟩
theorem Kept.drewN (h:Kept p A B) (n:Nat):Kept p A (B.drewN n):=⟨h.os,h.tape,h.output,h.size,h.row⟩
theorem Kept.drew (h:Kept p A B):Kept p A B.drew:=⟨h.os,h.tape,h.output,h.size,h.row⟩
theorem Kept.cell (h:Kept p A B) {a:Addr} {v:Value} (hc:A.cell? a=some v) (ha:p a.block):B.cell? a=some v:=
 (World.cell?_of_block (h.row a.block (ze hc) ha)).trans hc
theorem Kept.frozen (h:Kept p A B) {a:Addr} (hc:a.block<A.heap.size) (ha:p a.block):B.frozen? a=A.frozen? a:=
 World.frozen?_of_block (h.row a.block hc ha)
theorem znp {n:Nat} (h:Below n A B):Kept (fun k=>k<n) A B:=⟨h.os,h.tape,h.output,h.size,fun k _ hk=>h.block k hk⟩
theorem Kept.toBelow {n:Nat} (h:Kept p A B) (hp:∀k,k<n→p k) (hn:n≤A.heap.size):Below n A B:=⟨h.os,h.tape,h.output,h.size,fun k hk=>h.row k (Nat.lt_of_lt_of_le hk hn) (hp k hk)⟩
end
section
open Go.RowKit Go.Shelf
attribute [local go_sem] Oper.semAt_some
def BoxI (w0 W:World) (b:Nat) (l:List Iv):Prop:=∃a n c,W.heap[b]?=some (.cells #[.slice a n c] 91)∧Ivs w0 a n c l
theorem zho {W:World} {b:Nat} {v u:Value} {t:TypeId} (h:W.heap[b]?=some (.cells #[v] t)):(W.setCell ⟨b,0,none⟩ u).heap[b]?=some (.cells #[u] t):=by
 simp[World.setCell,Array.getElem?_modify,h]
theorem ki {W:World} {b:Nat} {v:Value} {t:TypeId} (h:W.heap[b]?=some (.cells #[v] t)):W.cell? ⟨b,0,none⟩=some v:=by simp[World.cell?,h]
theorem zfa {W:World} {b:Nat} {v:Value} {t:TypeId} (h:W.heap[b]?=some (.cells #[v] t)):W.frozen? ⟨b,0,none⟩=false:=by simp[World.frozen?,h]
theorem BoxI.kept {w0 W W':World} {b:Nat} {l:List Iv} (h:BoxI w0 W b l) (hk:W'.heap[b]?=W.heap[b]?):BoxI w0 W' b l:=by
 obtain⟨a,n,c,h1,h2⟩:=h;exact⟨a,n,c,hk.trans h1,h2⟩
end
section
open Go.RowKit Go.Extern.Stop Go.Stop Go.Extern
theorem kx (x:Err) (w:World) (hD:Door w):
 Calls Tryz.prog 19 #[zh x] w fun e w'=>e=.returned (.int .i64 (kh x))∧Below w.heap.size w w':=by
 have hD':=hid (fun o=>hD.below (Nat.le_refl _) ((Below.refl _ w).alloc (Nat.le_refl _) o));clear hD;rcases x with _ | ⟨c,_ | a⟩
 · go_enter Tryz.func19,Tryz.ntmps19;simp only[zh];go_wp2_with fail;go_ret;exact⟨rfl,(Below.refl _ _).alloc (Nat.le_refl _) _⟩
 · go_enter Tryz.func19,Tryz.ntmps19;simp only[zh];go_wp2_with fail;refine zhb _ _ _ _ (hD'.out _) (by simp) _ ?_;intro w1 A hb hA hAs;have hb2:Below w.heap.size w w1:=((Below.refl _ _).alloc (Nat.le_refl _) _).trans (hb.mono (by simp));have hc:w1.cell? ⟨w.heap.size,0,none⟩=some (.int .i64 0):=by rw[hb.cell (p:=⟨w.heap.size,0,none⟩) (by simp)];simp
   have hf:w1.frozen? ⟨w.heap.size,0,none⟩=false:=by rw[hb.frozen (p:=⟨w.heap.size,0,none⟩) (by simp)];simp
   refine(zm6 c ⟨w.heap.size,0,none⟩ A _ w1 hA hc hf).mono ?_;rintro e w2 ⟨rfl,hg,hc2⟩;refine⟨true,rfl,?_⟩;have hb3:=zex hb2 (Nat.le_refl _) hg;clear hg hc hf hb hb2 hA hAs;go_wp2_with fail;go_ret;exact⟨rfl,hb3⟩
 · go_enter Tryz.func19,Tryz.ntmps19;simp only[zh];go_wp2_with fail;refine zhb _ _ _ _ (hD'.out _) (by simp) _ ?_;intro w1 A hb hA hAs;have hb2:Below w.heap.size w w1:=((Below.refl _ _).alloc (Nat.le_refl _) _).trans (hb.mono (by simp));have hc:w1.cell? ⟨w.heap.size,0,none⟩=some (.int .i64 0):=by rw[hb.cell (p:=⟨w.heap.size,0,none⟩) (by simp)];simp
   have hf:w1.frozen? ⟨w.heap.size,0,none⟩=false:=by rw[hb.frozen (p:=⟨w.heap.size,0,none⟩) (by simp)];simp
   refine(zm7 c a ⟨w.heap.size,0,none⟩ A _ w1 hA hc hf).mono ?_;rintro e w2 ⟨rfl,hg,hc2⟩;refine⟨true,rfl,?_⟩;have hb3:=zex hb2 (Nat.le_refl _) hg;clear hg hc hf hb hb2 hA hAs;go_wp2_with fail;go_ret;exact⟨rfl,hb3⟩
theorem qm (c a:Int) (w:World):
 Calls Tryz.prog 82 #[.int .i64 c,.int .i64 a] w fun e w'=>e=.returned (zh (zbk c a))∧w=w':=by
 by_cases h:c=0
 · subst h;go_enter Tryz.func82,Tryz.ntmps82;go_wp2;go_ret;exact⟨rfl,rfl⟩
 · have hb:(c == 0)=false:=by rw[beq_eq_false_iff_ne];exact h
   have he:=hid (show zbk c a=some (c,some a) from if_neg h);clear h;go_enter Tryz.func82,Tryz.ntmps82;go_wp2;go_ret;exact⟨by rw[he.out];rfl,rfl⟩
theorem znq (w:World):
 Calls Tryz.prog 62 #[.nilIface] w fun e w'=>e=.returned (.tuple #[.agg #[.int .i64 0,.int .i64 0],.bool false])∧Below w.heap.size w w':=by
 go_enter Tryz.func62,Tryz.ntmps62;go_wp2_with fail;refine(zm8 _ _).mono ?_;rintro e w' ⟨rfl,rfl⟩;go_wp2_with fail;exact bodyPost_ret (v:=.tuple #[.agg #[.int .i64 0,.int .i64 0],.bool false]) (by simp[results,Tryz.results62,go_sem]) rfl ⟨rfl,((Below.refl _ _).alloc (Nat.le_refl _) _).alloc (by simp) _⟩
theorem znr (c:Int) (w:World) (hD:Door w):
 Calls Tryz.prog 62 #[.iface 35 (.int .i64 c)] w fun e w'=>e=.returned (.tuple #[.agg #[.int .i64 0,.int .i64 0],.bool false])∧Below w.heap.size w w':=by
 have hD':=hid (fun o1 o2=>hD.below (Nat.le_refl _) (((Below.refl _ w).alloc (Nat.le_refl _) o1).alloc (by simp) o2));clear hD;go_enter Tryz.func62,Tryz.ntmps62;go_wp2_with fail;refine zhc _ _ _ _ (hD'.out _ _) (by simp) _ ?_;intro w1 A hb hA hAs;have hb2:Below w.heap.size w w1:=(((Below.refl _ _).alloc (Nat.le_refl _) _).alloc (by simp) _).trans (hb.mono (by simp;omega));have hz:=hb.size;have hc0:w1.cell? ⟨w.heap.size+1,0,none⟩=some (.int .i64 0):=by rw[hb.cell (p:=⟨w.heap.size+1,0,none⟩) (by simp)];go_simp
 have hc1:w1.cell? ⟨w.heap.size+1,1,none⟩=some (.int .i64 0):=by rw[hb.cell (p:=⟨w.heap.size+1,1,none⟩) (by simp)];go_simp
 have hr0:w1.cell? ⟨w.heap.size,0,none⟩=some (.int .i64 0):=by rw[hb.cell (p:=⟨w.heap.size,0,none⟩) (by simp;omega)];go_simp
 have hr1:w1.cell? ⟨w.heap.size,1,none⟩=some (.int .i64 0):=by rw[hb.cell (p:=⟨w.heap.size,1,none⟩) (by simp;omega)];go_simp
 have hf0:w1.frozen? ⟨w.heap.size,0,none⟩=false:=by rw[hb.frozen (p:=⟨w.heap.size,0,none⟩) (by simp;omega)];go_simp
 have hf1:w1.frozen? ⟨w.heap.size,1,none⟩=false:=by rw[hb.frozen (p:=⟨w.heap.size,1,none⟩) (by simp;omega)];go_simp
 refine(zm5 c (w.heap.size+1) A w1).mono ?_;rintro e w2 ⟨rfl,hg⟩;refine⟨false,rfl,?_⟩;have hb3:=zce hb2 hg;have keep:∀p:Addr,p.block<w1.heap.size→w2.cell? p=w1.cell? p:=fun p hp=>World.cell?_of_block (hg.block _ hp (by simp))
 have kfree:∀p:Addr,p.block<w1.heap.size→w2.frozen? p=w1.frozen? p:=fun p hp=>World.frozen?_of_block (hg.block _ hp (by simp))
 have hc0':=(keep ⟨w.heap.size+1,0,none⟩ (ze hc0)).trans hc0;have hc1':=(keep ⟨w.heap.size+1,1,none⟩ (ze hc1)).trans hc1;have hr0':=(keep ⟨w.heap.size,0,none⟩ (ze hr0)).trans hr0;have hr1':=(keep ⟨w.heap.size,1,none⟩ (ze hr1)).trans hr1;have hf0':=(kfree ⟨w.heap.size,0,none⟩ (ze hr0)).trans hf0;have hf1':=(kfree ⟨w.heap.size,1,none⟩ (ze hr1)).trans hf1;clear keep kfree hg hc0 hc1 hr0 hr1 hf0 hf1 hb hb2 hA hAs hz;go_wp2_with fail;exact bodyPost_ret (v:=.tuple #[.agg #[.int .i64 0,.int .i64 0],.bool false]) (by simp[results,Tryz.results62,go_sem,hr0',hr1']) rfl ⟨rfl,(hb3.setCell (p:=⟨w.heap.size,0,none⟩) (Nat.le_refl _) _).setCell (p:=⟨w.heap.size,1,none⟩) (Nat.le_refl _) _⟩
theorem zhp (c a:Int) (w:World) (hD:Door w):
 Calls Tryz.prog 62 #[.iface 112 (.agg #[.int .i64 c,.int .i64 a])] w fun e w'=>e=.returned (.tuple #[.agg #[.int .i64 c,.int .i64 a],.bool true])∧Below w.heap.size w w':=by
 have hD':=hid (fun o1 o2=>hD.below (Nat.le_refl _) (((Below.refl _ w).alloc (Nat.le_refl _) o1).alloc (by simp) o2));clear hD;go_enter Tryz.func62,Tryz.ntmps62;go_wp2_with fail;refine zhc _ _ _ _ (hD'.out _ _) (by simp) _ ?_;intro w1 A hb hA hAs;have hb2:Below w.heap.size w w1:=(((Below.refl _ _).alloc (Nat.le_refl _) _).alloc (by simp) _).trans (hb.mono (by simp;omega));have hz:=hb.size;have hc0:w1.cell? ⟨w.heap.size+1,0,none⟩=some (.int .i64 0):=by rw[hb.cell (p:=⟨w.heap.size+1,0,none⟩) (by simp)];go_simp
 have hc1:w1.cell? ⟨w.heap.size+1,1,none⟩=some (.int .i64 0):=by rw[hb.cell (p:=⟨w.heap.size+1,1,none⟩) (by simp)];go_simp
 have hg0:w1.frozen? ⟨w.heap.size+1,0,none⟩=false:=by rw[hb.frozen (p:=⟨w.heap.size+1,0,none⟩) (by simp)];go_simp
 have hg1:w1.frozen? ⟨w.heap.size+1,1,none⟩=false:=by rw[hb.frozen (p:=⟨w.heap.size+1,1,none⟩) (by simp)];go_simp
 have hr0:w1.cell? ⟨w.heap.size,0,none⟩=some (.int .i64 0):=by rw[hb.cell (p:=⟨w.heap.size,0,none⟩) (by simp;omega)];go_simp
 have hr1:w1.cell? ⟨w.heap.size,1,none⟩=some (.int .i64 0):=by rw[hb.cell (p:=⟨w.heap.size,1,none⟩) (by simp;omega)];go_simp
 have hf0:w1.frozen? ⟨w.heap.size,0,none⟩=false:=by rw[hb.frozen (p:=⟨w.heap.size,0,none⟩) (by simp;omega)];go_simp
 have hf1:w1.frozen? ⟨w.heap.size,1,none⟩=false:=by rw[hb.frozen (p:=⟨w.heap.size,1,none⟩) (by simp;omega)];go_simp
 refine(zm4 c a (w.heap.size+1) A _ _ w1 hA hc0 hc1 hg0 hg1).mono ?_;rintro e w2 ⟨rfl,hg,hc0',hc1'⟩;refine⟨true,rfl,?_⟩;have hb3:=zex hb2 (by omega) hg;have keep:∀p:Addr,p.block<w1.heap.size→p.block≠w.heap.size+1→w2.cell? p=w1.cell? p:=fun p hp hne=>World.cell?_of_block (hg.block _ hp (by simpa using hne))
 have kfree:∀p:Addr,p.block<w1.heap.size→p.block≠w.heap.size+1→w2.frozen? p=w1.frozen? p:=fun p hp hne=>World.frozen?_of_block (hg.block _ hp (by simpa using hne))
 have hr0':=(keep ⟨w.heap.size,0,none⟩ (ze hr0) (by simp)).trans hr0;have hr1':=(keep ⟨w.heap.size,1,none⟩ (ze hr1) (by simp)).trans hr1;have hf0':=(kfree ⟨w.heap.size,0,none⟩ (ze hr0) (by simp)).trans hf0;have hf1':=(kfree ⟨w.heap.size,1,none⟩ (ze hr1) (by simp)).trans hf1;clear keep kfree hg hg0 hg1 hc0 hc1 hr0 hr1 hf0 hf1 hb hb2 hA hAs hz;go_wp2_with fail;exact bodyPost_ret (v:=.tuple #[.agg #[.int .i64 c,.int .i64 a],.bool true]) (by simp[results,Tryz.results62,go_sem,hr0',hr1']) rfl ⟨rfl,(hb3.setCell (p:=⟨w.heap.size,0,none⟩) (Nat.le_refl _) _).setCell (p:=⟨w.heap.size,1,none⟩) (Nat.le_refl _) _⟩
theorem zns (x:Err) (w:World) (hD:Door w):
 Calls Tryz.prog 20 #[zh x] w fun e w'=>e=.returned (.int .i64 (zg5 x))∧Below w.heap.size w w':=by
 rcases x with _ | ⟨c,_ | a⟩
 · go_enter Tryz.func20,Tryz.ntmps20;simp only[zh];go_wp2_with fail;refine(znq _).mono ?_;rintro e w1 ⟨rfl,hb⟩;go_wp2_with fail;go_ret;exact⟨rfl,hb.alloc hb.size _⟩
 · go_enter Tryz.func20,Tryz.ntmps20;simp only[zh];go_wp2_with fail;refine(znr _ _ hD).mono ?_;rintro e w1 ⟨rfl,hb⟩;go_wp2_with fail;go_ret;exact⟨rfl,hb.alloc hb.size _⟩
 · go_enter Tryz.func20,Tryz.ntmps20;simp only[zh];go_wp2_with fail;refine(zhp _ _ _ hD).mono ?_;rintro e w1 ⟨rfl,hb⟩;go_wp2_with fail;go_ret;exact⟨rfl,hb.alloc hb.size _⟩
theorem Tryz.asIsF (v:Value) (xT:TypeId) (w:World):(Instr.typeAssert (.iface 112 v) xT 356 true).run Tryz.prog w=.ok (.tuple #[.nilIface,.bool false]) w:=
 run_typeAssert_lacksB Tryz.underlying356 (by kernel_rfl) (by kernel_rfl) v xT w
theorem znt (x:Value) (d:Int) (w:World):(binOp .eql 29 (.iface 112 x) (.iface 35 (.int .i64 d))).run Tryz.prog w=.ok (.bool false) w:=
 run_eql_iface_types 112 35 x _ Tryz.underlying29 (by decide) w
theorem znu (c a d:Int) (w:World):
 Calls Tryz.prog 241 #[.iface 112 (.agg #[.int .i64 c,.int .i64 a]),.iface 35 (.int .i64 d),.bool true] w fun e w'=>e=.returned (.bool (decide (c=d)))∧Below w.heap.size w w':=by
 have s1:=Tryz.asIsE;have s2:=Tryz.asUnE;have s3:=Tryz.asUmE;have s4:=Tryz.asIsF;have s5:=Tryz.asUnF;have mU:=Tryz.methodUnF;have q1:=znt (.agg #[.int .i64 c,.int .i64 a]) d;by_cases h:c=d
 · have hq:∀w:World,(binOp .eql 29 (.iface 35 (.int .i64 c)) (.iface 35 (.int .i64 d))).run Tryz.prog w=.ok (.bool true) w:=fun w=>by rw[zde,decide_eq_true h]
   have He:=hid (decide_eq_true h);clear h;go_enter Tryz.func241,Tryz.ntmps241;go_wp2;refine wp_loop_rounds 2 ?_;rw[rounds_succ];go_wp2_with fail;refine(ze3 c a _).mono ?_;rintro e w' ⟨rfl,rfl⟩;go_wp2_with fail;rw[rounds_succ];go_wp2;go_ret;exact⟨by rw[He.out];rfl,(Below.refl _ _).alloc (Nat.le_refl _) _⟩
 · have hq:∀w:World,(binOp .eql 29 (.iface 35 (.int .i64 c)) (.iface 35 (.int .i64 d))).run Tryz.prog w=.ok (.bool false) w:=fun w=>by rw[zde,decide_eq_false h]
   have He:=hid (decide_eq_false h);clear h;go_enter Tryz.func241,Tryz.ntmps241;go_wp2;refine wp_loop_rounds 2 ?_;rw[rounds_succ];go_wp2_with fail;refine(ze3 c a _).mono ?_;rintro e w' ⟨rfl,rfl⟩;go_wp2_with fail;rw[rounds_succ];go_wp2;go_ret;exact⟨by rw[He.out];rfl,(Below.refl _ _).alloc (Nat.le_refl _) _⟩
set_option maxRecDepth 20000 in
theorem znv (c a d:Int) (w:World):
 Calls Tryz.prog 201 #[.iface 112 (.agg #[.int .i64 c,.int .i64 a]),.iface 35 (.int .i64 d)] w fun e w'=>e=.returned (.bool (decide (c=d)))∧Below w.heap.size w w':=by
 have hTO:=@run_callFunc_extern Tryz.prog 138 _ ReflectliteType.typeOf Tryz.func138 (by kernel_rfl) (by kernel_rfl) (by kernel_rfl) (by kernel_rfl);have hCm:=@run_callFunc_extern Tryz.prog 336 _ (ReflectliteType.method (fun t=>do Rtype.noPackHeld "Comparable" t;pure (.bool (←typeInfo t).comparable))) Tryz.func336 (by kernel_rfl) (by kernel_rfl) (by kernel_rfl) (by kernel_rfl);have tO:=Tryz.typeOfE;have mC:=Tryz.methodComparable;have cE:=Tryz.comparableE;have hC:=hid (znu c a d);go_enter Tryz.func201,Tryz.ntmps201;go_wp2_with fail;refine(hC.out _).mono ?_;rintro e w1 ⟨rfl,hb⟩;have Hb:=hid hb;clear hb;go_wp2_with fail;go_ret;exact⟨rfl,Hb.out⟩
end
section
open Go.RowKit
theorem zcm (w:World):Calls Tryz.prog 152 #[] w fun e w'=>e=.returned (.agg #[.int .u8 75,.int .u8 78,.int .u8 87,.int .u8 76])∧Below w.heap.size w w':=by
 go_enter Tryz.func152,Tryz.ntmps152;go_wp2;exact bodyPost_ret (v:=.agg #[.int .u8 75,.int .u8 78,.int .u8 87,.int .u8 76]) (by simp[results,Tryz.results152,go_sem]) rfl ⟨rfl,(Below.refl _ _).alloc (Nat.le_refl _) _⟩
def jc (s:Iv) (x:Nat):Int:=if s.2<x then -1 else if x<s.1 then 1 else 0
theorem zhq (s:Iv) (x:Nat) (w:World):
 Calls Tryz.prog 259 #[ivV s,.int .u64 x] w fun e w'=>e=.returned (.int .i64 (jc s x))∧Below w.heap.size w w':=by
 obtain⟨a,b⟩:=s;have hb:=(Below.refl w.heap.size w).alloc (Nat.le_refl _) (.cells #[.int .u64 a,.int .u64 b] 89);by_cases h1:b<x
 · have Hr:=hid (show jc (a,b) x= -1 from by simp[jc,h1]);generalize jc (a,b) x=r at*;go_enter Tryz.func259,Tryz.ntmps259;go_wp2;go_ret;exact⟨vq Hr.out.symm,hb⟩
 · by_cases h2:x<a
   · have Hr:=hid (show jc (a,b) x=1 from by simp[jc,h1,h2]);generalize jc (a,b) x=r at*;go_enter Tryz.func259,Tryz.ntmps259;go_wp2;go_ret;exact⟨vq Hr.out.symm,hb⟩
   · have Hr:=hid (show jc (a,b) x=0 from by simp[jc,h1,h2]);generalize jc (a,b) x=r at*;go_enter Tryz.func259,Tryz.ntmps259;go_wp2;go_ret;exact⟨vq Hr.out.symm,hb⟩
def fnd (l:List Iv) (x:Nat):Nat:=(l.takeWhile fun s=>decide (s.2<x)).length
theorem zhr:∀{l:List Iv} {x i:Nat},i≤l.length→(∀t,t<i→(zb l t).2<x)→(∀t,i≤t→t<l.length→¬(zb l t).2<x)→fnd l x=i
 | [],x,i,hi,_,_=>by simp at hi;subst hi;rfl
 | s :: l,x,i,hi,h1,h2=>by
   cases i with
   | zero=>
    have:=h2 0 (by omega) (by simp);have e:¬s.2<x:=this
    simp[fnd,e]
   | succ i=>
    have e:s.2<x:=h1 0 (by omega);have:=zhr (l:=l) (x:=x) (i:=i) (by simpa using hi) (fun t ht=>h1 (t+1) (by omega)) (fun t ht htl=>h2 (t+1) (by omega) (by simpa using htl));unfold fnd at this ⊢;rw[List.takeWhile_cons,if_pos (by simpa using e)];simpa using this
theorem zbm {l:List Iv} (h:Good l) {i j:Nat} (hij:i<j) (hj:j<l.length):(zb l i).2+1<(zb l j).1:=by
 induction j with
 | zero=>omega
 | succ j ih=>
  have h1:=(ku h (j+1) hj).2 (by omega);rw[Nat.add_sub_cancel] at h1;by_cases e:i=j
  · subst e;exact h1
  · have:=ih (by omega) (by omega);have:=(ku h j (by omega)).1;omega
theorem znw {l:List Iv} (h:Good l) {x i:Nat} (hi:i≤l.length) (h1:∀t,t<i→(zb l t).2<x) (h2:∀t,i≤t→t<l.length→¬(zb l t).2<x):
 mem l x=(decide (i<l.length) && decide ((zb l i).1≤x)):=by
 rw[Bool.eq_iff_iff,mem_iff];simp only[Bool.and_eq_true,decide_eq_true_iff];constructor
 · rintro⟨s,hs,k1,k2⟩;obtain⟨t,ht,rfl⟩:=List.getElem_of_mem hs;rw[←yr ht] at k1 k2
   have:i≤t:=by
    refine Nat.le_of_not_lt fun hlt=>?_
    have:=h1 t hlt;omega
   refine⟨by omega,?_⟩;by_cases e:i=t
   · subst e;exact k1
   · have:=zbm h (i:=i) (j:=t) (by omega) ht;have:=(ku h i (by omega)).1;omega
 · rintro⟨k1,k2⟩;exact⟨zb l i,zad k1,k2,by have:=h2 i (Nat.le_refl _) k1;omega⟩
set_option maxRecDepth 20000 in
theorem znx (a:Option Addr) (n cap x:Nat) (l:List Iv) (w:World) (hI:Ivs w a n cap l) (hG:Good l) (hn:n≤1000000):
 Calls Tryz.prog 258 #[.slice a n cap,.int .u64 x,.func (.func 259) #[] #[]] w fun e w'=>
  e=.returned (.tuple #[.int .i64 ((fnd l x:Nat):Int),.bool (mem l x)])∧Below w.heap.size w w':=by
 have HI:=hid hI;have HG:=hid hG;have Hl:=hid hI.len;clear hI hG;go_enter Tryz.func258,Tryz.ntmps258;go_wp2;go_loopw [9,10,11] (fun i j _ wr=>∃p q:Nat,p≤q∧q≤n∧i=.int .i64 p∧j=.int .i64 q∧Below w.heap.size w wr∧Hid ((∀t,t<p→(zb l t).2<x)∧∀t,q≤t→t<n→¬(zb l t).2<x)) (fun i j _ _=>(intOf j).toNat - (intOf i).toNat)
 case atStart=>exact⟨0,n,by omega,by omega,rfl,rfl,Below.refl _ _,fun t ht=>by omega,fun t h1 h2=>by omega⟩
 case round=>
  obtain⟨p,q,hpq,hqn,rfl,rfl,hb,ht⟩:=hrel;have Hb:=hid hb;clear hb;by_cases hlt:p<q
  · obtain⟨bb,oo,rfl,hcell⟩:=(HI.out.below Hb.out).cells (by omega);obtain⟨h,hh,hph,hhq⟩:∃h:Nat,((p:Int)+(q:Int)) / 2=(h:Int)∧p≤h∧h<q:=⟨(p+q) / 2,by omega,by omega,by omega⟩;have hhn:h<n:=by omega
    obtain⟨hc1,hc2⟩:=hcell h hhn;clear hcell;have hC:=hid (fun w=>zhq (zb l h) x w);have Hms:=hid (fun t (ht:t<h)=>zbm HG.out ht (by rw[Hl.out];exact hhn));have Hms2:=hid (fun t (ht:h<t) (htl:t<n)=>zbm HG.out ht (by rw[Hl.out];exact htl));have Hok:=hid (fun t (ht:t<n)=>(ku HG.out t (by rw[Hl.out];exact ht)).1);by_cases hlx:(zb l h).2<x
    · have Hlx:=hid hlx;rw[show jc (zb l h) x= -1 from by simp[jc,hlx]] at hC;clear hlx
      have Hr:=hid (show ∀t,t<h+1→(zb l t).2<x from by
       intro t htt;by_cases e:t=h
       · subst e;exact Hlx.out
       · have h1:=Hms.out t (by omega);have h2:=Hok.out h hhn;have h3:=Hlx.out;omega)
      generalize zb l h=s at*;go_wp2_with fail;refine(hC.out _).mono ?_;rintro e w1 ⟨rfl,hb1⟩;have Hb1:=hid (Hb.out.trans (hb1.mono Hb.out.size));clear hb1;clear hc1 hc2 hh;go_wp2_with fail;go_roundw
      case rel=>exact⟨h+1,q,by omega,by omega,by go_num,rfl,Hb1.out,Hr.out,ht.out.2⟩
      case measure=>simp[intOf];omega
    · have Hr:=hid (show ∀t,h≤t→t<n→¬(zb l t).2<x from by
       intro t htt htn;by_cases e:t=h
       · subst e;exact hlx
       · have h1:=Hms2.out t (by omega) htn;have h2:=Hok.out t htn;omega)
      have hcv:0≤jc (zb l h) x:=by unfold jc;rw[if_neg hlx];split <;> omega
      generalize jc (zb l h) x=cv at*;generalize zb l h=s at*;clear hlx;go_wp2_with fail;refine(hC.out _).mono ?_;rintro e w1 ⟨rfl,hb1⟩;have Hb1:=hid (Hb.out.trans (hb1.mono Hb.out.size));clear hb1;clear hc1 hc2 hh;go_wp2_with fail;go_roundw
      case rel=>exact⟨p,h,by omega,by omega,rfl,rfl,Hb1.out,ht.out.1,Hr.out⟩
      case measure=>simp[intOf];omega
  · obtain rfl:p=q:=by omega
    have Hf:=hid (zhr (l:=l) (x:=x) (i:=p) (by rw[Hl.out];exact hqn) ht.out.1 (fun t h1 h2=>ht.out.2 t h1 (by rw[←Hl.out];exact h2)));have Hm:=hid (znw HG.out (x:=x) (i:=p) (by rw[Hl.out];exact hqn) ht.out.1 (fun t h1 h2=>ht.out.2 t h1 (by rw[←Hl.out];exact h2)));rw[Hl.out] at Hm;by_cases hpn:p<n
    · obtain⟨bb,oo,rfl,hcell⟩:=(HI.out.below Hb.out).cells (by omega);obtain⟨hc1,hc2⟩:=hcell p hpn;clear hcell;have hC:=hid (fun w=>zhq (zb l p) x w);have hnl:=ht.out.2 p (Nat.le_refl _) hpn;rw[decide_eq_true hpn,Bool.true_and] at Hm;by_cases hxs:(zb l p).1≤x
      · rw[decide_eq_true hxs] at Hm;rw[show jc (zb l p) x=0 from by unfold jc;rw[if_neg hnl,if_neg (by omega)]] at hC;generalize zb l p=s at*;clear hnl hxs;go_wp2_with fail;refine(hC.out _).mono ?_;rintro e w1 ⟨rfl,hb1⟩;have Hb1:=hid (Hb.out.trans (hb1.mono Hb.out.size));clear hb1;clear hc1 hc2;go_wp2_with fail;go_ret2;exact⟨by rw[Hf.out,Hm.out];rfl,Hb1.out⟩
      · rw[decide_eq_false hxs] at Hm;rw[show jc (zb l p) x=1 from by unfold jc;rw[if_neg hnl,if_pos (by omega)]] at hC;generalize zb l p=s at*;clear hnl hxs;go_wp2_with fail;refine(hC.out _).mono ?_;rintro e w1 ⟨rfl,hb1⟩;have Hb1:=hid (Hb.out.trans (hb1.mono Hb.out.size));clear hb1;clear hc1 hc2;go_wp2_with fail;go_ret2;exact⟨by rw[Hf.out,Hm.out];rfl,Hb1.out⟩
    · obtain rfl:p=n:=by omega
      rw[decide_eq_false hpn,Bool.false_and] at Hm;have hd:decide ((p:Int)<(p:Int))=false:=by simp
      go_wp2_with fail;go_ret2;exact⟨by rw[Hf.out,Hm.out];rfl,Hb.out⟩
def zbn (l:List Iv) (x:Nat):Int:=if mem l x=true then ((fnd l x:Nat):Int) else -1
theorem zny (a:Option Addr) (n cap x:Nat) (l:List Iv) (w:World) (hI:Ivs w a n cap l) (hG:Good l) (hn:n≤1000000):
 Calls Tryz.prog 225 #[.slice a n cap,.int .u64 x] w fun e w'=>e=.returned (.int .i64 (zbn l x))∧Below w.heap.size w w':=by
 have hC:=hid (znx a n cap x l w hI hG hn);clear hI hG;unfold zbn
 cases hm:mem l x with
 | true=>
  rw[hm] at hC;rw[if_pos rfl];clear hm;generalize fnd l x=f at*;go_enter Tryz.func225,Tryz.ntmps225;go_wp2_with fail;refine hC.out.mono ?_;rintro e w1 ⟨rfl,hb1⟩;go_wp2;go_ret
  exact⟨rfl,hb1⟩
 | false=>
  rw[hm] at hC;rw[if_neg (by simp)];clear hm;generalize fnd l x=f at*;go_enter Tryz.func225,Tryz.ntmps225;go_wp2_with fail;refine hC.out.mono ?_;rintro e w1 ⟨rfl,hb1⟩;go_wp2;go_ret;exact⟨rfl,hb1⟩
theorem znz (a:Option Addr) (n cap x:Nat) (l:List Iv) (w:World) (hI:Ivs w a n cap l) (hG:Good l) (hn:n≤1000000):
 Calls Tryz.prog 181 #[.slice a n cap,.int .u64 x] w fun e w'=>e=.returned (.bool (mem l x))∧Below w.heap.size w w':=by
 have hC:=hid (zny a n cap x l w hI hG hn);clear hI hG
 cases h:mem l x with
 | true=>
  have hd:zbn l x=((fnd l x:Nat):Int):=by unfold zbn;rw[if_pos h]
  rw[hd] at hC;clear h hd;generalize fnd l x=f at*;have hd:decide (0≤(f:Int))=true:=by rw[decide_eq_true_iff];omega
  go_enter Tryz.func181,Tryz.ntmps181;go_wp2_with fail;refine hC.out.mono ?_;rintro e w1 ⟨rfl,hb1⟩;go_wp2;go_ret
  exact⟨za0 (by simp),hb1⟩
 | false=>
  have hd:zbn l x= -1:=by unfold zbn;rw[if_neg (by rw[h];simp)]
  rw[hd] at hC;clear h hd;go_enter Tryz.func181,Tryz.ntmps181;go_wp2_with fail;refine hC.out.mono ?_;rintro e w1 ⟨rfl,hb1⟩;go_wp2;go_ret;exact⟨za0 (by simp),hb1⟩
def yj (l:List Nat):List Value:=l.map fun x=>Value.int .i64 ((x:Nat):Int)
theorem zn0 (a b:List Nat):yj (a++b)=yj a++yj b:=by simp[yj]
theorem zhs (l:List Nat) (i:Nat) (h:i<l.length):(yj l)[i]?=some (.int .i64 ((nth l i:Nat):Int)):=by simp[yj,nth,h]
theorem zn1 (l:List Nat):∀u∈yj l,u.oneCell'=true:=by
 intro u hu;simp only[yj,List.mem_map] at hu;obtain⟨x,_,rfl⟩:=hu
 rfl
structure I64s (w:World) (a:Option Addr) (n cap:Nat) (l:List Nat):Prop where
 len:l.length=n
 room:n≤cap
 most:cap≤9223372036854775807
 nilc:a=none→cap=0
 cells:0<n→∃b o,a=some ⟨b,o,none⟩∧∀i,i<n→w.cell? ⟨b,o+i,none⟩=some (.int .i64 ((nth l i:Nat):Int))
theorem I64s.below {w w':World} {a:Option Addr} {n cap:Nat} {l:List Nat} (h:I64s w a n cap l) (hb:Below w.heap.size w w'):I64s w' a n cap l:=by
 refine⟨h.len,h.room,h.most,h.nilc,fun hn=>?_⟩;obtain⟨b,o,ha,hc⟩:=h.cells hn;refine⟨b,o,ha,fun i hi=>?_⟩;have:=hc i hi;exact(hb.cell (p:=⟨b,o+i,none⟩) (ze this)).trans this
theorem Tryz.info_int:(Tryz.prog.info? 3).map (fun i=>(i.zero,i.size,i.bytes))=some (some (.int .i64 0),1,8):=by kernel_rfl
theorem zht {w:World} (base:Nat) (v:Value) (n:Nat) (xs:List Nat) (hown:w.ownsRow base 3 1 v n (yj xs)) (A:Option Addr) (m c:Nat) (l:List Nat) (hr:Rd w 1 A m (yj l)) (hb:n+m≤1000000) (hbase:base≤w.heap.size):
 ∃v' w',(Builtin.append_ #[60,60] 60 #[v,.slice A m c]).run Tryz.prog w=.ok v' w'∧w'.ownsRow base 3 1 v' (n+m) (yj (xs++l))∧w.grownBy w' v.ownBlock:=by
 rw[zn0];exact za4 base _ _ _ _ 1 8 Tryz.underlying60 Tryz.info_int rfl (by omega) v n _ hown A m c _ hr (zn1 l) (by unfold maxLen;omega) (by omega) hbase
theorem zn2 {w:World} {ops:Array Oper} {rest:List Oper} {o:Oper} {a:Act} {Q:Exit→Act→World→Prop} (hgd:o.guard=none) (s x:Operand)
 (ho:o.op=.call { callee:=.builtin .append,args:= #[s,x],argTypes:= #[60,60] }) (hty:o.type=60)
 (base:Nat) (v:Value) (n:Nat) (xs:List Nat) (hs:a.eval s=v) (hown:w.ownsRow base 3 1 v n (yj xs)) (A:Option Addr) (m c:Nat) (l:List Nat) (hx:a.eval x=.slice A m c) (hr:Rd w 1 A m (yj l)) (hb:n+m≤1000000) (hbase:base≤w.heap.size)
 (h:∀v' w',w'.ownsRow base 3 1 v' (n+m) (yj (xs++l))→w.grownBy w' v.ownBlock→wpList Tryz.prog ops Q rest (a.put o.dst v') w'):wpList Tryz.prog ops Q (o :: rest) a w:=by
 obtain⟨v',w',hrun,h1,h2⟩:=zht base v n xs hown A m c l hr hb hbase;exact qf _ _ _ ho (by simp[Region.wanted,hgd]) _ _ hs hx v' w' (by rw[hty];exact hrun) (h v' w' h1 h2)
end
section
open Go.RowKit Go.Shelf
def zf (v:Vec) (i:Nat):Ent:=v.getD i (0,0,[])
theorem jq {v:Vec} {i:Nat} (h:i<v.length):zf v i=v[i]:=by simp[zf,h]
theorem zcn {v:Vec} {i:Nat} (h:i<v.length):zf v i∈v:=by rw[jq h];exact List.getElem_mem h
structure Ents (w:World) (a:Option Addr) (n cap:Nat) (v:Vec):Prop where
 len:v.length=n
 lt:LtV v
 room:n≤cap
 most:cap≤9223372036854775807
 nilc:a=none→cap=0
 cells:0<n→∃b o,a=some ⟨b,o,none⟩∧∀i,i<n→w.cell? ⟨b,o+i*3,none⟩=some (.int .u64 (((zf v i).1:Nat):Int))∧w.cell? ⟨b,o+i*3+1,none⟩=some (.int .u64 (((zf v i).2.1:Nat):Int))∧
  ∃x k c,w.cell? ⟨b,o+i*3+2,none⟩=some (.slice x k c)∧Ivs w x k c (zf v i).2.2
theorem Ents.below {w w':World} {a:Option Addr} {n cap:Nat} {v:Vec} (h:Ents w a n cap v) (hb:Below w.heap.size w w'):Ents w' a n cap v:=by
 refine⟨h.len,h.lt,h.room,h.most,h.nilc,fun hn=>?_⟩;obtain⟨b,o,ha,hc⟩:=h.cells hn;refine⟨b,o,ha,fun i hi=>?_⟩;obtain⟨h1,h2,x,k,c,h3,h4⟩:=hc i hi;exact⟨(hb.cell (p:=⟨b,o+i*3,none⟩) (ze h1)).trans h1,(hb.cell (p:=⟨b,o+i*3+1,none⟩) (ze h2)).trans h2,x,k,c,(hb.cell (p:=⟨b,o+i*3+2,none⟩) (ze h3)).trans h3,h4.below hb⟩
theorem zhu (w:World):Ents w none 0 0 []:=⟨rfl,by simp,by omega,by omega,fun _=>rfl,fun h=>by omega⟩
def zaj (w:World) (base:Nat) (T:TypeId) (b:Nat):Prop:=b<base∨∃C fr,w.heap[b]?=some (.cells C T fr)
structure Steady (base:Nat) (P:TypeId→Prop) (w w':World):Prop where
 size:w.heap.size≤w'.heap.size
 row:∀k,k<w.heap.size→(k<base∨∃C T fr,P T∧w.heap[k]?=some (.cells C T fr))→w'.heap[k]?=w.heap[k]?
theorem Steady.of_below {base:Nat} {P:TypeId→Prop} {w w':World} (h:Below w.heap.size w w'):Steady base P w w':=⟨h.size,fun k hk _=>h.block k hk⟩
theorem Steady.trans {base:Nat} {P:TypeId→Prop} {a b c:World} (h:Steady base P a b) (k:Steady base P b c):Steady base P a c:=
 ⟨Nat.le_trans h.size k.size,fun i hi hp=>(k.row i (Nat.lt_of_lt_of_le hi h.size) (hp.imp id fun ⟨C,T,fr,hT,hr⟩=>⟨C,T,fr,hT,(h.row i hi (.inr ⟨C,T,fr,hT,hr⟩)).trans hr⟩)).trans (h.row i hi hp)⟩
theorem Steady.weak {base:Nat} {P Q:TypeId→Prop} {w w':World} (h:Steady base P w w') (hq:∀T,Q T→P T):Steady base Q w w':=⟨h.size,fun k hk hp=>h.row k hk (hp.imp id fun ⟨C,T,fr,hT,hr⟩=>⟨C,T,fr,hq T hT,hr⟩)⟩
theorem Steady.lower {base base':Nat} {P:TypeId→Prop} {w w':World} (h:Steady base P w w') (hb:base'≤base):Steady base' P w w':=⟨h.size,fun k hk hp=>h.row k hk (hp.imp (fun h=>by omega) id)⟩
theorem Steady.grown {base sz n:Nat} {P:TypeId→Prop} {w w':World} {e:TypeId} {v:Value} {xs:List Value} (ho:w.ownsRow base e sz v n xs) (hg:w.grownBy w' v.ownBlock) (he:¬P e):Steady base P w w':=by
 refine⟨hg.size,fun k hk hp=>hg.block k hk fun hr=>?_⟩;rcases ho.2 with ⟨rfl,_⟩ | ⟨g,cap,cur,rfl,hb,hh,_⟩
 · simp[Value.ownBlock] at hr
 · simp[Value.ownBlock] at hr;subst hr;rcases hp with h | ⟨C,T,fr,hT,h⟩
   · omega
   · rw[hh] at h;cases h;exact he hT
theorem Steady.setCell {base:Nat} {P:TypeId→Prop} {w:World} {a:Addr} {u:Value} {e:TypeId} {C:Array Value} {fr:Nat×Nat} (h:w.heap[a.block]?=some (.cells C e fr)) (hb:base≤a.block) (he:¬P e):Steady base P w (w.setCell a u):=by
 refine⟨by simp[World.setCell],fun k hk hp=>Below.heap_setCell _ _ _ _ fun hr=>?_⟩;subst hr;rcases hp with h' | ⟨C',T,fr',hT,h'⟩
 · omega
 · rw[h] at h';cases h';exact he hT
def zdq (T:TypeId):Prop:=T=89
def ky (T:TypeId):Prop:=T=89∨T=93
theorem zdr {w w':World} {base:Nat} {T:TypeId} {P:TypeId→Prop} {b:Nat} (h:zaj w base T b) (hb:b<w.heap.size) (hs:Steady base P w w') (hT:P T):zaj w' base T b∧w'.heap[b]?=w.heap[b]?:=by
 rcases h with h | ⟨C,fr,h⟩
 · exact⟨.inl h,hs.row b hb (.inl h)⟩
 · have:=hs.row b hb (.inr ⟨C,T,fr,hT,h⟩);exact⟨.inr ⟨C,fr,this.trans h⟩,this⟩
structure IvsT (w:World) (base:Nat) (a:Option Addr) (n c:Nat) (l:List Iv):Prop where
 ivs:Ivs w a n c l
 row:0<n→∀p,a=some p→zaj w base 89 p.block
theorem IvsT.steady {w w':World} {base:Nat} {P:TypeId→Prop} {a:Option Addr} {n c:Nat} {l:List Iv} (h:IvsT w base a n c l) (hs:Steady base P w w') (hP:P 89):IvsT w' base a n c l:=by
 refine⟨⟨h.ivs.len,h.ivs.lt,h.ivs.room,h.ivs.most,h.ivs.nilc,fun hn=>?_⟩,fun hn p hp=>?_⟩
 · obtain⟨b,o,ha,hc⟩:=h.ivs.cells hn;have hb:=ze (hc 0 hn).1;obtain⟨-,hrow⟩:=zdr (h.row hn _ ha) hb hs hP;exact⟨b,o,ha,fun i hi=>⟨(World.cell?_of_block (a:=⟨b,o+i*2,none⟩) hrow).trans (hc i hi).1,(World.cell?_of_block (a:=⟨b,o+i*2+1,none⟩) hrow).trans (hc i hi).2⟩⟩
 · obtain⟨b,o,ha,hc⟩:=h.ivs.cells hn;rw[ha] at hp;cases hp;exact(zdr (h.row hn _ ha) (ze (hc 0 hn).1) hs hP).1
theorem IvsT.lower {w:World} {base base':Nat} {a:Option Addr} {n c:Nat} {l:List Iv} (h:IvsT w base a n c l) (hr:∀b,zaj w base 89 b→zaj w base' 89 b):IvsT w base' a n c l:=⟨h.ivs,fun hn p hp=>hr _ (h.row hn p hp)⟩
theorem zhv {w:World} {base base' n:Nat} {v:Value} {l:List Iv} (h:w.ownsRow base 89 2 v n (ivC l)) (hl:yg l):∃a c,v=.slice a n c∧IvsT w base' a n c l:=by
 obtain⟨a,c,rfl,hI⟩:=ze1 h hl;refine⟨a,c,rfl,hI,fun hn p hp=>?_⟩;rcases h.2 with ⟨h',_⟩ | ⟨g,cap,cur,h',_,hh,_⟩
 · cases h';cases hp
 · simp only[Value.slice.injEq] at h';obtain⟨rfl,_⟩:=h';cases hp;exact .inr ⟨_,_,hh⟩
def jr (v:Vec) (ss:List Value):List Value:=(v.zip ss).flatMap fun p=>[.int .u64 ((p.1.1:Nat):Int),.int .u64 ((p.1.2.1:Nat):Int),p.2]
theorem zds:∀{v:Vec} {ss:List Value},ss.length=v.length→(jr v ss).length=v.length*3
 | [],_,_=>by simp[jr]
 | e :: v,[],h=>by simp at h
 | e :: v,s :: ss,h=>by
   have:=zds (v:=v) (ss:=ss) (by simpa using h);simp only[jr,List.zip_cons_cons,List.flatMap_cons,List.length_append,List.length_cons,List.length_nil] at this ⊢;omega
theorem zhw {v u:Vec} {ss ts:List Value} (h:ss.length=v.length):jr (v++u) (ss++ts)=jr v ss++jr u ts:=by
 unfold jr;rw[List.zip_append h.symm,List.flatMap_append]
theorem zfb:∀{v:Vec} {ss:List Value} {i:Nat},ss.length=v.length→i<v.length→
 (jr v ss)[i*3]?=some (.int .u64 (((zf v i).1:Nat):Int))∧(jr v ss)[i*3+1]?=some (.int .u64 (((zf v i).2.1:Nat):Int))∧(jr v ss)[i*3+2]?=ss[i]?
 | [],_,i,_,h=>by simp at h
 | e :: v,[],i,h,_=>by simp at h
 | e :: v,s :: ss,0,_,_=>⟨rfl,rfl,rfl⟩
 | e :: v,s :: ss,i+1,h,hi=>by
   have:=zfb (v:=v) (ss:=ss) (i:=i) (by simpa using h) (by simpa using hi);have e1:jr (e :: v) (s :: ss)=.int .u64 ((e.1:Nat):Int) :: .int .u64 ((e.2.1:Nat):Int) :: s :: jr v ss:=rfl;rw[e1,show (i+1)*3=i*3+1+1+1 by omega,show i*3+1+1+1+1=(i*3+1)+1+1+1 by omega,show i*3+1+1+1+2=(i*3+2)+1+1+1 by omega];simpa [zf] using this
def HolesT (w:World) (base:Nat) (v:Vec) (ss:List Value):Prop:=ss.length=v.length∧∀i,i<v.length→∃a n c,ss[i]?=some (.slice a n c)∧IvsT w base a n c (zf v i).2.2
theorem HolesT.steady {w w':World} {base:Nat} {P:TypeId→Prop} {v:Vec} {ss:List Value} (h:HolesT w base v ss) (hs:Steady base P w w') (hP:P 89):HolesT w' base v ss:=
 ⟨h.1,fun i hi=>let ⟨a,n,c,h1,h2⟩:=h.2 i hi;⟨a,n,c,h1,h2.steady hs hP⟩⟩
theorem zn3 (w:World) (base:Nat):HolesT w base [] []:=⟨rfl,fun i hi=>by simp at hi⟩
theorem HolesT.snoc {w:World} {base:Nat} {v:Vec} {ss:List Value} {e:Ent} {a:Option Addr} {n c:Nat} (h:HolesT w base v ss) (hI:IvsT w base a n c e.2.2):HolesT w base (v++[e]) (ss++[.slice a n c]):=by
 refine⟨by simp[h.1],fun i hi=>?_⟩;by_cases hv:i<v.length
 · obtain⟨x,k,d,h1,h2⟩:=h.2 i hv;refine⟨x,k,d,by rw[List.getElem?_append_left (by rw[h.1];exact hv)];exact h1,?_⟩;have:zf (v++[e]) i=zf v i:=by rw[jq hi,jq hv,List.getElem_append_left hv]
   rw[this];exact h2
 · have hiv:i=v.length:=by simp at hi;omega
   subst hiv;refine⟨a,n,c,by rw[List.getElem?_append_right (by rw[h.1];omega),h.1];simp,?_⟩;have:zf (v++[e]) v.length=e:=by simp[zf]
   rw[this];exact hI
def OwnV (w:World) (base:Nat) (x:Value) (v:Vec):Prop:=∃ss,w.ownsRow base 93 3 x v.length (jr v ss)∧HolesT w 0 v ss
theorem zn4 (w:World) (base:Nat):OwnV w base (.slice none 0 0) []:=⟨[],World.ownsRow_nil ..,zn3 w 0⟩
theorem OwnV.steady {w w':World} {base:Nat} {P:TypeId→Prop} {x:Value} {v:Vec} (h:OwnV w base x v) (hs:Steady base P w w') (h1:P 89) (h2:P 93):OwnV w' base x v:=by
 obtain⟨ss,ho,hh⟩:=h;refine⟨ss,⟨ho.1,?_⟩,hh.steady (hs.lower (Nat.zero_le _)) h1⟩;rcases ho.2 with h' | ⟨g,cap,cur,hv,hg,hr,rest⟩
 · exact .inl h'
 · exact .inr ⟨g,cap,cur,hv,hg,(hs.row g (Array.getElem?_eq_some_iff.1 hr).1 (.inr ⟨_,_,_,h2,hr⟩)).trans hr,rest⟩
theorem OwnV.below {w w':World} {base:Nat} {x:Value} {v:Vec} (h:OwnV w base x v) (hb:Below w.heap.size w w'):OwnV w' base x v:=
 h.steady (P:=fun _=>True) (.of_below hb) trivial trivial
theorem OwnV.ents {w:World} {base:Nat} {x:Value} {v:Vec} (h:OwnV w base x v) (hl:LtV v):∃a c,x=.slice a v.length c∧Ents w a v.length c v:=by
 obtain⟨ss,ho,hs⟩:=h;have ho2:=ho;rcases ho.2 with ⟨rfl,h0⟩ | ⟨g,cap,cur,rfl,hg,hh,hnc,hcm,_⟩
 · rw[h0];have:v=[]:=List.length_eq_zero_iff.1 h0;subst this;exact⟨none,0,rfl,zhu w⟩
 · refine⟨_,_,rfl,rfl,hl,hnc,by unfold maxLen at hcm;omega,(by intro h;cases h),fun hn=>⟨g,0,rfl,fun i hi=>?_⟩⟩;obtain⟨e1,e2,e3⟩:=zfb hs.1 hi;obtain⟨a,n,c,h1,h2⟩:=hs.2 i hi;rw[h1] at e3;have c1:=ho2.cells (g:=g) rfl _ _ e1;have c2:=ho2.cells (g:=g) rfl _ _ e2;have c3:=ho2.cells (g:=g) rfl _ _ e3;rw[ye] at c1 c2 c3;exact⟨c1,by rw[Nat.add_assoc];exact c2,a,n,c,by rw[Nat.add_assoc];exact c3,h2.ivs⟩
theorem OwnV.lower {w:World} {base base':Nat} {x:Value} {v:Vec} (h:OwnV w base x v) (hb:base'≤base):OwnV w base' x v:=by
 obtain⟨ss,ho,hh⟩:=h;exact⟨ss,j3 ho hb,hh⟩
theorem Tryz.info_ent:(Tryz.prog.info? 93).map (fun i=>(i.zero,i.size,i.bytes))=some (some (.agg #[.int .u64 0,.int .u64 0,.slice none 0 0]),3,40):=by kernel_rfl
end
section
open Go.RowKit
theorem zdt {B g i j:Nat} {w W:World} {x y:Value} (h:Below B w W) (hg:B≤g):Below B w ((W.setCell ⟨g,i,none⟩ x).setCell ⟨g,j,none⟩ y):=(h.setCell hg _).setCell hg _
def qy {α:Type} (f:Nat→Option α) (n:Nat):Option α:=(List.range n).findSome? f
theorem zak {α:Type} {f:Nat→Option α} {n k:Nat} {x:α} (hk:k<n) (h:∀j,j<k→f j=none) (hx:f k=some x):qy f n=some x:=by
 unfold qy
 induction n with
 | zero=>omega
 | succ n ih=>
  rw[List.range_succ,List.findSome?_append];by_cases e:k=n
  · subst e
    have h0:(List.range k).findSome? f=none:=by
     rw[List.findSome?_eq_none_iff];intro j hj;exact h j (by simpa using hj)
    rw[h0];simp[hx]
  · rw[ih (by omega)]
    rfl
theorem zdu {α:Type} {f:Nat→Option α} {n:Nat} (h:∀j,j<n→f j=none):qy f n=none:=by
 unfold qy;rw[List.findSome?_eq_none_iff];intro j hj;exact h j (by simpa using hj)
theorem zn5 {α:Type} {f:Nat→Option α} {n:Nat} (h:qy f n=none):∀j,j<n→f j=none:=by
 unfold qy at h;rw[List.findSome?_eq_none_iff] at h;intro j hj;exact h j (by simpa using hj)
theorem zfc {α:Type} {f:Nat→Option α} {n:Nat} {x:α} (h:qy f n=some x):∃k,k<n∧(∀j,j<k→f j=none)∧f k=some x:=by
 induction n with
 | zero=>cases h
 | succ n ih=>
  unfold qy at h ih;rw[List.range_succ,List.findSome?_append] at h
  cases e:(List.range n).findSome? f with
  | some y=>
   rw[e] at h ih;obtain⟨k,h1,h2,h3⟩:=ih h
   exact⟨k,by omega,h2,h3⟩
  | none=>
   rw[e] at h;refine⟨n,by omega,zn5 e,?_⟩;simpa using h
def zbo (l:List Iv) (i:Nat):Option (Nat×Nat):=
 if (zb l i).2<(zb l i).1 then some (2,i) else if 0<i∧yb (zb l (i - 1)) (zb l i)≠0 then some (3,i) else none
def ck (l:List Iv):Option (Nat×Nat):=qy (zbo l) l.length
def js:Option (Nat×Nat)→Err
 | none=>none
 | some (c,i)=>some ((c:Int),some (i:Int))
