/- Part 18. -/
import Derived.Test.YtdnipikdddfhfaaGreatDoorOp17
set_option linter.unusedVariables false
set_option maxHeartbeats 16000000
namespace Go.Proofs.YtdnipikdddfhfaaGreatDoor
open Lib (hid)
section
open Go.RowKit
attribute [local go_sem] jc
theorem wk0 {w:World} {base R U C:Nat} {L:zb} (hR:Row w R 130 (wkC L (.iface 123 (.agg #[])) (.slice none 0 0) U C .nilIface)) (hU:UsedM w U []) (hC:Row w C 193 (qj C 0 0 none false)) (b1:base≤R) (b2:base≤U) (b3:base≤C):WkR w base R L ws0:=
 ⟨b1,_,_,U,C,b2,b3,hR,hU,rfl,zlk _ _,hC⟩
set_option maxRecDepth 20000 in
theorem zu5 (L:zb) (w:World):Calls Tryz.prog 25 #[lmV L] w fun e w'=>∃R,e=.returned (.pointer (some ⟨R,0,none⟩))∧WkR w' w.heap.size R L ws0∧Below w.heap.size w w':=by
 unfold lmV;have HS:=hid (fun W=>zk3 0 W);have hmm:=@run_makeMap Tryz.prog;have hX:=zu w 24 [.int .i64 L.1,.int .i64 L.2.1,.int .i64 L.2.2.1,.int .i64 L.2.2.2.1,.int .i64 L.2.2.2.2];have HX:=hid hX
 have HLim:=hid (fun W W' (h1:Below (w.heap.size+1) (w.alloc (.cells #[.int .i64 L.1,.int .i64 L.2.1,.int .i64 L.2.2.1,.int .i64 L.2.2.2.1,.int .i64 L.2.2.2.2] 24)) W) (h2:Below W.heap.size W W')=>
  have h:=(hX.below h1 (by omega)).later h2
  And.intro (h.cell 0 rfl) (And.intro (h.cell 1 rfl) (And.intro (h.cell 2 rfl) (And.intro (h.cell 3 rfl) (h.cell 4 rfl)))))
 clear hX;go_enter Tryz.func25,Tryz.ntmps25;go_wp2;go_region_law (go_simp;go_at_call 68;refine(HS.out _).mono ?_;rintro e w1 ⟨rfl,hr1,hb1⟩;obtain⟨l0,l1,l2,l3,l4⟩:=HLim.out _ w1 (by repeat (first | exact Below.refl _ _ | refine Below.alloc ?_ (by simp) _ | refine Below.drew ?_ | refine zq ?_ _)) hb1;have ho:=fun o=>HLim.out _ (w1.alloc o) (by repeat (first | exact Below.refl _ _ | refine Below.alloc ?_ (by simp) _ | refine Below.drew ?_ | refine zq ?_ _)) (hb1.alloc hb1.size o);have o0:=fun o=>(ho o).1;have o1:=fun o=>(ho o).2.1;have o2:=fun o=>(ho o).2.2.1;have o3:=fun o=>(ho o).2.2.2.1;have o4:=fun o=>(ho o).2.2.2.2;clear ho;have Hr1:=hid hr1;have Hb1:=hid hb1;clear hr1 hb1)
 all_goals go_wp2
 all_goals go_ret
 all_goals clear HLim HX HS hmm l0 l1 l2 l3 l4 o0 o1 o2 o3 o4
 all_goals first
  | (have hb:=Hb1.out
     have hr:=Hr1.out
     have hU:UsedM w1 (w.heap.size+1) []:=by
      have h0:=zld (w.alloc (.cells #[.int .i64 L.1,.int .i64 L.2.1,.int .i64 L.2.2.1,.int .i64 L.2.2.2.1,.int .i64 L.2.2.2.2] 24));rw[World.size_alloc] at h0;exact h0.same (hb.block _ (by simp))
     have hz:=hb.size;simp at hz;simp at hr;have hal:=(Below.refl w1.heap.size w1).alloc (Nat.le_refl _) (.cells #[.int .i64 L.1,.int .i64 L.2.1,.int .i64 L.2.2.1,.int .i64 L.2.2.2.1,.int .i64 L.2.2.2.2,.iface 123 (.agg #[]),.slice none 0 0,.map (some (w.heap.size+1)),.pointer (some ⟨w.heap.size+1+1,0,none⟩),.nilIface] 130)
     exact⟨_,rfl,wk0 (zu w1 _ _) (hU.same (hal.block _ hU.lt)) (hr.later hal) (by omega) (by omega) (by omega),(Below.trans (by repeat (first | exact Below.refl _ _ | refine Below.alloc ?_ (by simp) _ | refine Below.drew ?_ | refine zq ?_ _)) (hb.mono (by simp;omega))).trans (hal.mono (by omega))⟩)
  | (have hb:=Hb1.out
     have hr:=Hr1.out;have hz:=hb.size;simp at hr;simp at hz;have hU:UsedM (w1.alloc (.map #[] 0)) w1.heap.size []:=zld w1;have hm:=(Below.refl w1.heap.size w1).alloc (Nat.le_refl _) (.map #[] 0);have hal:=(Below.refl (w1.alloc (.map #[] 0)).heap.size (w1.alloc (.map #[] 0))).alloc (Nat.le_refl _) (.cells #[.int .i64 L.1,.int .i64 L.2.1,.int .i64 L.2.2.1,.int .i64 L.2.2.2.1,.int .i64 L.2.2.2.2,.iface 123 (.agg #[]),.slice none 0 0,.map (some w1.heap.size),.pointer (some ⟨w.heap.size+1,0,none⟩),.nilIface] 130);have hrow:=zu (w1.alloc (.map #[] 0)) 130 [.int .i64 L.1,.int .i64 L.2.1,.int .i64 L.2.2.1,.int .i64 L.2.2.2.1,.int .i64 L.2.2.2.2,.iface 123 (.agg #[]),.slice none 0 0,.map (some w1.heap.size),.pointer (some ⟨w.heap.size+1,0,none⟩),.nilIface];rw[World.size_alloc] at hrow;exact⟨_,rfl,wk0 hrow (hU.same (hal.block _ hU.lt)) ((hr.later hm).later hal) (by omega) (by omega) (by omega),(Below.trans (by repeat (first | exact Below.refl _ _ | refine Below.alloc ?_ (by simp) _ | refine Below.drew ?_ | refine zq ?_ _)) (hb.mono (by simp))).trans ((hm.mono (by omega)).trans (hal.mono (by simp;omega)))⟩)
end
section
open Go.RowKit
attribute [local go_sem] jc
def ke (B:Nat):Value:=.iface 202 (.pointer (some ⟨B,0,none⟩))
structure SRows (w:World) (base R:Nat) (L:zb) (part K:Value) (U C B:Nat) (S Cu:List Value) (ix:List Nat) (vs:List Vec) (l:List Iv):Prop where
 row:Row w R 130 (wkC L part K U C .nilIface)
 srow:Row w B 204 S
 cur:Row w C 193 Cu
 used:UsedM w U ix
 seg:SegM w base K vs l ix
section
variable {w w':World} {base R:Nat} {L:zb} {part K:Value} {U C B:Nat} {S Cu:List Value} {ix:List Nat} {vs:List Vec} {l:List Iv}
theorem SRows.later (h:SRows w base R L part K U C B S Cu ix vs l) (hb:Below w.heap.size w w'):SRows w' base R L part K U C B S Cu ix vs l:=
 ⟨h.row.later hb,h.srow.later hb,h.cur.later hb,h.used.same (hb.block U h.used.lt),h.seg.later hb⟩
theorem SRows.setB (h:SRows w base R L part K U C B S Cu ix vs l) (i:Nat) (v:Value):SRows (w.setCell ⟨B,i,none⟩ v) base R L part K U C B (S.set i v) Cu ix vs l:=by
 have g:=jk w B i v;exact⟨h.row.grown g (fun e=>by injection e with e;exact h.row.ne h.srow (by decide) e),h.srow.set i v,h.cur.grown g (fun e=>by injection e with e;exact h.srow.ne h.cur (by decide) e.symm),h.used.grownT h.srow g,h.seg.grown (h.srow.notT (by rintro(h | h | h) <;> cases h)) g⟩
theorem SRows.curs (h:SRows w base R L part K U C B S Cu ix vs l) {Cu':List Value} (hc:Row w' C 193 Cu') (g:w.grownBy w' (some C)):SRows w' base R L part K U C B S Cu' ix vs l:=
 ⟨h.row.grown g (fun e=>by injection e with e;exact h.row.ne h.cur (by decide) e),h.srow.grown g (fun e=>by injection e with e;exact h.srow.ne h.cur (by decide) e),hc,h.used.grownT h.cur g,h.seg.grown (h.cur.notT (by rintro(h | h | h) <;> cases h)) g⟩
end
theorem SRows.wkr {w:World} {base R:Nat} {L:zb} {K:Value} {U C B:Nat} {last:Int} {touch:Bool} {lo0:Nat} {s:WS} {Cu:List Value} (h:SRows w base R L (ke B) K U C B (sgC s.left s.turn last touch) Cu s.ix s.vs s.l) (ht:s.tag=3) (hR:base≤R) (hU:base≤U) (hC:base≤C) (hB:base≤B)
 (h1:∀x,s.ix.getLast?=some x→last=(x:Int)) (h2:1≤s.turn→touch=s.tch) (h3:Cu=cuC C lo0 s):WkR w base R L s:=by
 refine⟨hR,_,K,U,C,hU,hC,h.row,h.used,?_⟩;unfold WkB;simp only[ht];exact⟨B,rfl,hB,h.seg,last,touch,lo0,h.srow,h1,h2,by rw[←h3];exact h.cur⟩
def zm3 (s:WS) (p:Nat) (r:Option Nat):Except (Nat×Nat) WS:=match r with | none=>.error (8,p) | some lo=>.ok { s with turn:=1,lo:=lo,tch:=vx s.l lo }
theorem zu6 {l:List Iv} {x z:Nat} (h:loP (zo l) 0 x=some z):vx l z=(l.getLast?.isSome && decide (x=0)):=by
 unfold vx zo at*
 cases hg:l.getLast? with
 | none=>rfl
 | some t=>
  rw[hg] at h;simp only[Option.map,loP] at h;split at h
  · injection h with h;subst h;simp only[Option.map,Option.isSome,Bool.true_and];rw[Bool.eq_iff_iff];simp only[decide_eq_true_eq];omega
  · cases h
set_option maxRecDepth 100000 in
theorem zu7 (base R:Nat) (L:zb) (s:WS) (K:Value) (U C B rest x p lo0:Nat) (last:Int) (touch:Bool) (w0 w:World) (ht:s.tag=3) (hR0:base≤R) (hU:base≤U) (hC:base≤C) (hB0:base≤B) (hb0:Below base w0 w) (htu:s.turn=0)
 (hS:SRows w base R L (ke B) K U C B (sgC s.left 0 last touch) (qj C 0 lo0 s.l.getLast? false) s.ix s.vs s.l) (hla:∀x,s.ix.getLast?=some x→last=(x:Int)) (hl:yj s.l) (hx:x<18446744073709551616) (r:Option Nat) (hr:loP (zo s.l) 0 x=r):
 Calls Tryz.prog 113 #[.pointer (some ⟨R,0,none⟩),.pointer (some ⟨B,0,none⟩),.int .u64 (x:Int),.int .i64 (p:Int),.int .i64 (rest:Int)] w (WkS w0 base R L (zm3 s p r)):=by
 have Ht:=hid ht;have Htu:=hid htu;have Hla:=hid hla;have Hx:=hid hx;have Hl:=hid hl;have Htc:=hid (fun z (h:r=some z)=>zu6 (hr.trans h));have Hr:=hid hr;have HS:=hid hS;have Hb0:=hid hb0;have HLa:=hid (zlg C 0 lo0 s.l.getLast? false w hS.cur);have hbw:base≤w.heap.size:=by have:=hS.row.lt;omega
 have Hbw:=hid hbw;have q8:=hS.row.cell 8 rfl;have v1:w.cell? ⟨B,1,none⟩=some (.int .i64 0):=hS.srow.cell 1 rfl;clear ht htu hla hx hl hr hS hb0 hbw;generalize hg:s.l.getLast?.isSome=b at*;have Hg:=hid hg;clear hg;generalize hz:s.l.getLast?.getD (0,0)=z0 at*;clear hz;obtain⟨z1,z2⟩:=z0;unfold ivV at HLa;simp only at HLa
 cases r with
 | none=>
  have HN:=hid (fun W=>kr (c:=8) (o:=p) (by decide) W);cases b
  all_goals
   by_cases hx0:x=0
  all_goals
   have hx1:((x:Int) == 0)=decide (x=0):=by
    rw[Bool.eq_iff_iff,beq_iff_eq,decide_eq_true_iff];omega
   first
    | rw[decide_eq_true hx0] at hx1
    | rw[decide_eq_false hx0] at hx1
   have Hx0:=hid (show decide (x=0)=decide (x=0) from rfl)
   first
    | rw[show decide (x=0)=true from decide_eq_true hx0] at Htc
    | rw[show decide (x=0)=false from decide_eq_false hx0] at Htc
   clear hx0 Hx0;go_enter Tryz.func113,Tryz.ntmps113;go_wp2_with fail;refine HLa.out.mono ?_;rintro e w1 ⟨rfl,hb1⟩;have hS1:=(HS.out.later hb1).later ((Below.refl w1.heap.size w1).alloc (Nat.le_refl _) (.cells #[.int .u64 (z1:Int),.int .u64 (z2:Int)] 89));have s3:=hS1.srow.cell 3 rfl;have y3:=hS1.srow.fz 3;have HS2:=hid (fun tv=>show SRows ((w1.alloc (.cells #[.int .u64 (z1:Int),.int .u64 (z2:Int)] 89)).setCell ⟨B,3,none⟩ (.bool tv)) base R L (ke B) K U C B (sgC s.left 0 last tv) (qj C 0 lo0 s.l.getLast? false) s.ix s.vs s.l from hS1.setB 3 (.bool tv));have HLo:=hid (fun tv=>zhk C 0 lo0 x s.l.getLast? _ (HS2.out tv).cur (fun t ht=>(Hl.out t (List.mem_of_getLast? ht)).2) (by omega) Hx.out);have Hb2:=hid (fun tv=>Hb0.out.trans (((hb1.mono Hbw.out).trans ((Below.refl base w1).alloc (Nat.le_trans Hbw.out hb1.size) (.cells #[.int .u64 (z1:Int),.int .u64 (z2:Int)] 89))).setCell (p:=⟨B,3,none⟩) hB0 (.bool tv)));have p8:=hS1.row.cell 8 rfl;have hneB:=hS1.row.ne hS1.srow (by decide);clear hb1 hS1 q8 v1;unfold zo at Hr;rw[Hr.out] at HLo;go_wp2_with fail;refine(HLo.out _).mono ?_;rintro e w3 ⟨rfl,hc3,hg3⟩;have HS3:=hid ((HS2.out _).curs hc3 hg3);have Hb3:=hid ((Hb2.out _).grown hg3 (Nat.le_trans hR0 (Nat.le_of_lt (HS2.out _).row.lt)) (fun k hk=>by injection hk with hk;omega));clear hc3 hg3 s3 y3;go_wp2_with fail;refine(HN.out _).mono ?_;rintro e w' ⟨rfl,rfl⟩;go_wp2_with fail;go_ret
   exact⟨Hb3.out,rfl,_,HS3.out.row,rfl⟩
 | some z=>
  have Htz:=hid (Htc.out z rfl);cases b
  all_goals
   by_cases hx0:x=0
  all_goals
   have hx1:((x:Int) == 0)=decide (x=0):=by
    rw[Bool.eq_iff_iff,beq_iff_eq,decide_eq_true_iff];omega
   first
    | rw[decide_eq_true hx0] at hx1
    | rw[decide_eq_false hx0] at hx1
   have Hx0:=hid (show decide (x=0)=decide (x=0) from rfl)
   first
    | rw[show decide (x=0)=true from decide_eq_true hx0] at Htz
    | rw[show decide (x=0)=false from decide_eq_false hx0] at Htz
   clear hx0 Hx0;go_enter Tryz.func113,Tryz.ntmps113;go_wp2_with fail;refine HLa.out.mono ?_;rintro e w1 ⟨rfl,hb1⟩;have hS1:=(HS.out.later hb1).later ((Below.refl w1.heap.size w1).alloc (Nat.le_refl _) (.cells #[.int .u64 (z1:Int),.int .u64 (z2:Int)] 89));have s3:=hS1.srow.cell 3 rfl;have y3:=hS1.srow.fz 3;have HS2:=hid (fun tv=>show SRows ((w1.alloc (.cells #[.int .u64 (z1:Int),.int .u64 (z2:Int)] 89)).setCell ⟨B,3,none⟩ (.bool tv)) base R L (ke B) K U C B (sgC s.left 0 last tv) (qj C 0 lo0 s.l.getLast? false) s.ix s.vs s.l from hS1.setB 3 (.bool tv));have HLo:=hid (fun tv=>zhk C 0 lo0 x s.l.getLast? _ (HS2.out tv).cur (fun t ht=>(Hl.out t (List.mem_of_getLast? ht)).2) (by omega) Hx.out);have Hb2:=hid (fun tv=>Hb0.out.trans (((hb1.mono Hbw.out).trans ((Below.refl base w1).alloc (Nat.le_trans Hbw.out hb1.size) (.cells #[.int .u64 (z1:Int),.int .u64 (z2:Int)] 89))).setCell (p:=⟨B,3,none⟩) hB0 (.bool tv)));have p8:=hS1.row.cell 8 rfl;have hneB:=hS1.row.ne hS1.srow (by decide);clear hb1 hS1 q8 v1;unfold zo at Hr;rw[Hr.out] at HLo;go_wp2_with fail;refine(HLo.out _).mono ?_;rintro e w3 ⟨rfl,hc3,hg3⟩;have hS3:=(HS2.out _).curs hc3 hg3;have t1:w3.cell? ⟨B,1,none⟩=some (.int .i64 0):=hS3.srow.cell 1 rfl;have y1:=hS3.srow.fz 1;have HS4:=hid (hS3.setB 1 (.int .i64 1));have Hb3:=hid (((Hb2.out _).grown hg3 (Nat.le_trans hR0 (Nat.le_of_lt (HS2.out _).row.lt)) (fun k hk=>by injection hk with hk;omega)).setCell (p:=⟨B,1,none⟩) hB0 (.int .i64 1));clear hc3 hg3 s3 y3 hS3;go_wp2_with fail;go_ret;exact⟨Hb3.out,rfl,SRows.wkr (lo0:=0) (s:={ s with turn:=1,lo:=z,tch:=vx s.l z }) HS4.out Ht.out hR0 hU hC hB0 Hla.out (fun _=>by rw[Htz.out];rfl) rfl⟩
def zf1 (s:WS) (p x:Nat):Except (Nat×Nat) WS:=if s.lo+x<18446744073709551616 then .ok { s with turn:=2,hi:=s.lo+x } else .error (8,p)
set_option maxRecDepth 100000 in
theorem zu8 (base R:Nat) (L:zb) (s:WS) (K:Value) (U C B rest x p:Nat) (last:Int) (touch:Bool) (w0 w:World) (ht:s.tag=3) (hR0:base≤R) (hU:base≤U) (hC:base≤C) (hB0:base≤B) (hb0:Below base w0 w)
 (hS:SRows w base R L (ke B) K U C B (sgC s.left 1 last touch) (qj C 0 s.lo s.l.getLast? true) s.ix s.vs s.l) (hla:∀x,s.ix.getLast?=some x→last=(x:Int)) (hto:touch=s.tch) (hlo:s.lo<18446744073709551616) (hx:x<18446744073709551616):
 Calls Tryz.prog 113 #[.pointer (some ⟨R,0,none⟩),.pointer (some ⟨B,0,none⟩),.int .u64 (x:Int),.int .i64 (p:Int),.int .i64 (rest:Int)] w (WkS w0 base R L (zf1 s p x)):=by
 have Ht:=hid ht;have Hla:=hid hla;have Hto:=hid hto;have HS:=hid hS;have Hb0:=hid hb0;have HHi:=hid (zlf C 0 s.lo x s.l.getLast? w hS.cur hlo hx);have Hbw:=hid (show base≤w.heap.size by have:=hS.row.lt;omega);have q8:=hS.row.cell 8 rfl;have v1:w.cell? ⟨B,1,none⟩=some (.int .i64 1):=hS.srow.cell 1 rfl;clear ht hla hto hS hb0 hlo hx;unfold zec at HHi;by_cases hc:s.lo+x<18446744073709551616
 · have HHi2:=hid (HHi.out.mono fun e w' h=>by rw[if_pos hc] at h;exact h);have Hv:=hid (show zf1 s p x=.ok { s with turn:=2,hi:=s.lo+x } from if_pos hc);clear HHi hc;generalize hz:s.lo+x=z at*;clear hz;unfold ivV at HHi2;go_enter Tryz.func113,Tryz.ntmps113;go_wp2_with fail;refine HHi2.out.mono ?_;rintro e w1 ⟨rfl,hc1,hg1⟩;have hS1:=((HS.out).curs hc1 hg1).later ((Below.refl w1.heap.size w1).alloc (Nat.le_refl _) (.cells #[.int .u64 (s.lo:Int),.int .u64 (z:Int)] 89));have Hb1:=hid (((Hb0.out.grown hg1 (Nat.le_trans (by have:=Hb0.out.size;have:=Hbw.out;exact this) (Nat.le_refl _)) (fun k hk=>by injection hk with hk;omega)).alloc (by have:=Hbw.out;have:=hg1.size;omega) (.cells #[.int .u64 (s.lo:Int),.int .u64 (z:Int)] 89)).setCell (p:=⟨B,1,none⟩) hB0 (.int .i64 2));have t1:∀o,(w1.alloc o).cell? ⟨B,1,none⟩=some (.int .i64 1):=fun o=>(((HS.out).curs hc1 hg1).later ((Below.refl w1.heap.size w1).alloc (Nat.le_refl _) o)).srow.cell 1 rfl
   have y1:∀o,(w1.alloc o).frozen? ⟨B,1,none⟩=false:=fun o=>(((HS.out).curs hc1 hg1).later ((Below.refl w1.heap.size w1).alloc (Nat.le_refl _) o)).srow.fz 1
   have HS4:=hid (hS1.setB 1 (.int .i64 2));clear hc1 hg1 hS1 q8 v1;go_wp2_with fail;go_ret;exact⟨Hb1.out,by rw[Hv.out];exact⟨rfl,SRows.wkr (lo0:=s.lo) (s:={ s with turn:=2,hi:=z }) HS4.out Ht.out hR0 hU hC hB0 Hla.out (fun _=>Hto.out) rfl⟩⟩
 · have HHi2:=hid (HHi.out.mono fun e w' h=>by rw[if_neg hc] at h;exact h);have Hv:=hid (show zf1 s p x=.error (8,p) from if_neg hc);have HN:=hid (fun W=>kr (c:=8) (o:=p) (by decide) W);clear HHi hc;unfold ivV at HHi2;go_enter Tryz.func113,Tryz.ntmps113;go_wp2_with fail;refine HHi2.out.mono ?_;rintro e w1 ⟨rfl,hc1,hg1⟩;have HS1:=hid (fun o=>((HS.out).curs hc1 hg1).later ((Below.refl w1.heap.size w1).alloc (Nat.le_refl _) o));have Hb1:=hid (fun o=>(Hb0.out.grown hg1 (by have:=Hbw.out;exact this) (fun k hk=>by injection hk with hk;omega)).alloc (by have:=Hbw.out;have:=hg1.size;omega) o);clear hc1 hg1 q8 v1;go_wp2_with fail;refine(HN.out _).mono ?_;rintro e w' ⟨rfl,rfl⟩;go_wp2_with fail;go_ret;exact⟨Hb1.out _,by rw[Hv.out];exact⟨rfl,_,(HS1.out _).row,rfl⟩⟩
end
section
def yk (l:List Nat) (p:Nat) (most:Int):Except (Nat×Nat) (Nat×Nat):=
 match jj l p with
 | some e=>.error e
 | none=>match zh (l.drop (p+5)) 0 0 with
   | (1,x,j)=>if max most 0<(x:Int) then .error (7,p+5) else .ok (p+5+j,x)
   | (2,_,_)=>.error (6,p+5)
   | _=>.error (5,p)
theorem zhy (l:List Nat) (p:Nat) (most:Int):yr l p most=match yk l p most with | .error e=>(0,0,some ((e.1:Int),some (e.2:Int))) | .ok y=>(y.1,y.2,none):=by
 unfold yr yk
 cases jj l p with
 | some e=>rfl
 | none=>
  simp only;generalize zh (l.drop (p+5)) 0 0=s;obtain⟨a,x,j⟩:=s;rcases a with _ | _ | _ | a
  · rfl
  · simp only;split <;> rfl
  · rfl
  · rfl
def zy (l:List Nat) (L:zb) (p:Nat):RR Kno:=
 match yk l p L.1 with
 | .error e=>if e.1=5 then .error (0,p) else .error e
 | .ok y=>match zx (za l (y.1+y.2)) (y.1+y.2) L y.1 with
   | .error e=>if e.1=0 then .error (0,p) else .error e
   | .ok k=>if l.length<y.1+y.2+4 then .error (0,p)
     else if qt (sum ((l.drop y.1).take y.2))=(l.drop (y.1+y.2)).take 4 then .ok (k.1,y.1+y.2+4) else .error (14,y.1+y.2)
def vt (l:List Nat) (L:zb):List Kno→List Nat→Nat→Nat→Prop
 | [],[],p,q=>p=q
 | k :: ks,e :: es,p,q=>zy l L p=.ok (k,e)∧vt l L ks es e q
 | _,_,_,_=>False
def jq (l:List Nat) (L:zb) (ks:List Kno) (es:List Nat) (e:Nat×Nat):Prop:=∃q,vt l L ks es 0 q∧zy l L q=.error e
theorem zf2 {l:List Nat} {L:zb} {k:Kno} {r:Nat}:∀{ks:List Kno} {es:List Nat} {p q:Nat},vt l L ks es p q→zy l L q=.ok (k,r)→vt l L (ks++[k]) (es++[r]) p r
 | [],[],p,q,h,h1=>by
   have h:p=q:=h;subst h
   exact⟨h1,rfl⟩
 | k' :: ks,e :: es,p,q,h,h1=>⟨h.1,zf2 h.2 h1⟩
 | [],_ :: _,_,_,h,_=>h.elim
 | _ :: _,[],_,_,h,_=>h.elim
theorem zf3 {l:List Nat} {L:zb}:∀{ks:List Kno} {es:List Nat} {p q:Nat},vt l L ks es p q→ks.length=es.length
 | [],[],p,q,h=>rfl
 | k' :: ks,e :: es,p,q,h=>by rw[List.length_cons,List.length_cons,zf3 h.2]
 | [],_ :: _,_,_,h=>h.elim
 | _ :: _,[],_,_,h=>h.elim
theorem zm4 {l:List Nat} {L:zb} {e:Nat×Nat}:∀{ks ks':List Kno} {es es':List Nat} {p q q':Nat},vt l L ks es p q→vt l L ks' es' p q'→zy l L q'=.error e→∃ms fs,ks'=ks++ms∧es'=es++fs∧vt l L ms fs q q'
 | [],ks',[],es',p,q,q',h,h',h1=>by
   have h:p=q:=h;subst h
   exact⟨ks',es',rfl,rfl,h'⟩
 | k :: ks,[],x :: es,[],p,q,q',h,h',h1=>by
   have h':p=q':=h';subst h';rw[h.1] at h1
   cases h1
 | k :: ks,k' :: ks',x :: es,x' :: es',p,q,q',h,h',h1=>by
   have e1:=h.1.symm.trans h'.1;injection e1 with e1;injection e1 with e1 e2;subst e1 e2;obtain⟨ms,fs,a,b,c⟩:=zm4 h.2 h'.2 h1
   exact⟨ms,fs,by rw[a];rfl,by rw[b];rfl,c⟩
 | [],_,_ :: _,_,_,_,_,h,_,_=>h.elim
 | _ :: _,_,[],_,_,_,_,h,_,_=>h.elim
 | _ :: _,[],_ :: _,_ :: _,_,_,_,_,h,_=>h.elim
 | _ :: _,_ :: _,_ :: _,[],_,_,_,_,h,_=>h.elim
theorem zdf {l:List Nat} {L:zb} {ks ks':List Kno} {es es':List Nat} {e e':Nat×Nat} (h:jq l L ks es e) (h':jq l L ks' es' e'):ks'=ks∧es'=es∧e'=e:=by
 obtain⟨q,a,b⟩:=h;obtain⟨q',a',b'⟩:=h';obtain⟨ms,fs,e1,e2,c⟩:=zm4 a a' b'
 cases ms with
 | nil=>
  cases fs with
  | nil=>
   have c:q=q':=c;subst c;rw[b] at b';injection b' with b'
   exact⟨by rw[e1,List.append_nil],by rw[e2,List.append_nil],b'.symm⟩
  | cons _ _=>exact c.elim
 | cons m ms=>
  cases fs with
  | nil=>exact c.elim
  | cons f fs=>
   have:=c.1;rw[b] at this;cases this
theorem zb2 {l:List Nat} (hl:∀c∈l,c<256) {p s n:Nat} {most:Int} (h:yk l p most=.ok (s,n)):p+6≤s∧s≤l.length∧s≤p+15∧(n:Int)≤max most 0∧jj l p=none∧s=p+5+(yd n).length∧yd n=(l.drop (p+5)).take (yd n).length:=by
 unfold yk at h
 cases hb:jj l p with
 | some e=>rw[hb] at h;cases h
 | none=>
  rw[hb] at h;simp only at h;obtain⟨a,x,j,hs⟩:∃a x j,zh (l.drop (p+5)) 0 0=(a,x,j):=⟨_,_,_,rfl⟩;rw[hs] at h;rcases a with _ | _ | _ | a
  · cases h
  · simp only at h;split at h
    · cases h
    · injection h with h;injection h with h1 h2;subst h1 h2;obtain⟨b1,b2,b3,b4⟩:=zk1 (fun c hc=>hl c (List.mem_of_mem_drop hc)) hs;have b5:(yd x).length≤9+1:=zcv 9 x;have b6:(yd x).length=j:=by rw[b4,List.length_take];omega
      rw[List.length_drop] at b3;exact⟨by omega,by omega,by omega,by omega,rfl,by rw[b6],by rw[b6];exact b4⟩
  · cases h
  · cases h
theorem zu9 {l:List Nat} {p i:Nat} {e:Nat×Nat} (h:jd l p i=some e):(e=(5,p))∨(e=(if i=4 then 13 else 12,p+i)∧p+i<l.length):=by
 unfold jd at h;split at h
 · injection h with h;exact .inl h.symm
 · split at h
   · cases h
   · injection h with h;exact .inr ⟨h.symm,by omega⟩
theorem zhz {l:List Nat} {p:Nat} {most:Int} {e:Nat×Nat} (h:yk l p most=.error e):(e=(5,p))∨(e.1=6∧e.2=p+5)∨(e.1=7∧e.2=p+5)∨((e.1=12∨e.1=13)∧e.2<l.length):=by
 unfold yk at h
 cases hb:jj l p with
 | some x=>
  rw[hb] at h;injection h with h;subst h;unfold jj at hb;obtain⟨i,-,hi⟩:=List.exists_of_findSome?_eq_some hb;rcases zu9 hi with rfl | ⟨rfl,h2⟩
  · exact .inl rfl
  · exact .inr (.inr (.inr ⟨by simp only;split <;> simp,h2⟩))
 | none=>
  rw[hb] at h;simp only at h;split at h
  · split at h
    · injection h with h;subst h;exact .inr (.inr (.inl ⟨rfl,rfl⟩))
    · cases h
  · injection h with h;subst h;exact .inr (.inl ⟨rfl,rfl⟩)
  · injection h with h;subst h;exact .inl rfl
theorem zva {l:List Nat} (hl:∀c∈l,c<256) (E:Nat):T64 (za l E):=fun p x q h=>(jw hl h).2.2.2.1
theorem zm5 {T T':zl} (h:∀p y,T p=.ok y→T' p=.ok y):∀{ns:List Nat} {p q:Nat},yu T p ns q→yu T' p ns q
 | [],p,q,r=>r
 | x :: ns,p,q,r=>by
   obtain⟨y,r1,r2⟩:=r;exact⟨y,h _ _ r1,zm5 h r2⟩
theorem zh0 {T:zl} {E:Nat} (h:∀p x q,T p=.ok (x,q)→q≤E):∀{ns:List Nat} {p q:Nat},yu T p ns q→ns≠[]→q≤E
 | [],p,q,r,hn=>absurd rfl hn
 | x :: ns,p,q,r,hn=>by
   obtain⟨y,r1,r2⟩:=r
   cases ns with
   | nil=>have r2:y=q:=r2;rw[←r2];exact h _ _ _ r1
   | cons z ns=>exact zh0 h r2 (by simp)
theorem zm6 (c:Kno):jl c≠[]:=by
 intro h;have:=congrArg List.length h;unfold jl at this;rw[List.length_append] at this
 have h1:∀d,1≤(vr c d).length:=by
  intro d
  induction d with
  | zero=>simp[vr]
  | succ d ih=>rw[vr,List.length_append];omega
 have h2:=h1 c.length;rw[List.length_nil] at this;omega
theorem zh1 {l:List Nat} (hl:∀c∈l,c<256) {E s q:Nat} {L:zb} {k:Kno} (h:zx (za l E) E L s=.ok (k,q)):q=E∧E≤l.length∧CanK k∧LtK k∧okK L k∧qy (jl k)=(l.drop s).take (E - s):=by
 obtain⟨h1,h2,h3,h4,h5⟩:=zmr (zva hl E) h;have h6:=zh0 (E:=E) (fun p x q h=>(jw hl h).2.2.1) h4 (zm6 k);have h7:=zh0 (E:=l.length) (fun p x q h=>(jw hl h).2.1) h4 (zm6 k);obtain rfl:q=E:=Nat.le_antisymm h6 h5;have h8:=zhj (l:=l.take q) (fun c hc=>hl c (List.mem_of_mem_take hc)) (zm5 (fun p y h=>zlb h) h4);rw[show (l.take q).drop q=[] from List.drop_eq_nil_of_le (by rw[List.length_take];omega),List.append_nil,List.drop_take] at h8;exact⟨rfl,h7,h1,h2,h3,h8.symm⟩
theorem zh2 {l:List Nat} (hl:∀c∈l,c<256) {L:zb} {p q:Nat} {k:Kno} (h:zy l L p=.ok (k,q)):p+10≤q∧q≤l.length:=by
 unfold zy at h
 cases hh:yk l p L.1 with
 | error e=>rw[hh] at h;simp only at h;split at h <;> cases h
 | ok y=>
  obtain⟨s,n⟩:=y;rw[hh] at h;simp only at h;have:=zb2 hl hh;split at h
  · split at h <;> cases h
  · split at h
    · cases h
    · split at h
      · injection h with h;injection h with h1 h2;omega
      · cases h
theorem zvb {l:List Nat} {L:zb} {p o:Nat} (h:zy l L p=.error (0,o)):o=p:=by
 unfold zy at h
 cases hh:yk l p L.1 with
 | error e=>
  rw[hh] at h;simp only at h;split at h
  · injection h with h;injection h with _ h;exact h.symm
  · injection h with h;subst h;rcases zhz hh with h | ⟨h,-⟩ | ⟨h,-⟩ | ⟨h | h,-⟩
    · cases h
    · cases h
    · cases h
    · cases h
    · cases h
 | ok y=>
  rw[hh] at h;simp only at h;split at h
  · split at h
    · injection h with h;injection h with _ h;exact h.symm
    · rename_i hne;injection h with h;rw[h] at hne;exact absurd rfl hne
  · split at h
    · injection h with h;injection h with _ h;exact h.symm
    · split at h
      · cases h
      · injection h with h;injection h with h _;cases h
theorem zh3 {f g:Nat→Option (Nat×Nat)} {z:Nat×Nat} (h:∀i,f i=some z∨g i=f i):∀is:List Nat,is.findSome? f=some z∨is.findSome? g=is.findSome? f
 | []=>.inr rfl
 | i :: is=>by
   rw[List.findSome?_cons,List.findSome?_cons];rcases h i with e | e
   · rw[e];exact .inl rfl
   · rw[e]
     cases f i with
     | some x=>exact .inr rfl
     | none=>exact zh3 h is
theorem zh4 {l u:List Nat} {i:Nat} (h:i<l.length):nth (l++u) i=nth l i:=by simp[nth,List.getElem?_append_left h]
theorem zm7 (l u:List Nat) (p i:Nat):jd l p i=some (5,p)∨jd (l++u) p i=jd l p i:=by
 by_cases h:l.length≤p+i
 · exact .inl (zcy h)
 · refine .inr ?_;unfold jd;rw[if_neg h,if_neg (by rw[List.length_append];omega),zh4 (by omega)]
theorem zvc (l u:List Nat) (p:Nat):((l++u).drop p).take (l.length - p)=l.drop p:=by
 rw[←List.drop_take,List.take_left]
theorem zm8 (l u:List Nat) (p:Nat) (most:Int):yk l p most=.error (5,p)∨yk (l++u) p most=yk l p most:=by
 rcases zh3 (zm7 l u p) [0,1,2,3,4] with h | h
 · refine .inl ?_;unfold yk jj;rw[h]
 · have h:jj (l++u) p=jj l p:=h;unfold yk;rw[h]
   cases jj l p with
   | some e=>exact .inr rfl
   | none=>
    simp only;have hs:=zf0 ((l++u).drop (p+5)) (l.length - (p+5)) 0 0;rw[zvc] at hs;rcases hs with hs | hs
    · rw[hs];exact .inr rfl
    · refine .inl ?_;generalize zh (l.drop (p+5)) 0 0=s at hs;obtain⟨a,x,j⟩:=s;simp only at hs;subst hs
      rfl
theorem zvd (l u:List Nat) (E:Nat):Cut 0 (za (l++u) E) (za l E) E E:=by
 refine⟨fun p=>?_,.inl rfl⟩;by_cases hE:E≤l.length
 · refine .inl ?_;unfold za;rw[List.take_append_of_le_length hE,if_pos hE,if_pos (by rw[List.length_append];omega)]
 · have hs:=zf0 (((l++u).take E).drop p) (l.length - p) 0 0;rw[←List.drop_take,List.take_take,Nat.min_eq_left (by omega),List.take_left] at hs;unfold za;rw[List.take_of_length_le (show l.length≤E by omega),if_neg hE];generalize zh (l.drop p) 0 0=s at*;obtain⟨a,x,j⟩:=s;rcases hs with hs | hs
   · rw[←hs];rcases a with _ | _ | _ | a
     · exact .inr rfl
     · exact .inl rfl
     · exact .inl rfl
     · exact .inr rfl
   · simp only at hs;subst hs;exact .inr rfl
theorem zve (l u:List Nat) (L:zb) (p:Nat):zy l L p=.error (0,p)∨zy (l++u) L p=zy l L p:=by
 unfold zy;rcases zm8 l u p L.1 with h | h
 · rw[h];exact .inl rfl
 · rw[h]
   cases hh:yk l p L.1 with
   | error e=>exact .inr rfl
   | ok y=>
    obtain⟨s,n⟩:=y;simp only;rcases zuf (zvd l u (s+n)) L s with hd | ⟨w,hd⟩
    · rw[hd]
      cases zx (za (l++u) (s+n)) (s+n) L s with
      | error e=>exact .inr rfl
      | ok k=>
       simp only;by_cases hlen:l.length<s+n+4
       · rw[if_pos hlen];exact .inl rfl
       · rw[if_neg hlen,if_neg (show ¬(l++u).length<s+n+4 by rw[List.length_append];omega)];refine .inr ?_
         have e1:((l++u).drop s).take n=(l.drop s).take n:=by
          rw[List.drop_append_of_le_length (by omega),List.take_append_of_le_length (by rw[List.length_drop];omega)]
         have e2:((l++u).drop (s+n)).take 4=(l.drop (s+n)).take 4:=by
          rw[List.drop_append_of_le_length (by omega),List.take_append_of_le_length (by rw[List.length_drop];omega)]
         rw[e1,e2]
    · rw[hd];exact .inl rfl
theorem zf4 {l:List Nat} (u:List Nat) {L:zb}:∀{ks:List Kno} {es:List Nat} {p q:Nat},vt l L ks es p q→vt (l++u) L ks es p q
 | [],[],p,q,h=>h
 | k :: ks,e :: es,p,q,h=>by
   refine⟨?_,zf4 u h.2⟩;rcases zve l u L p with h1 | h1
   · have:=h.1;rw[h1] at this;cases this
   · rw[h1];exact h.1
 | [],_ :: _,_,_,h=>h.elim
 | _ :: _,[],_,_,h=>h.elim
theorem zei {l:List Nat} (hl:∀c∈l,c<256) {L:zb}:∀{ks:List Kno} {es:List Nat} {p q:Nat},vt l L ks es p q→p+10*ks.length≤q∧(p≤l.length→q≤l.length)
 | [],[],p,q,h=>by have h:p=q:=h;subst h;exact⟨Nat.le_refl _,fun h=>h⟩
 | k :: ks,e :: es,p,q,h=>by
   have h1:=zh2 hl h.1;have h2:=zei hl h.2;rw[List.length_cons]
   exact⟨by omega,fun _=>h2.2 h1.2⟩
 | [],_ :: _,_,_,h=>h.elim
 | _ :: _,[],_,_,h=>h.elim
