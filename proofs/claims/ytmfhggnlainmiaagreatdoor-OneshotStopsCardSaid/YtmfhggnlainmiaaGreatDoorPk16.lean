/- Part 16. -/
import Derived.Test.YtmfhggnlainmiaaGreatDoorPk15
set_option linter.unusedVariables false
set_option maxHeartbeats 16000000
namespace Go.Proofs.YtmfhggnlainmiaaGreatDoor
open Lib (hid)
section
open Go.RowKit
attribute [local go_sem] y9
def zc5 (B:Nat):Value:=.iface 239 (.pointer (some ⟨B,0,none⟩))
structure SRows (w:World) (base R:Nat) (L:zc) (part K:Value) (U C B:Nat) (S Cu:List Value) (ix:List Nat) (vs:List Vec) (l:List Iv):Prop where
 row:Row w R 155 (wkC L part K U C .nilIface)
 srow:Row w B 241 S
 cur:Row w C 230 Cu
 used:UsedM w U ix
 seg:SegM w base K vs l ix
section
variable {w w':World} {base R:Nat} {L:zc} {part K:Value} {U C B:Nat} {S Cu:List Value} {ix:List Nat} {vs:List Vec} {l:List Iv}
theorem SRows.later (h:SRows w base R L part K U C B S Cu ix vs l) (hb:Below w.heap.size w w'):SRows w' base R L part K U C B S Cu ix vs l:=
 ⟨h.row.later hb,h.srow.later hb,h.cur.later hb,h.used.same (hb.block U h.used.lt),h.seg.later hb⟩
theorem SRows.setB (h:SRows w base R L part K U C B S Cu ix vs l) (i:Nat) (v:Value):SRows (w.setCell ⟨B,i,none⟩ v) base R L part K U C B (S.set i v) Cu ix vs l:=by
 have g:=qh w B i v;exact⟨h.row.grown g (fun e=>by injection e with e;exact h.row.ne h.srow (by decide) e),h.srow.set i v,h.cur.grown g (fun e=>by injection e with e;exact h.srow.ne h.cur (by decide) e.symm),h.used.grownT h.srow g,h.seg.grown (h.srow.notT (by rintro(h | h | h) <;> cases h)) g⟩
theorem SRows.curs (h:SRows w base R L part K U C B S Cu ix vs l) {Cu':List Value} (hc:Row w' C 230 Cu') (g:w.grownBy w' (some C)):SRows w' base R L part K U C B S Cu' ix vs l:=
 ⟨h.row.grown g (fun e=>by injection e with e;exact h.row.ne h.cur (by decide) e),h.srow.grown g (fun e=>by injection e with e;exact h.srow.ne h.cur (by decide) e),hc,h.used.grownT h.cur g,h.seg.grown (h.cur.notT (by rintro(h | h | h) <;> cases h)) g⟩
end
theorem SRows.wkr {w:World} {base R:Nat} {L:zc} {K:Value} {U C B:Nat} {last:Int} {touch:Bool} {lo0:Nat} {s:WS} {Cu:List Value} (h:SRows w base R L (zc5 B) K U C B (sgC s.left s.turn last touch) Cu s.ix s.vs s.l) (ht:s.tag=3) (hR:base≤R) (hU:base≤U) (hC:base≤C) (hB:base≤B)
 (h1:∀x,s.ix.getLast?=some x→last=(x:Int)) (h2:1≤s.turn→touch=s.tch) (h3:Cu=cuC C lo0 s):WkR w base R L s:=by
 refine⟨hR,_,K,U,C,hU,hC,h.row,h.used,?_⟩;unfold WkB;simp only[ht];exact⟨B,rfl,hB,h.seg,last,touch,lo0,h.srow,h1,h2,by rw[←h3];exact h.cur⟩
def zz7 (s:WS) (p:Nat) (r:Option Nat):Except (Nat×Nat) WS:=match r with | none=>.error (8,p) | some lo=>.ok { s with turn:=1,lo:=lo,tch:=zc1 s.l lo }
theorem yb6 {l:List Iv} {x z:Nat} (h:loP (qr l) 0 x=some z):zc1 l z=(l.getLast?.isSome && decide (x=0)):=by
 unfold zc1 qr at*
 cases hg:l.getLast? with
 | none=>rfl
 | some t=>
  rw[hg] at h;simp only[Option.map,loP] at h;split at h
  · injection h with h;subst h;simp only[Option.map,Option.isSome,Bool.true_and];rw[Bool.eq_iff_iff];simp only[decide_eq_true_eq];omega
  · cases h
set_option maxRecDepth 100000 in
theorem yb7 (base R:Nat) (L:zc) (s:WS) (K:Value) (U C B rest x p lo0:Nat) (last:Int) (touch:Bool) (w0 w:World) (ht:s.tag=3) (hR0:base≤R) (hU:base≤U) (hC:base≤C) (hB0:base≤B) (hb0:BelT base w0 w) (htu:s.turn=0)
 (hS:SRows w base R L (zc5 B) K U C B (sgC s.left 0 last touch) (k8 C 0 lo0 s.l.getLast? false) s.ix s.vs s.l) (hla:∀x,s.ix.getLast?=some x→last=(x:Int)) (hl:zo s.l) (hx:x<18446744073709551616) (r:Option Nat) (hr:loP (qr s.l) 0 x=r):
 Calls Tryz.prog 149 #[.pointer (some ⟨R,0,none⟩),.pointer (some ⟨B,0,none⟩),.int .u64 (x:Int),.int .i64 (p:Int),.int .i64 (rest:Int)] w (WkS w0 base R L (zz7 s p r)):=by
 have Ht:=hid ht;have Htu:=hid htu;have Hla:=hid hla;have Hx:=hid hx;have Hl:=hid hl;have Htc:=hid (fun z (h:r=some z)=>yb6 (hr.trans h));have Hr:=hid hr;have HS:=hid hS;have Hb0:=hid hb0;have HoB:=hid (hS.srow.okR zsf);have HoC:=hid (hS.cur.okR zoi);have HLa:=hid (zyj C 0 lo0 s.l.getLast? false w hS.cur);have hbw:base≤w.heap.size:=by have:=hS.row.lt;omega
 have Hbw:=hid hbw;have q8:=hS.row.cell 8 rfl;have v1:w.cell? ⟨B,1,none⟩=some (.int .i64 0):=hS.srow.cell 1 rfl;clear ht htu hla hx hl hr hS hb0 hbw;generalize hg:s.l.getLast?.isSome=b at*;have Hg:=hid hg;clear hg;generalize hz:s.l.getLast?.getD (0,0)=z0 at*;clear hz;obtain⟨z1,z2⟩:=z0;unfold ivV at HLa;simp only at HLa
 cases r with
 | none=>
  have HN:=hid (fun W=>zdk (c:=8) (o:=p) (by decide) W);cases b
  all_goals
   by_cases hx0:x=0
  all_goals
   have hx1:((x:Int) == 0)=decide (x=0):=by
    rw[Bool.eq_iff_iff,beq_iff_eq,decide_eq_true_iff];omega
   first
    | rw[decide_eq_true hx0] at hx1
    | rw[decide_eq_false hx0] at hx1
   have Hx0:=hid (show decide (x=0)=decide (x=0) from rfl)
   first
    | rw[show decide (x=0)=true from decide_eq_true hx0] at Htc
    | rw[show decide (x=0)=false from decide_eq_false hx0] at Htc
   clear hx0 Hx0;go_enter Tryz.func149,Tryz.ntmps149;go_wp2_with fail;refine HLa.out.mono ?_;rintro e w1 ⟨rfl,hb1⟩;have hS1:=(HS.out.later hb1).later ((Below.refl w1.heap.size w1).alloc (Nat.le_refl _) (.cells #[.int .u64 (z1:Int),.int .u64 (z2:Int)] 135));have s3:=hS1.srow.cell 3 rfl;have y3:=hS1.srow.fz 3;have HS2:=hid (fun tv=>show SRows ((w1.alloc (.cells #[.int .u64 (z1:Int),.int .u64 (z2:Int)] 135)).setCell ⟨B,3,none⟩ (.bool tv)) base R L (zc5 B) K U C B (sgC s.left 0 last tv) (k8 C 0 lo0 s.l.getLast? false) s.ix s.vs s.l from hS1.setB 3 (.bool tv));have HLo:=hid (fun tv=>zsc C 0 lo0 x s.l.getLast? _ (HS2.out tv).cur (fun t ht=>(Hl.out t (List.mem_of_getLast? ht)).2) (by omega) Hx.out);have Hb2:=hid (fun tv=>Hb0.out.trans (((BelT.to hb1 Hbw.out).trans ((BelT.refl base w1).alloc (Nat.le_trans Hbw.out hb1.size) (.cells #[.int .u64 (z1:Int),.int .u64 (z2:Int)] 135))).setCell (p:=⟨B,3,none⟩) hB0 (.bool tv) HoB.out));have p8:=hS1.row.cell 8 rfl;have hneB:=hS1.row.ne hS1.srow (by decide);clear hb1 hS1 q8 v1;unfold qr at Hr;rw[Hr.out] at HLo;go_wp2_with fail;refine(HLo.out _).mono ?_;rintro e w3 ⟨rfl,hc3,hg3⟩;have HS3:=hid ((HS2.out _).curs hc3 hg3);have Hb3:=hid ((Hb2.out _).grown hg3 (Nat.le_trans hR0 (Nat.le_of_lt (HS2.out _).row.lt)) (fun k hk=>by injection hk with hk;omega) (zec (HoC.out.back Hb0.out)));clear hc3 hg3 s3 y3;go_wp2_with fail;refine(HN.out _).mono ?_;rintro e w' ⟨rfl,rfl⟩;go_wp2_with fail;go_ret
   exact⟨Hb3.out,rfl,_,HS3.out.row,rfl⟩
 | some z=>
  have Htz:=hid (Htc.out z rfl);cases b
  all_goals
   by_cases hx0:x=0
  all_goals
   have hx1:((x:Int) == 0)=decide (x=0):=by
    rw[Bool.eq_iff_iff,beq_iff_eq,decide_eq_true_iff];omega
   first
    | rw[decide_eq_true hx0] at hx1
    | rw[decide_eq_false hx0] at hx1
   have Hx0:=hid (show decide (x=0)=decide (x=0) from rfl)
   first
    | rw[show decide (x=0)=true from decide_eq_true hx0] at Htz
    | rw[show decide (x=0)=false from decide_eq_false hx0] at Htz
   clear hx0 Hx0;go_enter Tryz.func149,Tryz.ntmps149;go_wp2_with fail;refine HLa.out.mono ?_;rintro e w1 ⟨rfl,hb1⟩;have hS1:=(HS.out.later hb1).later ((Below.refl w1.heap.size w1).alloc (Nat.le_refl _) (.cells #[.int .u64 (z1:Int),.int .u64 (z2:Int)] 135));have s3:=hS1.srow.cell 3 rfl;have y3:=hS1.srow.fz 3;have HS2:=hid (fun tv=>show SRows ((w1.alloc (.cells #[.int .u64 (z1:Int),.int .u64 (z2:Int)] 135)).setCell ⟨B,3,none⟩ (.bool tv)) base R L (zc5 B) K U C B (sgC s.left 0 last tv) (k8 C 0 lo0 s.l.getLast? false) s.ix s.vs s.l from hS1.setB 3 (.bool tv));have HLo:=hid (fun tv=>zsc C 0 lo0 x s.l.getLast? _ (HS2.out tv).cur (fun t ht=>(Hl.out t (List.mem_of_getLast? ht)).2) (by omega) Hx.out);have Hb2:=hid (fun tv=>Hb0.out.trans (((BelT.to hb1 Hbw.out).trans ((BelT.refl base w1).alloc (Nat.le_trans Hbw.out hb1.size) (.cells #[.int .u64 (z1:Int),.int .u64 (z2:Int)] 135))).setCell (p:=⟨B,3,none⟩) hB0 (.bool tv) HoB.out));have p8:=hS1.row.cell 8 rfl;have hneB:=hS1.row.ne hS1.srow (by decide);clear hb1 hS1 q8 v1;unfold qr at Hr;rw[Hr.out] at HLo;go_wp2_with fail;refine(HLo.out _).mono ?_;rintro e w3 ⟨rfl,hc3,hg3⟩;have hS3:=(HS2.out _).curs hc3 hg3;have t1:w3.cell? ⟨B,1,none⟩=some (.int .i64 0):=hS3.srow.cell 1 rfl;have y1:=hS3.srow.fz 1;have HS4:=hid (hS3.setB 1 (.int .i64 1));have Hb3:=hid (((Hb2.out _).grown hg3 (Nat.le_trans hR0 (Nat.le_of_lt (HS2.out _).row.lt)) (fun k hk=>by injection hk with hk;omega) (zec (HoC.out.back Hb0.out))).setCell (p:=⟨B,1,none⟩) hB0 (.int .i64 1) (HoB.out.back Hb0.out));clear hc3 hg3 s3 y3 hS3;go_wp2_with fail;go_ret;exact⟨Hb3.out,rfl,SRows.wkr (lo0:=0) (s:={ s with turn:=1,lo:=z,tch:=zc1 s.l z }) HS4.out Ht.out hR0 hU hC hB0 Hla.out (fun _=>by rw[Htz.out];rfl) rfl⟩
def zot (s:WS) (p x:Nat):Except (Nat×Nat) WS:=if s.lo+x<18446744073709551616 then .ok { s with turn:=2,hi:=s.lo+x } else .error (8,p)
set_option maxRecDepth 100000 in
theorem yb8 (base R:Nat) (L:zc) (s:WS) (K:Value) (U C B rest x p:Nat) (last:Int) (touch:Bool) (w0 w:World) (ht:s.tag=3) (hR0:base≤R) (hU:base≤U) (hC:base≤C) (hB0:base≤B) (hb0:BelT base w0 w)
 (hS:SRows w base R L (zc5 B) K U C B (sgC s.left 1 last touch) (k8 C 0 s.lo s.l.getLast? true) s.ix s.vs s.l) (hla:∀x,s.ix.getLast?=some x→last=(x:Int)) (hto:touch=s.tch) (hlo:s.lo<18446744073709551616) (hx:x<18446744073709551616):
 Calls Tryz.prog 149 #[.pointer (some ⟨R,0,none⟩),.pointer (some ⟨B,0,none⟩),.int .u64 (x:Int),.int .i64 (p:Int),.int .i64 (rest:Int)] w (WkS w0 base R L (zot s p x)):=by
 have Ht:=hid ht;have Hla:=hid hla;have Hto:=hid hto;have HS:=hid hS;have Hb0:=hid hb0;have HoB:=hid (hS.srow.okR zsf);have HoC:=hid (hS.cur.okR zoi);have HHi:=hid (zyi C 0 s.lo x s.l.getLast? w hS.cur hlo hx);have Hbw:=hid (show base≤w.heap.size by have:=hS.row.lt;omega);have q8:=hS.row.cell 8 rfl;have v1:w.cell? ⟨B,1,none⟩=some (.int .i64 1):=hS.srow.cell 1 rfl;clear ht hla hto hS hb0 hlo hx;unfold zls at HHi;by_cases hc:s.lo+x<18446744073709551616
 · have HHi2:=hid (HHi.out.mono fun e w' h=>by rw[if_pos hc] at h;exact h);have Hv:=hid (show zot s p x=.ok { s with turn:=2,hi:=s.lo+x } from if_pos hc);clear HHi hc;generalize hz:s.lo+x=z at*;clear hz;unfold ivV at HHi2;go_enter Tryz.func149,Tryz.ntmps149;go_wp2_with fail;refine HHi2.out.mono ?_;rintro e w1 ⟨rfl,hc1,hg1⟩;have hS1:=((HS.out).curs hc1 hg1).later ((Below.refl w1.heap.size w1).alloc (Nat.le_refl _) (.cells #[.int .u64 (s.lo:Int),.int .u64 (z:Int)] 135));have Hb1:=hid (((Hb0.out.grown hg1 (Nat.le_trans (by have:=Hb0.out.size;have:=Hbw.out;exact this) (Nat.le_refl _)) (fun k hk=>by injection hk with hk;omega) (zec (HoC.out.back Hb0.out))).alloc (by have:=Hbw.out;have:=hg1.size;omega) (.cells #[.int .u64 (s.lo:Int),.int .u64 (z:Int)] 135)).setCell (p:=⟨B,1,none⟩) hB0 (.int .i64 2) (HoB.out.back Hb0.out));have t1:∀o,(w1.alloc o).cell? ⟨B,1,none⟩=some (.int .i64 1):=fun o=>(((HS.out).curs hc1 hg1).later ((Below.refl w1.heap.size w1).alloc (Nat.le_refl _) o)).srow.cell 1 rfl
   have y1:∀o,(w1.alloc o).frozen? ⟨B,1,none⟩=false:=fun o=>(((HS.out).curs hc1 hg1).later ((Below.refl w1.heap.size w1).alloc (Nat.le_refl _) o)).srow.fz 1
   have HS4:=hid (hS1.setB 1 (.int .i64 2));clear hc1 hg1 hS1 q8 v1;go_wp2_with fail;go_ret;exact⟨Hb1.out,by rw[Hv.out];exact⟨rfl,SRows.wkr (lo0:=s.lo) (s:={ s with turn:=2,hi:=z }) HS4.out Ht.out hR0 hU hC hB0 Hla.out (fun _=>Hto.out) rfl⟩⟩
 · have HHi2:=hid (HHi.out.mono fun e w' h=>by rw[if_neg hc] at h;exact h);have Hv:=hid (show zot s p x=.error (8,p) from if_neg hc);have HN:=hid (fun W=>zdk (c:=8) (o:=p) (by decide) W);clear HHi hc;unfold ivV at HHi2;go_enter Tryz.func149,Tryz.ntmps149;go_wp2_with fail;refine HHi2.out.mono ?_;rintro e w1 ⟨rfl,hc1,hg1⟩;have HS1:=hid (fun o=>((HS.out).curs hc1 hg1).later ((Below.refl w1.heap.size w1).alloc (Nat.le_refl _) o));have Hb1:=hid (fun o=>(Hb0.out.grown hg1 (by have:=Hbw.out;exact this) (fun k hk=>by injection hk with hk;omega) (zec (HoC.out.back Hb0.out))).alloc (by have:=Hbw.out;have:=hg1.size;omega) o);clear hc1 hg1 q8 v1;go_wp2_with fail;refine(HN.out _).mono ?_;rintro e w' ⟨rfl,rfl⟩;go_wp2_with fail;go_ret;exact⟨Hb1.out _,by rw[Hv.out];exact⟨rfl,_,(HS1.out _).row,rfl⟩⟩
end
section
open Go.RowKit
attribute [local go_sem] y9
theorem VecAt.later {w w':World} {base R:Nat} {L:zc} {K:Value} {U C B:Nat} {s:WS} (h:VecAt w base R L K U C B s) (hb:Below w.heap.size w w'):VecAt w' base R L K U C B s:=by
 rcases h with ⟨h1,⟨ip,h2⟩,h3⟩ | ⟨h1,P,pb,wb,h2,h3,h4,h5,b1,b2,b3,b4,b5,h6⟩
 · exact .inl ⟨h1,⟨ip,h2.later hb⟩,h3.later hb⟩
 · exact .inr ⟨h1,P,pb,wb,h2.later hb,h3,h4.trans (.of_below hb),h5,b1,b2,b3,b4,b5,h6.later hb⟩
theorem WkR.later {w w':World} {base R:Nat} {L:zc} {s:WS} (h:WkR w base R L s) (hb:Below w.heap.size w w'):WkR w' base R L s:=by
 obtain⟨hR0,part,K,U,C,hU,hC,hR,hu,hB⟩:=h;refine⟨hR0,part,K,U,C,hU,hC,hR.later hb,hu.same (hb.block U hu.lt),?_⟩;unfold WkB at hB ⊢;split at hB
 · exact⟨hB.1,hB.2.1.later hb,hB.2.2.later hb⟩
 · obtain⟨B,e,hB0,hc,hV⟩:=hB;exact⟨B,e,hB0,hc.later hb,hV.later hb⟩
 · exact⟨hB.1,hB.2.1.later hb,hB.2.2.later hb⟩
 · obtain⟨B,e,hB0,hM,last,touch,lo0,h1,h2,h3,h4⟩:=hB;exact⟨B,e,hB0,hM.later hb,last,touch,lo0,h1.later hb,h2,h3,h4.later hb⟩
 · exact⟨hB.1,hB.2.later hb⟩
theorem Tryz.eqGuard_if (op:BinOp) (t:TypeId) (x y:Operand) (a:Value) (T:TypeId) (v:Value) (w:World):(eqGuard op t x y a (.iface T v)).run Tryz.prog w=.ok () w:=by
 cases op <;> cases a <;> rfl
attribute [local go_sem] Tryz.eqGuard_if
end
section
open Go.RowKit
attribute [local go_sem] y9
theorem UsedM.okR {w:World} {U:Nat} {ix:List Nat} (h:UsedM w U ix):OkR w U:=by
 obtain⟨n,D,⟨es,clock,h1,h2⟩,h3⟩:=h;exact OkR.map h1
structure ItemOut (base g i n cap:Nat) (vs:List Vec) (l:List Iv) (ix:List Nat) (W w':World) (gS m cS:Nat) (S:Value):Prop where
 below:BelT base W w'
 cell:w'.cell? ⟨g,i*2,none⟩=some S
 frozen:w'.frozen? ⟨g,i*2,none⟩=false
 row:∀g' T C,Row W g' T C→T≠135→Row w' g' T C
 used:∀U ux,UsedM W U ux→UsedM w' U ux
 fin:SegM (w'.setCell ⟨g,i*2,none⟩ (.slice (some ⟨gS,0,none⟩) m cS)) base (.slice (some ⟨g,0,none⟩) n cap) vs l ix
theorem yb9 {w W:World} {ops:Array Oper} {o:Oper} {a:Act} {K:Act→World→Prop} {Q:Exit→Act→World→Prop} {E:Prop} (hgd:o.guard=none) (s x:Operand)
 (ho:o.op=.call { callee:=.builtin .append,args:= #[s,x],argTypes:= #[123,123] }) (hty:o.type=123)
 {base g n cap:Nat} {vs:List Vec} {l:List Iv} {ix:List Nat} (hM:SegM w base (.slice (some ⟨g,0,none⟩) n cap) vs l ix) (hn:n=vs.length) (hli:ix.length=l.length) {i:Nat} (hi:i<n) {S:Value} (hS:w.cell? ⟨g,i*2,none⟩=some S) (t:Iv) (hW:Below w.heap.size w W) (hbw:base≤w.heap.size)
 (hs:a.eval s=S) (A:Option Addr) (c:Nat) (hx:a.eval x=.slice A 1 c) (hr:Rd W 2 A 1 (ivC [t])) (hb:l.length+1≤1000000000000)
 (hK:∀gS m cS w',ItemOut base g i n cap vs (l++[t]) (ix++[i]) w w' gS m cS S→K (a.put o.dst (.slice (some ⟨gS,0,none⟩) m cS)) w'):
 if Region.wanted o (yielded ops a.tmps)=true then Oper.wp Tryz.prog o a W K Q else E:=by
 subst hn;obtain⟨S',w',hrun,⟨gS,m,cS,rfl⟩,h5,h6,h3,h4,h7⟩:=hM.put hli hi hS t W hW A c hr hb;refine zft hgd s x _ ho _ _ hs hx _ w' (by rw[hty];exact hrun) ?_;refine hK gS m cS w' ⟨?_,h3,h4,fun g' T C hR hT=>(hR.later hW).grown h5 fun e=>?_,fun U ux hU=>(hU.same (hW.block U hU.lt)).same (h5.block U (Nat.lt_of_lt_of_le hU.lt hW.size) fun e=>?_),h7 w' (vy _ _)⟩
 · exact(BelT.to hW hbw).grown h5 (Nat.le_trans hbw hW.size) (fun k hk=>(h6 k hk).1) (fun k hk=>(OkR.cells (h6 k hk).2.choose_spec.choose_spec zyg).back (BelT.to hW hbw))
 · obtain⟨-,C',fr,hk⟩:=h6 g' e.symm;replace hR:=hR.later hW;unfold Row at hR;rw[hk] at hR;injection hR with hR;injection hR with _ hR _;exact hT hR.symm
 · obtain⟨-,C',fr,hk⟩:=h6 U e.symm;exact(hU.same (hW.block U hU.lt)).ne hk rfl
structure IRows (w w':World) (base R:Nat) (L:zc) (part K:Value) (U C B:Nat) (S Cu:List Value) (ux ix:List Nat) (vs:List Vec) (l:List Iv):Prop where
 below:BelT base w w'
 row:Row w' R 155 (wkC L part K U C .nilIface)
 srow:Row w' B 241 S
 cur:Row w' C 230 Cu
 used:UsedM w' U ux
 seg:SegM w' base K vs l ix
theorem ItemOut.rows {w w':World} {base g i n cap gS m cS R U C B:Nat} {vs:List Vec} {l l':List Iv} {ix ix':List Nat} {Sv:Value} {L:zc} {part:Value} {S Cu:List Value} (h:ItemOut base g i n cap vs l' ix' w w' gS m cS Sv) (hS:SRows w base R L part (.slice (some ⟨g,0,none⟩) n cap) U C B S Cu ix vs l) (hg:base≤g):
 IRows w (w'.setCell ⟨g,i*2,none⟩ (.slice (some ⟨gS,0,none⟩) m cS)) base R L part (.slice (some ⟨g,0,none⟩) n cap) U C B S Cu ix ix' vs l':=by
 obtain⟨w2,X,Y,-,-,-,h4,-,-⟩:=hS.seg;have ne:∀{g' T C'},Row w g' T C'→T≠127→g'≠g:=fun hR hT e=>hR.ne_own h4 hT g rfl e.symm
 have hrow:∃C' fr,w.heap[g]?=some (.cells C' 127 fr):=by
  rcases h4.2 with ⟨h',_⟩ | ⟨g',cap',cur,h',_,hh,_⟩
  · cases h'
  · cases h';exact⟨_,_,hh⟩
 obtain⟨C',fr,hrow⟩:=hrow;refine⟨h.below.setCell (p:=⟨g,i*2,none⟩) hg _ (OkR.cells hrow zyh),(h.row _ _ _ hS.row (by decide)).other (a:=⟨g,i*2,none⟩) (ne hS.row (by decide)) _,(h.row _ _ _ hS.srow (by decide)).other (a:=⟨g,i*2,none⟩) (ne hS.srow (by decide)) _,(h.row _ _ _ hS.cur (by decide)).other (a:=⟨g,i*2,none⟩) (ne hS.cur (by decide)) _,(h.used _ _ hS.used).same (heap_setCell_other _ ⟨g,i*2,none⟩ U _ fun e=>?_),h.fin⟩;exact hS.used.ne hrow e
theorem IRows.map {w wc w':World} {base R U C B:Nat} {S Cu:List Value} {ux ix ix':List Nat} {vs:List Vec} {l:List Iv} {L:zc} {part K:Value} (h:IRows w wc base R L part K U C B S Cu ux ix vs l) (hu:UsedM w' U ix') (hg:wc.grownBy w' (some U)) (hi:ix=ix'):SRows w' base R L part K U C B S Cu ix' vs l:=by
 subst hi;have ne:∀{g T C'},Row wc g T C'→some g≠some U:=fun hR e=>by injection e with e;exact h.used.ne (show wc.heap[_]?=_ from hR) e.symm
 exact⟨h.row.grown hg (ne h.row),h.srow.grown hg (ne h.srow),h.cur.grown hg (ne h.cur),hu,h.seg.grown h.used.notT hg⟩
def zi1 (E:Nat) (s:WS) (p q x:Nat):Except (Nat×Nat) WS:=
 if s.vs.length≤x then .error (8,p) else if s.tch=true∧s.ix.getLast?=some x then .error (10,p) else
  if s.left=1 then zbn E { s with l:=s.l++[(s.lo,s.hi)],ix:=s.ix++[x],left:=0,turn:=0 } q
  else .ok { s with l:=s.l++[(s.lo,s.hi)],ix:=s.ix++[x],left:=s.left - 1,turn:=0 }
set_option maxRecDepth 100000 in
theorem yca (base R:Nat) (L:zc) (s:WS) (K:Value) (U C B E x p q lo0:Nat) (last:Int) (touch:Bool) (w0 w:World) (ht:s.tag=3) (hR0:base≤R) (hU:base≤U) (hC:base≤C) (hB0:base≤B) (hb0:BelT base w0 w)
 (hS:SRows w base R L (zc5 B) K U C B (sgC s.left 2 last touch) (k8 C 0 lo0 (some (s.lo,s.hi)) false) s.ix s.vs s.l) (hla:∀x,s.ix.getLast?=some x→last=(x:Int)) (hto:touch=s.tch) (htn:s.tch=true→s.ix≠[]) (hF:WFit s p) (hleft:0<s.left)
 (hx:x<18446744073709551616) (hq:q=p+(yp x).length) (hqE:q≤E) (hE:q≤900000000000) (hrs:E - q<9223372036854775808):
 Calls Tryz.prog 149 #[.pointer (some ⟨R,0,none⟩),.pointer (some ⟨B,0,none⟩),.int .u64 (x:Int),.int .i64 (p:Int),.int .i64 ((E - q:Nat):Int)] w (WkS w0 base R L (zi1 E s p q x)):=by
 subst hto;obtain⟨ka,kc,hKe⟩:=hS.seg.len;subst hKe;obtain⟨n,hn⟩:∃n,n=s.vs.length:=⟨_,rfl⟩;have Hn:=hid hn;have q6:=hS.row.cell 6 rfl;have q8:=hS.row.cell 8 rfl;have v1:w.cell? ⟨B,1,none⟩=some (.int .i64 2):=hS.srow.cell 1 rfl;have v2:=hS.srow.cell 2 rfl;have v3:=hS.srow.cell 3 rfl;have hnl:n≤1000000000000:=by rw[hn];have:=hF.vsl;omega
 have hwn:IntKind.u64.wrap (n:Int)=(n:Int):=by rw[IntKind.wrap_u64];omega
 have Ht:=hid ht;have Hla:=hid hla;have Htn:=hid htn;have HF:=hid hF;have Hleft:=hid hleft;have HoB:=hid ((hS.srow.okR zsf).back hb0);have HoU:=hid (hS.used.okR.back hb0);have HS:=hid hS;have Hb0:=hid hb0;have Hx:=hid hx;have Hq:=hid hq;have HqE:=hid hqE;have HE:=hid hE;have HRs:=hid hrs;have Hbw:=hid (show base≤w.heap.size by have:=hS.row.lt;omega);have HLa:=hid (zyj C 0 lo0 (some (s.lo,s.hi)) false w hS.cur);rw[←hn] at q6;clear ht hla htn hF hleft hS hb0 hx hq hE hrs hn;by_cases h8:n≤x
 · have Hv:=hid (show zi1 E s p q x=.error (8,p) from if_pos (by rw[←Hn.out];exact h8));have HN:=hid (fun W=>zdk (c:=8) (o:=p) (by decide) W);go_enter Tryz.func149,Tryz.ntmps149;go_wp2_with fail;refine(HN.out _).mono ?_;rintro e w' ⟨rfl,rfl⟩;go_wp2_with fail;go_ret;exact⟨Hb0.out,by rw[Hv.out];exact⟨rfl,_,HS.out.row,rfl⟩⟩
 · have hxn:x<n:=by omega
   have hwx:IntKind.i64.wrap (x:Int)=(x:Int):=by rw[IntKind.wrap_i64];omega
   by_cases h10:s.tch=true∧s.ix.getLast?=some x
   · have Hv:=hid (show zi1 E s p q x=.error (10,p) from by
      unfold zi1;rw[if_neg (by rw[←Hn.out];exact h8),if_pos h10])
     have HN:=hid (fun W=>zdk (c:=10) (o:=p) (by decide) W);have hl:=Hla.out x h10.2;rw[hl] at v2;rw[h10.1] at v3;clear h10 hl h8;go_enter Tryz.func149,Tryz.ntmps149;go_wp2_with fail;refine(HN.out _).mono ?_;rintro e w' ⟨rfl,rfl⟩;go_wp2_with fail;go_ret;exact⟨Hb0.out,by rw[Hv.out];exact⟨rfl,_,HS.out.row,rfl⟩⟩
   · have hgd:(s.tch=false)∨(s.tch=true∧((x:Int) == last)=false):=by
      cases htc:s.tch with
      | false=>exact .inl rfl
      | true=>
       right;refine⟨rfl,?_⟩;rw[beq_eq_false_iff_ne];intro e;have hne:=Htn.out htc
       obtain⟨y,hy⟩:∃y,s.ix.getLast?=some y:=by
        cases hg:s.ix.getLast? with
        | none=>exact absurd (List.getLast?_eq_none_iff.1 hg) hne
        | some y=>exact⟨y,rfl⟩
       have:=Hla.out y hy;have hxy:x=y:=by omega
       exact h10 ⟨htc,by rw[hy,hxy]⟩
     have Hvv:=hid (show zi1 E s p q x=if s.left=1 then zbn E { s with l:=s.l++[(s.lo,s.hi)],ix:=s.ix++[x],left:=0,turn:=0 } q else .ok { s with l:=s.l++[(s.lo,s.hi)],ix:=s.ix++[x],left:=s.left - 1,turn:=0 } from by
      unfold zi1;rw[if_neg (by rw[←Hn.out];exact h8),if_neg h10])
     obtain⟨gk,kcap,hke,hgk,hgkl,-,S,cS⟩:=HS.out.seg.at (i:=x) (by rw[←Hn.out];exact hxn);have hka:ka=some ⟨gk,0,none⟩:=by injection hke
     subst hka;have hkc:kc=kcap:=by injection hke
     subst hkc;simp only[ivV,Option.getD_some,Option.isSome_some] at HLa;have h0x:(0:Int)≤x:=by omega
     have h0n:(x:Int)<(n:Int):=by omega
     have Hgk:=hid hgk;clear h10 h8 hke hgk;have Hgd:=hid hgd;clear hgd;go_enter Tryz.func149,Tryz.ntmps149;go_upto_region 5 with fail
     go_cut [47] (fun v wc=>v=.bool false∧wc=w)
     case first=>
      rcases Hgd.out with hgd | ⟨hgd,hge⟩
      all_goals
       rw[hgd] at v3;clear hgd;go_wp2_with fail;go_meet
       exact⟨rfl,rfl⟩
     case rest=>
      obtain⟨rfl,rfl⟩:=hcut;clear Hgd;go_wp2_with fail;refine HLa.out.mono ?_;rintro e w1 ⟨rfl,hb1⟩;have hS1:=HS.out.later hb1;obtain⟨w2,hw2⟩:∃w2,w2=w1.alloc (.cells #[.int .u64 ((s.lo:Nat):Int),.int .u64 ((s.hi:Nat):Int)] 135):=⟨_,rfl⟩;have hb2:Below w1.heap.size w1 w2:=by rw[hw2];exact(Below.refl _ _).alloc (Nat.le_refl _) _
      have hX:Row w2 w1.heap.size 135 [.int .u64 ((s.lo:Nat):Int),.int .u64 ((s.hi:Nat):Int)]:=by rw[hw2];exact y7 _ _ _
      have hS2:=hS1.later hb2;have x0:=hX.cell 0 rfl;have x1:=hX.cell 1 rfl;have p6:=hS2.row.cell 6 rfl;rw[←Hn.out] at p6;have cS2:w2.cell? ⟨gk,x*2,none⟩=some S:=(hb2.cell (p:=⟨gk,x*2,none⟩) (Nat.lt_of_lt_of_le (zf cS) hb1.size)).trans ((hb1.cell (p:=⟨gk,x*2,none⟩) (zf cS)).trans cS);have hal:∀o,Below w2.heap.size w2 (w2.alloc o):=fun o=>(Below.refl _ _).alloc (Nat.le_refl _) o
      have p6o:=fun o=>((hal o).cell (p:=⟨R,6,none⟩) (zf p6)).trans p6
      have cSo:=fun o=>((hal o).cell (p:=⟨gk,x*2,none⟩) (zf cS2)).trans cS2
      have HS2:=hid hS2;have HS2n:=hid (show SRows w2 base R L (zc5 B) (.slice (some ⟨gk,0,none⟩) n kc) U C B (sgC s.left 2 last s.tch) (k8 C 0 lo0 (some (s.lo,s.hi)) false) s.ix s.vs s.l from by rw[Hn.out];exact hS2);have hseg2:=hS2.seg;rw[←Hn.out] at hseg2;have hbw2:base≤w2.heap.size:=by have:=hS2.row.lt;omega
      have Hb2:=hid (Hb0.out.trans ((BelT.to hb1 Hbw.out).trans (BelT.to hb2 (Nat.le_trans Hbw.out hb1.size))));have hll:s.l.length+1≤1000000000000:=by have:=HF.out.ll;have:=Hq.out;have:=HE.out;omega
      have Hll:=hid hll;have Hli:=hid HF.out.li;clear hb1 hb2 hX hS1 hS2 hal q6 q8 hll cS;go_wp2_with fail;rw[←hw2];clear hw2;have HRw:=hid (show base≤gk from Hgk.out);go_cut [] (fun wc=>Hid (IRows w2 wc base R L (zc5 B) (.slice (some ⟨gk,0,none⟩) n kc) U C B (sgC s.left 2 last s.tch) (k8 C 0 lo0 (some (s.lo,s.hi)) false) s.ix (s.ix++[x]) s.vs (s.l++[(s.lo,s.hi)])))
      case first=>
       go_region_law (first
        | (refine yb9 rfl (.tmp 70) (.tmp 72) rfl rfl hseg2 Hn.out Hli.out hxn cS2 (s.lo,s.hi) ?hW hbw2 rfl _ _ rfl (yq (zh _ _ _ (by simp)) rfl rfl) Hll.out ?_
           case hW=>repeat (first | exact Below.refl _ _ | refine Below.alloc ?_ (by simp) _ | refine Below.drew ?_ | refine z7 ?_ _)
           intro gS m cS' w4 hO;have hq4:=hO.cell;have hf4:=hO.frozen;have p6w:=(hO.row R _ _ HS2.out.row (by decide)).cell 6 rfl;rw[←Hn.out] at p6w;have HO:=hid hO;clear hO))
       all_goals
        go_wp2;go_meet
        exact HO.out.rows HS2n.out HRw.out
      case rest=>
       have HI:=hid hcut.out;have hU3:=hcut.out.used;have q7:=hcut.out.row.cell 7 rfl;have hxi:x<9223372036854775808:=by omega
       have hil:s.ix.length<9223372036854775807:=by have:=HF.out.ll;have:=HF.out.li;have:=Hq.out;have:=HE.out;omega
       have hbc:=Hb2.out.trans hcut.out.below;have Hbc:=hid hbc;have Hbwc:=hid (show base≤wc.heap.size by have:=hcut.out.row.lt;omega);clear hcut hseg2 cS2 cSo p6o p6 hbc;obtain⟨k,hk⟩:∃k,k=s.left:=⟨_,rfl⟩;rw[←hk] at HI;have Hk:=hid hk;have hk0:=Hleft.out;have hk1:=HF.out.left;rw[←hk] at hk0 hk1;obtain⟨k1,hkk⟩:∃k1,k1=k - 1:=⟨_,rfl⟩;have hkw:IntKind.u64.wrap ((k:Int) - 1)=(k1:Int):=by rw[IntKind.wrap_u64];omega
       have Hkk:=hid hkk;by_cases hl1:k=1
       · have hz:((k1:Int) == 0)=true:=by rw[beq_iff_eq];omega
         have Hv:=hid (Hvv.out.trans (if_pos (by rw[←Hk.out];exact hl1)));have hpq:IntKind.i64.wrap ((p:Int)+((yp x).length:Int))=(q:Int):=by have:=Hq.out;have:=HqE.out;have:=HE.out;rw[IntKind.wrap_i64];omega
         have HSz:=hid (fun W=>zjq x W Hx.out);obtain⟨fr,hfr⟩:∃fr,fr=zbn E { s with l:=s.l++[(s.lo,s.hi)],ix:=s.ix++[x],left:=0,turn:=0 } q:=⟨_,rfl⟩;rw[←hfr] at Hv
         have HFn:=hid (fun K U C W h1 h2 h3 h4 h5 h6=>hfr ▸ zzc base R L { s with l:=s.l++[(s.lo,s.hi)],ix:=s.ix++[x],left:=0,turn:=0 } (zc5 B) K U C E q W h1 h2 h3 h4 h5 h6 (by simp[HF.out.li]) (by
          intro i hi;simp only[List.mem_append,List.mem_singleton] at hi;rcases hi with hi | rfl
          · exact HF.out.ix i hi
          · have:=Hn.out;exact this ▸ hxn) HRs.out HqE.out)
         clear hk hk0 hk1 hkk hl1 hfr;go_wp2_with (at_mapUpdate;refine zyf rfl _ _ _ rfl U s.ix hU3 x hxi hil rfl rfl rfl ?_;intro w5 hu5 hg5;have hS5:=HI.out.map hu5 hg5 rfl;have t2:=hS5.srow.cell 2 rfl;have y2:=hS5.srow.fz 2;have t0:=hS5.srow.cell 0 rfl;have y0:=hS5.srow.fz 0;have HS7:=hid ((hS5.setB 2 (.int .i64 (x:Int))).setB 0 (.int .u64 (k1:Int)));have Hb7:=hid (((Hbc.out.grown hg5 Hbwc.out (fun k hk=>by injection hk with hk;omega) (zec HoU.out)).setCell (p:=⟨B,2,none⟩) hB0 (.int .i64 (x:Int)) HoB.out).setCell (p:=⟨B,0,none⟩) hB0 (.int .u64 (k1:Int)) HoB.out);clear hu5 hg5 hS5);refine(HSz.out _).mono ?_;rintro e w6 ⟨rfl,rfl⟩;go_wp2_with fail;refine(HFn.out _ U C _ hR0 hU hC HS7.out.row HS7.out.used (by have:=HS7.out.seg;exact this)).mono ?_;rintro e w6 ⟨hb6,hr6⟩
         cases fr with
         | error c=>
          obtain⟨rfl,hr6⟩:=hr6;go_wp2_with fail;go_ret
          exact⟨Hb7.out.trans hb6,by rw[Hv.out];exact⟨rfl,hr6⟩⟩
         | ok s'=>
          obtain⟨rfl,hr6⟩:=hr6;go_wp2_with fail;go_ret;exact⟨Hb7.out.trans hb6,by rw[Hv.out];exact⟨rfl,hr6⟩⟩
       · have hz:((k1:Int) == 0)=false:=by rw[beq_eq_false_iff_ne];omega
         have Hv:=hid (Hvv.out.trans (if_neg (by rw[←Hk.out];exact hl1)));clear hk hk0 hk1 hkk hl1;go_wp2_with (at_mapUpdate;refine zyf rfl _ _ _ rfl U s.ix hU3 x hxi hil rfl rfl rfl ?_;intro w5 hu5 hg5;have hS5:=HI.out.map hu5 hg5 rfl;have t2:=hS5.srow.cell 2 rfl;have y2:=hS5.srow.fz 2;have t0:=hS5.srow.cell 0 rfl;have y0:=hS5.srow.fz 0;have t1:=hS5.srow.cell 1 rfl;have y1:=hS5.srow.fz 1;have HS7:=hid (((hS5.setB 2 (.int .i64 (x:Int))).setB 0 (.int .u64 (k1:Int))).setB 1 (.int .i64 0));have Hb7:=hid ((((Hbc.out.grown hg5 Hbwc.out (fun k hk=>by injection hk with hk;omega) (zec HoU.out)).setCell (p:=⟨B,2,none⟩) hB0 (.int .i64 (x:Int)) HoB.out).setCell (p:=⟨B,0,none⟩) hB0 (.int .u64 (k1:Int)) HoB.out).setCell (p:=⟨B,1,none⟩) hB0 (.int .i64 0) HoB.out);clear hu5 hg5 hS5);go_ret;refine⟨Hb7.out,?_⟩;rw[Hv.out];refine⟨rfl,SRows.wkr (lo0:=lo0) (K:=.slice (some ⟨gk,0,none⟩) n kc) (last:=(x:Int)) (touch:=s.tch) (s:={ s with l:=s.l++[(s.lo,s.hi)],ix:=s.ix++[x],left:=s.left - 1,turn:=0 }) ?_ Ht.out hR0 hU hC hB0 (fun y hy=>?_) (fun h=>?_) rfl⟩
         · have:=HS7.out;rw[show s.left - 1=k1 from by rw[Hkk.out,Hk.out]];simp only[cuC,List.getLast?_append,List.getLast?_singleton,Option.some_or];exact this
         · simp at hy;rw[hy]
         · exact absurd h (by simp)
end
