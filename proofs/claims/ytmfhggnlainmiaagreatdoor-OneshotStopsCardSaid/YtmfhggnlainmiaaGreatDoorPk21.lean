/- Part 21. -/
import Derived.Test.YtmfhggnlainmiaaGreatDoorPk17
set_option linter.unusedVariables false
set_option maxHeartbeats 16000000
namespace Go.Proofs.YtmfhggnlainmiaaGreatDoor
open Lib (hid)
section
open Go.RowKit
theorem zf1 {w:World} {sz:Nat} (C:Array Value) (T:TypeId) (fr:Nat×Nat) (n:Nat) (xs:List Value) (hC:C=xs.toArray) (hx:xs.length=n*sz):Rd (w.alloc (.cells C T fr)) sz (some ⟨w.heap.size,0,none⟩) n xs:=by
 subst hC;refine⟨hx,fun _=>⟨w.heap.size,0,rfl,fun j u hu=>?_⟩⟩;rw[World.cell?_alloc_mark];simpa using hu
end
section
theorem z0u:∀N,za5 [] N=0
 | 0=>rfl
 | n+1=>by rw[za5,z0u n,if_neg (by simp)]
end
section
open Go.RowKit Go.Maps
theorem z0v (w:World):UsedM (w.alloc (.map #[] 0)) w.heap.size []:=
 ⟨0,.map [],World.ownsMap_made _ _ _ _,Nat.le_refl _,fun i=>rfl,fun N _=>(z0u N).symm⟩
end
section
open Go.RowKit
theorem z0w (w:World) (base:Nat):KV w base (.slice none 0 0) []:=⟨zgu,World.ownsRow_nil _ _ _ _,fun i h=>by simp at h⟩
theorem zo2 (w:World):Calls Tryz.prog 52 #[] w fun e w'=>e=.returned (lmV unl)∧Below w.heap.size w w':=by
 go_enter Tryz.func52,Tryz.ntmps52;go_wp2_with fail;refine bodyPost_ret (results_cell_row rfl _ _ w.heap.size 24 #[.int .i64 9223372036854775807,.int .i64 9223372036854775807,.int .i64 9223372036854775807,.int .i64 9223372036854775807,.int .i64 9223372036854775807] (0,0) _ rfl (heap_alloc_new w _) Tryz.underlying24 rfl (by kernel_rfl)) rfl ?_;exact⟨rfl,(Below.refl _ _).alloc (Nat.le_refl _) _⟩
theorem zg0:LimsI unl:=⟨⟨by decide,by decide⟩,⟨by decide,by decide⟩,⟨by decide,by decide⟩,⟨by decide,by decide⟩,⟨by decide,by decide⟩⟩
end
section
open Go.RowKit
attribute [local go_sem] y9
theorem wk0 {w:World} {base R U C:Nat} {L:zc} (hR:Row w R 155 (wkC L (.iface 148 (.agg #[])) (.slice none 0 0) U C .nilIface)) (hU:UsedM w U []) (hC:Row w C 230 (k8 C 0 0 none false)) (b1:base≤R) (b2:base≤U) (b3:base≤C):WkR w base R L ws0:=
 ⟨b1,_,_,U,C,b2,b3,hR,hU,rfl,z0w _ _,hC⟩
set_option maxRecDepth 20000 in
theorem zo3 (L:zc) (w:World):Calls Tryz.prog 40 #[lmV L] w fun e w'=>∃R,e=.returned (.pointer (some ⟨R,0,none⟩))∧WkR w' w.heap.size R L ws0∧Below w.heap.size w w':=by
 unfold lmV;have HS:=hid (fun W=>zyb 0 W);have hmm:=@run_makeMap Tryz.prog;have hX:=y7 w 24 [.int .i64 L.1,.int .i64 L.2.1,.int .i64 L.2.2.1,.int .i64 L.2.2.2.1,.int .i64 L.2.2.2.2];have HX:=hid hX
 have HLim:=hid (fun W W' (h1:Below (w.heap.size+1) (w.alloc (.cells #[.int .i64 L.1,.int .i64 L.2.1,.int .i64 L.2.2.1,.int .i64 L.2.2.2.1,.int .i64 L.2.2.2.2] 24)) W) (h2:Below W.heap.size W W')=>
  have h:=(hX.below h1 (by omega)).later h2
  And.intro (h.cell 0 rfl) (And.intro (h.cell 1 rfl) (And.intro (h.cell 2 rfl) (And.intro (h.cell 3 rfl) (h.cell 4 rfl)))))
 clear hX;go_enter Tryz.func40,Tryz.ntmps40;go_wp2;go_region_law (go_simp;go_at_call 87;refine(HS.out _).mono ?_;rintro e w1 ⟨rfl,hr1,hb1⟩;obtain⟨l0,l1,l2,l3,l4⟩:=HLim.out _ w1 (by repeat (first | exact Below.refl _ _ | refine Below.alloc ?_ (by simp) _ | refine Below.drew ?_ | refine z7 ?_ _)) hb1;have ho:=fun o=>HLim.out _ (w1.alloc o) (by repeat (first | exact Below.refl _ _ | refine Below.alloc ?_ (by simp) _ | refine Below.drew ?_ | refine z7 ?_ _)) (hb1.alloc hb1.size o);have o0:=fun o=>(ho o).1;have o1:=fun o=>(ho o).2.1;have o2:=fun o=>(ho o).2.2.1;have o3:=fun o=>(ho o).2.2.2.1;have o4:=fun o=>(ho o).2.2.2.2;clear ho;have Hr1:=hid hr1;have Hb1:=hid hb1;clear hr1 hb1)
 all_goals go_wp2
 all_goals go_ret
 all_goals clear HLim HX HS hmm l0 l1 l2 l3 l4 o0 o1 o2 o3 o4
 all_goals first
  | (have hb:=Hb1.out
     have hr:=Hr1.out
     have hU:UsedM w1 (w.heap.size+1) []:=by
      have h0:=z0v (w.alloc (.cells #[.int .i64 L.1,.int .i64 L.2.1,.int .i64 L.2.2.1,.int .i64 L.2.2.2.1,.int .i64 L.2.2.2.2] 24));rw[World.size_alloc] at h0;exact h0.same (hb.block _ (by simp))
     have hz:=hb.size;simp at hz;simp at hr;have hal:=(Below.refl w1.heap.size w1).alloc (Nat.le_refl _) (.cells #[.int .i64 L.1,.int .i64 L.2.1,.int .i64 L.2.2.1,.int .i64 L.2.2.2.1,.int .i64 L.2.2.2.2,.iface 148 (.agg #[]),.slice none 0 0,.map (some (w.heap.size+1)),.pointer (some ⟨w.heap.size+1+1,0,none⟩),.nilIface] 155)
     exact⟨_,rfl,wk0 (y7 w1 _ _) (hU.same (hal.block _ hU.lt)) (hr.later hal) (by omega) (by omega) (by omega),(Below.trans (by repeat (first | exact Below.refl _ _ | refine Below.alloc ?_ (by simp) _ | refine Below.drew ?_ | refine z7 ?_ _)) (hb.mono (by simp;omega))).trans (hal.mono (by omega))⟩)
  | (have hb:=Hb1.out
     have hr:=Hr1.out;have hz:=hb.size;simp at hr;simp at hz;have hU:UsedM (w1.alloc (.map #[] 0)) w1.heap.size []:=z0v w1;have hm:=(Below.refl w1.heap.size w1).alloc (Nat.le_refl _) (.map #[] 0);have hal:=(Below.refl (w1.alloc (.map #[] 0)).heap.size (w1.alloc (.map #[] 0))).alloc (Nat.le_refl _) (.cells #[.int .i64 L.1,.int .i64 L.2.1,.int .i64 L.2.2.1,.int .i64 L.2.2.2.1,.int .i64 L.2.2.2.2,.iface 148 (.agg #[]),.slice none 0 0,.map (some w1.heap.size),.pointer (some ⟨w.heap.size+1,0,none⟩),.nilIface] 155);have hrow:=y7 (w1.alloc (.map #[] 0)) 155 [.int .i64 L.1,.int .i64 L.2.1,.int .i64 L.2.2.1,.int .i64 L.2.2.2.1,.int .i64 L.2.2.2.2,.iface 148 (.agg #[]),.slice none 0 0,.map (some w1.heap.size),.pointer (some ⟨w.heap.size+1,0,none⟩),.nilIface];rw[World.size_alloc] at hrow;exact⟨_,rfl,wk0 hrow (hU.same (hal.block _ hU.lt)) ((hr.later hm).later hal) (by omega) (by omega) (by omega),(Below.trans (by repeat (first | exact Below.refl _ _ | refine Below.alloc ?_ (by simp) _ | refine Below.drew ?_ | refine z7 ?_ _)) (hb.mono (by simp))).trans ((hm.mono (by omega)).trans (hal.mono (by simp;omega)))⟩)
end
section
open Go.RowKit
attribute [local go_sem] y9
theorem Row.same_set {w:World} {g i:Nat} {T:TypeId} {C:List Value} {v:Value} (h:Row w g T C) (hi:C[i]?=some v):w.setCell ⟨g,i,none⟩ v=w:=by
 have e:(w.setCell ⟨g,i,none⟩ v).heap=w.heap:=by
  refine Array.ext_getElem? fun k=>?_
  by_cases hk:k=g
  · subst hk;have h2:=h.set i v
    have hc:C.set i v=C:=by
     apply List.ext_getElem?;intro j;rw[List.getElem?_set];split
     · rename_i hj;subst hj;split
       · exact hi.symm
       · rename_i hl;rw[List.getElem?_eq_none (by omega)]
     · rfl
    rw[hc] at h2;exact(show _=_ from h2).trans (show w.heap[k]?=_ from h).symm
  · exact heap_setCell_other w ⟨g,i,none⟩ k v hk
 have e2:w.setCell ⟨g,i,none⟩ v={ w with heap:=(w.setCell ⟨g,i,none⟩ v).heap }:=rfl;rw[e2,e]
theorem Tryz.pn0 (w:World):(binOp .neq 153 (.iface 148 (.agg #[])) (.iface 156 (.agg #[]))).run Tryz.prog w=.ok (.bool true) w:=by kernel_rfl
theorem Tryz.pn1 (B:Nat) (w:World):(binOp .neq 153 (.iface 233 (.pointer (some ⟨B,0,none⟩))) (.iface 156 (.agg #[]))).run Tryz.prog w=.ok (.bool true) w:=by kernel_rfl
theorem Tryz.pn2 (w:World):(binOp .neq 153 (.iface 237 (.agg #[])) (.iface 156 (.agg #[]))).run Tryz.prog w=.ok (.bool true) w:=by kernel_rfl
theorem Tryz.pn3 (B:Nat) (w:World):(binOp .neq 153 (.iface 239 (.pointer (some ⟨B,0,none⟩))) (.iface 156 (.agg #[]))).run Tryz.prog w=.ok (.bool true) w:=by kernel_rfl
theorem Tryz.pn4 (w:World):(binOp .neq 153 (.iface 156 (.agg #[])) (.iface 156 (.agg #[]))).run Tryz.prog w=.ok (.bool false) w:=by kernel_rfl
theorem Tryz.pe0 (w:World):(binOp .eql 153 (.iface 148 (.agg #[])) (.iface 156 (.agg #[]))).run Tryz.prog w=.ok (.bool false) w:=by kernel_rfl
theorem Tryz.pe1 (B:Nat) (w:World):(binOp .eql 153 (.iface 233 (.pointer (some ⟨B,0,none⟩))) (.iface 156 (.agg #[]))).run Tryz.prog w=.ok (.bool false) w:=by kernel_rfl
theorem Tryz.pe2 (w:World):(binOp .eql 153 (.iface 237 (.agg #[])) (.iface 156 (.agg #[]))).run Tryz.prog w=.ok (.bool false) w:=by kernel_rfl
theorem Tryz.pe3 (B:Nat) (w:World):(binOp .eql 153 (.iface 239 (.pointer (some ⟨B,0,none⟩))) (.iface 156 (.agg #[]))).run Tryz.prog w=.ok (.bool false) w:=by kernel_rfl
theorem Tryz.pe4 (w:World):(binOp .eql 153 (.iface 156 (.agg #[])) (.iface 156 (.agg #[]))).run Tryz.prog w=.ok (.bool true) w:=by kernel_rfl
theorem zkc {w:World} {base R:Nat} {L:zc} {s:WS} {part K:Value} {U C:Nat} (h:WkB w base R L s part K U C) (hs:s.tag≤4):
 (∀W,(binOp .neq 153 part (.iface 156 (.agg #[]))).run Tryz.prog W=.ok (.bool (!decide (s.tag=4))) W)∧(∀W,(binOp .eql 153 part (.iface 156 (.agg #[]))).run Tryz.prog W=.ok (.bool (decide (s.tag=4))) W):=by
 unfold WkB at h;rcases ht:s.tag with _ | _ | _ | _ | _ | k
 all_goals simp only[ht] at h
 · obtain⟨rfl,-⟩:=h;exact⟨Tryz.pn0,Tryz.pe0⟩
 · obtain⟨B,rfl,-⟩:=h;exact⟨Tryz.pn1 B,Tryz.pe1 B⟩
 · obtain⟨rfl,-⟩:=h;exact⟨Tryz.pn2,Tryz.pe2⟩
 · obtain⟨B,rfl,-⟩:=h;exact⟨Tryz.pn3 B,Tryz.pe3 B⟩
 · obtain⟨rfl,-⟩:=h;exact⟨Tryz.pn4,Tryz.pe4⟩
 · omega
attribute [local go_sem] Tryz.eqGuard_if
def WkQ (w:World) (base R:Nat) (L:zc) (r:Except (Nat×Nat) WS) (e:Ending) (w':World):Prop:=
 BelT base w w'∧match r with
 | .error x=>e=.returned (.tuple #[.bool true,zaq x.1 x.2])∧∃C,Row w' R 155 C∧C[9]?=some (zaq x.1 x.2)
 | .ok s'=>e=.returned (.tuple #[.bool (decide (s'.tag=4)),.nilIface])∧WkR w' base R L s'
set_option maxRecDepth 20000 in
theorem zo4 (base R:Nat) (L:zc) (s:WS) (E x p q:Nat) (w0 w:World) (hb0:BelT base w0 w) (h:WkR w base R L s) (hD:Door w) (hDb:0<base) (ho:StepOk L s E x p q) (hok:∀s',jd E L s x p q=.ok s'→s'.tag≤4):
 Calls Tryz.prog 42 #[.pointer (some ⟨R,0,none⟩),.int .u64 (x:Int),.int .i64 (p:Int),.int .i64 ((E - q:Nat):Int)] w (WkQ w0 base R L (jd E L s x p q)):=by
 have HT:=hid (ycc base R L s E x p q w0 w hb0 h hD hDb ho);obtain⟨hR0,part,K,U,C,hU,hC,hR,hu,hB⟩:=h;obtain⟨hn,-⟩:=zkc hB (Nat.le_of_lt ho.tag);rw[show decide (s.tag=4)=false from decide_eq_false (by have:=ho.tag;omega)] at hn;simp only[Bool.not_false] at hn;have q1:=hR.cell 5 rfl;have q9:=hR.cell 9 rfl;have Hok:=hid hok;have HoR:=hid ((hR.okR zlr).back hb0);obtain⟨res,hres⟩:∃res,jd E L s x p q=res:=⟨_,rfl⟩;rw[hres] at HT Hok ⊢;clear hR hu hB ho hb0 hD hok hres;go_enter Tryz.func42,Tryz.ntmps42;go_wp2_with fail;refine HT.out.mono ?_;rintro e w1 ⟨hb,hr⟩
 cases res with
 | error c=>
  obtain⟨rfl,C',hR',hl⟩:=hr;have z9:=hR'.fz 9
  have q9':∃v,w1.cell? ⟨R,9,none⟩=some v:=by
   obtain⟨v,hv⟩:∃v,C'[9]?=some v:=⟨C'[9],by simp[hl]⟩;exact⟨v,hR'.cell 9 hv⟩
  obtain⟨v9,q9'⟩:=q9';have HR2:=hid (hR'.set 9 (zaq c.1 c.2));have hc2:(C'.set 9 (zaq c.1 c.2))[9]?=some (zaq c.1 c.2):=by simp[hl]
  have r9:=fun k=>(show Row ((w1.setCell ⟨R,9,none⟩ (zaq c.1 c.2)).drewN k) R 155 _ from HR2.out).cell 9 hc2
  have HB:=hid (hb.setCell (p:=⟨R,9,none⟩) hR0 (zaq c.1 c.2) HoR.out);have Hc2:=hid hc2;clear hR' hl hb hc2;clear HT;unfold zaq at HR2 r9 HB Hc2 ⊢;go_wp2;generalize w1.setCell ⟨R,9,none⟩ (.iface 110 (.agg #[.int .i64 (c.1:Int),.int .i64 (c.2:Int)]))=W at*;go_quiet (fail);go_wp2_with fail;go_ret2
  exact⟨zfa HB.out _,rfl,_,HR2.out,Hc2.out⟩
 | ok s'=>
  obtain⟨rfl,hR1⟩:=hr;have HR1:=hid hR1;have hs4:=Hok.out s' rfl;obtain⟨-,part',K',U',C',hU',hC',hR',hu',hB'⟩:=hR1;obtain⟨-,he⟩:=zkc hB' hs4;have z9:=hR'.fz 9;have q9':=hR'.cell 9 rfl;have hsame:w1.setCell ⟨R,9,none⟩ .nilIface=w1:=hR'.same_set rfl;have r9:=fun k=>(show Row (w1.drewN k) R 155 _ from hR').cell 9 rfl
  have r5:=fun k=>(show Row (w1.drewN k) R 155 _ from hR').cell 5 rfl
  have HB:=hid hb;clear hR' hu' hB' hb;go_wp2;go_quiet (fail);go_wp2_with fail;go_ret2;exact⟨zfa HB.out _,rfl,HR1.out.later (z7 (Below.refl _ _) _)⟩
end
