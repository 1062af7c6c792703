/- Part 34. -/
import Derived.Test.YtdnipikdddfhfaaGreatDoorWd33
set_option linter.unusedVariables false
set_option maxHeartbeats 16000000
namespace Go.Proofs.YtdnipikdddfhfaaGreatDoor
open Lib (hid)
section
open Go.RowKit
attribute [local go_sem] zad
theorem KV.row {w w':World} {base g:Nat} {K:Value} {vs:List Vec} {T:TypeId} {C:List Value} (h:KV w base K vs) (hR:Row w g T C) (hT:¬zai T:=by rintro(h | h | h) <;> cases h) (hg:w.grownBy w' (some g)):KV w' base K vs:=h.grown (hR.notT hT) hg
section
variable {P:Program} {T xT t:TypeId} {z:Value}
theorem zir (hu:(P.underlying T).map (fun u=>match u with | .interface _=>false | _=>true)=some true) (v:Value) (xT:TypeId) (w:World):(Instr.typeAssert (.iface T v) xT T true).run P w=.ok (.tuple #[v,.bool true]) w:=by
 obtain⟨u,hu,hn⟩:=Option.map_eq_some_iff.1 hu;cases u <;> first | (simp at hn;done) | simp[Instr.typeAssert,run_underlying hu]
theorem zfd (hu:(P.underlying T).map (fun u=>match u with | .interface _=>false | _=>true)=some true) (hz:(P.info? T).map (·.zero)=some (some z)) (hne:t≠T) (v:Value) (xT:TypeId) (w:World):(Instr.typeAssert (.iface t v) xT T true).run P w=.ok (.tuple #[z,.bool false]) w:=by
 obtain⟨u,hu,hn⟩:=Option.map_eq_some_iff.1 hu;obtain⟨j,hj,hz⟩:=Option.map_eq_some_iff.1 hz;cases u <;> first | (simp at hn;done) | simp[Instr.typeAssert,run_underlying hu,hne,zeroValue,typeInfo,hj,hz]
end
theorem Tryz.taS0 (v:Value) (xT:TypeId) (w:World):(Instr.typeAssert (.iface 123 v) xT 123 true).run Tryz.prog w=.ok (.tuple #[v,.bool true]) w:=zir (by kernel_rfl) v xT w
theorem Tryz.taM2 (v:Value) (xT:TypeId) (w:World):(Instr.typeAssert (.iface 200 v) xT 200 true).run Tryz.prog w=.ok (.tuple #[v,.bool true]) w:=zir (by kernel_rfl) v xT w
theorem Tryz.taV1 (v:Value) (xT:TypeId) (w:World):(Instr.typeAssert (.iface 196 v) xT 196 true).run Tryz.prog w=.ok (.tuple #[v,.bool true]) w:=zir (by kernel_rfl) v xT w
theorem Tryz.taG3 (v:Value) (xT:TypeId) (w:World):(Instr.typeAssert (.iface 202 v) xT 202 true).run Tryz.prog w=.ok (.tuple #[v,.bool true]) w:=zir (by kernel_rfl) v xT w
theorem Tryz.taV0 (v:Value) (xT:TypeId) (w:World):(Instr.typeAssert (.iface 196 v) xT 123 true).run Tryz.prog w=.ok (.tuple #[.agg #[],.bool false]) w:=zfd (by kernel_rfl) (by kernel_rfl) (by decide) v xT w
theorem Tryz.taM0 (v:Value) (xT:TypeId) (w:World):(Instr.typeAssert (.iface 200 v) xT 123 true).run Tryz.prog w=.ok (.tuple #[.agg #[],.bool false]) w:=zfd (by kernel_rfl) (by kernel_rfl) (by decide) v xT w
theorem Tryz.taM1 (v:Value) (xT:TypeId) (w:World):(Instr.typeAssert (.iface 200 v) xT 196 true).run Tryz.prog w=.ok (.tuple #[.pointer none,.bool false]) w:=zfd (by kernel_rfl) (by kernel_rfl) (by decide) v xT w
theorem Tryz.taG0 (v:Value) (xT:TypeId) (w:World):(Instr.typeAssert (.iface 202 v) xT 123 true).run Tryz.prog w=.ok (.tuple #[.agg #[],.bool false]) w:=zfd (by kernel_rfl) (by kernel_rfl) (by decide) v xT w
theorem Tryz.taG1 (v:Value) (xT:TypeId) (w:World):(Instr.typeAssert (.iface 202 v) xT 196 true).run Tryz.prog w=.ok (.tuple #[.pointer none,.bool false]) w:=zfd (by kernel_rfl) (by kernel_rfl) (by decide) v xT w
theorem Tryz.taG2 (v:Value) (xT:TypeId) (w:World):(Instr.typeAssert (.iface 202 v) xT 200 true).run Tryz.prog w=.ok (.tuple #[.agg #[],.bool false]) w:=zfd (by kernel_rfl) (by kernel_rfl) (by decide) v xT w
attribute [local go_sem] Tryz.taS0 Tryz.taM2 Tryz.taV1 Tryz.taG3 Tryz.taV0 Tryz.taM0 Tryz.taM1 Tryz.taG0 Tryz.taG1 Tryz.taG2
theorem zgi {w:World} {R U C:Nat} {L:zg} {part part' K:Value} {ix:List Nat} {Cu:List Value} {base:Nat} {vs:List Vec} (hR:Row w R 130 (wkC L part K U C .nilIface)) (hu:UsedM w U ix) (hc:Row w C 193 Cu) (hK:KV w base K vs):
 Row (w.setCell ⟨R,5,none⟩ part') R 130 (wkC L part' K U C .nilIface)∧UsedM (w.setCell ⟨R,5,none⟩ part') U ix∧Row (w.setCell ⟨R,5,none⟩ part') C 193 Cu∧KV (w.setCell ⟨R,5,none⟩ part') base K vs:=by
 have g:=kd w R 5 part';exact⟨hR.set 5 _,hu.grownT hR g,hc.grown g (fun e=>by injection e with e;exact hR.ne hc (by decide) e.symm),hK.grown (hR.notT (by rintro(h | h | h) <;> cases h)) g⟩
structure StepOk (L:zg) (s:WS) (E x p q:Nat):Prop where
 lims:LimsI L
 xb:x<18446744073709551616
 qp:q=p+(je x).length
 qe:q≤E
 qb:q≤900000000000
 eb:E - q<9223372036854775808
 fit:WFit s p
 inv:WInv s
 tch:zec s
 tag:s.tag<4
 vf:∀v∈s.vs,(zl v).length≤1000000000000
 vi:s.tag=1→∀i,qa L.2.2.1 L.2.2.2.1 s.inner x (E - q)=.ok i→i.tag=6→(zl i.v).length≤1000000000000
theorem z41 {E:Nat} {L:zg} {s:WS} {x p q:Nat} (ht:s.tag=3):jd E L s x p q=match s.turn with | 0=>zs2 s p (loP (z7 s.l) 0 x) | 1=>zil s p x | _=>zej E s p q x:=by
 obtain⟨tag,vs,l,ix,left,frm,inner,turn,lo,hi,tch⟩:=s;simp only at ht;subst ht;rcases turn with _ | _ | k <;> rfl
set_option maxRecDepth 20000 in
theorem z42 (base R:Nat) (L:zg) (s:WS) (E x p q:Nat) (w0 w:World) (hb0:Below base w0 w) (h:WkR w base R L s) (hD:Door w) (hDb:0<base) (ho:StepOk L s E x p q):
 Calls Tryz.prog 70 #[.pointer (some ⟨R,0,none⟩),.int .u64 (x:Int),.int .i64 (p:Int),.int .i64 ((E - q:Nat):Int)] w (WkS w0 base R L (jd E L s x p q)):=by
 obtain⟨hR0,part,K,U,C,hU,hC,hR,hu,hB⟩:=h;have q5:=hR.cell 5 rfl;obtain⟨hL,hx,hq,hqE,hE,hrst,hF,hI,hT,h4,hvf,hvi⟩:=ho;have Hrst:=hid hrst;have Hb0:=hid hb0;have Hx:=hid hx;have Hq:=hid hq;have HqE:=hid hqE;have HE:=hid hE;have HF:=hid hF;have HI:=hid hI;have HT:=hid hT;have HD:=hid hD;have Hvf:=hid hvf;have Hvi:=hid hvi;have HR:=hid hR;have Hu:=hid hu;have HL:=hid hL;have Hbw:=hid (show base≤w.heap.size by have:=hR.lt;omega);clear hx hq hqE hE hF hI hT hvf hvi hD hb0;rcases ht:s.tag with _ | _ | _ | _ | k
 ·
  have Ht:=hid ht;unfold WkB at hB;simp only[ht] at hB;obtain⟨rfl,hK,hcu⟩:=hB;have HK:=hid hK;have Hcu:=hid hcu;have HLim:=hid (fun W=>zr4 x L.2.1 (E - q) W Hx.out HL.out.b hrst);have HA:=hid (fun W (hb:Below w.heap.size w W)=>And.intro (hR.later hb) (And.intro (hu.same (hb.block U hu.lt)) (And.intro (hcu.later hb) (hK.later hb))));have hal:=fun o=>(Below.refl w.heap.size w).alloc (Nat.le_refl _) o
  have hal2:=fun o o'=>(hal o).alloc (by simp) o'
  have p1:=fun o=>(HA.out (w.alloc o) (hal o)).1.cell 1 rfl
  have p5:=fun o=>(HA.out (w.alloc o) (hal o)).1.cell 5 rfl
  have pp5:=fun o o'=>(HA.out ((w.alloc o).alloc o') (hal2 o o')).1.cell 5 rfl
  have y5:=fun o o'=>(HA.out ((w.alloc o).alloc o') (hal2 o o')).1.fz 5
  have HAl:=hid hal2
  have hwst:jd E L s x p q=if zv x L.2.1 (E - q)≠0 then .error (zv x L.2.1 (E - q),p) else if x=0 then .ok { s with tag:=2 } else .ok { s with tag:=1,left:=x,inner:=ps0 }:=by
   unfold jd;simp only[ht]
  obtain⟨c,hc⟩:∃c,c=zv x L.2.1 (E - q):=⟨_,rfl⟩;rw[←hc] at hwst HLim;have HEb:=hid (ju (w.alloc (.cells #[] 123)) 199 [.int .u64 (x:Int),.int .i64 (-1),.pointer none]);clear hc hR hu hK hcu hL hrst h4 ht hal hal2;by_cases hc0:c=0
  · subst hc0;rw[if_neg (by simp)] at hwst;by_cases hx0:x=0
    · rw[if_pos hx0] at hwst;have Hwst:=hid hwst;have hxz:((x:Int) == 0)=true:=by rw[beq_iff_eq];omega
      clear hwst hx0;go_enter Tryz.func70,Tryz.ntmps70;go_wp2_with fail;refine(HLim.out _).mono ?_;rintro e w' ⟨rfl,rfl⟩;go_wp2_with fail;go_ret;obtain⟨r,u,cu,k⟩:=HA.out _ (HAl.out (.cells #[] 123) (.cells #[.int .u64 (x:Int),.int .i64 (-1),.pointer none] 199));obtain⟨r2,u2,cu2,k2⟩:=zgi (part':=.iface 196 (.pointer (some ⟨w.heap.size+1,0,none⟩))) r u cu k;have b2:=Hb0.out.trans (((HAl.out (.cells #[] 123) (.cells #[.int .u64 (x:Int),.int .i64 (-1),.pointer none] 199)).mono Hbw.out).setCell (p:=⟨R,5,none⟩) hR0 (.iface 196 (.pointer (some ⟨w.heap.size+1,0,none⟩))));have he:=HEb.out;rw[World.size_alloc] at he;have he2:=he.grown (kd _ R 5 (.iface 196 (.pointer (some ⟨w.heap.size+1,0,none⟩)))) (fun e=>by injection e with e;exact r.ne he (by decide) e.symm);obtain⟨r3,u3,cu3,k3⟩:=zgi (part':=.iface 200 (.agg #[])) r2 u2 cu2 k2;exact⟨b2.setCell (p:=⟨R,5,none⟩) hR0 _,by rw[Hwst.out];exact⟨rfl,hR0,_,K,U,C,hU,hC,r3,u3,rfl,k3,cu3⟩⟩
    · rw[if_neg hx0] at hwst;have Hwst:=hid hwst;have hxz:((x:Int) == 0)=false:=by rw[beq_eq_false_iff_ne];omega
      clear hwst hx0;go_enter Tryz.func70,Tryz.ntmps70;go_wp2_with fail;refine(HLim.out _).mono ?_;rintro e w' ⟨rfl,rfl⟩;go_wp2_with fail;go_ret;obtain⟨r,u,cu,k⟩:=HA.out _ (HAl.out (.cells #[] 123) (.cells #[.int .u64 (x:Int),.int .i64 (-1),.pointer none] 199));obtain⟨r2,u2,cu2,k2⟩:=zgi (part':=.iface 196 (.pointer (some ⟨w.heap.size+1,0,none⟩))) r u cu k;have b2:=Hb0.out.trans (((HAl.out (.cells #[] 123) (.cells #[.int .u64 (x:Int),.int .i64 (-1),.pointer none] 199)).mono Hbw.out).setCell (p:=⟨R,5,none⟩) hR0 (.iface 196 (.pointer (some ⟨w.heap.size+1,0,none⟩))));have he:=HEb.out;rw[World.size_alloc] at he;have he2:=he.grown (kd _ R 5 (.iface 196 (.pointer (some ⟨w.heap.size+1,0,none⟩)))) (fun e=>by injection e with e;exact r.ne he (by decide) e.symm);exact⟨b2,by rw[Hwst.out];exact⟨rfl,hR0,_,K,U,C,hU,hC,r2,u2,w.heap.size+1,rfl,by have:=Hbw.out;omega,cu2,.inl ⟨rfl,⟨_,he2⟩,k2⟩⟩⟩
  · rw[if_pos hc0] at hwst;have Hwst:=hid hwst;have hcz:((c:Int) == 0)=false:=by rw[beq_eq_false_iff_ne];omega
    have HN:=hid (fun W=>za9 (c:=c) (o:=p) hc0 W);have HAo:=hid (HA.out (w.alloc (.cells #[] 123)) ((Below.refl _ _).alloc (Nat.le_refl _) _));clear hwst hc0;go_enter Tryz.func70,Tryz.ntmps70;go_wp2_with fail;refine(HLim.out _).mono ?_;rintro e w' ⟨rfl,rfl⟩;go_wp2_with fail;refine(HN.out _).mono ?_;rintro e w' ⟨rfl,rfl⟩;go_wp2_with fail;go_ret;exact⟨Hb0.out.trans ((Below.refl base w).alloc Hbw.out _),by rw[Hwst.out];exact⟨rfl,_,HAo.out.1,rfl⟩⟩
 ·
  have Ht:=hid ht;unfold WkB at hB;simp only[ht] at hB;obtain⟨B,rfl,hB0,hcu,hV⟩:=hB;obtain⟨res,hres⟩:∃res,jd E L s x p q=res:=⟨_,rfl⟩;rw[hres];have HC:=hid ((z37 ht).symm.trans hres ▸ z38 base R L s K U C B (E - q) x p w0 w ht hR0 hU hC hB0 Hb0.out hR hu hcu hV HD.out hDb hL Hx.out hrst (by have:=Hq.out;have:=HqE.out;have:=HE.out;omega) HF.out HI.out Hvf.out (Hvi.out ht) _ rfl);clear hV hcu hR hu hL hrst h4 ht;clear hres;go_enter Tryz.func70,Tryz.ntmps70;go_wp2_with fail;refine HC.out.mono ?_;rintro e w' ⟨hb,hr⟩
  cases res with
  | error c=>
   obtain⟨rfl,hr⟩:=hr;go_wp2_with fail;go_ret
   exact⟨hb,rfl,hr⟩
  | ok s'=>
   obtain⟨rfl,hr⟩:=hr;go_wp2_with fail;go_ret;exact⟨hb,rfl,hr⟩
 ·
  have Ht:=hid ht;unfold WkB at hB;simp only[ht] at hB;obtain⟨rfl,hK,hcu⟩:=hB;have HK:=hid hK;have Hcu:=hid hcu;have HLim:=hid (fun W=>zr4 x L.2.2.2.2 (E - q) W Hx.out HL.out.e hrst);have HA:=hid (fun W (hb:Below w.heap.size w W)=>And.intro (hR.later hb) (And.intro (hu.same (hb.block U hu.lt)) (And.intro (hcu.later hb) (hK.later hb))));have hal:=fun o=>(Below.refl w.heap.size w).alloc (Nat.le_refl _) o
  have hal2:=fun o o'=>(hal o).alloc (by simp) o'
  have p1:=fun o=>(HA.out (w.alloc o) (hal o)).1.cell 4 rfl
  have p5:=fun o=>(HA.out (w.alloc o) (hal o)).1.cell 5 rfl
  have pp5:=fun o o'=>(HA.out ((w.alloc o).alloc o') (hal2 o o')).1.cell 5 rfl
  have y5:=fun o o'=>(HA.out ((w.alloc o).alloc o') (hal2 o o')).1.fz 5
  have HAl:=hid hal2
  have hwst:jd E L s x p q=if zv x L.2.2.2.2 (E - q)≠0 then .error (zv x L.2.2.2.2 (E - q),p) else if x=0 then k8 E s q else .ok { s with tag:=3,left:=x,turn:=0 }:=by
   unfold jd;simp only[ht]
  obtain⟨c,hc⟩:∃c,c=zv x L.2.2.2.2 (E - q):=⟨_,rfl⟩;rw[←hc] at hwst HLim;have HEb:=hid (ju (w.alloc (.cells #[] 200)) 204 [.int .u64 (x:Int),.int .i64 0,.int .i64 0,.bool false]);clear hc hR hu hK hcu hL hrst h4 ht hal hal2;by_cases hc0:c=0
  · subst hc0;rw[if_neg (by simp)] at hwst;obtain⟨hl0,hx0'⟩:=HI.out.none (by rw[Ht.out];decide);by_cases hx0:x=0
    · rw[if_pos hx0] at hwst;have hxz:((x:Int) == 0)=true:=by rw[beq_iff_eq];omega
      have hpq:IntKind.i64.wrap ((p:Int)+((je x).length:Int))=(q:Int):=by have:=Hq.out;have:=HqE.out;have:=HE.out;rw[IntKind.wrap_i64];omega
      have HSz:=hid (fun W=>zi9 x W Hx.out);obtain⟨fr,hfr⟩:∃fr,fr=k8 E s q:=⟨_,rfl⟩;rw[←hfr] at hwst;have Hwst:=hid hwst;have HFn:=hid (fun W h1 h2 h3 h4 h5 h6=>hfr ▸ zr5 base R L s (zaq (w.heap.size+1)) K U C E q W h1 h2 h3 h4 h5 h6 HF.out.li HF.out.ix Hrst.out HqE.out);have Hl0:=hid hl0;have Hx0':=hid hx0';clear hwst hx0 hfr hl0 hx0';go_enter Tryz.func70,Tryz.ntmps70;go_wp2_with fail;refine(HLim.out _).mono ?_;rintro e w' ⟨rfl,rfl⟩;go_wp2_with fail;refine(HSz.out _).mono ?_;rintro e w6 ⟨rfl,rfl⟩;go_wp2_with fail;obtain⟨r,u,cu,k⟩:=HA.out _ (HAl.out (.cells #[] 200) (.cells #[.int .u64 (x:Int),.int .i64 0,.int .i64 0,.bool false] 204));obtain⟨r2,u2,cu2,k2⟩:=zgi (part':=zaq (w.heap.size+1)) r u cu k;have b2:=Hb0.out.trans (((HAl.out (.cells #[] 200) (.cells #[.int .u64 (x:Int),.int .i64 0,.int .i64 0,.bool false] 204)).mono Hbw.out).setCell (p:=⟨R,5,none⟩) hR0 (zaq (w.heap.size+1)));have he:=HEb.out;rw[World.size_alloc] at he;have he2:=he.grown (kd _ R 5 (zaq (w.heap.size+1))) (fun e=>by injection e with e;exact r.ne he (by decide) e.symm);have HB2:=hid b2;refine(HFn.out _ hR0 hU hC r2 u2 (by rw[Hl0.out,Hx0'.out];exact k2.seg (by simp;have:=Hbw.out;omega))).mono ?_;clear r u cu k r2 u2 cu2 k2 b2 he he2;rintro e w6 ⟨hb6,hr6⟩
      cases fr with
      | error c=>
       obtain⟨rfl,hr6⟩:=hr6;go_wp2_with fail;go_ret
       exact⟨HB2.out.trans hb6,by rw[Hwst.out];exact⟨rfl,hr6⟩⟩
      | ok s'=>
       obtain⟨rfl,hr6⟩:=hr6;go_wp2_with fail;go_ret;exact⟨HB2.out.trans hb6,by rw[Hwst.out];exact⟨rfl,hr6⟩⟩
    · rw[if_neg hx0] at hwst;have Hwst:=hid hwst;have hxz:((x:Int) == 0)=false:=by rw[beq_eq_false_iff_ne];omega
      have Hl0:=hid hl0;have Hx0':=hid hx0';clear hwst hx0 hl0 hx0';go_enter Tryz.func70,Tryz.ntmps70;go_wp2_with fail;refine(HLim.out _).mono ?_;rintro e w' ⟨rfl,rfl⟩;go_wp2_with fail;go_ret;obtain⟨r,u,cu,k⟩:=HA.out _ (HAl.out (.cells #[] 200) (.cells #[.int .u64 (x:Int),.int .i64 0,.int .i64 0,.bool false] 204));obtain⟨r2,u2,cu2,k2⟩:=zgi (part':=zaq (w.heap.size+1)) r u cu k;have b2:=Hb0.out.trans (((HAl.out (.cells #[] 200) (.cells #[.int .u64 (x:Int),.int .i64 0,.int .i64 0,.bool false] 204)).mono Hbw.out).setCell (p:=⟨R,5,none⟩) hR0 (zaq (w.heap.size+1)));have he:=HEb.out;rw[World.size_alloc] at he;have he2:=he.grown (kd _ R 5 (zaq (w.heap.size+1))) (fun e=>by injection e with e;exact r.ne he (by decide) e.symm);refine⟨b2,?_⟩;rw[Hwst.out];refine⟨rfl,hR0,_,K,U,C,hU,hC,r2,u2,w.heap.size+1,rfl,by have:=Hbw.out;omega,?_,0,false,0,he2,fun y hy=>?_,fun h=>?_,?_⟩
      · show SegM _ _ _ s.vs s.l s.ix;rw[Hl0.out,Hx0'.out];exact k2.seg (by simp;have:=Hbw.out;omega)
      · simp[Hx0'.out] at hy
      · simp at h
      · simp only[cuC,Hl0.out];exact cu2
  · rw[if_pos hc0] at hwst;have Hwst:=hid hwst;have hcz:((c:Int) == 0)=false:=by rw[beq_eq_false_iff_ne];omega
    have HN:=hid (fun W=>za9 (c:=c) (o:=p) hc0 W);have HAo:=hid (HA.out (w.alloc (.cells #[] 200)) ((Below.refl _ _).alloc (Nat.le_refl _) _));clear hwst hc0;go_enter Tryz.func70,Tryz.ntmps70;go_wp2_with fail;refine(HLim.out _).mono ?_;rintro e w' ⟨rfl,rfl⟩;go_wp2_with fail;refine(HN.out _).mono ?_;rintro e w' ⟨rfl,rfl⟩;go_wp2_with fail;go_ret;exact⟨Hb0.out.trans ((Below.refl base w).alloc Hbw.out _),by rw[Hwst.out];exact⟨rfl,_,HAo.out.1,rfl⟩⟩
 ·
  have Ht:=hid ht;unfold WkB at hB;simp only[ht] at hB;obtain⟨B,rfl,hB0,hM,last,touch,lo0,hrow,hla,hto,hcu⟩:=hB;obtain⟨res,hres⟩:∃res,jd E L s x p q=res:=⟨_,rfl⟩
  have HC:Hid (Calls Tryz.prog 113 #[.pointer (some ⟨R,0,none⟩),.pointer (some ⟨B,0,none⟩),.int .u64 (x:Int),.int .i64 (p:Int),.int .i64 ((E - q:Nat):Int)] w (WkS w0 base R L res)):=by
   refine hid ?_;rw[←hres,z41 ht];have htu:=HI.out.turn;rcases hu3:s.turn with _ | _ | _ | k
   · simp only[cuC,hu3] at hcu;rw[hu3] at hrow;exact z4h base R L s K U C B (E - q) x p lo0 last touch w0 w ht hR0 hU hC hB0 Hb0.out hu3 ⟨hR,hrow,hcu,hu,hM⟩ hla HF.out.l Hx.out _ rfl
   · simp only[cuC,hu3] at hcu;rw[hu3] at hrow;exact z4i base R L s K U C B (E - q) x p last touch w0 w ht hR0 hU hC hB0 Hb0.out ⟨hR,hrow,hcu,hu,hM⟩ hla (hto (by omega)) HF.out.lo Hx.out
   · simp only[cuC,hu3] at hcu;rw[hu3] at hrow;refine z4v base R L s K U C B E x p q lo0 last touch w0 w ht hR0 hU hC hB0 Hb0.out ⟨hR,hrow,hcu,hu,hM⟩ hla (hto (by omega)) (fun h e=>?_) HF.out (HI.out.left (.inr ht)) Hx.out Hq.out HqE.out HE.out Hrst.out;have:=HT.out (by omega) h;have h2:=HF.out.li;rw[e] at h2;exact this (List.length_eq_zero_iff.1 h2.symm)
   · omega
  rw[hres];clear hres hM hrow hla hto hcu hR hu hL hrst h4 ht;go_enter Tryz.func70,Tryz.ntmps70;go_wp2_with fail;refine HC.out.mono ?_;rintro e w' ⟨hb,hr⟩
  cases res with
  | error c=>
   obtain⟨rfl,hr⟩:=hr;go_wp2_with fail;go_ret
   exact⟨hb,rfl,hr⟩
  | ok s'=>
   obtain⟨rfl,hr⟩:=hr;go_wp2_with fail;go_ret;exact⟨hb,rfl,hr⟩
 · omega
end
section
open Go.RowKit
theorem z43 (w:World):EnSl w 0 (.slice none 0 0) []:=⟨none,0,0,rfl,zo6 w 0⟩
abbrev zlv (L:zg):List Value:=[.int .i64 L.1,.int .i64 L.2.1,.int .i64 L.2.2.1,.int .i64 L.2.2.2.1,.int .i64 L.2.2.2.2]
structure RdM (w wi:World) (g:Nat) (B:Value) (E:Nat) (L:zg) (cs:Except (Nat×Nat) Nat):Prop where
 grown:w.grownBy wi (some g)
 lim:Row wi w.heap.size 24 (zlv L)
 cur:CurM wi g B E cs
theorem RdM.below {w wi w':World} {g E:Nat} {B:Value} {L:zg} {cs:Except (Nat×Nat) Nat} (h:RdM w wi g B E L cs) (hb:Below wi.heap.size wi w'):RdM w w' g B E L cs:=⟨ji h.grown hb,h.lim.later hb,CurM.later h.cur hb⟩
theorem RdM.own {w wi w':World} {g E base sz n:Nat} {B V:Value} {L:zg} {cs:Except (Nat×Nat) Nat} {T:TypeId} {xs:List Value} (h:RdM w wi g B E L cs) (ho:wi.ownsRow base T sz V n xs) (hb:w.heap.size≤base) (hT:T≠24∧T≠106) (hg:wi.grownBy w' V.ownBlock):RdM w w' g B E L cs:=
 ⟨zeh h.grown hg fun k hk=>Nat.le_trans hb (ho.lt k hk).1,h.lim.grown hg fun e=>h.lim.ne_own ho (fun e=>hT.1 e.symm) _ e.symm rfl,h.cur.grown hg fun e=>CurM.ne_own h.cur ho (fun e=>hT.2 e.symm) _ e.symm rfl⟩
theorem RdM.move {w wi w':World} {g E:Nat} {B:Value} {L:zg} {cs cs':Except (Nat×Nat) Nat} (h:RdM w wi g B E L cs) (hg:wi.grownBy w' (some g)) (hn:some w.heap.size≠some g) (hc:CurM w' g B E cs'):RdM w w' g B E L cs':=⟨yr h.grown hg,h.lim.grown hg hn,hc⟩
theorem zlw {w wi:World} {g E:Nat} {B K V:Value} {L:zg} {cs:Except (Nat×Nat) Nat} {vs:List Vec} {v:Vec} (hM:RdM w wi g B E L cs) (hK:KV wi w.heap.size K vs) (hV:EnSl wi 0 V v) (hb:vs.length+1≤1000000000000):
 ∃K' w4,(Builtin.append_ #[27,27] 27 #[K,.slice (some ⟨wi.heap.size,0,none⟩) 1 1]).run Tryz.prog (wi.alloc (.cells #[.slice none 0 0,V] 97))=.ok K' w4∧RdM w w4 g B E L cs∧KV w4 w.heap.size K' (vs++[v]):=by
 have hal:=(Below.refl wi.heap.size wi).alloc (Nat.le_refl _) (.cells #[.slice none 0 0,V] 97);have hK2:=hK.later hal;have hV2:EnSl (wi.alloc (.cells #[.slice none 0 0,V] 97)) 0 V v:=hV.steady (P:=zai) (.of_below hal) (.inl rfl) (.inr (.inl rfl));obtain⟨K',w4,h1,h2,h3,h4⟩:=hK2.snoc hV2 (some ⟨wi.heap.size,0,none⟩) 1 (zdu _ _ _ 1 _ rfl rfl) hb (by have:=hM.grown.size;simp only[World.size_alloc];omega);obtain⟨Y,ho,-⟩:=hK2;exact⟨K',w4,h1,(hM.below hal).own ho (Nat.le_refl _) (by decide) h3,h2⟩
theorem z44 {w wi wz:World} {g E b:Nat} {B K all:Value} {L:zg} {cs:Except (Nat×Nat) Nat} {vs:List Vec} {l la:List Iv} {ix:List Nat} {C:List Value} (hM:RdM w wi g B E L cs) (hS:SegB wz wi w.heap.size K vs l ix all la) (s:Iv) (hb:la.length+1≤1000000000000) (hx:Row wi b 89 C) (hne:all.ownBlock≠some b):
 ∃all' w4,(Builtin.append_ #[91,91] 91 #[all,.slice (some ⟨wi.heap.size,0,none⟩) 1 1]).run Tryz.prog (wi.alloc (.cells #[.int .u64 (s.1:Nat),.int .u64 (s.2:Nat)] 89))=.ok all' w4∧RdM w w4 g B E L cs∧SegB wz w4 w.heap.size K vs l ix all' (la++[s])∧Row w4 b 89 C:=by
 have hal:=(Below.refl wi.heap.size wi).alloc (Nat.le_refl _) (.cells #[.int .u64 (s.1:Nat),.int .u64 (s.2:Nat)] 89);have hS2:=hS.later hal;obtain⟨all',w4,h1,h2,h3,h4⟩:=hS2.more s (some ⟨wi.heap.size,0,none⟩) 1 (zdu _ _ _ 1 _ rfl rfl) hb;exact⟨all',w4,h1,(hM.below hal).own hS2.own (Nat.le_refl _) (by decide) h2,h4,(hx.later hal).grown h2 fun e=>hne e.symm⟩
structure ItemB (wz w:World) (g cu i n cap E:Nat) (B:Value) (L:zg) (cs:Except (Nat×Nat) Nat) (vs:List Vec) (l:List Iv) (ix:List Nat) (all:Value) (la:List Iv) (w':World) (gS m cS:Nat) (S:Value):Prop where
 mem:RdM w w' cu B E L cs
 lo:w.heap.size≤g
 cell:w'.cell? ⟨g,i*2,none⟩=some S
 frozen:w'.frozen? ⟨g,i*2,none⟩=false
 fin:SegB wz (w'.setCell ⟨g,i*2,none⟩ (.slice (some ⟨gS,0,none⟩) m cS)) w.heap.size (.slice (some ⟨g,0,none⟩) n cap) vs l ix all la
 limNe:g≠w.heap.size
 curNe:g≠cu
theorem ItemB.done {wz w w':World} {g cu i n cap E gS m cS:Nat} {B all S:Value} {L:zg} {cs:Except (Nat×Nat) Nat} {vs:List Vec} {l la:List Iv} {ix:List Nat} (h:ItemB wz w g cu i n cap E B L cs vs l ix all la w' gS m cS S):RdM w (w'.setCell ⟨g,i*2,none⟩ (.slice (some ⟨gS,0,none⟩) m cS)) cu B E L cs:=
 ⟨zn h.mem.grown (a:=⟨g,i*2,none⟩) _ (.inl h.lo),h.mem.lim.other (a:=⟨g,i*2,none⟩) (fun e=>h.limNe e.symm) _,h.mem.cur.other h.curNe _⟩
theorem z47 {w wi W:World} {ops:Array Oper} {o:Oper} {a:Act} {K:Act→World→Prop} {Q:Exit→Act→World→Prop} {X:Prop} (hgd:o.guard=none) (s x:Operand)
 (ho:o.op=.call { callee:=.builtin .append,args:= #[s,x],argTypes:= #[91,91] }) (hty:o.type=91)
 {wz:World} {g cu n cap E:Nat} {B all:Value} {L:zg} {cs:Except (Nat×Nat) Nat} {vs:List Vec} {l la:List Iv} {ix:List Nat} (hR:RdM w wi cu B E L cs) (hM:SegB wz wi w.heap.size (.slice (some ⟨g,0,none⟩) n cap) vs l ix all la) (hn:n=vs.length) (hli:ix.length=l.length) {i:Nat} (hi:i<n) {S:Value} (hS:wi.cell? ⟨g,i*2,none⟩=some S) (t:Iv) (hW:Below wi.heap.size wi W)
 (hs:a.eval s=S) (A:Option Addr) (c:Nat) (hx:a.eval x=.slice A 1 c) (hr:Rd W 2 A 1 (ivC [t])) (hb:l.length+1≤1000000000000)
 (hK:∀gS m cS w',ItemB wz w g cu i n cap E B L cs vs (l++[t]) (ix++[i]) all la w' gS m cS S→K (a.put o.dst (.slice (some ⟨gS,0,none⟩) m cS)) w'):
 if Region.wanted o (yielded ops a.tmps)=true then Oper.wp Tryz.prog o a W K Q else X:=by
 subst hn;obtain⟨S',w',hrun,⟨gS,m,cS,rfl⟩,h5,h6,h3,h4,h7⟩:=hM.put hli hi hS t W hW A c hr hb;refine zfm hgd s x _ ho _ _ hs hx _ w' (by rw[hty];exact hrun) ?_;obtain⟨X',Y',k1,k2,k3,k4,-⟩:=hM;have hg:=k4.lt g rfl;have hR2:=hR.below hW
 have row:∀{T C g'},Row W g' T C→T≠89→Row w' g' T C:=fun hr hT=>hr.grown h5 fun e=>by
  obtain⟨-,C',fr,hk⟩:=h6 _ e.symm;unfold Row at hr;rw[hk] at hr;injection hr with hr;injection hr with _ hr _;exact hT hr.symm
 refine hK gS m cS w' ⟨⟨zeh hR2.grown h5 fun k hk=>(h6 k hk).1,row hR2.lim (by decide),?_⟩,hg.1,h3,h4,h7 w' (jk _ _),?_,?_⟩
 · cases cs with
   | ok q=>exact row hR2.cur (by decide)
   | error e=>obtain⟨q,h⟩:=hR2.cur;exact⟨q,row h (by decide)⟩
 · exact hR.lim.ne_own k4 (by decide) g rfl
 · exact CurM.ne_own hR.cur k4 (by decide) g rfl
theorem z48 {wz wi:World} {base g:Nat} {K all:Value} {vs:List Vec} {l la:List Iv} {ix:List Nat} (hS:SegB wz wi base K vs l ix all la) (hN:NotT wi g) (hl:zk la):∃a c,all=.slice a la.length c∧∀W,wi.grownBy W (some g)→Ivs W a la.length c la:=by
 obtain⟨a,c,e,h⟩:=zbd hS.own hl;refine⟨a,c,e,fun W hW=>?_⟩;obtain⟨a',c',e',h'⟩:=zbd (hS.grown hN hW).own hl;rw[e] at e';injection e' with e1 _ e3;subst e1 e3;exact h'
theorem zth {wz wi:World} {base i:Nat} {K all:Value} {vs:List Vec} {l la:List Iv} {ix:List Nat} (hS:SegB wz wi base K vs l ix all la) (hi:i<vs.length):∃gk ck a c,K=.slice (some ⟨gk,0,none⟩) vs.length ck∧wi.cell? ⟨gk,i*2,none⟩=some (.slice a (itN l ix i).length c):=by
 obtain⟨X,Y,h1,h2,h3,h4,h5,-⟩:=hS;obtain⟨g,cap,rfl,-⟩:=zbq h4 (by omega);have c1:=h4.cells (g:=g) rfl _ _ (zcy hi X Y).1;rw[yk,Nat.zero_add] at c1;obtain⟨a,c,e⟩:=jz (h5 i hi);rw[e] at c1;exact⟨g,cap,a,c,rfl,c1⟩
theorem zti {vs:List Vec} {l:List Iv} {ix:List Nat} {i:Nat} (hi:i<vs.length):zb (qi vs l ix) i=(itN l ix i,qq vs i):=by
 rw[ym (by rw[zea];simpa using hi)];simp[zea]
theorem zis (vs:List Vec) (l:List Iv) (ix:List Nat):(qi vs l ix).length=vs.length:=by rw[zea];simp
theorem z49 {E q i:Nat} {vs:List Vec} {l:List Iv} {ix:List Nat} (hi:i<vs.length) (h:(itN l ix i).length=0):kg E (qi vs l ix) q=.error (10,q):=by
 unfold kg;refine if_pos ⟨zb (qi vs l ix) i,yx (by rw[zis];exact hi),?_⟩;rw[zti hi];exact List.length_eq_zero_iff.1 h
theorem z5a {E q:Nat} {vs:List Vec} {l:List Iv} {ix:List Nat} (h:∀i,i<vs.length→(itN l ix i).length≠0):kg E (qi vs l ix) q=if q<E then .error (11,q) else .ok (qi vs l ix,q):=by
 unfold kg;refine if_neg ?_;rintro⟨f,hf,h0⟩;obtain⟨i,hi,rfl⟩:=List.getElem_of_mem hf;have hi':i<vs.length:=by rw[zis] at hi;exact hi
 rw[←ym hi,zti hi'] at h0;exact h i hi' (by rw[show itN l ix i=[] from h0];rfl)
theorem z5b {l:List Iv} {lo:Nat} (h:0<l.length):zan l lo=decide (lo=(za l (l.length - 1)).2+1):=by
 unfold zan z7;rw[List.getLast?_eq_getElem?,List.getElem?_eq_getElem (by omega)];simp only[Option.map_some];rw[yw (by omega)]
theorem ztj {α β:Type} {a:RR α} {f:α→Nat→RR β} {y:β×Nat} (h:thn a f=.ok y):∃x q,a=.ok (x,q)∧f x q=.ok y:=by
 cases a with
 | error e=>cases h
 | ok z=>exact⟨z.1,z.2,rfl,h⟩
theorem z5c {T:zt} {h ap p q wh:Nat} {s:Iv} (e:ivP T (some h) ap p=.ok ((s,wh),q)):h+1≤s.1:=by
 unfold ivP at e;obtain⟨x,q1,h1,h2⟩:=ztj e;simp only[loP] at h2;split at h2
 · cases h2
 · rename_i lo hlo;split at hlo
   · injection hlo with hlo;unfold hiP at h2;obtain⟨y,q2,h3,h4⟩:=ztj h2;split at h4
     · cases h4;simp only;omega
     · cases h4
   · cases hlo
end
section
open Go.RowKit
attribute [local go_sem] zad
theorem Row.same_set {w:World} {g i:Nat} {T:TypeId} {C:List Value} {v:Value} (h:Row w g T C) (hi:C[i]?=some v):w.setCell ⟨g,i,none⟩ v=w:=by
 have e:(w.setCell ⟨g,i,none⟩ v).heap=w.heap:=by
  refine Array.ext_getElem? fun k=>?_
  by_cases hk:k=g
  · subst hk;have h2:=h.set i v
    have hc:C.set i v=C:=by
     apply List.ext_getElem?;intro j;rw[List.getElem?_set];split
     · rename_i hj;subst hj;split
       · exact hi.symm
       · rename_i hl;rw[List.getElem?_eq_none (by omega)]
     · rfl
    rw[hc] at h2;exact(show _=_ from h2).trans (show w.heap[k]?=_ from h).symm
  · exact heap_setCell_other w ⟨g,i,none⟩ k v hk
 have e2:w.setCell ⟨g,i,none⟩ v={ w with heap:=(w.setCell ⟨g,i,none⟩ v).heap }:=rfl;rw[e2,e]
theorem VecAt.later {w w':World} {base R:Nat} {L:zg} {K:Value} {U C B:Nat} {s:WS} (h:VecAt w base R L K U C B s) (hb:Below w.heap.size w w'):VecAt w' base R L K U C B s:=by
 rcases h with ⟨h1,⟨ip,h2⟩,h3⟩ | ⟨h1,P,pb,wb,h2,h3,h4,h5,b1,b2,b3,b4,b5,h6⟩
 · exact .inl ⟨h1,⟨ip,h2.later hb⟩,h3.later hb⟩
 · exact .inr ⟨h1,P,pb,wb,h2.later hb,h3,h4.trans (.of_below hb),h5,b1,b2,b3,b4,b5,h6.later hb⟩
theorem WkR.later {w w':World} {base R:Nat} {L:zg} {s:WS} (h:WkR w base R L s) (hb:Below w.heap.size w w'):WkR w' base R L s:=by
 obtain⟨hR0,part,K,U,C,hU,hC,hR,hu,hB⟩:=h;refine⟨hR0,part,K,U,C,hU,hC,hR.later hb,hu.same (hb.block U hu.lt),?_⟩;unfold WkB at hB ⊢;split at hB
 · exact⟨hB.1,hB.2.1.later hb,hB.2.2.later hb⟩
 · obtain⟨B,e,hB0,hc,hV⟩:=hB;exact⟨B,e,hB0,hc.later hb,hV.later hb⟩
 · exact⟨hB.1,hB.2.1.later hb,hB.2.2.later hb⟩
 · obtain⟨B,e,hB0,hM,last,touch,lo0,h1,h2,h3,h4⟩:=hB;exact⟨B,e,hB0,hM.later hb,last,touch,lo0,h1.later hb,h2,h3,h4.later hb⟩
 · exact⟨hB.1,hB.2.later hb⟩
theorem Tryz.pn0 (w:World):(binOp .neq 128 (.iface 123 (.agg #[])) (.iface 131 (.agg #[]))).run Tryz.prog w=.ok (.bool true) w:=by kernel_rfl
theorem Tryz.pn1 (B:Nat) (w:World):(binOp .neq 128 (.iface 196 (.pointer (some ⟨B,0,none⟩))) (.iface 131 (.agg #[]))).run Tryz.prog w=.ok (.bool true) w:=by kernel_rfl
theorem Tryz.pn2 (w:World):(binOp .neq 128 (.iface 200 (.agg #[])) (.iface 131 (.agg #[]))).run Tryz.prog w=.ok (.bool true) w:=by kernel_rfl
theorem Tryz.pn3 (B:Nat) (w:World):(binOp .neq 128 (.iface 202 (.pointer (some ⟨B,0,none⟩))) (.iface 131 (.agg #[]))).run Tryz.prog w=.ok (.bool true) w:=by kernel_rfl
theorem Tryz.pn4 (w:World):(binOp .neq 128 (.iface 131 (.agg #[])) (.iface 131 (.agg #[]))).run Tryz.prog w=.ok (.bool false) w:=by kernel_rfl
theorem Tryz.pe0 (w:World):(binOp .eql 128 (.iface 123 (.agg #[])) (.iface 131 (.agg #[]))).run Tryz.prog w=.ok (.bool false) w:=by kernel_rfl
theorem Tryz.pe1 (B:Nat) (w:World):(binOp .eql 128 (.iface 196 (.pointer (some ⟨B,0,none⟩))) (.iface 131 (.agg #[]))).run Tryz.prog w=.ok (.bool false) w:=by kernel_rfl
theorem Tryz.pe2 (w:World):(binOp .eql 128 (.iface 200 (.agg #[])) (.iface 131 (.agg #[]))).run Tryz.prog w=.ok (.bool false) w:=by kernel_rfl
theorem Tryz.pe3 (B:Nat) (w:World):(binOp .eql 128 (.iface 202 (.pointer (some ⟨B,0,none⟩))) (.iface 131 (.agg #[]))).run Tryz.prog w=.ok (.bool false) w:=by kernel_rfl
theorem Tryz.pe4 (w:World):(binOp .eql 128 (.iface 131 (.agg #[])) (.iface 131 (.agg #[]))).run Tryz.prog w=.ok (.bool true) w:=by kernel_rfl
theorem zlx {w:World} {base R:Nat} {L:zg} {s:WS} {part K:Value} {U C:Nat} (h:WkB w base R L s part K U C) (hs:s.tag≤4):
 (∀W,(binOp .neq 128 part (.iface 131 (.agg #[]))).run Tryz.prog W=.ok (.bool (!decide (s.tag=4))) W)∧(∀W,(binOp .eql 128 part (.iface 131 (.agg #[]))).run Tryz.prog W=.ok (.bool (decide (s.tag=4))) W):=by
 unfold WkB at h;rcases ht:s.tag with _ | _ | _ | _ | _ | k
 all_goals simp only[ht] at h
 · obtain⟨rfl,-⟩:=h;exact⟨Tryz.pn0,Tryz.pe0⟩
 · obtain⟨B,rfl,-⟩:=h;exact⟨Tryz.pn1 B,Tryz.pe1 B⟩
 · obtain⟨rfl,-⟩:=h;exact⟨Tryz.pn2,Tryz.pe2⟩
 · obtain⟨B,rfl,-⟩:=h;exact⟨Tryz.pn3 B,Tryz.pe3 B⟩
 · obtain⟨rfl,-⟩:=h;exact⟨Tryz.pn4,Tryz.pe4⟩
 · omega
theorem Tryz.eqGuard_if (op:BinOp) (t:TypeId) (x y:Operand) (a:Value) (T:TypeId) (v:Value) (w:World):(eqGuard op t x y a (.iface T v)).run Tryz.prog w=.ok () w:=by
 cases op <;> cases a <;> rfl
attribute [local go_sem] Tryz.eqGuard_if
def WkQ (w:World) (base R:Nat) (L:zg) (r:Except (Nat×Nat) WS) (e:Ending) (w':World):Prop:=
 Below base w w'∧match r with
 | .error x=>e=.returned (.tuple #[.bool true,zaz x.1 x.2])∧∃C,Row w' R 130 C∧C[9]?=some (zaz x.1 x.2)
 | .ok s'=>e=.returned (.tuple #[.bool (decide (s'.tag=4)),.nilIface])∧WkR w' base R L s'
set_option maxRecDepth 20000 in
theorem z5d (base R:Nat) (L:zg) (s:WS) (E x p q:Nat) (w0 w:World) (hb0:Below base w0 w) (h:WkR w base R L s) (hD:Door w) (hDb:0<base) (ho:StepOk L s E x p q) (hok:∀s',jd E L s x p q=.ok s'→s'.tag≤4):
 Calls Tryz.prog 27 #[.pointer (some ⟨R,0,none⟩),.int .u64 (x:Int),.int .i64 (p:Int),.int .i64 ((E - q:Nat):Int)] w (WkQ w0 base R L (jd E L s x p q)):=by
 have HT:=hid (z42 base R L s E x p q w0 w hb0 h hD hDb ho);obtain⟨hR0,part,K,U,C,hU,hC,hR,hu,hB⟩:=h;obtain⟨hn,-⟩:=zlx hB (Nat.le_of_lt ho.tag);rw[show decide (s.tag=4)=false from decide_eq_false (by have:=ho.tag;omega)] at hn;simp only[Bool.not_false] at hn;have q1:=hR.cell 5 rfl;have q9:=hR.cell 9 rfl;have Hok:=hid hok;obtain⟨res,hres⟩:∃res,jd E L s x p q=res:=⟨_,rfl⟩;rw[hres] at HT Hok ⊢;clear hR hu hB ho hb0 hD hok hres;go_enter Tryz.func27,Tryz.ntmps27;go_wp2_with fail;refine HT.out.mono ?_;rintro e w1 ⟨hb,hr⟩
 cases res with
 | error c=>
  obtain⟨rfl,C',hR',hl⟩:=hr;have z9:=hR'.fz 9
  have q9':∃v,w1.cell? ⟨R,9,none⟩=some v:=by
   obtain⟨v,hv⟩:∃v,C'[9]?=some v:=⟨C'[9],by simp[hl]⟩;exact⟨v,hR'.cell 9 hv⟩
  obtain⟨v9,q9'⟩:=q9';have HR2:=hid (hR'.set 9 (zaz c.1 c.2));have hc2:(C'.set 9 (zaz c.1 c.2))[9]?=some (zaz c.1 c.2):=by simp[hl]
  have r9:=fun k=>(show Row ((w1.setCell ⟨R,9,none⟩ (zaz c.1 c.2)).drewN k) R 130 _ from HR2.out).cell 9 hc2
  have HB:=hid (hb.setCell (p:=⟨R,9,none⟩) hR0 (zaz c.1 c.2));have Hc2:=hid hc2;clear hR' hl hb hc2;clear HT;unfold zaz at HR2 r9 HB Hc2 ⊢;go_wp2;generalize w1.setCell ⟨R,9,none⟩ (.iface 112 (.agg #[.int .i64 (c.1:Int),.int .i64 (c.2:Int)]))=W at*;go_quiet (fail);go_wp2_with fail;go_ret2
  exact⟨zy HB.out _,rfl,_,HR2.out,Hc2.out⟩
 | ok s'=>
  obtain⟨rfl,hR1⟩:=hr;have HR1:=hid hR1;have hs4:=Hok.out s' rfl;obtain⟨-,part',K',U',C',hU',hC',hR',hu',hB'⟩:=hR1;obtain⟨-,he⟩:=zlx hB' hs4;have z9:=hR'.fz 9;have q9':=hR'.cell 9 rfl;have hsame:w1.setCell ⟨R,9,none⟩ .nilIface=w1:=hR'.same_set rfl;have r9:=fun k=>(show Row (w1.drewN k) R 130 _ from hR').cell 9 rfl
  have r5:=fun k=>(show Row (w1.drewN k) R 130 _ from hR').cell 5 rfl
  have HB:=hid hb;clear hR' hu' hB' hb;go_wp2;go_quiet (fail);go_wp2_with fail;go_ret2;exact⟨zy HB.out _,rfl,HR1.out.later (zy (Below.refl _ _) _)⟩
end
