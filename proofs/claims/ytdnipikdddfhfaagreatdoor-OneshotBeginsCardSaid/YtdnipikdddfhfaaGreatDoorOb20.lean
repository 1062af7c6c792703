/- Part 20. -/
import Derived.Test.YtdnipikdddfhfaaGreatDoorOb19
set_option linter.unusedVariables false
set_option maxHeartbeats 16000000
namespace Go.Proofs.YtdnipikdddfhfaaGreatDoor
open Lib (hid)
section
open Go.RowKit
attribute [local go_sem] qj
theorem KV.row {w w':World} {base g:Nat} {K:Value} {vs:List Vec} {T:TypeId} {C:List Value} (h:KV w base K vs) (hR:Row w g T C) (hT:¬qh T:=by rintro(h | h | h) <;> cases h) (hg:w.grownBy w' (some g)):KV w' base K vs:=h.grown (hR.notT hT) hg
section
variable {P:Program} {T xT t:TypeId} {z:Value}
theorem zeq (hu:(P.underlying T).map (fun u=>match u with | .interface _=>false | _=>true)=some true) (v:Value) (xT:TypeId) (w:World):(Instr.typeAssert (.iface T v) xT T true).run P w=.ok (.tuple #[v,.bool true]) w:=by
 obtain⟨u,hu,hn⟩:=Option.map_eq_some_iff.1 hu;cases u <;> first | (simp at hn;done) | simp[Instr.typeAssert,run_underlying hu]
theorem zb6 (hu:(P.underlying T).map (fun u=>match u with | .interface _=>false | _=>true)=some true) (hz:(P.info? T).map (·.zero)=some (some z)) (hne:t≠T) (v:Value) (xT:TypeId) (w:World):(Instr.typeAssert (.iface t v) xT T true).run P w=.ok (.tuple #[z,.bool false]) w:=by
 obtain⟨u,hu,hn⟩:=Option.map_eq_some_iff.1 hu;obtain⟨j,hj,hz⟩:=Option.map_eq_some_iff.1 hz;cases u <;> first | (simp at hn;done) | simp[Instr.typeAssert,run_underlying hu,hne,zeroValue,typeInfo,hj,hz]
end
theorem Tryz.taS0 (v:Value) (xT:TypeId) (w:World):(Instr.typeAssert (.iface 123 v) xT 123 true).run Tryz.prog w=.ok (.tuple #[v,.bool true]) w:=zeq (by kernel_rfl) v xT w
theorem Tryz.taM2 (v:Value) (xT:TypeId) (w:World):(Instr.typeAssert (.iface 200 v) xT 200 true).run Tryz.prog w=.ok (.tuple #[v,.bool true]) w:=zeq (by kernel_rfl) v xT w
theorem Tryz.taV1 (v:Value) (xT:TypeId) (w:World):(Instr.typeAssert (.iface 196 v) xT 196 true).run Tryz.prog w=.ok (.tuple #[v,.bool true]) w:=zeq (by kernel_rfl) v xT w
theorem Tryz.taG3 (v:Value) (xT:TypeId) (w:World):(Instr.typeAssert (.iface 202 v) xT 202 true).run Tryz.prog w=.ok (.tuple #[v,.bool true]) w:=zeq (by kernel_rfl) v xT w
theorem Tryz.taV0 (v:Value) (xT:TypeId) (w:World):(Instr.typeAssert (.iface 196 v) xT 123 true).run Tryz.prog w=.ok (.tuple #[.agg #[],.bool false]) w:=zb6 (by kernel_rfl) (by kernel_rfl) (by decide) v xT w
theorem Tryz.taM0 (v:Value) (xT:TypeId) (w:World):(Instr.typeAssert (.iface 200 v) xT 123 true).run Tryz.prog w=.ok (.tuple #[.agg #[],.bool false]) w:=zb6 (by kernel_rfl) (by kernel_rfl) (by decide) v xT w
theorem Tryz.taM1 (v:Value) (xT:TypeId) (w:World):(Instr.typeAssert (.iface 200 v) xT 196 true).run Tryz.prog w=.ok (.tuple #[.pointer none,.bool false]) w:=zb6 (by kernel_rfl) (by kernel_rfl) (by decide) v xT w
theorem Tryz.taG0 (v:Value) (xT:TypeId) (w:World):(Instr.typeAssert (.iface 202 v) xT 123 true).run Tryz.prog w=.ok (.tuple #[.agg #[],.bool false]) w:=zb6 (by kernel_rfl) (by kernel_rfl) (by decide) v xT w
theorem Tryz.taG1 (v:Value) (xT:TypeId) (w:World):(Instr.typeAssert (.iface 202 v) xT 196 true).run Tryz.prog w=.ok (.tuple #[.pointer none,.bool false]) w:=zb6 (by kernel_rfl) (by kernel_rfl) (by decide) v xT w
theorem Tryz.taG2 (v:Value) (xT:TypeId) (w:World):(Instr.typeAssert (.iface 202 v) xT 200 true).run Tryz.prog w=.ok (.tuple #[.agg #[],.bool false]) w:=zb6 (by kernel_rfl) (by kernel_rfl) (by decide) v xT w
attribute [local go_sem] Tryz.taS0 Tryz.taM2 Tryz.taV1 Tryz.taG3 Tryz.taV0 Tryz.taM0 Tryz.taM1 Tryz.taG0 Tryz.taG1 Tryz.taG2
theorem zc8 {w:World} {R U C:Nat} {L:za} {part part' K:Value} {ix:List Nat} {Cu:List Value} {base:Nat} {vs:List Vec} (hR:Row w R 130 (wkC L part K U C .nilIface)) (hu:UsedM w U ix) (hc:Row w C 193 Cu) (hK:KV w base K vs):
 Row (w.setCell ⟨R,5,none⟩ part') R 130 (wkC L part' K U C .nilIface)∧UsedM (w.setCell ⟨R,5,none⟩ part') U ix∧Row (w.setCell ⟨R,5,none⟩ part') C 193 Cu∧KV (w.setCell ⟨R,5,none⟩ part') base K vs:=by
 have g:=jt w R 5 part';exact⟨hR.set 5 _,hu.grownT hR g,hc.grown g (fun e=>by injection e with e;exact hR.ne hc (by decide) e.symm),hK.grown (hR.notT (by rintro(h | h | h) <;> cases h)) g⟩
structure StepOk (L:za) (s:WS) (E x p q:Nat):Prop where
 lims:LimsI L
 xb:x<18446744073709551616
 qp:q=p+(zo x).length
 qe:q≤E
 qb:q≤900000000000
 eb:E - q<9223372036854775808
 fit:WFit s p
 inv:WInv s
 tch:za9 s
 tag:s.tag<4
 vf:∀v∈s.vs,(zj v).length≤1000000000000
 vi:s.tag=1→∀i,zm L.2.2.1 L.2.2.2.1 s.inner x (E - q)=.ok i→i.tag=6→(zj i.v).length≤1000000000000
theorem zue {E:Nat} {L:za} {s:WS} {x p q:Nat} (ht:s.tag=3):zr E L s x p q=match s.turn with | 0=>zla s p (loP (yk s.l) 0 x) | 1=>zel s p x | _=>zbg E s p q x:=by
 obtain⟨tag,vs,l,ix,left,frm,inner,turn,lo,hi,tch⟩:=s;simp only at ht;subst ht;rcases turn with _ | _ | k <;> rfl
set_option maxRecDepth 20000 in
theorem zuf (base R:Nat) (L:za) (s:WS) (E x p q:Nat) (w0 w:World) (hb0:Below base w0 w) (h:WkR w base R L s) (hD:Door w) (hDb:0<base) (ho:StepOk L s E x p q):
 Calls Tryz.prog 70 #[.pointer (some ⟨R,0,none⟩),.int .u64 (x:Int),.int .i64 (p:Int),.int .i64 ((E - q:Nat):Int)] w (WkS w0 base R L (zr E L s x p q)):=by
 obtain⟨hR0,part,K,U,C,hU,hC,hR,hu,hB⟩:=h;have q5:=hR.cell 5 rfl;obtain⟨hL,hx,hq,hqE,hE,hrst,hF,hI,hT,h4,hvf,hvi⟩:=ho;have Hrst:=hid hrst;have Hb0:=hid hb0;have Hx:=hid hx;have Hq:=hid hq;have HqE:=hid hqE;have HE:=hid hE;have HF:=hid hF;have HI:=hid hI;have HT:=hid hT;have HD:=hid hD;have Hvf:=hid hvf;have Hvi:=hid hvi;have HR:=hid hR;have Hu:=hid hu;have HL:=hid hL;have Hbw:=hid (show base≤w.heap.size by have:=hR.lt;omega);clear hx hq hqE hE hF hI hT hvf hvi hD hb0;rcases ht:s.tag with _ | _ | _ | _ | k
 ·
  have Ht:=hid ht;unfold WkB at hB;simp only[ht] at hB;obtain⟨rfl,hK,hcu⟩:=hB;have HK:=hid hK;have Hcu:=hid hcu;have HLim:=hid (fun W=>zj6 x L.2.1 (E - q) W Hx.out HL.out.b hrst);have HA:=hid (fun W (hb:Below w.heap.size w W)=>And.intro (hR.later hb) (And.intro (hu.same (hb.block U hu.lt)) (And.intro (hcu.later hb) (hK.later hb))));have hal:=fun o=>(Below.refl w.heap.size w).alloc (Nat.le_refl _) o
  have hal2:=fun o o'=>(hal o).alloc (by simp) o'
  have p1:=fun o=>(HA.out (w.alloc o) (hal o)).1.cell 1 rfl
  have p5:=fun o=>(HA.out (w.alloc o) (hal o)).1.cell 5 rfl
  have pp5:=fun o o'=>(HA.out ((w.alloc o).alloc o') (hal2 o o')).1.cell 5 rfl
  have y5:=fun o o'=>(HA.out ((w.alloc o).alloc o') (hal2 o o')).1.fz 5
  have HAl:=hid hal2
  have hwst:zr E L s x p q=if zl x L.2.1 (E - q)≠0 then .error (zl x L.2.1 (E - q),p) else if x=0 then .ok { s with tag:=2 } else .ok { s with tag:=1,left:=x,inner:=ps0 }:=by
   unfold zr;simp only[ht]
  obtain⟨c,hc⟩:∃c,c=zl x L.2.1 (E - q):=⟨_,rfl⟩;rw[←hc] at hwst HLim;have HEb:=hid (yf (w.alloc (.cells #[] 123)) 199 [.int .u64 (x:Int),.int .i64 (-1),.pointer none]);clear hc hR hu hK hcu hL hrst h4 ht hal hal2;by_cases hc0:c=0
  · subst hc0;rw[if_neg (by simp)] at hwst;by_cases hx0:x=0
    · rw[if_pos hx0] at hwst;have Hwst:=hid hwst;have hxz:((x:Int) == 0)=true:=by rw[beq_iff_eq];omega
      clear hwst hx0;go_enter Tryz.func70,Tryz.ntmps70;go_wp2_with fail;refine(HLim.out _).mono ?_;rintro e w' ⟨rfl,rfl⟩;go_wp2_with fail;go_ret;obtain⟨r,u,cu,k⟩:=HA.out _ (HAl.out (.cells #[] 123) (.cells #[.int .u64 (x:Int),.int .i64 (-1),.pointer none] 199));obtain⟨r2,u2,cu2,k2⟩:=zc8 (part':=.iface 196 (.pointer (some ⟨w.heap.size+1,0,none⟩))) r u cu k;have b2:=Hb0.out.trans (((HAl.out (.cells #[] 123) (.cells #[.int .u64 (x:Int),.int .i64 (-1),.pointer none] 199)).mono Hbw.out).setCell (p:=⟨R,5,none⟩) hR0 (.iface 196 (.pointer (some ⟨w.heap.size+1,0,none⟩))));have he:=HEb.out;rw[World.size_alloc] at he;have he2:=he.grown (jt _ R 5 (.iface 196 (.pointer (some ⟨w.heap.size+1,0,none⟩)))) (fun e=>by injection e with e;exact r.ne he (by decide) e.symm);obtain⟨r3,u3,cu3,k3⟩:=zc8 (part':=.iface 200 (.agg #[])) r2 u2 cu2 k2;exact⟨b2.setCell (p:=⟨R,5,none⟩) hR0 _,by rw[Hwst.out];exact⟨rfl,hR0,_,K,U,C,hU,hC,r3,u3,rfl,k3,cu3⟩⟩
    · rw[if_neg hx0] at hwst;have Hwst:=hid hwst;have hxz:((x:Int) == 0)=false:=by rw[beq_eq_false_iff_ne];omega
      clear hwst hx0;go_enter Tryz.func70,Tryz.ntmps70;go_wp2_with fail;refine(HLim.out _).mono ?_;rintro e w' ⟨rfl,rfl⟩;go_wp2_with fail;go_ret;obtain⟨r,u,cu,k⟩:=HA.out _ (HAl.out (.cells #[] 123) (.cells #[.int .u64 (x:Int),.int .i64 (-1),.pointer none] 199));obtain⟨r2,u2,cu2,k2⟩:=zc8 (part':=.iface 196 (.pointer (some ⟨w.heap.size+1,0,none⟩))) r u cu k;have b2:=Hb0.out.trans (((HAl.out (.cells #[] 123) (.cells #[.int .u64 (x:Int),.int .i64 (-1),.pointer none] 199)).mono Hbw.out).setCell (p:=⟨R,5,none⟩) hR0 (.iface 196 (.pointer (some ⟨w.heap.size+1,0,none⟩))));have he:=HEb.out;rw[World.size_alloc] at he;have he2:=he.grown (jt _ R 5 (.iface 196 (.pointer (some ⟨w.heap.size+1,0,none⟩)))) (fun e=>by injection e with e;exact r.ne he (by decide) e.symm);exact⟨b2,by rw[Hwst.out];exact⟨rfl,hR0,_,K,U,C,hU,hC,r2,u2,w.heap.size+1,rfl,by have:=Hbw.out;omega,cu2,.inl ⟨rfl,⟨_,he2⟩,k2⟩⟩⟩
  · rw[if_pos hc0] at hwst;have Hwst:=hid hwst;have hcz:((c:Int) == 0)=false:=by rw[beq_eq_false_iff_ne];omega
    have HN:=hid (fun W=>vd (c:=c) (o:=p) hc0 W);have HAo:=hid (HA.out (w.alloc (.cells #[] 123)) ((Below.refl _ _).alloc (Nat.le_refl _) _));clear hwst hc0;go_enter Tryz.func70,Tryz.ntmps70;go_wp2_with fail;refine(HLim.out _).mono ?_;rintro e w' ⟨rfl,rfl⟩;go_wp2_with fail;refine(HN.out _).mono ?_;rintro e w' ⟨rfl,rfl⟩;go_wp2_with fail;go_ret;exact⟨Hb0.out.trans ((Below.refl base w).alloc Hbw.out _),by rw[Hwst.out];exact⟨rfl,_,HAo.out.1,rfl⟩⟩
 ·
  have Ht:=hid ht;unfold WkB at hB;simp only[ht] at hB;obtain⟨B,rfl,hB0,hcu,hV⟩:=hB;obtain⟨res,hres⟩:∃res,zr E L s x p q=res:=⟨_,rfl⟩;rw[hres];have HC:=hid ((zs8 ht).symm.trans hres ▸ zs9 base R L s K U C B (E - q) x p w0 w ht hR0 hU hC hB0 Hb0.out hR hu hcu hV HD.out hDb hL Hx.out hrst (by have:=Hq.out;have:=HqE.out;have:=HE.out;omega) HF.out HI.out Hvf.out (Hvi.out ht) _ rfl);clear hV hcu hR hu hL hrst h4 ht;clear hres;go_enter Tryz.func70,Tryz.ntmps70;go_wp2_with fail;refine HC.out.mono ?_;rintro e w' ⟨hb,hr⟩
  cases res with
  | error c=>
   obtain⟨rfl,hr⟩:=hr;go_wp2_with fail;go_ret
   exact⟨hb,rfl,hr⟩
  | ok s'=>
   obtain⟨rfl,hr⟩:=hr;go_wp2_with fail;go_ret;exact⟨hb,rfl,hr⟩
 ·
  have Ht:=hid ht;unfold WkB at hB;simp only[ht] at hB;obtain⟨rfl,hK,hcu⟩:=hB;have HK:=hid hK;have Hcu:=hid hcu;have HLim:=hid (fun W=>zj6 x L.2.2.2.2 (E - q) W Hx.out HL.out.e hrst);have HA:=hid (fun W (hb:Below w.heap.size w W)=>And.intro (hR.later hb) (And.intro (hu.same (hb.block U hu.lt)) (And.intro (hcu.later hb) (hK.later hb))));have hal:=fun o=>(Below.refl w.heap.size w).alloc (Nat.le_refl _) o
  have hal2:=fun o o'=>(hal o).alloc (by simp) o'
  have p1:=fun o=>(HA.out (w.alloc o) (hal o)).1.cell 4 rfl
  have p5:=fun o=>(HA.out (w.alloc o) (hal o)).1.cell 5 rfl
  have pp5:=fun o o'=>(HA.out ((w.alloc o).alloc o') (hal2 o o')).1.cell 5 rfl
  have y5:=fun o o'=>(HA.out ((w.alloc o).alloc o') (hal2 o o')).1.fz 5
  have HAl:=hid hal2
  have hwst:zr E L s x p q=if zl x L.2.2.2.2 (E - q)≠0 then .error (zl x L.2.2.2.2 (E - q),p) else if x=0 then qu E s q else .ok { s with tag:=3,left:=x,turn:=0 }:=by
   unfold zr;simp only[ht]
  obtain⟨c,hc⟩:∃c,c=zl x L.2.2.2.2 (E - q):=⟨_,rfl⟩;rw[←hc] at hwst HLim;have HEb:=hid (yf (w.alloc (.cells #[] 200)) 204 [.int .u64 (x:Int),.int .i64 0,.int .i64 0,.bool false]);clear hc hR hu hK hcu hL hrst h4 ht hal hal2;by_cases hc0:c=0
  · subst hc0;rw[if_neg (by simp)] at hwst;obtain⟨hl0,hx0'⟩:=HI.out.none (by rw[Ht.out];decide);by_cases hx0:x=0
    · rw[if_pos hx0] at hwst;have hxz:((x:Int) == 0)=true:=by rw[beq_iff_eq];omega
      have hpq:IntKind.i64.wrap ((p:Int)+((zo x).length:Int))=(q:Int):=by have:=Hq.out;have:=HqE.out;have:=HE.out;rw[IntKind.wrap_i64];omega
      have HSz:=hid (fun W=>zdh x W Hx.out);obtain⟨fr,hfr⟩:∃fr,fr=qu E s q:=⟨_,rfl⟩;rw[←hfr] at hwst;have Hwst:=hid hwst;have HFn:=hid (fun W h1 h2 h3 h4 h5 h6=>hfr ▸ zj7 base R L s (jy (w.heap.size+1)) K U C E q W h1 h2 h3 h4 h5 h6 HF.out.li HF.out.ix Hrst.out HqE.out);have Hl0:=hid hl0;have Hx0':=hid hx0';clear hwst hx0 hfr hl0 hx0';go_enter Tryz.func70,Tryz.ntmps70;go_wp2_with fail;refine(HLim.out _).mono ?_;rintro e w' ⟨rfl,rfl⟩;go_wp2_with fail;refine(HSz.out _).mono ?_;rintro e w6 ⟨rfl,rfl⟩;go_wp2_with fail;obtain⟨r,u,cu,k⟩:=HA.out _ (HAl.out (.cells #[] 200) (.cells #[.int .u64 (x:Int),.int .i64 0,.int .i64 0,.bool false] 204));obtain⟨r2,u2,cu2,k2⟩:=zc8 (part':=jy (w.heap.size+1)) r u cu k;have b2:=Hb0.out.trans (((HAl.out (.cells #[] 200) (.cells #[.int .u64 (x:Int),.int .i64 0,.int .i64 0,.bool false] 204)).mono Hbw.out).setCell (p:=⟨R,5,none⟩) hR0 (jy (w.heap.size+1)));have he:=HEb.out;rw[World.size_alloc] at he;have he2:=he.grown (jt _ R 5 (jy (w.heap.size+1))) (fun e=>by injection e with e;exact r.ne he (by decide) e.symm);have HB2:=hid b2;refine(HFn.out _ hR0 hU hC r2 u2 (by rw[Hl0.out,Hx0'.out];exact k2.seg (by simp;have:=Hbw.out;omega))).mono ?_;clear r u cu k r2 u2 cu2 k2 b2 he he2;rintro e w6 ⟨hb6,hr6⟩
      cases fr with
      | error c=>
       obtain⟨rfl,hr6⟩:=hr6;go_wp2_with fail;go_ret
       exact⟨HB2.out.trans hb6,by rw[Hwst.out];exact⟨rfl,hr6⟩⟩
      | ok s'=>
       obtain⟨rfl,hr6⟩:=hr6;go_wp2_with fail;go_ret;exact⟨HB2.out.trans hb6,by rw[Hwst.out];exact⟨rfl,hr6⟩⟩
    · rw[if_neg hx0] at hwst;have Hwst:=hid hwst;have hxz:((x:Int) == 0)=false:=by rw[beq_eq_false_iff_ne];omega
      have Hl0:=hid hl0;have Hx0':=hid hx0';clear hwst hx0 hl0 hx0';go_enter Tryz.func70,Tryz.ntmps70;go_wp2_with fail;refine(HLim.out _).mono ?_;rintro e w' ⟨rfl,rfl⟩;go_wp2_with fail;go_ret;obtain⟨r,u,cu,k⟩:=HA.out _ (HAl.out (.cells #[] 200) (.cells #[.int .u64 (x:Int),.int .i64 0,.int .i64 0,.bool false] 204));obtain⟨r2,u2,cu2,k2⟩:=zc8 (part':=jy (w.heap.size+1)) r u cu k;have b2:=Hb0.out.trans (((HAl.out (.cells #[] 200) (.cells #[.int .u64 (x:Int),.int .i64 0,.int .i64 0,.bool false] 204)).mono Hbw.out).setCell (p:=⟨R,5,none⟩) hR0 (jy (w.heap.size+1)));have he:=HEb.out;rw[World.size_alloc] at he;have he2:=he.grown (jt _ R 5 (jy (w.heap.size+1))) (fun e=>by injection e with e;exact r.ne he (by decide) e.symm);refine⟨b2,?_⟩;rw[Hwst.out];refine⟨rfl,hR0,_,K,U,C,hU,hC,r2,u2,w.heap.size+1,rfl,by have:=Hbw.out;omega,?_,0,false,0,he2,fun y hy=>?_,fun h=>?_,?_⟩
      · show SegM _ _ _ s.vs s.l s.ix;rw[Hl0.out,Hx0'.out];exact k2.seg (by simp;have:=Hbw.out;omega)
      · simp[Hx0'.out] at hy
      · simp at h
      · simp only[cuC,Hl0.out];exact cu2
  · rw[if_pos hc0] at hwst;have Hwst:=hid hwst;have hcz:((c:Int) == 0)=false:=by rw[beq_eq_false_iff_ne];omega
    have HN:=hid (fun W=>vd (c:=c) (o:=p) hc0 W);have HAo:=hid (HA.out (w.alloc (.cells #[] 200)) ((Below.refl _ _).alloc (Nat.le_refl _) _));clear hwst hc0;go_enter Tryz.func70,Tryz.ntmps70;go_wp2_with fail;refine(HLim.out _).mono ?_;rintro e w' ⟨rfl,rfl⟩;go_wp2_with fail;refine(HN.out _).mono ?_;rintro e w' ⟨rfl,rfl⟩;go_wp2_with fail;go_ret;exact⟨Hb0.out.trans ((Below.refl base w).alloc Hbw.out _),by rw[Hwst.out];exact⟨rfl,_,HAo.out.1,rfl⟩⟩
 ·
  have Ht:=hid ht;unfold WkB at hB;simp only[ht] at hB;obtain⟨B,rfl,hB0,hM,last,touch,lo0,hrow,hla,hto,hcu⟩:=hB;obtain⟨res,hres⟩:∃res,zr E L s x p q=res:=⟨_,rfl⟩
  have HC:Hid (Calls Tryz.prog 113 #[.pointer (some ⟨R,0,none⟩),.pointer (some ⟨B,0,none⟩),.int .u64 (x:Int),.int .i64 (p:Int),.int .i64 ((E - q:Nat):Int)] w (WkS w0 base R L res)):=by
   refine hid ?_;rw[←hres,zue ht];have htu:=HI.out.turn;rcases hu3:s.turn with _ | _ | _ | k
   · simp only[cuC,hu3] at hcu;rw[hu3] at hrow;exact zto base R L s K U C B (E - q) x p lo0 last touch w0 w ht hR0 hU hC hB0 Hb0.out hu3 ⟨hR,hrow,hcu,hu,hM⟩ hla HF.out.l Hx.out _ rfl
   · simp only[cuC,hu3] at hcu;rw[hu3] at hrow;exact ztp base R L s K U C B (E - q) x p last touch w0 w ht hR0 hU hC hB0 Hb0.out ⟨hR,hrow,hcu,hu,hM⟩ hla (hto (by omega)) HF.out.lo Hx.out
   · simp only[cuC,hu3] at hcu;rw[hu3] at hrow;refine zty base R L s K U C B E x p q lo0 last touch w0 w ht hR0 hU hC hB0 Hb0.out ⟨hR,hrow,hcu,hu,hM⟩ hla (hto (by omega)) (fun h e=>?_) HF.out (HI.out.left (.inr ht)) Hx.out Hq.out HqE.out HE.out Hrst.out;have:=HT.out (by omega) h;have h2:=HF.out.li;rw[e] at h2;exact this (List.length_eq_zero_iff.1 h2.symm)
   · omega
  rw[hres];clear hres hM hrow hla hto hcu hR hu hL hrst h4 ht;go_enter Tryz.func70,Tryz.ntmps70;go_wp2_with fail;refine HC.out.mono ?_;rintro e w' ⟨hb,hr⟩
  cases res with
  | error c=>
   obtain⟨rfl,hr⟩:=hr;go_wp2_with fail;go_ret
   exact⟨hb,rfl,hr⟩
  | ok s'=>
   obtain⟨rfl,hr⟩:=hr;go_wp2_with fail;go_ret;exact⟨hb,rfl,hr⟩
 · omega
end
section
open Go.RowKit
attribute [local go_sem] qj
theorem Row.same_set {w:World} {g i:Nat} {T:TypeId} {C:List Value} {v:Value} (h:Row w g T C) (hi:C[i]?=some v):w.setCell ⟨g,i,none⟩ v=w:=by
 have e:(w.setCell ⟨g,i,none⟩ v).heap=w.heap:=by
  refine Array.ext_getElem? fun k=>?_
  by_cases hk:k=g
  · subst hk;have h2:=h.set i v
    have hc:C.set i v=C:=by
     apply List.ext_getElem?;intro j;rw[List.getElem?_set];split
     · rename_i hj;subst hj;split
       · exact hi.symm
       · rename_i hl;rw[List.getElem?_eq_none (by omega)]
     · rfl
    rw[hc] at h2;exact(show _=_ from h2).trans (show w.heap[k]?=_ from h).symm
  · exact heap_setCell_other w ⟨g,i,none⟩ k v hk
 have e2:w.setCell ⟨g,i,none⟩ v={ w with heap:=(w.setCell ⟨g,i,none⟩ v).heap }:=rfl;rw[e2,e]
theorem VecAt.later {w w':World} {base R:Nat} {L:za} {K:Value} {U C B:Nat} {s:WS} (h:VecAt w base R L K U C B s) (hb:Below w.heap.size w w'):VecAt w' base R L K U C B s:=by
 rcases h with ⟨h1,⟨ip,h2⟩,h3⟩ | ⟨h1,P,pb,wb,h2,h3,h4,h5,b1,b2,b3,b4,b5,h6⟩
 · exact .inl ⟨h1,⟨ip,h2.later hb⟩,h3.later hb⟩
 · exact .inr ⟨h1,P,pb,wb,h2.later hb,h3,h4.trans (.of_below hb),h5,b1,b2,b3,b4,b5,h6.later hb⟩
theorem WkR.later {w w':World} {base R:Nat} {L:za} {s:WS} (h:WkR w base R L s) (hb:Below w.heap.size w w'):WkR w' base R L s:=by
 obtain⟨hR0,part,K,U,C,hU,hC,hR,hu,hB⟩:=h;refine⟨hR0,part,K,U,C,hU,hC,hR.later hb,hu.same (hb.block U hu.lt),?_⟩;unfold WkB at hB ⊢;split at hB
 · exact⟨hB.1,hB.2.1.later hb,hB.2.2.later hb⟩
 · obtain⟨B,e,hB0,hc,hV⟩:=hB;exact⟨B,e,hB0,hc.later hb,hV.later hb⟩
 · exact⟨hB.1,hB.2.1.later hb,hB.2.2.later hb⟩
 · obtain⟨B,e,hB0,hM,last,touch,lo0,h1,h2,h3,h4⟩:=hB;exact⟨B,e,hB0,hM.later hb,last,touch,lo0,h1.later hb,h2,h3,h4.later hb⟩
 · exact⟨hB.1,hB.2.later hb⟩
theorem Tryz.pn0 (w:World):(binOp .neq 128 (.iface 123 (.agg #[])) (.iface 131 (.agg #[]))).run Tryz.prog w=.ok (.bool true) w:=by kernel_rfl
theorem Tryz.pn1 (B:Nat) (w:World):(binOp .neq 128 (.iface 196 (.pointer (some ⟨B,0,none⟩))) (.iface 131 (.agg #[]))).run Tryz.prog w=.ok (.bool true) w:=by kernel_rfl
theorem Tryz.pn2 (w:World):(binOp .neq 128 (.iface 200 (.agg #[])) (.iface 131 (.agg #[]))).run Tryz.prog w=.ok (.bool true) w:=by kernel_rfl
theorem Tryz.pn3 (B:Nat) (w:World):(binOp .neq 128 (.iface 202 (.pointer (some ⟨B,0,none⟩))) (.iface 131 (.agg #[]))).run Tryz.prog w=.ok (.bool true) w:=by kernel_rfl
theorem Tryz.pn4 (w:World):(binOp .neq 128 (.iface 131 (.agg #[])) (.iface 131 (.agg #[]))).run Tryz.prog w=.ok (.bool false) w:=by kernel_rfl
theorem Tryz.pe0 (w:World):(binOp .eql 128 (.iface 123 (.agg #[])) (.iface 131 (.agg #[]))).run Tryz.prog w=.ok (.bool false) w:=by kernel_rfl
theorem Tryz.pe1 (B:Nat) (w:World):(binOp .eql 128 (.iface 196 (.pointer (some ⟨B,0,none⟩))) (.iface 131 (.agg #[]))).run Tryz.prog w=.ok (.bool false) w:=by kernel_rfl
theorem Tryz.pe2 (w:World):(binOp .eql 128 (.iface 200 (.agg #[])) (.iface 131 (.agg #[]))).run Tryz.prog w=.ok (.bool false) w:=by kernel_rfl
theorem Tryz.pe3 (B:Nat) (w:World):(binOp .eql 128 (.iface 202 (.pointer (some ⟨B,0,none⟩))) (.iface 131 (.agg #[]))).run Tryz.prog w=.ok (.bool false) w:=by kernel_rfl
theorem Tryz.pe4 (w:World):(binOp .eql 128 (.iface 131 (.agg #[])) (.iface 131 (.agg #[]))).run Tryz.prog w=.ok (.bool true) w:=by kernel_rfl
theorem zgi {w:World} {base R:Nat} {L:za} {s:WS} {part K:Value} {U C:Nat} (h:WkB w base R L s part K U C) (hs:s.tag≤4):
 (∀W,(binOp .neq 128 part (.iface 131 (.agg #[]))).run Tryz.prog W=.ok (.bool (!decide (s.tag=4))) W)∧(∀W,(binOp .eql 128 part (.iface 131 (.agg #[]))).run Tryz.prog W=.ok (.bool (decide (s.tag=4))) W):=by
 unfold WkB at h;rcases ht:s.tag with _ | _ | _ | _ | _ | k
 all_goals simp only[ht] at h
 · obtain⟨rfl,-⟩:=h;exact⟨Tryz.pn0,Tryz.pe0⟩
 · obtain⟨B,rfl,-⟩:=h;exact⟨Tryz.pn1 B,Tryz.pe1 B⟩
 · obtain⟨rfl,-⟩:=h;exact⟨Tryz.pn2,Tryz.pe2⟩
 · obtain⟨B,rfl,-⟩:=h;exact⟨Tryz.pn3 B,Tryz.pe3 B⟩
 · obtain⟨rfl,-⟩:=h;exact⟨Tryz.pn4,Tryz.pe4⟩
 · omega
theorem Tryz.eqGuard_if (op:BinOp) (t:TypeId) (x y:Operand) (a:Value) (T:TypeId) (v:Value) (w:World):(eqGuard op t x y a (.iface T v)).run Tryz.prog w=.ok () w:=by
 cases op <;> cases a <;> rfl
attribute [local go_sem] Tryz.eqGuard_if
def WkQ (w:World) (base R:Nat) (L:za) (r:Except (Nat×Nat) WS) (e:Ending) (w':World):Prop:=
 Below base w w'∧match r with
 | .error x=>e=.returned (.tuple #[.bool true,jg x.1 x.2])∧∃C,Row w' R 130 C∧C[9]?=some (jg x.1 x.2)
 | .ok s'=>e=.returned (.tuple #[.bool (decide (s'.tag=4)),.nilIface])∧WkR w' base R L s'
set_option maxRecDepth 20000 in
theorem zug (base R:Nat) (L:za) (s:WS) (E x p q:Nat) (w0 w:World) (hb0:Below base w0 w) (h:WkR w base R L s) (hD:Door w) (hDb:0<base) (ho:StepOk L s E x p q) (hok:∀s',zr E L s x p q=.ok s'→s'.tag≤4):
 Calls Tryz.prog 27 #[.pointer (some ⟨R,0,none⟩),.int .u64 (x:Int),.int .i64 (p:Int),.int .i64 ((E - q:Nat):Int)] w (WkQ w0 base R L (zr E L s x p q)):=by
 have HT:=hid (zuf base R L s E x p q w0 w hb0 h hD hDb ho);obtain⟨hR0,part,K,U,C,hU,hC,hR,hu,hB⟩:=h;obtain⟨hn,-⟩:=zgi hB (Nat.le_of_lt ho.tag);rw[show decide (s.tag=4)=false from decide_eq_false (by have:=ho.tag;omega)] at hn;simp only[Bool.not_false] at hn;have q1:=hR.cell 5 rfl;have q9:=hR.cell 9 rfl;have Hok:=hid hok;obtain⟨res,hres⟩:∃res,zr E L s x p q=res:=⟨_,rfl⟩;rw[hres] at HT Hok ⊢;clear hR hu hB ho hb0 hD hok hres;go_enter Tryz.func27,Tryz.ntmps27;go_wp2_with fail;refine HT.out.mono ?_;rintro e w1 ⟨hb,hr⟩
 cases res with
 | error c=>
  obtain⟨rfl,C',hR',hl⟩:=hr;have z9:=hR'.fz 9
  have q9':∃v,w1.cell? ⟨R,9,none⟩=some v:=by
   obtain⟨v,hv⟩:∃v,C'[9]?=some v:=⟨C'[9],by simp[hl]⟩;exact⟨v,hR'.cell 9 hv⟩
  obtain⟨v9,q9'⟩:=q9';have HR2:=hid (hR'.set 9 (jg c.1 c.2));have hc2:(C'.set 9 (jg c.1 c.2))[9]?=some (jg c.1 c.2):=by simp[hl]
  have r9:=fun k=>(show Row ((w1.setCell ⟨R,9,none⟩ (jg c.1 c.2)).drewN k) R 130 _ from HR2.out).cell 9 hc2
  have HB:=hid (hb.setCell (p:=⟨R,9,none⟩) hR0 (jg c.1 c.2));have Hc2:=hid hc2;clear hR' hl hb hc2;clear HT;unfold jg at HR2 r9 HB Hc2 ⊢;go_wp2;generalize w1.setCell ⟨R,9,none⟩ (.iface 112 (.agg #[.int .i64 (c.1:Int),.int .i64 (c.2:Int)]))=W at*;go_quiet (fail);go_wp2_with fail;go_ret2
  exact⟨zv HB.out _,rfl,_,HR2.out,Hc2.out⟩
 | ok s'=>
  obtain⟨rfl,hR1⟩:=hr;have HR1:=hid hR1;have hs4:=Hok.out s' rfl;obtain⟨-,part',K',U',C',hU',hC',hR',hu',hB'⟩:=hR1;obtain⟨-,he⟩:=zgi hB' hs4;have z9:=hR'.fz 9;have q9':=hR'.cell 9 rfl;have hsame:w1.setCell ⟨R,9,none⟩ .nilIface=w1:=hR'.same_set rfl;have r9:=fun k=>(show Row (w1.drewN k) R 130 _ from hR').cell 9 rfl
  have r5:=fun k=>(show Row (w1.drewN k) R 130 _ from hR').cell 5 rfl
  have HB:=hid hb;clear hR' hu' hB' hb;go_wp2;go_quiet (fail);go_wp2_with fail;go_ret2;exact⟨zv HB.out _,rfl,HR1.out.later (zv (Below.refl _ _) _)⟩
end
section
open Go.RowKit
attribute [local go_sem] qj Tryz.eqGuard_if
structure RdI (L:za) (l:List Nat) (s:WS) (p:Nat):Prop where
 j:RdJ s p
 pl:p≤l.length
 eq:j9 (yx l) l.length L s p=kf L l
theorem RdI.start {L:za} {l:List Nat}:RdI L l ws0 0:=⟨RdJ.start,Nat.zero_le _,rfl⟩
theorem RdJ.ok {L:za} {s:WS} {E x p q:Nat} (h:RdJ s p) (hL:LimsI L) (hx:x<18446744073709551616) (hq:q=p+(zo x).length) (hqE:q≤E) (hqb:q≤900000000000) (hE:E - q<9223372036854775808):StepOk L s E x p q:=
 ⟨hL,hx,hq,hqE,hqb,hE,h.fit,h.inv,h.tch,h.tag,fun v hv=>by have:=h.num v hv;omega,fun h1 i hi h6=>by have:=h.inner h1 hi h6;have:=zay 9 x;rw[←zb9] at this;omega⟩
theorem RdI.bad {L:za} {l:List Nat} {s:WS} {p c:Nat} (h:RdI L l s p) (ht:yx l p=.error c):kf L l=.error (c,p):=by
 rw[←h.eq,zfw _ _ _ _ _ h.j.inv h.j.tag];unfold nmP;rw[ht]
 rfl
theorem RdI.good {L:za} {l:List Nat} {s:WS} {p x q:Nat} (h:RdI L l s p) (ht:yx l p=.ok (x,q)):kf L l=match zr l.length L s x p q with | .error e=>.error e | .ok s'=>j9 (yx l) l.length L s' q:=by
 rw[←h.eq,zfw _ _ _ _ _ h.j.inv h.j.tag];unfold nmP;rw[ht]
 rfl
theorem RdI.next {L:za} {l:List Nat} {s s':WS} {p x q:Nat} (hl:∀c∈l,c<256) (h:RdI L l s p) (ht:yx l p=.ok (x,q)) (hs:zr l.length L s x p q=.ok s') (h4:s'.tag<4):RdI L l s' q:=by
 obtain⟨t1,t2,t3,-,-⟩:=zas hl ht;refine⟨h.j.next t3 t1 hs h4,t2,?_⟩;have:=h.good ht;rw[hs] at this;exact this.symm
theorem RdI.ok {L:za} {l:List Nat} {s:WS} {p x q:Nat} (hl:∀c∈l,c<256) (hL:LimsI L) (hE:l.length<900000000000) (h:RdI L l s p) (ht:yx l p=.ok (x,q)):StepOk L s l.length x p q:=by
 obtain⟨t1,t2,t3,-,t5⟩:=zas hl ht;exact h.j.ok hL t3 t5 t2 (by omega) (by omega)
end
