/- Part 17. -/
import Derived.Test.YtmfhggnlainmiaaGreatDoorPk16
set_option linter.unusedVariables false
set_option maxHeartbeats 16000000
namespace Go.Proofs.YtmfhggnlainmiaaGreatDoor
open Lib (hid)
section
open Go.RowKit
attribute [local go_sem] y9
theorem KV.row {w w':World} {base g:Nat} {K:Value} {vs:List Vec} {T:TypeId} {C:List Value} (h:KV w base K vs) (hR:Row w g T C) (hT:¬jw T:=by rintro(h | h | h) <;> cases h) (hg:w.grownBy w' (some g)):KV w' base K vs:=h.grown (hR.notT hT) hg
section
variable {P:Program} {T xT t:TypeId} {z:Value}
theorem zou (hu:(P.underlying T).map (fun u=>match u with | .interface _=>false | _=>true)=some true) (v:Value) (xT:TypeId) (w:World):(Instr.typeAssert (.iface T v) xT T true).run P w=.ok (.tuple #[v,.bool true]) w:=by
 obtain⟨u,hu,hn⟩:=Option.map_eq_some_iff.1 hu;cases u <;> first | (simp at hn;done) | simp[Instr.typeAssert,run_underlying hu]
theorem zkb (hu:(P.underlying T).map (fun u=>match u with | .interface _=>false | _=>true)=some true) (hz:(P.info? T).map (·.zero)=some (some z)) (hne:t≠T) (v:Value) (xT:TypeId) (w:World):(Instr.typeAssert (.iface t v) xT T true).run P w=.ok (.tuple #[z,.bool false]) w:=by
 obtain⟨u,hu,hn⟩:=Option.map_eq_some_iff.1 hu;obtain⟨j,hj,hz⟩:=Option.map_eq_some_iff.1 hz;cases u <;> first | (simp at hn;done) | simp[Instr.typeAssert,run_underlying hu,hne,zeroValue,typeInfo,hj,hz]
end
theorem Tryz.taS0 (v:Value) (xT:TypeId) (w:World):(Instr.typeAssert (.iface 148 v) xT 148 true).run Tryz.prog w=.ok (.tuple #[v,.bool true]) w:=zou (by kernel_rfl) v xT w
theorem Tryz.taM2 (v:Value) (xT:TypeId) (w:World):(Instr.typeAssert (.iface 237 v) xT 237 true).run Tryz.prog w=.ok (.tuple #[v,.bool true]) w:=zou (by kernel_rfl) v xT w
theorem Tryz.taV1 (v:Value) (xT:TypeId) (w:World):(Instr.typeAssert (.iface 233 v) xT 233 true).run Tryz.prog w=.ok (.tuple #[v,.bool true]) w:=zou (by kernel_rfl) v xT w
theorem Tryz.taG3 (v:Value) (xT:TypeId) (w:World):(Instr.typeAssert (.iface 239 v) xT 239 true).run Tryz.prog w=.ok (.tuple #[v,.bool true]) w:=zou (by kernel_rfl) v xT w
theorem Tryz.taV0 (v:Value) (xT:TypeId) (w:World):(Instr.typeAssert (.iface 233 v) xT 148 true).run Tryz.prog w=.ok (.tuple #[.agg #[],.bool false]) w:=zkb (by kernel_rfl) (by kernel_rfl) (by decide) v xT w
theorem Tryz.taM0 (v:Value) (xT:TypeId) (w:World):(Instr.typeAssert (.iface 237 v) xT 148 true).run Tryz.prog w=.ok (.tuple #[.agg #[],.bool false]) w:=zkb (by kernel_rfl) (by kernel_rfl) (by decide) v xT w
theorem Tryz.taM1 (v:Value) (xT:TypeId) (w:World):(Instr.typeAssert (.iface 237 v) xT 233 true).run Tryz.prog w=.ok (.tuple #[.pointer none,.bool false]) w:=zkb (by kernel_rfl) (by kernel_rfl) (by decide) v xT w
theorem Tryz.taG0 (v:Value) (xT:TypeId) (w:World):(Instr.typeAssert (.iface 239 v) xT 148 true).run Tryz.prog w=.ok (.tuple #[.agg #[],.bool false]) w:=zkb (by kernel_rfl) (by kernel_rfl) (by decide) v xT w
theorem Tryz.taG1 (v:Value) (xT:TypeId) (w:World):(Instr.typeAssert (.iface 239 v) xT 233 true).run Tryz.prog w=.ok (.tuple #[.pointer none,.bool false]) w:=zkb (by kernel_rfl) (by kernel_rfl) (by decide) v xT w
theorem Tryz.taG2 (v:Value) (xT:TypeId) (w:World):(Instr.typeAssert (.iface 239 v) xT 237 true).run Tryz.prog w=.ok (.tuple #[.agg #[],.bool false]) w:=zkb (by kernel_rfl) (by kernel_rfl) (by decide) v xT w
attribute [local go_sem] Tryz.taS0 Tryz.taM2 Tryz.taV1 Tryz.taG3 Tryz.taV0 Tryz.taM0 Tryz.taM1 Tryz.taG0 Tryz.taG1 Tryz.taG2
theorem zl0 {w:World} {R U C:Nat} {L:zc} {part part' K:Value} {ix:List Nat} {Cu:List Value} {base:Nat} {vs:List Vec} (hR:Row w R 155 (wkC L part K U C .nilIface)) (hu:UsedM w U ix) (hc:Row w C 230 Cu) (hK:KV w base K vs):
 Row (w.setCell ⟨R,5,none⟩ part') R 155 (wkC L part' K U C .nilIface)∧UsedM (w.setCell ⟨R,5,none⟩ part') U ix∧Row (w.setCell ⟨R,5,none⟩ part') C 230 Cu∧KV (w.setCell ⟨R,5,none⟩ part') base K vs:=by
 have g:=qh w R 5 part';exact⟨hR.set 5 _,hu.grownT hR g,hc.grown g (fun e=>by injection e with e;exact hR.ne hc (by decide) e.symm),hK.grown (hR.notT (by rintro(h | h | h) <;> cases h)) g⟩
structure StepOk (L:zc) (s:WS) (E x p q:Nat):Prop where
 lims:LimsI L
 xb:x<18446744073709551616
 qp:q=p+(yp x).length
 qe:q≤E
 qb:q≤900000000000
 eb:E - q<9223372036854775808
 fit:WFit s p
 inv:WInv s
 tch:zix s
 tag:s.tag<4
 vf:∀v∈s.vs,(yj v).length≤1000000000000
 vi:s.tag=1→∀i,jm L.2.2.1 L.2.2.2.1 s.inner x (E - q)=.ok i→i.tag=6→(yj i.v).length≤1000000000000
theorem ycb {E:Nat} {L:zc} {s:WS} {x p q:Nat} (ht:s.tag=3):jd E L s x p q=match s.turn with | 0=>zz7 s p (loP (qr s.l) 0 x) | 1=>zot s p x | _=>zi1 E s p q x:=by
 obtain⟨tag,vs,l,ix,left,frm,inner,turn,lo,hi,tch⟩:=s;simp only at ht;subst ht;rcases turn with _ | _ | k <;> rfl
set_option maxRecDepth 20000 in
theorem ycc (base R:Nat) (L:zc) (s:WS) (E x p q:Nat) (w0 w:World) (hb0:BelT base w0 w) (h:WkR w base R L s) (hD:Door w) (hDb:0<base) (ho:StepOk L s E x p q):
 Calls Tryz.prog 89 #[.pointer (some ⟨R,0,none⟩),.int .u64 (x:Int),.int .i64 (p:Int),.int .i64 ((E - q:Nat):Int)] w (WkS w0 base R L (jd E L s x p q)):=by
 obtain⟨hR0,part,K,U,C,hU,hC,hR,hu,hB⟩:=h;have q5:=hR.cell 5 rfl;obtain⟨hL,hx,hq,hqE,hE,hrst,hF,hI,hT,h4,hvf,hvi⟩:=ho;have Hrst:=hid hrst;have Hb0:=hid hb0;have Hx:=hid hx;have Hq:=hid hq;have HqE:=hid hqE;have HE:=hid hE;have HF:=hid hF;have HI:=hid hI;have HT:=hid hT;have HD:=hid hD;have Hvf:=hid hvf;have Hvi:=hid hvi;have HR:=hid hR;have HoR:=hid (hR.okR zlr);have Hu:=hid hu;have HL:=hid hL;have Hbw:=hid (show base≤w.heap.size by have:=hR.lt;omega);clear hx hq hqE hE hF hI hT hvf hvi hD hb0;rcases ht:s.tag with _ | _ | _ | _ | k
 ·
  have Ht:=hid ht;unfold WkB at hB;simp only[ht] at hB;obtain⟨rfl,hK,hcu⟩:=hB;have HK:=hid hK;have Hcu:=hid hcu;have HLim:=hid (fun W=>zzb x L.2.1 (E - q) W Hx.out HL.out.b hrst);have HA:=hid (fun W (hb:Below w.heap.size w W)=>And.intro (hR.later hb) (And.intro (hu.same (hb.block U hu.lt)) (And.intro (hcu.later hb) (hK.later hb))));have hal:=fun o=>(Below.refl w.heap.size w).alloc (Nat.le_refl _) o
  have hal2:=fun o o'=>(hal o).alloc (by simp) o'
  have p1:=fun o=>(HA.out (w.alloc o) (hal o)).1.cell 1 rfl
  have p5:=fun o=>(HA.out (w.alloc o) (hal o)).1.cell 5 rfl
  have pp5:=fun o o'=>(HA.out ((w.alloc o).alloc o') (hal2 o o')).1.cell 5 rfl
  have y5:=fun o o'=>(HA.out ((w.alloc o).alloc o') (hal2 o o')).1.fz 5
  have HAl:=hid hal2
  have hwst:jd E L s x p q=if ql x L.2.1 (E - q)≠0 then .error (ql x L.2.1 (E - q),p) else if x=0 then .ok { s with tag:=2 } else .ok { s with tag:=1,left:=x,inner:=ps0 }:=by
   unfold jd;simp only[ht]
  obtain⟨c,hc⟩:∃c,c=ql x L.2.1 (E - q):=⟨_,rfl⟩;rw[←hc] at hwst HLim;have HEb:=hid (y7 (w.alloc (.cells #[] 148)) 236 [.int .u64 (x:Int),.int .i64 (-1),.pointer none]);clear hc hR hu hK hcu hL hrst h4 ht hal hal2;by_cases hc0:c=0
  · subst hc0;rw[if_neg (by simp)] at hwst;by_cases hx0:x=0
    · rw[if_pos hx0] at hwst;have Hwst:=hid hwst;have hxz:((x:Int) == 0)=true:=by rw[beq_iff_eq];omega
      clear hwst hx0;go_enter Tryz.func89,Tryz.ntmps89;go_wp2_with fail;refine(HLim.out _).mono ?_;rintro e w' ⟨rfl,rfl⟩;go_wp2_with fail;go_ret;obtain⟨r,u,cu,k⟩:=HA.out _ (HAl.out (.cells #[] 148) (.cells #[.int .u64 (x:Int),.int .i64 (-1),.pointer none] 236));obtain⟨r2,u2,cu2,k2⟩:=zl0 (part':=.iface 233 (.pointer (some ⟨w.heap.size+1,0,none⟩))) r u cu k;have b2:=Hb0.out.trans ((BelT.to (HAl.out (.cells #[] 148) (.cells #[.int .u64 (x:Int),.int .i64 (-1),.pointer none] 236)) Hbw.out).setCell (p:=⟨R,5,none⟩) hR0 (.iface 233 (.pointer (some ⟨w.heap.size+1,0,none⟩))) HoR.out);have he:=HEb.out;rw[World.size_alloc] at he;have he2:=he.grown (qh _ R 5 (.iface 233 (.pointer (some ⟨w.heap.size+1,0,none⟩)))) (fun e=>by injection e with e;exact r.ne he (by decide) e.symm);obtain⟨r3,u3,cu3,k3⟩:=zl0 (part':=.iface 237 (.agg #[])) r2 u2 cu2 k2;exact⟨b2.setCell (p:=⟨R,5,none⟩) hR0 _ (HoR.out.back Hb0.out),by rw[Hwst.out];exact⟨rfl,hR0,_,K,U,C,hU,hC,r3,u3,rfl,k3,cu3⟩⟩
    · rw[if_neg hx0] at hwst;have Hwst:=hid hwst;have hxz:((x:Int) == 0)=false:=by rw[beq_eq_false_iff_ne];omega
      clear hwst hx0;go_enter Tryz.func89,Tryz.ntmps89;go_wp2_with fail;refine(HLim.out _).mono ?_;rintro e w' ⟨rfl,rfl⟩;go_wp2_with fail;go_ret;obtain⟨r,u,cu,k⟩:=HA.out _ (HAl.out (.cells #[] 148) (.cells #[.int .u64 (x:Int),.int .i64 (-1),.pointer none] 236));obtain⟨r2,u2,cu2,k2⟩:=zl0 (part':=.iface 233 (.pointer (some ⟨w.heap.size+1,0,none⟩))) r u cu k;have b2:=Hb0.out.trans ((BelT.to (HAl.out (.cells #[] 148) (.cells #[.int .u64 (x:Int),.int .i64 (-1),.pointer none] 236)) Hbw.out).setCell (p:=⟨R,5,none⟩) hR0 (.iface 233 (.pointer (some ⟨w.heap.size+1,0,none⟩))) HoR.out);have he:=HEb.out;rw[World.size_alloc] at he;have he2:=he.grown (qh _ R 5 (.iface 233 (.pointer (some ⟨w.heap.size+1,0,none⟩)))) (fun e=>by injection e with e;exact r.ne he (by decide) e.symm);exact⟨b2,by rw[Hwst.out];exact⟨rfl,hR0,_,K,U,C,hU,hC,r2,u2,w.heap.size+1,rfl,by have:=Hbw.out;omega,cu2,.inl ⟨rfl,⟨_,he2⟩,k2⟩⟩⟩
  · rw[if_pos hc0] at hwst;have Hwst:=hid hwst;have hcz:((c:Int) == 0)=false:=by rw[beq_eq_false_iff_ne];omega
    have HN:=hid (fun W=>zdk (c:=c) (o:=p) hc0 W);have HAo:=hid (HA.out (w.alloc (.cells #[] 148)) ((Below.refl _ _).alloc (Nat.le_refl _) _));clear hwst hc0;go_enter Tryz.func89,Tryz.ntmps89;go_wp2_with fail;refine(HLim.out _).mono ?_;rintro e w' ⟨rfl,rfl⟩;go_wp2_with fail;refine(HN.out _).mono ?_;rintro e w' ⟨rfl,rfl⟩;go_wp2_with fail;go_ret;exact⟨Hb0.out.trans ((BelT.refl base w).alloc Hbw.out _),by rw[Hwst.out];exact⟨rfl,_,HAo.out.1,rfl⟩⟩
 ·
  have Ht:=hid ht;unfold WkB at hB;simp only[ht] at hB;obtain⟨B,rfl,hB0,hcu,hV⟩:=hB;obtain⟨res,hres⟩:∃res,jd E L s x p q=res:=⟨_,rfl⟩;rw[hres];have HC:=hid ((yb4 ht).symm.trans hres ▸ yb5 base R L s K U C B (E - q) x p w0 w ht hR0 hU hC hB0 Hb0.out hR hu hcu hV HD.out hDb hL Hx.out hrst (by have:=Hq.out;have:=HqE.out;have:=HE.out;omega) HF.out HI.out Hvf.out (Hvi.out ht) _ rfl);clear hV hcu hR hu hL hrst h4 ht;clear hres;go_enter Tryz.func89,Tryz.ntmps89;go_wp2_with fail;refine HC.out.mono ?_;rintro e w' ⟨hb,hr⟩
  cases res with
  | error c=>
   obtain⟨rfl,hr⟩:=hr;go_wp2_with fail;go_ret
   exact⟨hb,rfl,hr⟩
  | ok s'=>
   obtain⟨rfl,hr⟩:=hr;go_wp2_with fail;go_ret;exact⟨hb,rfl,hr⟩
 ·
  have Ht:=hid ht;unfold WkB at hB;simp only[ht] at hB;obtain⟨rfl,hK,hcu⟩:=hB;have HK:=hid hK;have Hcu:=hid hcu;have HLim:=hid (fun W=>zzb x L.2.2.2.2 (E - q) W Hx.out HL.out.e hrst);have HA:=hid (fun W (hb:Below w.heap.size w W)=>And.intro (hR.later hb) (And.intro (hu.same (hb.block U hu.lt)) (And.intro (hcu.later hb) (hK.later hb))));have hal:=fun o=>(Below.refl w.heap.size w).alloc (Nat.le_refl _) o
  have hal2:=fun o o'=>(hal o).alloc (by simp) o'
  have p1:=fun o=>(HA.out (w.alloc o) (hal o)).1.cell 4 rfl
  have p5:=fun o=>(HA.out (w.alloc o) (hal o)).1.cell 5 rfl
  have pp5:=fun o o'=>(HA.out ((w.alloc o).alloc o') (hal2 o o')).1.cell 5 rfl
  have y5:=fun o o'=>(HA.out ((w.alloc o).alloc o') (hal2 o o')).1.fz 5
  have HAl:=hid hal2
  have hwst:jd E L s x p q=if ql x L.2.2.2.2 (E - q)≠0 then .error (ql x L.2.2.2.2 (E - q),p) else if x=0 then zbn E s q else .ok { s with tag:=3,left:=x,turn:=0 }:=by
   unfold jd;simp only[ht]
  obtain⟨c,hc⟩:∃c,c=ql x L.2.2.2.2 (E - q):=⟨_,rfl⟩;rw[←hc] at hwst HLim;have HEb:=hid (y7 (w.alloc (.cells #[] 237)) 241 [.int .u64 (x:Int),.int .i64 0,.int .i64 0,.bool false]);clear hc hR hu hK hcu hL hrst h4 ht hal hal2;by_cases hc0:c=0
  · subst hc0;rw[if_neg (by simp)] at hwst;obtain⟨hl0,hx0'⟩:=HI.out.none (by rw[Ht.out];decide);by_cases hx0:x=0
    · rw[if_pos hx0] at hwst;have hxz:((x:Int) == 0)=true:=by rw[beq_iff_eq];omega
      have hpq:IntKind.i64.wrap ((p:Int)+((yp x).length:Int))=(q:Int):=by have:=Hq.out;have:=HqE.out;have:=HE.out;rw[IntKind.wrap_i64];omega
      have HSz:=hid (fun W=>zjq x W Hx.out);obtain⟨fr,hfr⟩:∃fr,fr=zbn E s q:=⟨_,rfl⟩;rw[←hfr] at hwst;have Hwst:=hid hwst;have HFn:=hid (fun W h1 h2 h3 h4 h5 h6=>hfr ▸ zzc base R L s (zc5 (w.heap.size+1)) K U C E q W h1 h2 h3 h4 h5 h6 HF.out.li HF.out.ix Hrst.out HqE.out);have Hl0:=hid hl0;have Hx0':=hid hx0';clear hwst hx0 hfr hl0 hx0';go_enter Tryz.func89,Tryz.ntmps89;go_wp2_with fail;refine(HLim.out _).mono ?_;rintro e w' ⟨rfl,rfl⟩;go_wp2_with fail;refine(HSz.out _).mono ?_;rintro e w6 ⟨rfl,rfl⟩;go_wp2_with fail;obtain⟨r,u,cu,k⟩:=HA.out _ (HAl.out (.cells #[] 237) (.cells #[.int .u64 (x:Int),.int .i64 0,.int .i64 0,.bool false] 241));obtain⟨r2,u2,cu2,k2⟩:=zl0 (part':=zc5 (w.heap.size+1)) r u cu k;have b2:=Hb0.out.trans ((BelT.to (HAl.out (.cells #[] 237) (.cells #[.int .u64 (x:Int),.int .i64 0,.int .i64 0,.bool false] 241)) Hbw.out).setCell (p:=⟨R,5,none⟩) hR0 (zc5 (w.heap.size+1)) HoR.out);have he:=HEb.out;rw[World.size_alloc] at he;have he2:=he.grown (qh _ R 5 (zc5 (w.heap.size+1))) (fun e=>by injection e with e;exact r.ne he (by decide) e.symm);have HB2:=hid b2;refine(HFn.out _ hR0 hU hC r2 u2 (by rw[Hl0.out,Hx0'.out];exact k2.seg (by simp;have:=Hbw.out;omega))).mono ?_;clear r u cu k r2 u2 cu2 k2 b2 he he2;rintro e w6 ⟨hb6,hr6⟩
      cases fr with
      | error c=>
       obtain⟨rfl,hr6⟩:=hr6;go_wp2_with fail;go_ret
       exact⟨HB2.out.trans hb6,by rw[Hwst.out];exact⟨rfl,hr6⟩⟩
      | ok s'=>
       obtain⟨rfl,hr6⟩:=hr6;go_wp2_with fail;go_ret;exact⟨HB2.out.trans hb6,by rw[Hwst.out];exact⟨rfl,hr6⟩⟩
    · rw[if_neg hx0] at hwst;have Hwst:=hid hwst;have hxz:((x:Int) == 0)=false:=by rw[beq_eq_false_iff_ne];omega
      have Hl0:=hid hl0;have Hx0':=hid hx0';clear hwst hx0 hl0 hx0';go_enter Tryz.func89,Tryz.ntmps89;go_wp2_with fail;refine(HLim.out _).mono ?_;rintro e w' ⟨rfl,rfl⟩;go_wp2_with fail;go_ret;obtain⟨r,u,cu,k⟩:=HA.out _ (HAl.out (.cells #[] 237) (.cells #[.int .u64 (x:Int),.int .i64 0,.int .i64 0,.bool false] 241));obtain⟨r2,u2,cu2,k2⟩:=zl0 (part':=zc5 (w.heap.size+1)) r u cu k;have b2:=Hb0.out.trans ((BelT.to (HAl.out (.cells #[] 237) (.cells #[.int .u64 (x:Int),.int .i64 0,.int .i64 0,.bool false] 241)) Hbw.out).setCell (p:=⟨R,5,none⟩) hR0 (zc5 (w.heap.size+1)) HoR.out);have he:=HEb.out;rw[World.size_alloc] at he;have he2:=he.grown (qh _ R 5 (zc5 (w.heap.size+1))) (fun e=>by injection e with e;exact r.ne he (by decide) e.symm);refine⟨b2,?_⟩;rw[Hwst.out];refine⟨rfl,hR0,_,K,U,C,hU,hC,r2,u2,w.heap.size+1,rfl,by have:=Hbw.out;omega,?_,0,false,0,he2,fun y hy=>?_,fun h=>?_,?_⟩
      · show SegM _ _ _ s.vs s.l s.ix;rw[Hl0.out,Hx0'.out];exact k2.seg (by simp;have:=Hbw.out;omega)
      · simp[Hx0'.out] at hy
      · simp at h
      · simp only[cuC,Hl0.out];exact cu2
  · rw[if_pos hc0] at hwst;have Hwst:=hid hwst;have hcz:((c:Int) == 0)=false:=by rw[beq_eq_false_iff_ne];omega
    have HN:=hid (fun W=>zdk (c:=c) (o:=p) hc0 W);have HAo:=hid (HA.out (w.alloc (.cells #[] 237)) ((Below.refl _ _).alloc (Nat.le_refl _) _));clear hwst hc0;go_enter Tryz.func89,Tryz.ntmps89;go_wp2_with fail;refine(HLim.out _).mono ?_;rintro e w' ⟨rfl,rfl⟩;go_wp2_with fail;refine(HN.out _).mono ?_;rintro e w' ⟨rfl,rfl⟩;go_wp2_with fail;go_ret;exact⟨Hb0.out.trans ((BelT.refl base w).alloc Hbw.out _),by rw[Hwst.out];exact⟨rfl,_,HAo.out.1,rfl⟩⟩
 ·
  have Ht:=hid ht;unfold WkB at hB;simp only[ht] at hB;obtain⟨B,rfl,hB0,hM,last,touch,lo0,hrow,hla,hto,hcu⟩:=hB;obtain⟨res,hres⟩:∃res,jd E L s x p q=res:=⟨_,rfl⟩
  have HC:Hid (Calls Tryz.prog 149 #[.pointer (some ⟨R,0,none⟩),.pointer (some ⟨B,0,none⟩),.int .u64 (x:Int),.int .i64 (p:Int),.int .i64 ((E - q:Nat):Int)] w (WkS w0 base R L res)):=by
   refine hid ?_;rw[←hres,ycb ht];have htu:=HI.out.turn;rcases hu3:s.turn with _ | _ | _ | k
   · simp only[cuC,hu3] at hcu;rw[hu3] at hrow;exact yb7 base R L s K U C B (E - q) x p lo0 last touch w0 w ht hR0 hU hC hB0 Hb0.out hu3 ⟨hR,hrow,hcu,hu,hM⟩ hla HF.out.l Hx.out _ rfl
   · simp only[cuC,hu3] at hcu;rw[hu3] at hrow;exact yb8 base R L s K U C B (E - q) x p last touch w0 w ht hR0 hU hC hB0 Hb0.out ⟨hR,hrow,hcu,hu,hM⟩ hla (hto (by omega)) HF.out.lo Hx.out
   · simp only[cuC,hu3] at hcu;rw[hu3] at hrow;refine yca base R L s K U C B E x p q lo0 last touch w0 w ht hR0 hU hC hB0 Hb0.out ⟨hR,hrow,hcu,hu,hM⟩ hla (hto (by omega)) (fun h e=>?_) HF.out (HI.out.left (.inr ht)) Hx.out Hq.out HqE.out HE.out Hrst.out;have:=HT.out (by omega) h;have h2:=HF.out.li;rw[e] at h2;exact this (List.length_eq_zero_iff.1 h2.symm)
   · omega
  rw[hres];clear hres hM hrow hla hto hcu hR hu hL hrst h4 ht;go_enter Tryz.func89,Tryz.ntmps89;go_wp2_with fail;refine HC.out.mono ?_;rintro e w' ⟨hb,hr⟩
  cases res with
  | error c=>
   obtain⟨rfl,hr⟩:=hr;go_wp2_with fail;go_ret
   exact⟨hb,rfl,hr⟩
  | ok s'=>
   obtain⟨rfl,hr⟩:=hr;go_wp2_with fail;go_ret;exact⟨hb,rfl,hr⟩
 · omega
end
section
open Go.RowKit
attribute [local go_sem] y9 Tryz.eqGuard_if
structure RdI (L:zc) (l:List Nat) (s:WS) (p:Nat):Prop where
 j:RdJ s p
 pl:p≤l.length
 eq:zcb (jx l) l.length L s p=k9 L l
theorem RdI.start {L:zc} {l:List Nat}:RdI L l ws0 0:=⟨RdJ.start,Nat.zero_le _,rfl⟩
theorem RdJ.ok {L:zc} {s:WS} {E x p q:Nat} (h:RdJ s p) (hL:LimsI L) (hx:x<18446744073709551616) (hq:q=p+(yp x).length) (hqE:q≤E) (hqb:q≤900000000000) (hE:E - q<9223372036854775808):StepOk L s E x p q:=
 ⟨hL,hx,hq,hqE,hqb,hE,h.fit,h.inv,h.tch,h.tag,fun v hv=>by have:=h.num v hv;omega,fun h1 i hi h6=>by have:=h.inner h1 hi h6;have:=ze0 9 x;rw[←zgd] at this;omega⟩
theorem RdI.bad {L:zc} {l:List Nat} {s:WS} {p c:Nat} (h:RdI L l s p) (ht:jx l p=.error c):k9 L l=.error (c,p):=by
 rw[←h.eq,zr8 _ _ _ _ _ h.j.inv h.j.tag];unfold nmP;rw[ht]
 rfl
theorem RdI.good {L:zc} {l:List Nat} {s:WS} {p x q:Nat} (h:RdI L l s p) (ht:jx l p=.ok (x,q)):k9 L l=match jd l.length L s x p q with | .error e=>.error e | .ok s'=>zcb (jx l) l.length L s' q:=by
 rw[←h.eq,zr8 _ _ _ _ _ h.j.inv h.j.tag];unfold nmP;rw[ht]
 rfl
theorem RdI.next {L:zc} {l:List Nat} {s s':WS} {p x q:Nat} (hl:∀c∈l,c<256) (h:RdI L l s p) (ht:jx l p=.ok (x,q)) (hs:jd l.length L s x p q=.ok s') (h4:s'.tag<4):RdI L l s' q:=by
 obtain⟨t1,t2,t3,-,-⟩:=zgt hl ht;refine⟨h.j.next t3 t1 hs h4,t2,?_⟩;have:=h.good ht;rw[hs] at this;exact this.symm
theorem RdI.ok {L:zc} {l:List Nat} {s:WS} {p x q:Nat} (hl:∀c∈l,c<256) (hL:LimsI L) (hE:l.length<900000000000) (h:RdI L l s p) (ht:jx l p=.ok (x,q)):StepOk L s l.length x p q:=by
 obtain⟨t1,t2,t3,-,t5⟩:=zgt hl ht;exact h.j.ok hL t3 t5 t2 (by omega) (by omega)
end
