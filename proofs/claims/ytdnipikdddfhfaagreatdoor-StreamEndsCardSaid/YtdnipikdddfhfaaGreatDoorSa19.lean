/- Part 19. -/
import Derived.Test.YtdnipikdddfhfaaGreatDoorSa18
set_option linter.unusedVariables false
set_option maxHeartbeats 16000000
namespace Go.Proofs.YtdnipikdddfhfaaGreatDoor
open Lib (hid)
section
theorem zej (L:za) (s:Dc) (c:Nat) (l:List Nat):zu L s (c :: l)=zu L (if s.st=4 then s else ql L s c) l:=rfl
theorem zn0 (L:za) (s:Dc) (l u:List Nat):zu L s (l++u)=zu L (zu L s l) u:=List.foldl_append
theorem zhx (L:za) (s:Dc) (h:s.st=4):∀l,zu L s l=s
 | []=>rfl
 | c :: l=>by rw[zej,if_pos h];exact zhx L s h l
theorem zn1 {l:List Nat} {i:Nat} (h:i<l.length):l[i]?=some (nth l i):=by
 unfold nth;rw[List.getElem?_eq_getElem h,List.getD_eq_getElem?_getD,List.getElem?_eq_getElem h]
 rfl
theorem zv5 (L:za) (s:Dc) {l:List Nat} {i:Nat} (h:i<l.length):zu L s (l.take (i+1))=if (zu L s (l.take i)).st=4 then zu L s (l.take i) else ql L (zu L s (l.take i)) (nth l i):=by
 rw[List.take_add_one,zn0,zn1 h]
 rfl
theorem zv6 (L:za) (s:Dc) {l:List Nat} {i:Nat} (h:(zu L s (l.take i)).st=4):zu L s l=zu L s (l.take i):=by
 conv=>lhs;rw[←List.take_append_drop i l,zn0]
 exact zhx L _ h _
theorem zn2 {t:WS} {E q:Nat} {e:Nat×Nat} (h:jk E t q=.error e):e.1≤20:=by
 unfold jk at h;split at h
 · cases h;simp
 · split at h
   · cases h;simp
   · cases h
theorem zfx (x:Nat) (lim:Int) (rest:Nat):zo x lim rest≤20:=by
 unfold zo;split
 · decide
 · split <;> decide
theorem zv7 {le lh:Int} {s:PS} {x rest c:Nat} (h:zy le lh s x rest=.error c):c≤20:=by
 unfold zy at h;split at h
 · split at h
   · cases h;exact zfx _ _ _
   · split at h
     · cases h;simp
     · cases h
 · split at h
   · cases h;simp
   · cases h
 · cases h
 · split at h
   · cases h;exact zfx _ _ _
   · cases h
 · split at h
   · cases h;simp
   · cases h
 · split at h
   · cases h
   · cases h;simp
theorem zv8 {E:Nat} {L:za} {w:WS} {x p q:Nat} {e:Nat×Nat} (h:ye E L w x p q=.error e):e.1≤20:=by
 unfold ye at h;split at h
 · split at h
   · cases h;exact zfx _ _ _
   · split at h <;> cases h
 · split at h
   · rename_i hi;cases h;exact zv7 hi
   · split at h
     · split at h
       · cases h;simp
       · split at h <;> cases h
     · cases h
 · split at h
   · cases h;exact zfx _ _ _
   · split at h
     · exact zn2 h
     · cases h
 · split at h
   · split at h
     · cases h;simp
     · cases h
   · split at h
     · cases h
     · cases h;simp
   · split at h
     · cases h;simp
     · split at h
       · cases h;simp
       · split at h
         · exact zn2 h
         · cases h
 · cases h
theorem zhy (s:Dc) (h:s.vc≤20):s.void.vc≤20:=by unfold Dc.void;split;exact(by decide:5≤20);exact h
theorem zek (s:Dc):s.void.sn=s.sn:=by unfold Dc.void;split <;> rfl
theorem zhz (s:Dc):s.void.tk=s.tk:=by unfold Dc.void;split <;> rfl
theorem zh0 (s:Dc):s.void.fin=s.fin:=by unfold Dc.void;split <;> rfl
theorem zv9 (s:Dc) (r:Except (Nat×Nat) WS) (h:s.vc≤20) (hr:∀e,r=.error e→e.1≤20):(s.put r).vc≤20:=by
 unfold Dc.put;split
 · rename_i e;exact hr e rfl
 · split
   · exact h
   · exact zhy _ h
theorem zn3 (s:Dc) (r:Except (Nat×Nat) WS):(s.put r).sn=s.sn+1∧(s.put r).tk=s.tk∧(s.put r).fin=s.fin∧(s.put r).out=s.out:=by
 unfold Dc.put;split
 · exact⟨rfl,rfl,rfl,rfl⟩
 · split
   · exact⟨rfl,rfl,rfl,rfl⟩
   · rw[zek,zhz,zh0,zb8];exact⟨rfl,rfl,rfl,rfl⟩
theorem zh1 (L:za) (s:Dc) (c:Nat) (hv:s.vc≤20):(ql L s c).vc≤20∧(ql L s c).sn≤s.sn+2∧s.sn+1≤(ql L s c).sn∧(ql L s c).tk=s.tk+1∧
 (((ql L s c).out=s.out∧(ql L s c).fin=s.fin)∨((ql L s c).out.length=s.out.length+1∧(ql L s c).fin=s.tk+1)):=by
 unfold ql;split
 · unfold jt;split
   · refine⟨?_,Nat.le_succ _,Nat.le_refl _,rfl,.inl ⟨rfl,rfl⟩⟩;show (if s.hd=4 then 13 else 12)≤20;split <;> decide
   · split
     · exact⟨hv,Nat.le_succ _,Nat.le_refl _,rfl,.inl ⟨rfl,rfl⟩⟩
     · exact⟨hv,Nat.le_succ _,Nat.le_refl _,rfl,.inl ⟨rfl,rfl⟩⟩
 · unfold jq;split
   · exact⟨hv,Nat.le_succ _,Nat.le_refl _,rfl,.inl ⟨rfl,rfl⟩⟩
   · split
     · exact⟨(by decide:7≤20),Nat.le_refl _,Nat.le_succ _,rfl,.inl ⟨rfl,rfl⟩⟩
     · refine⟨zhy _ hv,by rw[zek];exact Nat.le_refl _,by rw[zek];exact Nat.le_succ _,by rw[zhz];rfl,.inl ⟨by rw[zb8];rfl,by rw[zh0];rfl⟩⟩
   · exact⟨(by decide:6≤20),Nat.le_succ _,Nat.le_refl _,rfl,.inl ⟨rfl,rfl⟩⟩
 · unfold jy;split
   · exact⟨zhy _ hv,by rw[zek];exact Nat.le_succ _,by rw[zek];exact Nat.le_refl _,by rw[zhz];rfl,.inl ⟨by rw[zb8];rfl,by rw[zh0];rfl⟩⟩
   · obtain⟨h1,h2,h3,h4⟩:=zn3 ((zw s).took c) (ye ((zw s).tk+((zw s).left - 1)) L (zw s).ws (z7 (zw s).nx (zw s).nn c) (zw s).frm (zw s).tk);exact⟨zv9 _ _ hv fun e he=>zv8 he,by rw[h1];exact Nat.le_refl _,by rw[h1];exact Nat.le_succ _,by rw[h2];rfl,.inl ⟨by rw[h4];rfl,by rw[h3];rfl⟩⟩
   · exact⟨(by decide:6≤20),Nat.le_succ _,Nat.le_refl _,rfl,.inl ⟨rfl,rfl⟩⟩
 · unfold vm;split
   · exact⟨hv,Nat.le_succ _,Nat.le_refl _,rfl,.inl ⟨rfl,rfl⟩⟩
   · split
     · exact⟨Nat.zero_le _,Nat.le_refl _,Nat.le_succ _,rfl,.inr ⟨List.length_append,rfl⟩⟩
     · exact⟨(by decide:14≤20),Nat.le_succ _,Nat.le_refl _,rfl,.inl ⟨rfl,rfl⟩⟩
theorem zel (L:za):∀(l:List Nat) (s:Dc),s.vc≤20→(zu L s l).vc≤20∧(zu L s l).sn≤s.sn+2*l.length∧s.sn≤(zu L s l).sn∧(zu L s l).tk≤s.tk+l.length
 | [],s,h=>⟨h,Nat.le_refl _,Nat.le_refl _,Nat.le_refl _⟩
 | c :: l,s,h=>by
   rw[zej,List.length_cons];split
   · obtain⟨a,b,d,e⟩:=zel L l s h;exact⟨a,by omega,d,by omega⟩
   · obtain⟨a1,b1,d1,e1,-⟩:=zh1 L s c h;obtain⟨a,b,d,e⟩:=zel L l (ql L s c) a1;exact⟨a,by omega,by omega,by omega⟩
theorem zh2 (L:za):∀(l:List Nat) (s:Dc),s.vc≤20→(zu L s l).out.length≤s.out.length+l.length
 | [],s,h=>Nat.le_refl _
 | c :: l,s,h=>by
   rw[zej,List.length_cons];split
   · have:=zh2 L l s h;omega
   · obtain⟨a1,-,-,-,e1⟩:=zh1 L s c h;have:=zh2 L l (ql L s c) a1;rcases e1 with ⟨e1,-⟩ | ⟨e1,-⟩
     · rw[e1] at this;omega
     · omega
end
section
open Go.RowKit
abbrev dcC (L:za) (s:Dc) (vp:Option Addr) (y:Value):List Value:=
 [.int .i64 L.1,.int .i64 L.2.1,.int .i64 L.2.2.1,.int .i64 L.2.2.2.1,.int .i64 L.2.2.2.2,.int .i64 (s.st:Nat),.int .i64 (s.hd:Nat),.int .u64 (s.nx:Nat),.int .i64 (s.nn:Nat),.int .i64 (s.ns:Nat),.int .i64 (s.frm:Nat),.int .i64 (s.left:Nat),.pointer vp,
  .int .u32 (sum s.pl:Nat),.int .u8 (nth s.last 0:Nat),.int .u8 (nth s.last 1:Nat),.int .u8 (nth s.last 2:Nat),.int .u8 (nth s.last 3:Nat),.int .i64 (s.hv:Nat),.int .i64 (s.tk:Nat),.int .i64 (s.fin:Nat),.int .i64 (s.vc:Nat),.int .i64 (s.vo:Nat),y,.int .i64 (s.sn:Nat)]
abbrev DcR (w:World) (d:Nat) (L:za) (s:Dc) (vp:Option Addr) (y:Value):Prop:=Row w d 141 (dcC L s vp y)
abbrev DcQ (w:World) (d:Nat) (L:za) (s:Dc) (vp:Option Addr) (y:Value) (e:Ending) (w':World):Prop:=e=.returned (.tuple #[])∧w.grownBy w' (some d)∧DcR w' d L s vp y
theorem zb9 {w:World} {d:Nat} {L:za} {s:Dc} {vp:Option Addr} {y:Value} (h:DcR w d L s vp y) (c o:Nat):Calls Tryz.prog 155 #[.pointer (some ⟨d,0,none⟩),.int .i64 (c:Int),.int .i64 (o:Int)] w (DcQ w d L (s.bad c o) vp y):=by
 have H:=hid (show DcR (((w.setCell ⟨d,5,none⟩ (.int .i64 4)).setCell ⟨d,21,none⟩ (.int .i64 (c:Int))).setCell ⟨d,22,none⟩ (.int .i64 (o:Int))) d L (s.bad c o) vp y from((Row.set h 5 _).set 21 _).set 22 _);have c5:=Row.cell h 5 rfl;have c21:=Row.cell h 21 rfl;have c22:=Row.cell h 22 rfl;have f5:=Row.fz h 5;have f21:=Row.fz h 21;have f22:=Row.fz h 22;clear h;go_enter Tryz.func155,Tryz.ntmps155;go_wp2;go_end0
 exact⟨rfl,zg (zg (zm w d 5 _) (zm _ d 21 _)) (zm _ d 22 _),H.out⟩
theorem zwa {w:World} {d:Nat} {L:za} {s:Dc} {vp:Option Addr} {y:Value} (h:DcR w d L s vp y):Calls Tryz.prog 194 #[.pointer (some ⟨d,7,none⟩)] w (DcQ w d L { s with nx:=0,nn:=0,ns:=0 } vp y):=by
 have H:=hid (show DcR (((w.setCell ⟨d,7,none⟩ (.int .u64 0)).setCell ⟨d,8,none⟩ (.int .i64 0)).setCell ⟨d,9,none⟩ (.int .i64 0)) d L { s with nx:=0,nn:=0,ns:=0 } vp y from((Row.set h 7 _).set 8 _).set 9 _);have c5:=Row.cell h 7 rfl;have c21:=Row.cell h 8 rfl;have c22:=Row.cell h 9 rfl;have f5:=Row.fz h 7;have f21:=Row.fz h 8;have f22:=Row.fz h 9;clear h;go_enter Tryz.func194,Tryz.ntmps194;go_wp2;go_end0
 exact⟨rfl,zg (zg (zm w d 7 _) (zm _ d 8 _)) (zm _ d 9 _),H.out⟩
theorem zfy {w:World} {d:Nat} {L:za} {s:Dc} {vp:Option Addr} {y:Value} (h:DcR w d L s vp y):Calls Tryz.prog 156 #[.pointer (some ⟨d,0,none⟩)] w (DcQ w d L s.next vp y):=by
 have HR:=hid (zwa h);clear h;go_enter Tryz.func156,Tryz.ntmps156;go_wp2_with fail;refine HR.out.mono ?_;rintro e w1 ⟨rfl,hg1,h1⟩;have H:=hid (show DcR (w1.setCell ⟨d,10,none⟩ (.int .i64 (s.tk:Nat))) d L s.next vp y from Row.set h1 10 _);have c10:=Row.cell h1 10 rfl;have c19:=Row.cell h1 19 rfl;have f10:=Row.fz h1 10;have Hg:=hid (zg hg1 (zm w1 d 10 (.int .i64 (s.tk:Nat))));clear h1 hg1;go_wp2;go_end0
 exact⟨rfl,Hg.out,H.out⟩
theorem zdf {w:World} {d:Nat} {L:za} {s:Dc} {vp:Option Addr} {y:Value} (h:DcR w d L s vp y):Calls Tryz.prog 158 #[.pointer (some ⟨d,0,none⟩)] w (DcQ w d L (if s.st=2 then s.void else s) vp y):=by
 have HF:=hid (zb9 h 5 s.frm);have H:=hid h;have c5:=Row.cell h 5 rfl;have c11:=Row.cell h 11 rfl;have c10:=Row.cell h 10 rfl;clear h;by_cases h2:s.st=2
 · have d2:((s.st:Int) == 2)=true:=by rw[beq_iff_eq];omega
   rw[if_pos h2];unfold Dc.void;by_cases h0:s.left=0
   · have d0:((s.left:Int) == 0)=true:=by rw[beq_iff_eq];omega
     rw[if_pos h0];clear h2 h0;go_enter Tryz.func158,Tryz.ntmps158;go_wp2_with fail;refine HF.out.mono ?_;rintro e w1 ⟨rfl,hg1,h1⟩;have HD:=hid h1;have Hg:=hid hg1;clear h1 hg1;go_wp2;go_end0
     exact⟨rfl,Hg.out,HD.out⟩
   · have d0:((s.left:Int) == 0)=false:=by rw[beq_eq_false_iff_ne];omega
     rw[if_neg h0];clear h2 h0;go_enter Tryz.func158,Tryz.ntmps158;go_wp2_with fail;go_end0
     exact⟨rfl,y7 _ _,H.out⟩
 · have d2:((s.st:Int) == 2)=false:=by rw[beq_eq_false_iff_ne];omega
   rw[if_neg h2];clear h2;go_enter Tryz.func158,Tryz.ntmps158;go_wp2_with fail;go_end0
   exact⟨rfl,y7 _ _,H.out⟩
end
section
abbrev exS:List Nat:=zam [0,0]
theorem zn4:exS.length=12:=by decide +kernel
theorem zwb:∀x∈exS,x<256:=by decide +kernel
def exA:Dc:=zu unl dc0 (exS.take 11)
def exB:Dc:=zu unl { exA with out:=[],sn:=0 } (exS.drop 11)
set_option maxRecDepth 100000 in
theorem zh3:exA.out=[]∧exA.st=3∧exA.tk=11∧exA.fin=0∧exA.sn=14:=⟨by kernel_rfl,by kernel_rfl,by kernel_rfl,by kernel_rfl,by kernel_rfl⟩
set_option maxRecDepth 100000 in
theorem zbm:exB.out=[[]]∧exB.st=0∧exB.tk=12∧exB.fin=12∧exB.sn=2∧exB.vc=0∧exB.vo=12:=⟨by kernel_rfl,by kernel_rfl,by kernel_rfl,by kernel_rfl,by kernel_rfl,by kernel_rfl,by kernel_rfl⟩
end
section
open Go.RowKit
attribute [local go_sem] yq
theorem KV.row {w w':World} {base g:Nat} {K:Value} {vs:List Vec} {T:TypeId} {C:List Value} (h:KV w base K vs) (hR:Row w g T C) (hT:¬yz T:=by rintro(h | h | h) <;> cases h) (hg:w.grownBy w' (some g)):KV w' base K vs:=h.grown (hR.notT hT) hg
section
variable {P:Program} {T xT t:TypeId} {z:Value}
theorem zfz (hu:(P.underlying T).map (fun u=>match u with | .interface _=>false | _=>true)=some true) (v:Value) (xT:TypeId) (w:World):(Instr.typeAssert (.iface T v) xT T true).run P w=.ok (.tuple #[v,.bool true]) w:=by
 obtain⟨u,hu,hn⟩:=Option.map_eq_some_iff.1 hu;cases u <;> first | (simp at hn;done) | simp[Instr.typeAssert,run_underlying hu]
theorem zdg (hu:(P.underlying T).map (fun u=>match u with | .interface _=>false | _=>true)=some true) (hz:(P.info? T).map (·.zero)=some (some z)) (hne:t≠T) (v:Value) (xT:TypeId) (w:World):(Instr.typeAssert (.iface t v) xT T true).run P w=.ok (.tuple #[z,.bool false]) w:=by
 obtain⟨u,hu,hn⟩:=Option.map_eq_some_iff.1 hu;obtain⟨j,hj,hz⟩:=Option.map_eq_some_iff.1 hz;cases u <;> first | (simp at hn;done) | simp[Instr.typeAssert,run_underlying hu,hne,zeroValue,typeInfo,hj,hz]
end
theorem Tryz.taS0 (v:Value) (xT:TypeId) (w:World):(Instr.typeAssert (.iface 123 v) xT 123 true).run Tryz.prog w=.ok (.tuple #[v,.bool true]) w:=zfz (by kernel_rfl) v xT w
theorem Tryz.taM2 (v:Value) (xT:TypeId) (w:World):(Instr.typeAssert (.iface 200 v) xT 200 true).run Tryz.prog w=.ok (.tuple #[v,.bool true]) w:=zfz (by kernel_rfl) v xT w
theorem Tryz.taV1 (v:Value) (xT:TypeId) (w:World):(Instr.typeAssert (.iface 196 v) xT 196 true).run Tryz.prog w=.ok (.tuple #[v,.bool true]) w:=zfz (by kernel_rfl) v xT w
theorem Tryz.taG3 (v:Value) (xT:TypeId) (w:World):(Instr.typeAssert (.iface 202 v) xT 202 true).run Tryz.prog w=.ok (.tuple #[v,.bool true]) w:=zfz (by kernel_rfl) v xT w
theorem Tryz.taV0 (v:Value) (xT:TypeId) (w:World):(Instr.typeAssert (.iface 196 v) xT 123 true).run Tryz.prog w=.ok (.tuple #[.agg #[],.bool false]) w:=zdg (by kernel_rfl) (by kernel_rfl) (by decide) v xT w
theorem Tryz.taM0 (v:Value) (xT:TypeId) (w:World):(Instr.typeAssert (.iface 200 v) xT 123 true).run Tryz.prog w=.ok (.tuple #[.agg #[],.bool false]) w:=zdg (by kernel_rfl) (by kernel_rfl) (by decide) v xT w
theorem Tryz.taM1 (v:Value) (xT:TypeId) (w:World):(Instr.typeAssert (.iface 200 v) xT 196 true).run Tryz.prog w=.ok (.tuple #[.pointer none,.bool false]) w:=zdg (by kernel_rfl) (by kernel_rfl) (by decide) v xT w
theorem Tryz.taG0 (v:Value) (xT:TypeId) (w:World):(Instr.typeAssert (.iface 202 v) xT 123 true).run Tryz.prog w=.ok (.tuple #[.agg #[],.bool false]) w:=zdg (by kernel_rfl) (by kernel_rfl) (by decide) v xT w
theorem Tryz.taG1 (v:Value) (xT:TypeId) (w:World):(Instr.typeAssert (.iface 202 v) xT 196 true).run Tryz.prog w=.ok (.tuple #[.pointer none,.bool false]) w:=zdg (by kernel_rfl) (by kernel_rfl) (by decide) v xT w
theorem Tryz.taG2 (v:Value) (xT:TypeId) (w:World):(Instr.typeAssert (.iface 202 v) xT 200 true).run Tryz.prog w=.ok (.tuple #[.agg #[],.bool false]) w:=zdg (by kernel_rfl) (by kernel_rfl) (by decide) v xT w
attribute [local go_sem] Tryz.taS0 Tryz.taM2 Tryz.taV1 Tryz.taG3 Tryz.taV0 Tryz.taM0 Tryz.taM1 Tryz.taG0 Tryz.taG1 Tryz.taG2
theorem zem {w:World} {R U C:Nat} {L:za} {part part' K:Value} {ix:List Nat} {Cu:List Value} {base:Nat} {vs:List Vec} (hR:Row w R 130 (wkC L part K U C .nilIface)) (hu:UsedM w U ix) (hc:Row w C 193 Cu) (hK:KV w base K vs):
 Row (w.setCell ⟨R,5,none⟩ part') R 130 (wkC L part' K U C .nilIface)∧UsedM (w.setCell ⟨R,5,none⟩ part') U ix∧Row (w.setCell ⟨R,5,none⟩ part') C 193 Cu∧KV (w.setCell ⟨R,5,none⟩ part') base K vs:=by
 have g:=zm w R 5 part';exact⟨hR.set 5 _,hu.grownT hR g,hc.grown g (fun e=>by injection e with e;exact hR.ne hc (by decide) e.symm),hK.grown (hR.notT (by rintro(h | h | h) <;> cases h)) g⟩
structure StepOk (L:za) (s:WS) (E x p q:Nat):Prop where
 lims:LimsI L
 xb:x<18446744073709551616
 qp:q=p+(yf x).length
 qe:q≤E
 qb:q≤900000000000
 eb:E - q<9223372036854775808
 fit:WFit s p
 inv:WInv s
 tch:zck s
 tag:s.tag<4
 vf:∀v∈s.vs,(zh v).length≤1000000000000
 vi:s.tag=1→∀i,zy L.2.2.1 L.2.2.2.1 s.inner x (E - q)=.ok i→i.tag=6→(zh i.v).length≤1000000000000
theorem zwc {E:Nat} {L:za} {s:WS} {x p q:Nat} (ht:s.tag=3):ye E L s x p q=match s.turn with | 0=>znu s p (loP (zp s.l) 0 x) | 1=>zfv s p x | _=>zcr E s p q x:=by
 obtain⟨tag,vs,l,ix,left,frm,inner,turn,lo,hi,tch⟩:=s;simp only at ht;subst ht;rcases turn with _ | _ | k <;> rfl
set_option maxRecDepth 20000 in
theorem zwd (base R:Nat) (L:za) (s:WS) (E x p q:Nat) (w0 w:World) (hb0:Below base w0 w) (h:WkR w base R L s) (hD:Door w) (hDb:0<base) (ho:StepOk L s E x p q):
 Calls Tryz.prog 70 #[.pointer (some ⟨R,0,none⟩),.int .u64 (x:Int),.int .i64 (p:Int),.int .i64 ((E - q:Nat):Int)] w (WkS w0 base R L (ye E L s x p q)):=by
 obtain⟨hR0,part,K,U,C,hU,hC,hR,hu,hB⟩:=h;have q5:=hR.cell 5 rfl;obtain⟨hL,hx,hq,hqE,hE,hrst,hF,hI,hT,h4,hvf,hvi⟩:=ho;have Hrst:=hid hrst;have Hb0:=hid hb0;have Hx:=hid hx;have Hq:=hid hq;have HqE:=hid hqE;have HE:=hid hE;have HF:=hid hF;have HI:=hid hI;have HT:=hid hT;have HD:=hid hD;have Hvf:=hid hvf;have Hvi:=hid hvi;have HR:=hid hR;have Hu:=hid hu;have HL:=hid hL;have Hbw:=hid (show base≤w.heap.size by have:=hR.lt;omega);clear hx hq hqE hE hF hI hT hvf hvi hD hb0;rcases ht:s.tag with _ | _ | _ | _ | k
 ·
  have Ht:=hid ht;unfold WkB at hB;simp only[ht] at hB;obtain⟨rfl,hK,hcu⟩:=hB;have HK:=hid hK;have Hcu:=hid hcu;have HLim:=hid (fun W=>zmj x L.2.1 (E - q) W Hx.out HL.out.b hrst);have HA:=hid (fun W (hb:Below w.heap.size w W)=>And.intro (hR.later hb) (And.intro (hu.same (hb.block U hu.lt)) (And.intro (hcu.later hb) (hK.later hb))));have hal:=fun o=>(Below.refl w.heap.size w).alloc (Nat.le_refl _) o
  have hal2:=fun o o'=>(hal o).alloc (by simp) o'
  have p1:=fun o=>(HA.out (w.alloc o) (hal o)).1.cell 1 rfl
  have p5:=fun o=>(HA.out (w.alloc o) (hal o)).1.cell 5 rfl
  have pp5:=fun o o'=>(HA.out ((w.alloc o).alloc o') (hal2 o o')).1.cell 5 rfl
  have y5:=fun o o'=>(HA.out ((w.alloc o).alloc o') (hal2 o o')).1.fz 5
  have HAl:=hid hal2
  have hwst:ye E L s x p q=if zo x L.2.1 (E - q)≠0 then .error (zo x L.2.1 (E - q),p) else if x=0 then .ok { s with tag:=2 } else .ok { s with tag:=1,left:=x,inner:=ps0 }:=by
   unfold ye;simp only[ht]
  obtain⟨c,hc⟩:∃c,c=zo x L.2.1 (E - q):=⟨_,rfl⟩;rw[←hc] at hwst HLim;have HEb:=hid (yo (w.alloc (.cells #[] 123)) 199 [.int .u64 (x:Int),.int .i64 (-1),.pointer none]);clear hc hR hu hK hcu hL hrst h4 ht hal hal2;by_cases hc0:c=0
  · subst hc0;rw[if_neg (by simp)] at hwst;by_cases hx0:x=0
    · rw[if_pos hx0] at hwst;have Hwst:=hid hwst;have hxz:((x:Int) == 0)=true:=by rw[beq_iff_eq];omega
      clear hwst hx0;go_enter Tryz.func70,Tryz.ntmps70;go_wp2_with fail;refine(HLim.out _).mono ?_;rintro e w' ⟨rfl,rfl⟩;go_wp2_with fail;go_ret;obtain⟨r,u,cu,k⟩:=HA.out _ (HAl.out (.cells #[] 123) (.cells #[.int .u64 (x:Int),.int .i64 (-1),.pointer none] 199));obtain⟨r2,u2,cu2,k2⟩:=zem (part':=.iface 196 (.pointer (some ⟨w.heap.size+1,0,none⟩))) r u cu k;have b2:=Hb0.out.trans (((HAl.out (.cells #[] 123) (.cells #[.int .u64 (x:Int),.int .i64 (-1),.pointer none] 199)).mono Hbw.out).setCell (p:=⟨R,5,none⟩) hR0 (.iface 196 (.pointer (some ⟨w.heap.size+1,0,none⟩))));have he:=HEb.out;rw[World.size_alloc] at he;have he2:=he.grown (zm _ R 5 (.iface 196 (.pointer (some ⟨w.heap.size+1,0,none⟩)))) (fun e=>by injection e with e;exact r.ne he (by decide) e.symm);obtain⟨r3,u3,cu3,k3⟩:=zem (part':=.iface 200 (.agg #[])) r2 u2 cu2 k2;exact⟨b2.setCell (p:=⟨R,5,none⟩) hR0 _,by rw[Hwst.out];exact⟨rfl,hR0,_,K,U,C,hU,hC,r3,u3,rfl,k3,cu3⟩⟩
    · rw[if_neg hx0] at hwst;have Hwst:=hid hwst;have hxz:((x:Int) == 0)=false:=by rw[beq_eq_false_iff_ne];omega
      clear hwst hx0;go_enter Tryz.func70,Tryz.ntmps70;go_wp2_with fail;refine(HLim.out _).mono ?_;rintro e w' ⟨rfl,rfl⟩;go_wp2_with fail;go_ret;obtain⟨r,u,cu,k⟩:=HA.out _ (HAl.out (.cells #[] 123) (.cells #[.int .u64 (x:Int),.int .i64 (-1),.pointer none] 199));obtain⟨r2,u2,cu2,k2⟩:=zem (part':=.iface 196 (.pointer (some ⟨w.heap.size+1,0,none⟩))) r u cu k;have b2:=Hb0.out.trans (((HAl.out (.cells #[] 123) (.cells #[.int .u64 (x:Int),.int .i64 (-1),.pointer none] 199)).mono Hbw.out).setCell (p:=⟨R,5,none⟩) hR0 (.iface 196 (.pointer (some ⟨w.heap.size+1,0,none⟩))));have he:=HEb.out;rw[World.size_alloc] at he;have he2:=he.grown (zm _ R 5 (.iface 196 (.pointer (some ⟨w.heap.size+1,0,none⟩)))) (fun e=>by injection e with e;exact r.ne he (by decide) e.symm);exact⟨b2,by rw[Hwst.out];exact⟨rfl,hR0,_,K,U,C,hU,hC,r2,u2,w.heap.size+1,rfl,by have:=Hbw.out;omega,cu2,.inl ⟨rfl,⟨_,he2⟩,k2⟩⟩⟩
  · rw[if_pos hc0] at hwst;have Hwst:=hid hwst;have hcz:((c:Int) == 0)=false:=by rw[beq_eq_false_iff_ne];omega
    have HN:=hid (fun W=>k7 (c:=c) (o:=p) hc0 W);have HAo:=hid (HA.out (w.alloc (.cells #[] 123)) ((Below.refl _ _).alloc (Nat.le_refl _) _));clear hwst hc0;go_enter Tryz.func70,Tryz.ntmps70;go_wp2_with fail;refine(HLim.out _).mono ?_;rintro e w' ⟨rfl,rfl⟩;go_wp2_with fail;refine(HN.out _).mono ?_;rintro e w' ⟨rfl,rfl⟩;go_wp2_with fail;go_ret;exact⟨Hb0.out.trans ((Below.refl base w).alloc Hbw.out _),by rw[Hwst.out];exact⟨rfl,_,HAo.out.1,rfl⟩⟩
 ·
  have Ht:=hid ht;unfold WkB at hB;simp only[ht] at hB;obtain⟨B,rfl,hB0,hcu,hV⟩:=hB;obtain⟨res,hres⟩:∃res,ye E L s x p q=res:=⟨_,rfl⟩;rw[hres];have HC:=hid ((zve ht).symm.trans hres ▸ zvf base R L s K U C B (E - q) x p w0 w ht hR0 hU hC hB0 Hb0.out hR hu hcu hV HD.out hDb hL Hx.out hrst (by have:=Hq.out;have:=HqE.out;have:=HE.out;omega) HF.out HI.out Hvf.out (Hvi.out ht) _ rfl);clear hV hcu hR hu hL hrst h4 ht;clear hres;go_enter Tryz.func70,Tryz.ntmps70;go_wp2_with fail;refine HC.out.mono ?_;rintro e w' ⟨hb,hr⟩
  cases res with
  | error c=>
   obtain⟨rfl,hr⟩:=hr;go_wp2_with fail;go_ret
   exact⟨hb,rfl,hr⟩
  | ok s'=>
   obtain⟨rfl,hr⟩:=hr;go_wp2_with fail;go_ret;exact⟨hb,rfl,hr⟩
 ·
  have Ht:=hid ht;unfold WkB at hB;simp only[ht] at hB;obtain⟨rfl,hK,hcu⟩:=hB;have HK:=hid hK;have Hcu:=hid hcu;have HLim:=hid (fun W=>zmj x L.2.2.2.2 (E - q) W Hx.out HL.out.e hrst);have HA:=hid (fun W (hb:Below w.heap.size w W)=>And.intro (hR.later hb) (And.intro (hu.same (hb.block U hu.lt)) (And.intro (hcu.later hb) (hK.later hb))));have hal:=fun o=>(Below.refl w.heap.size w).alloc (Nat.le_refl _) o
  have hal2:=fun o o'=>(hal o).alloc (by simp) o'
  have p1:=fun o=>(HA.out (w.alloc o) (hal o)).1.cell 4 rfl
  have p5:=fun o=>(HA.out (w.alloc o) (hal o)).1.cell 5 rfl
  have pp5:=fun o o'=>(HA.out ((w.alloc o).alloc o') (hal2 o o')).1.cell 5 rfl
  have y5:=fun o o'=>(HA.out ((w.alloc o).alloc o') (hal2 o o')).1.fz 5
  have HAl:=hid hal2
  have hwst:ye E L s x p q=if zo x L.2.2.2.2 (E - q)≠0 then .error (zo x L.2.2.2.2 (E - q),p) else if x=0 then jk E s q else .ok { s with tag:=3,left:=x,turn:=0 }:=by
   unfold ye;simp only[ht]
  obtain⟨c,hc⟩:∃c,c=zo x L.2.2.2.2 (E - q):=⟨_,rfl⟩;rw[←hc] at hwst HLim;have HEb:=hid (yo (w.alloc (.cells #[] 200)) 204 [.int .u64 (x:Int),.int .i64 0,.int .i64 0,.bool false]);clear hc hR hu hK hcu hL hrst h4 ht hal hal2;by_cases hc0:c=0
  · subst hc0;rw[if_neg (by simp)] at hwst;obtain⟨hl0,hx0'⟩:=HI.out.none (by rw[Ht.out];decide);by_cases hx0:x=0
    · rw[if_pos hx0] at hwst;have hxz:((x:Int) == 0)=true:=by rw[beq_iff_eq];omega
      have hpq:IntKind.i64.wrap ((p:Int)+((yf x).length:Int))=(q:Int):=by have:=Hq.out;have:=HqE.out;have:=HE.out;rw[IntKind.wrap_i64];omega
      have HSz:=hid (fun W=>zev x W Hx.out);obtain⟨fr,hfr⟩:∃fr,fr=jk E s q:=⟨_,rfl⟩;rw[←hfr] at hwst;have Hwst:=hid hwst;have HFn:=hid (fun W h1 h2 h3 h4 h5 h6=>hfr ▸ zmk base R L s (kg (w.heap.size+1)) K U C E q W h1 h2 h3 h4 h5 h6 HF.out.li HF.out.ix Hrst.out HqE.out);have Hl0:=hid hl0;have Hx0':=hid hx0';clear hwst hx0 hfr hl0 hx0';go_enter Tryz.func70,Tryz.ntmps70;go_wp2_with fail;refine(HLim.out _).mono ?_;rintro e w' ⟨rfl,rfl⟩;go_wp2_with fail;refine(HSz.out _).mono ?_;rintro e w6 ⟨rfl,rfl⟩;go_wp2_with fail;obtain⟨r,u,cu,k⟩:=HA.out _ (HAl.out (.cells #[] 200) (.cells #[.int .u64 (x:Int),.int .i64 0,.int .i64 0,.bool false] 204));obtain⟨r2,u2,cu2,k2⟩:=zem (part':=kg (w.heap.size+1)) r u cu k;have b2:=Hb0.out.trans (((HAl.out (.cells #[] 200) (.cells #[.int .u64 (x:Int),.int .i64 0,.int .i64 0,.bool false] 204)).mono Hbw.out).setCell (p:=⟨R,5,none⟩) hR0 (kg (w.heap.size+1)));have he:=HEb.out;rw[World.size_alloc] at he;have he2:=he.grown (zm _ R 5 (kg (w.heap.size+1))) (fun e=>by injection e with e;exact r.ne he (by decide) e.symm);have HB2:=hid b2;refine(HFn.out _ hR0 hU hC r2 u2 (by rw[Hl0.out,Hx0'.out];exact k2.seg (by simp;have:=Hbw.out;omega))).mono ?_;clear r u cu k r2 u2 cu2 k2 b2 he he2;rintro e w6 ⟨hb6,hr6⟩
      cases fr with
      | error c=>
       obtain⟨rfl,hr6⟩:=hr6;go_wp2_with fail;go_ret
       exact⟨HB2.out.trans hb6,by rw[Hwst.out];exact⟨rfl,hr6⟩⟩
      | ok s'=>
       obtain⟨rfl,hr6⟩:=hr6;go_wp2_with fail;go_ret;exact⟨HB2.out.trans hb6,by rw[Hwst.out];exact⟨rfl,hr6⟩⟩
    · rw[if_neg hx0] at hwst;have Hwst:=hid hwst;have hxz:((x:Int) == 0)=false:=by rw[beq_eq_false_iff_ne];omega
      have Hl0:=hid hl0;have Hx0':=hid hx0';clear hwst hx0 hl0 hx0';go_enter Tryz.func70,Tryz.ntmps70;go_wp2_with fail;refine(HLim.out _).mono ?_;rintro e w' ⟨rfl,rfl⟩;go_wp2_with fail;go_ret;obtain⟨r,u,cu,k⟩:=HA.out _ (HAl.out (.cells #[] 200) (.cells #[.int .u64 (x:Int),.int .i64 0,.int .i64 0,.bool false] 204));obtain⟨r2,u2,cu2,k2⟩:=zem (part':=kg (w.heap.size+1)) r u cu k;have b2:=Hb0.out.trans (((HAl.out (.cells #[] 200) (.cells #[.int .u64 (x:Int),.int .i64 0,.int .i64 0,.bool false] 204)).mono Hbw.out).setCell (p:=⟨R,5,none⟩) hR0 (kg (w.heap.size+1)));have he:=HEb.out;rw[World.size_alloc] at he;have he2:=he.grown (zm _ R 5 (kg (w.heap.size+1))) (fun e=>by injection e with e;exact r.ne he (by decide) e.symm);refine⟨b2,?_⟩;rw[Hwst.out];refine⟨rfl,hR0,_,K,U,C,hU,hC,r2,u2,w.heap.size+1,rfl,by have:=Hbw.out;omega,?_,0,false,0,he2,fun y hy=>?_,fun h=>?_,?_⟩
      · show SegM _ _ _ s.vs s.l s.ix;rw[Hl0.out,Hx0'.out];exact k2.seg (by simp;have:=Hbw.out;omega)
      · simp[Hx0'.out] at hy
      · simp at h
      · simp only[cuC,Hl0.out];exact cu2
  · rw[if_pos hc0] at hwst;have Hwst:=hid hwst;have hcz:((c:Int) == 0)=false:=by rw[beq_eq_false_iff_ne];omega
    have HN:=hid (fun W=>k7 (c:=c) (o:=p) hc0 W);have HAo:=hid (HA.out (w.alloc (.cells #[] 200)) ((Below.refl _ _).alloc (Nat.le_refl _) _));clear hwst hc0;go_enter Tryz.func70,Tryz.ntmps70;go_wp2_with fail;refine(HLim.out _).mono ?_;rintro e w' ⟨rfl,rfl⟩;go_wp2_with fail;refine(HN.out _).mono ?_;rintro e w' ⟨rfl,rfl⟩;go_wp2_with fail;go_ret;exact⟨Hb0.out.trans ((Below.refl base w).alloc Hbw.out _),by rw[Hwst.out];exact⟨rfl,_,HAo.out.1,rfl⟩⟩
 ·
  have Ht:=hid ht;unfold WkB at hB;simp only[ht] at hB;obtain⟨B,rfl,hB0,hM,last,touch,lo0,hrow,hla,hto,hcu⟩:=hB;obtain⟨res,hres⟩:∃res,ye E L s x p q=res:=⟨_,rfl⟩
  have HC:Hid (Calls Tryz.prog 113 #[.pointer (some ⟨R,0,none⟩),.pointer (some ⟨B,0,none⟩),.int .u64 (x:Int),.int .i64 (p:Int),.int .i64 ((E - q:Nat):Int)] w (WkS w0 base R L res)):=by
   refine hid ?_;rw[←hres,zwc ht];have htu:=HI.out.turn;rcases hu3:s.turn with _ | _ | _ | k
   · simp only[cuC,hu3] at hcu;rw[hu3] at hrow;exact zvx base R L s K U C B (E - q) x p lo0 last touch w0 w ht hR0 hU hC hB0 Hb0.out hu3 ⟨hR,hrow,hcu,hu,hM⟩ hla HF.out.l Hx.out _ rfl
   · simp only[cuC,hu3] at hcu;rw[hu3] at hrow;exact zvy base R L s K U C B (E - q) x p last touch w0 w ht hR0 hU hC hB0 Hb0.out ⟨hR,hrow,hcu,hu,hM⟩ hla (hto (by omega)) HF.out.lo Hx.out
   · simp only[cuC,hu3] at hcu;rw[hu3] at hrow;refine zv4 base R L s K U C B E x p q lo0 last touch w0 w ht hR0 hU hC hB0 Hb0.out ⟨hR,hrow,hcu,hu,hM⟩ hla (hto (by omega)) (fun h e=>?_) HF.out (HI.out.left (.inr ht)) Hx.out Hq.out HqE.out HE.out Hrst.out;have:=HT.out (by omega) h;have h2:=HF.out.li;rw[e] at h2;exact this (List.length_eq_zero_iff.1 h2.symm)
   · omega
  rw[hres];clear hres hM hrow hla hto hcu hR hu hL hrst h4 ht;go_enter Tryz.func70,Tryz.ntmps70;go_wp2_with fail;refine HC.out.mono ?_;rintro e w' ⟨hb,hr⟩
  cases res with
  | error c=>
   obtain⟨rfl,hr⟩:=hr;go_wp2_with fail;go_ret
   exact⟨hb,rfl,hr⟩
  | ok s'=>
   obtain⟨rfl,hr⟩:=hr;go_wp2_with fail;go_ret;exact⟨hb,rfl,hr⟩
 · omega
end
section
open Go.RowKit
attribute [local go_sem] yq
theorem zwe {w:World} {d:Nat} {L:za} {s:Dc} {vp:Option Addr} {y:Value} (h:DcR w d L s vp y):Calls Tryz.prog 35 #[.pointer (some ⟨d,0,none⟩)] w fun e w'=>e=.returned (.agg #[.int .i64 (s.vc:Nat),.int .i64 (s.vo:Nat)])∧Below w.heap.size w w':=by
 have hal:=(Below.refl w.heap.size w).alloc (Nat.le_refl _) (.cells #[.int .i64 0,.int .i64 0] 64);have c21:(w.alloc (.cells #[.int .i64 0,.int .i64 0] 64)).cell? ⟨d,21,none⟩=some (.int .i64 (s.vc:Nat)):=(Row.later h hal).cell 21 rfl;have c22:(w.alloc (.cells #[.int .i64 0,.int .i64 0] 64)).cell? ⟨d,22,none⟩=some (.int .i64 (s.vo:Nat)):=(Row.later h hal).cell 22 rfl;clear h hal;go_enter Tryz.func35,Tryz.ntmps35;go_wp2;exact bodyPost_ret (v:=.agg #[.int .i64 (s.vc:Nat),.int .i64 (s.vo:Nat)]) (by simp[results,Tryz.results35,go_sem]) rfl ⟨rfl,by first | exact(Below.refl _ _).alloc (Nat.le_refl _) _ | exact((Below.refl _ _).alloc (Nat.le_refl _) _).setCell (Nat.le_refl _) _⟩
theorem zwf {w:World} {d:Nat} {L:za} {s:Dc} {vp:Option Addr} {y:Value} (h:DcR w d L s vp y):Calls Tryz.prog 37 #[.pointer (some ⟨d,0,none⟩)] w fun e w'=>e=.returned (.int .i64 (s.tk:Nat))∧w=w':=by
 have c19:=Row.cell h 19 rfl;clear h;go_enter Tryz.func37,Tryz.ntmps37;go_wp2;go_ret;exact⟨rfl,rfl⟩
theorem zwg {w:World} {d:Nat} {L:za} {s:Dc} {vp:Option Addr} {y:Value} (h:DcR w d L s vp y) (h1:s.fin≤s.tk) (h2:s.tk≤1000000000000000):Calls Tryz.prog 39 #[.pointer (some ⟨d,0,none⟩)] w fun e w'=>e=.returned (.int .i64 ((s.tk - s.fin:Nat):Int))∧Below w.heap.size w w':=by
 have c19:=fun k=>(show DcR (w.drewN k) d L s vp y from h).cell 19 rfl
 have c20:=fun k=>(show DcR (w.drewN k) d L s vp y from h).cell 20 rfl
 have hw:IntKind.i64.wrap ((s.tk:Int) - (s.fin:Int))=((s.tk - s.fin:Nat):Int):=by rw[IntKind.wrap_i64];omega
 clear h h1 h2;go_enter Tryz.func39,Tryz.ntmps39;go_wp2;go_quiet (fail);go_wp2_with fail;go_ret;exact⟨rfl,by first | exact Below.refl _ _ | exact zq (Below.refl _ _) _⟩
def zal (s:Dc):Value:=if s.st=4 then zc2 s.vc s.vo else if s.fin<s.tk then zc2 5 s.tk else .nilIface
set_option maxRecDepth 20000 in
theorem zwh {w:World} {d:Nat} {L:za} {s:Dc} {vp:Option Addr} {y:Value} (h:DcR w d L s vp y) (hv:s.st=4→s.vc≠0):Calls Tryz.prog 44 #[.pointer (some ⟨d,0,none⟩)] w fun e w'=>e=.returned (zal s)∧Below w.heap.size w w':=by
 have c5:=Row.cell h 5 rfl;unfold zal;by_cases h4:s.st=4
 · have d4:((s.st:Int) == 4)=true:=by rw[beq_iff_eq];omega
   rw[if_pos h4];unfold zc2;have hv0:(s.vc:Int)≠0:=by have:=hv h4;omega
   rw[if_neg hv0];have HN:=hid (fun W=>zjy (s.vc:Nat) (s.vo:Nat) W hv0);have HW:=hid (fun W=>zjt vu (s.vc:Nat) (s.vo:Nat) W);have HR:=hid (fun W (hb:Below w.heap.size w W)=>Row.later h hb);unfold vt at HW ⊢;clear h h4 hv hv0;go_enter Tryz.func44,Tryz.ntmps44;go_upto_region 4 with fail
   refine ki (by kernel_rfl) (by kernel_rfl) ?_
   repeat (go_big_quiet_step ((intro hw;first
    | rfl
    | (go_at_call 82;exact zab hw (zjz (HN.out _)))
    | (go_at_call 81;exact zab hw (HW.out _))
    | (have y0:=(HR.out _ hw).cell 21 rfl
       have y1:=(HR.out _ hw).cell 22 rfl;go_simp;first | rfl | exact⟨rfl,hw⟩ | (trace_state;fail)))))
   refine wpQuiet_nil ?_;intro w3 hb3;go_wp2_with fail;go_ret;exact⟨rfl,hb3⟩
 · have d4:((s.st:Int) == 4)=false:=by rw[beq_eq_false_iff_ne];omega
   rw[if_neg h4];have c19:=fun k=>(show DcR (w.drewN k) d L s vp y from h).cell 19 rfl
   have c20:=fun k=>(show DcR (w.drewN k) d L s vp y from h).cell 20 rfl
   by_cases hf:s.fin<s.tk
   · have hd:decide ((s.fin:Int)<(s.tk:Int))=true:=by rw[decide_eq_true_iff];omega
     have hd2:decide (s.fin<s.tk)=true:=decide_eq_true hf;rw[if_pos hf];unfold zc2;rw[if_neg (by decide)];have HN:=hid (fun W=>zjy 5 (s.tk:Nat) W (by decide));have HW:=hid (fun W=>zjt vu 5 (s.tk:Nat) W);unfold vt at HW ⊢;clear h h4 hv hf;go_enter Tryz.func44,Tryz.ntmps44;go_wp2_with fail;go_quiet (fail);go_wp2_with fail;refine(HN.out _).mono ?_;rintro e w1 ⟨rfl,rfl⟩;go_wp2_with fail;refine(HW.out _).mono ?_;rintro e w1 ⟨rfl,hb1⟩;go_wp2_with fail;go_ret;exact⟨rfl,(zq (Below.refl _ _) _).trans hb1⟩
   · have hd:decide ((s.fin:Int)<(s.tk:Int))=false:=by rw[decide_eq_false_iff_not];omega
     have hd2:decide (s.fin<s.tk)=false:=decide_eq_false hf;rw[if_neg hf];clear h h4 hv hf;go_enter Tryz.func44,Tryz.ntmps44;go_wp2_with fail;go_quiet (fail);go_wp2_with fail;go_ret;exact⟨rfl,zq (Below.refl _ _) _⟩
end
section
open Go.RowKit
attribute [local go_sem] yq
theorem Row.same_set {w:World} {g i:Nat} {T:TypeId} {C:List Value} {v:Value} (h:Row w g T C) (hi:C[i]?=some v):w.setCell ⟨g,i,none⟩ v=w:=by
 have e:(w.setCell ⟨g,i,none⟩ v).heap=w.heap:=by
  refine Array.ext_getElem? fun k=>?_
  by_cases hk:k=g
  · subst hk;have h2:=h.set i v
    have hc:C.set i v=C:=by
     apply List.ext_getElem?;intro j;rw[List.getElem?_set];split
     · rename_i hj;subst hj;split
       · exact hi.symm
       · rename_i hl;rw[List.getElem?_eq_none (by omega)]
     · rfl
    rw[hc] at h2;exact(show _=_ from h2).trans (show w.heap[k]?=_ from h).symm
  · exact heap_setCell_other w ⟨g,i,none⟩ k v hk
 have e2:w.setCell ⟨g,i,none⟩ v={ w with heap:=(w.setCell ⟨g,i,none⟩ v).heap }:=rfl;rw[e2,e]
theorem VecAt.later {w w':World} {base R:Nat} {L:za} {K:Value} {U C B:Nat} {s:WS} (h:VecAt w base R L K U C B s) (hb:Below w.heap.size w w'):VecAt w' base R L K U C B s:=by
 rcases h with ⟨h1,⟨ip,h2⟩,h3⟩ | ⟨h1,P,pb,wb,h2,h3,h4,h5,b1,b2,b3,b4,b5,h6⟩
 · exact .inl ⟨h1,⟨ip,h2.later hb⟩,h3.later hb⟩
 · exact .inr ⟨h1,P,pb,wb,h2.later hb,h3,h4.trans (.of_below hb),h5,b1,b2,b3,b4,b5,h6.later hb⟩
theorem WkR.later {w w':World} {base R:Nat} {L:za} {s:WS} (h:WkR w base R L s) (hb:Below w.heap.size w w'):WkR w' base R L s:=by
 obtain⟨hR0,part,K,U,C,hU,hC,hR,hu,hB⟩:=h;refine⟨hR0,part,K,U,C,hU,hC,hR.later hb,hu.same (hb.block U hu.lt),?_⟩;unfold WkB at hB ⊢;split at hB
 · exact⟨hB.1,hB.2.1.later hb,hB.2.2.later hb⟩
 · obtain⟨B,e,hB0,hc,hV⟩:=hB;exact⟨B,e,hB0,hc.later hb,hV.later hb⟩
 · exact⟨hB.1,hB.2.1.later hb,hB.2.2.later hb⟩
 · obtain⟨B,e,hB0,hM,last,touch,lo0,h1,h2,h3,h4⟩:=hB;exact⟨B,e,hB0,hM.later hb,last,touch,lo0,h1.later hb,h2,h3,h4.later hb⟩
 · exact⟨hB.1,hB.2.later hb⟩
theorem Tryz.pn0 (w:World):(binOp .neq 128 (.iface 123 (.agg #[])) (.iface 131 (.agg #[]))).run Tryz.prog w=.ok (.bool true) w:=by kernel_rfl
theorem Tryz.pn1 (B:Nat) (w:World):(binOp .neq 128 (.iface 196 (.pointer (some ⟨B,0,none⟩))) (.iface 131 (.agg #[]))).run Tryz.prog w=.ok (.bool true) w:=by kernel_rfl
theorem Tryz.pn2 (w:World):(binOp .neq 128 (.iface 200 (.agg #[])) (.iface 131 (.agg #[]))).run Tryz.prog w=.ok (.bool true) w:=by kernel_rfl
theorem Tryz.pn3 (B:Nat) (w:World):(binOp .neq 128 (.iface 202 (.pointer (some ⟨B,0,none⟩))) (.iface 131 (.agg #[]))).run Tryz.prog w=.ok (.bool true) w:=by kernel_rfl
theorem Tryz.pn4 (w:World):(binOp .neq 128 (.iface 131 (.agg #[])) (.iface 131 (.agg #[]))).run Tryz.prog w=.ok (.bool false) w:=by kernel_rfl
theorem Tryz.pe0 (w:World):(binOp .eql 128 (.iface 123 (.agg #[])) (.iface 131 (.agg #[]))).run Tryz.prog w=.ok (.bool false) w:=by kernel_rfl
theorem Tryz.pe1 (B:Nat) (w:World):(binOp .eql 128 (.iface 196 (.pointer (some ⟨B,0,none⟩))) (.iface 131 (.agg #[]))).run Tryz.prog w=.ok (.bool false) w:=by kernel_rfl
theorem Tryz.pe2 (w:World):(binOp .eql 128 (.iface 200 (.agg #[])) (.iface 131 (.agg #[]))).run Tryz.prog w=.ok (.bool false) w:=by kernel_rfl
theorem Tryz.pe3 (B:Nat) (w:World):(binOp .eql 128 (.iface 202 (.pointer (some ⟨B,0,none⟩))) (.iface 131 (.agg #[]))).run Tryz.prog w=.ok (.bool false) w:=by kernel_rfl
theorem Tryz.pe4 (w:World):(binOp .eql 128 (.iface 131 (.agg #[])) (.iface 131 (.agg #[]))).run Tryz.prog w=.ok (.bool true) w:=by kernel_rfl
theorem zh4 {w:World} {base R:Nat} {L:za} {s:WS} {part K:Value} {U C:Nat} (h:WkB w base R L s part K U C) (hs:s.tag≤4):
 (∀W,(binOp .neq 128 part (.iface 131 (.agg #[]))).run Tryz.prog W=.ok (.bool (!decide (s.tag=4))) W)∧(∀W,(binOp .eql 128 part (.iface 131 (.agg #[]))).run Tryz.prog W=.ok (.bool (decide (s.tag=4))) W):=by
 unfold WkB at h;rcases ht:s.tag with _ | _ | _ | _ | _ | k
 all_goals simp only[ht] at h
 · obtain⟨rfl,-⟩:=h;exact⟨Tryz.pn0,Tryz.pe0⟩
 · obtain⟨B,rfl,-⟩:=h;exact⟨Tryz.pn1 B,Tryz.pe1 B⟩
 · obtain⟨rfl,-⟩:=h;exact⟨Tryz.pn2,Tryz.pe2⟩
 · obtain⟨B,rfl,-⟩:=h;exact⟨Tryz.pn3 B,Tryz.pe3 B⟩
 · obtain⟨rfl,-⟩:=h;exact⟨Tryz.pn4,Tryz.pe4⟩
 · omega
theorem Tryz.eqGuard_if (op:BinOp) (t:TypeId) (x y:Operand) (a:Value) (T:TypeId) (v:Value) (w:World):(eqGuard op t x y a (.iface T v)).run Tryz.prog w=.ok () w:=by
 cases op <;> cases a <;> rfl
attribute [local go_sem] Tryz.eqGuard_if
def WkQ (w:World) (base R:Nat) (L:za) (r:Except (Nat×Nat) WS) (e:Ending) (w':World):Prop:=
 Below base w w'∧match r with
 | .error x=>e=.returned (.tuple #[.bool true,zap x.1 x.2])∧∃C,Row w' R 130 C∧C[9]?=some (zap x.1 x.2)
 | .ok s'=>e=.returned (.tuple #[.bool (decide (s'.tag=4)),.nilIface])∧WkR w' base R L s'
set_option maxRecDepth 20000 in
theorem zwi (base R:Nat) (L:za) (s:WS) (E x p q:Nat) (w0 w:World) (hb0:Below base w0 w) (h:WkR w base R L s) (hD:Door w) (hDb:0<base) (ho:StepOk L s E x p q) (hok:∀s',ye E L s x p q=.ok s'→s'.tag≤4):
 Calls Tryz.prog 27 #[.pointer (some ⟨R,0,none⟩),.int .u64 (x:Int),.int .i64 (p:Int),.int .i64 ((E - q:Nat):Int)] w (WkQ w0 base R L (ye E L s x p q)):=by
 have HT:=hid (zwd base R L s E x p q w0 w hb0 h hD hDb ho);obtain⟨hR0,part,K,U,C,hU,hC,hR,hu,hB⟩:=h;obtain⟨hn,-⟩:=zh4 hB (Nat.le_of_lt ho.tag);rw[show decide (s.tag=4)=false from decide_eq_false (by have:=ho.tag;omega)] at hn;simp only[Bool.not_false] at hn;have q1:=hR.cell 5 rfl;have q9:=hR.cell 9 rfl;have Hok:=hid hok;obtain⟨res,hres⟩:∃res,ye E L s x p q=res:=⟨_,rfl⟩;rw[hres] at HT Hok ⊢;clear hR hu hB ho hb0 hD hok hres;go_enter Tryz.func27,Tryz.ntmps27;go_wp2_with fail;refine HT.out.mono ?_;rintro e w1 ⟨hb,hr⟩
 cases res with
 | error c=>
  obtain⟨rfl,C',hR',hl⟩:=hr;have z9:=hR'.fz 9
  have q9':∃v,w1.cell? ⟨R,9,none⟩=some v:=by
   obtain⟨v,hv⟩:∃v,C'[9]?=some v:=⟨C'[9],by simp[hl]⟩;exact⟨v,hR'.cell 9 hv⟩
  obtain⟨v9,q9'⟩:=q9';have HR2:=hid (hR'.set 9 (zap c.1 c.2));have hc2:(C'.set 9 (zap c.1 c.2))[9]?=some (zap c.1 c.2):=by simp[hl]
  have r9:=fun k=>(show Row ((w1.setCell ⟨R,9,none⟩ (zap c.1 c.2)).drewN k) R 130 _ from HR2.out).cell 9 hc2
  have HB:=hid (hb.setCell (p:=⟨R,9,none⟩) hR0 (zap c.1 c.2));have Hc2:=hid hc2;clear hR' hl hb hc2;clear HT;unfold zap at HR2 r9 HB Hc2 ⊢;go_wp2;generalize w1.setCell ⟨R,9,none⟩ (.iface 112 (.agg #[.int .i64 (c.1:Int),.int .i64 (c.2:Int)]))=W at*;go_quiet (fail);go_wp2_with fail;go_ret2
  exact⟨zq HB.out _,rfl,_,HR2.out,Hc2.out⟩
 | ok s'=>
  obtain⟨rfl,hR1⟩:=hr;have HR1:=hid hR1;have hs4:=Hok.out s' rfl;obtain⟨-,part',K',U',C',hU',hC',hR',hu',hB'⟩:=hR1;obtain⟨-,he⟩:=zh4 hB' hs4;have z9:=hR'.fz 9;have q9':=hR'.cell 9 rfl;have hsame:w1.setCell ⟨R,9,none⟩ .nilIface=w1:=hR'.same_set rfl;have r9:=fun k=>(show Row (w1.drewN k) R 130 _ from hR').cell 9 rfl
  have r5:=fun k=>(show Row (w1.drewN k) R 130 _ from hR').cell 5 rfl
  have HB:=hid hb;clear hR' hu' hB' hb;go_wp2;go_quiet (fail);go_wp2_with fail;go_ret2;exact⟨zq HB.out _,rfl,HR1.out.later (zq (Below.refl _ _) _)⟩
end
