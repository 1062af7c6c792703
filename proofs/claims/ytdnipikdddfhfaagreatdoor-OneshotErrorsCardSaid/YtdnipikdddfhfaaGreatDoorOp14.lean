/- Part 14. -/
import Derived.Test.YtdnipikdddfhfaaGreatDoorOp13
set_option linter.unusedVariables false
set_option maxHeartbeats 16000000
namespace Go.Proofs.YtdnipikdddfhfaaGreatDoor
open Lib (hid)
section
def kq (s:PS):Nat:=match s.tag with
 | 0=>0
 | 1=>(zi s.v).length
 | 2=>(zi s.v).length+1
 | 3=>(zi s.v).length+2
 | 4=>(zi s.v).length+3+2*s.h.length
 | 5=>(zi s.v).length+4+2*s.h.length
 | _=>(zi s.v).length
theorem zlr (v:Vec) (r m:Nat) (h:List Iv):(zi (v++[(r,m,h)])).length=(zi v).length+3+2*h.length:=by
 simp only[zi,List.length_cons,List.flatMap_append,List.length_append,List.flatMap_singleton,qu,zff];omega
theorem zls (s:PS) (k:Nat) (h:List Iv):kq (ql s k h)≤(zi s.v).length+3+2*h.length:=by
 unfold ql;split
 · exact Nat.le_refl _
 · split
   · simp only[kq];rw[zlr];exact Nat.le_refl _
   · simp only[kq];rw[zlr];exact Nat.le_refl _
theorem zlt {le lh:Int} {s s':PS} {x rest:Nat} (ht:s.tag<6) (h:yb le lh s x rest=.ok s'):kq s'≤kq s+1:=by
 obtain⟨tag,v,rep,mx,hh,ents,hls,lo⟩:=s;simp only at ht;rcases(by omega:tag=0∨tag=1∨tag=2∨tag=3∨tag=4∨tag=5) with rfl | rfl | rfl | rfl | rfl | rfl <;> simp only[yb] at h
 · split at h
   · cases h
   · split at h
     · cases h
     · cases h;exact Nat.le_refl _
 · cases hr:jv v x with
   | none=>rw[hr] at h;cases h
   | some r=>rw[hr] at h;cases h;exact Nat.le_refl _
 · cases h;exact Nat.le_refl _
 · split at h
   · cases h
   · cases h;exact zls _ _ _
 · cases hr:loP (zo hh) 1 x with
   | none=>rw[hr] at h;cases h
   | some r=>rw[hr] at h;cases h;simp only[kq];omega
 · split at h
   · cases h;refine Nat.le_trans (zls _ _ _) ?_;simp only[kq,List.length_append,List.length_cons,List.length_nil];omega
   · cases h
theorem zlu {s:PS} (h:s.tag=6):kq s=(zi s.v).length:=by unfold kq;simp only[h]
structure RdJ (s:WS) (p:Nat):Prop where
 fit:WFit s p
 inv:WInv s
 tch:zcj s
 tag:s.tag<4
 num:∀v∈s.vs,(zi v).length≤p
 cost:kq s.inner≤p
theorem RdJ.start:RdJ ws0 0:=⟨zs3,zsp,zs4,by decide,fun v h=>(by cases h),Nat.zero_le _⟩
theorem RdJ.mono {s:WS} {p q:Nat} (h:RdJ s p) (hp:p≤q):RdJ s q:=⟨h.fit.mono hp,h.inv,h.tch,h.tag,fun v hv=>Nat.le_trans (h.num v hv) hp,Nat.le_trans h.cost hp⟩
theorem zlv {E:Nat} {L:zb} {s s':WS} {x p q:Nat} (hI:RdJ s p) (hpq:p<q) (h:yh E L s x p q=.ok s'):(∀v∈s'.vs,(zi v).length≤q)∧kq s'.inner≤q:=by
 have hm:=hI.mono (Nat.le_of_lt hpq)
 have fin:∀t:WS,t.vs=s.vs→t.inner=s.inner→∀t',js E t q=.ok t'→(∀v∈t'.vs,(zi v).length≤q)∧kq t'.inner≤q:=fun t h1 h2 t' h=>by
  unfold js at h;split at h
  · cases h
  · split at h
    · cases h
    · injection h with h;subst h;exact⟨by show ∀v∈t.vs,_;rw[h1];exact hm.num,by show kq t.inner≤q;rw[h2];exact hm.cost⟩
 have z0:kq ps0≤q:=Nat.zero_le _;by_cases h1:s.tag=1
 · obtain⟨i1,-⟩:=hI.inv.inner h1;unfold yh at h;simp only[h1] at h;split at h
   · cases h
   · rename_i i hi;have hi':=zlt i1 hi;have hc:=hI.cost;by_cases h6:i.tag=6
     · rw[if_pos h6] at h;rw[zlu h6] at hi'
       have hvv:∀v∈s.vs++[i.v],(zi v).length≤q:=fun v hv=>by
        rcases List.mem_append.1 hv with h | h
        · exact hm.num v h
        · rw[List.mem_singleton] at h;subst h;omega
       split at h
       · cases h
       · split at h
         · injection h with h;subst h;exact⟨hvv,z0⟩
         · injection h with h;subst h;exact⟨hvv,z0⟩
     · rw[if_neg h6] at h;injection h with h;subst h;exact⟨hm.num,by show kq i≤q;omega⟩
 · unfold yh at h;split at h
   · split at h
     · cases h
     · split at h
       · injection h with h;subst h;exact⟨hm.num,hm.cost⟩
       · injection h with h;subst h;exact⟨hm.num,z0⟩
   · rename_i e;exact absurd e h1
   · split at h
     · cases h
     · split at h
       · exact fin _ rfl rfl _ h
       · injection h with h;subst h;exact⟨hm.num,hm.cost⟩
   · split at h
     · split at h
       · cases h
       · injection h with h;subst h;exact⟨hm.num,hm.cost⟩
     · split at h
       · injection h with h;subst h;exact⟨hm.num,hm.cost⟩
       · cases h
     · split at h
       · cases h
       · split at h
         · cases h
         · split at h
           · exact fin _ (by rfl) (by rfl) _ h
           · injection h with h;subst h;exact⟨hm.num,hm.cost⟩
   · injection h with h;subst h;exact⟨hm.num,hm.cost⟩
theorem RdJ.next {E:Nat} {L:zb} {s s':WS} {x p q:Nat} (h:RdJ s p) (hx:x<18446744073709551616) (hpq:p<q) (hs:yh E L s x p q=.ok s') (h4:s'.tag<4):RdJ s' q:=
 ⟨zhp h.fit h.inv h.tag hx hpq hs,zfo h.inv h.tag hs,zs6 h.tch h.inv h.tag hs,h4,(zlv h hpq hs).1,(zlv h hpq hs).2⟩
theorem RdJ.inner {L:zb} {s:WS} {x p rest:Nat} (h:RdJ s p) (h1:s.tag=1) {i:PS} (hi:yb L.2.2.1 L.2.2.2.1 s.inner x rest=.ok i) (h6:i.tag=6):(zi i.v).length≤p+1:=by
 have:=zlt (h.inv.inner h1).1 hi;rw[zlu h6] at this;have:=h.cost;omega
end
section
open Go.RowKit
attribute [local go_sem] jc
theorem zlw (g:Nat) (L:zb) (nx V cu:Value) (s:PS) (k:Nat) (h:List Iv) (w:World) (hR:Row w g 282 (pkC L nx V s.ents k cu)) (he:0<s.ents) (he2:s.ents<18446744073709551616) (hk:k<18446744073709551616):
 Calls Tryz.prog 291 #[.pointer (some ⟨g,0,none⟩)] w fun e w'=>e=.returned (pkF g (ql s k h).tag)∧Row w' g 282 (pkC L nx V (ql s k h).ents (ql s k h).hls cu)∧w.grownBy w' (some g):=by
 obtain⟨tag,v,rep,mx,hh,ents,hls,lo⟩:=s;simp only at hR he he2;have q8:=hR.cell 8 rfl;have q9:=hR.cell 9 rfl;have z8:=hR.fz 8;have z9:=hR.fz 9;by_cases h0:0<k
 · have Hn:=hid (show ql ⟨tag,v,rep,mx,hh,ents,hls,lo⟩ k h=⟨4,v,rep,mx,h,ents,k - 1,lo⟩ from by unfold ql;rw[if_pos h0]);have e1:IntKind.u64.wrap ((k:Int) - 1)=((k - 1:Nat):Int):=by rw[IntKind.wrap_u64];omega
   have e2:(k:Int) - 1=((k - 1:Nat):Int):=by omega
   have HF:=hid (show Row (w.setCell ⟨g,9,none⟩ (.int .u64 ((k - 1:Nat):Int))) g 282 (pkC L nx V ents (k - 1) cu) from hR.set 9 _);rw[Hn.out];clear hR q8 z8 he he2;generalize k - 1=k1 at*;go_enter Tryz.func291,Tryz.ntmps291;go_wp2_with fail;go_ret;exact⟨rfl,HF.out,jk _ _ _ _⟩
 · obtain rfl:k=0:=by omega
   have e1:IntKind.u64.wrap ((ents - 1:Nat):Int)=((ents - 1:Nat):Int):=by rw[IntKind.wrap_u64];omega
   have e2:(ents:Int) - 1=((ents - 1:Nat):Int):=by omega
   have HF:=hid (show Row (w.setCell ⟨g,8,none⟩ (.int .u64 ((ents - 1:Nat):Int))) g 282 (pkC L nx V (ents - 1) 0 cu) from hR.set 8 _);by_cases h1:1<ents
   · have Hn:=hid (show ql ⟨tag,v,rep,mx,hh,ents,hls,lo⟩ 0 h=⟨1,v++[(rep,mx,h)],rep,mx,[],ents - 1,0,lo⟩ from by unfold ql;rw[if_neg (by omega),if_pos h1]);have h2:0<ents - 1:=by omega
     rw[Hn.out];clear hR he he2 h1;generalize ents - 1=e at*;go_enter Tryz.func291,Tryz.ntmps291;go_wp2_with fail;go_ret;exact⟨rfl,HF.out,jk _ _ _ _⟩
   · obtain rfl:ents=1:=by omega
     have Hn:=hid (show ql ⟨tag,v,rep,mx,hh,1,hls,lo⟩ 0 h=⟨6,v++[(rep,mx,h)],rep,mx,[],0,0,lo⟩ from by unfold ql;rw[if_neg (by omega),if_neg (by omega)];rfl);rw[Hn.out];clear hR he he2 h1 e1 e2;go_enter Tryz.func291,Tryz.ntmps291;go_wp2_with fail;go_ret;exact⟨rfl,HF.out,jk _ _ _ _⟩
theorem zlx {w:World} {base:Nat} {s:PS} {V cu:Value} {k:Nat} {h:List Iv} (hE:EntO w base V s.v s.rep s.mx h) (hC:CuAt w base cu none h) (hl:yj h):PkB w base (ql s k h) V cu:=by
 unfold ql;split
 · exact⟨hE,hC⟩
 · split
   · exact hE.close hl
   · exact hE.close hl
set_option maxRecDepth 20000 in
theorem zto (base g:Nat) (L:zb) (nx:Value) (s:PS) (x rest:Nat) (w:World) (h:PkR w base g L nx s) (ht:s.tag=3) (hL:LimsI L) (hx:x<18446744073709551616) (hr:rest<9223372036854775808) (he:0<s.ents) (he2:s.ents<18446744073709551616):
 Calls Tryz.prog 273 #[.pointer (some ⟨g,0,none⟩),.int .u64 (x:Int),.int .i64 (rest:Int)] w (PkS w base g L (yb L.2.2.1 L.2.2.2.1 s x rest)):=by
 have hps:yb L.2.2.1 L.2.2.2.1 s x rest=if zm x L.2.2.2.1 rest≠0 then .error (zm x L.2.2.2.1 rest) else .ok (ql s x []):=by
  unfold yb;rw[ht];rfl
 rw[hps];clear hps;obtain⟨hg,V,cu,hR,hB⟩:=h;have hE:EntO w base V s.v s.rep s.mx []:=by unfold PkB at hB;rw[ht] at hB;exact hB
 have HL:=hid (zlj x L.2.2.2.1 rest w hx hL.d hr);have q3:=hR.cell 3 rfl;have HR:=hid hR;have Hg:=hid (show base≤w.heap.size by have:=hR.lt;omega);clear hB;by_cases hc:zm x L.2.2.2.1 rest=0
 · rw[hc] at HL;rw[if_neg (fun h=>h hc)];have HE:=hid hE;have HX:=hid hx;have He:=hid he;have He2:=hid he2;clear hc hx hr hR hE he he2 ht;go_enter Tryz.func273,Tryz.ntmps273;go_wp2_with fail;refine HL.out.mono ?_;rintro e w' ⟨rfl,rfl⟩;simp only[zda,if_true];go_wp2_with fail;refine(zk3 1 w).mono ?_;rintro e w1 ⟨rfl,hc1,hb1⟩;have h1:=HR.out.later hb1;have p9:=h1.cell 9 rfl;have p10:=h1.cell 10 rfl;have z9:=h1.fz 9;have z10:=h1.fz 10;have h2:Row ((w1.setCell ⟨g,9,none⟩ (.int .u64 (x:Int))).setCell ⟨g,10,none⟩ (.pointer (some ⟨w.heap.size,0,none⟩))) g 282 (pkC L nx V s.ents x (.pointer (some ⟨w.heap.size,0,none⟩))):=(h1.set 9 _).set 10 _;have hgr:w1.grownBy ((w1.setCell ⟨g,9,none⟩ (.int .u64 (x:Int))).setCell ⟨g,10,none⟩ (.pointer (some ⟨w.heap.size,0,none⟩))) (some g):=zj (a:=⟨g,10,none⟩) (zj (a:=⟨g,9,none⟩) (qf _ _) _ (.inr rfl)) _ (.inr rfl);have HC:=hid (hc1.grown hgr (fun e=>by injection e with e;have:=HR.out.lt;omega));have HE2:=hid ((HE.out.later hb1).grown (h1.notT (by rintro(h | h | h) <;> cases h)) hgr);have HH:=hid (zlw g L nx V (.pointer (some ⟨w.heap.size,0,none⟩)) s x [] _ h2 He.out He2.out HX.out);have HR2:=hid h2;have Hb:=hid (((hb1.mono Hg.out).setCell (p:=⟨g,9,none⟩) hg (.int .u64 (x:Int))).setCell (p:=⟨g,10,none⟩) hg (.pointer (some ⟨w.heap.size,0,none⟩)));clear h1 h2 hgr hc1 hb1 q3;go_wp2_with fail;refine HH.out.mono ?_;rintro e w4 ⟨rfl,hR4,hg4⟩;have HR4:=hid hR4;have hN:=HR2.out.notT (by rintro(h | h | h) <;> cases h);have HE4:=hid (HE2.out.grown hN hg4);have HC4:=hid (HC.out.grown hg4 (fun e=>by injection e with e;have:=HR.out.lt;omega));have Hb4:=hid (Hb.out.grown hg4 (by have:=Hb.out.size;have:=Hg.out;omega) (fun k hk=>by injection hk with hk;omega));clear hR4 hN hg4;generalize hnh:ql s x []=s' at*;have Hnh:=hid hnh;clear hnh;generalize hF:pkF g s'.tag=F at*;have HF:=hid hF;clear hF;go_wp2_with fail;go_ret2;refine⟨Hb4.out,nx,by rw[HF.out];rfl,hg,V,_,HR4.out,?_⟩;rw[←Hnh.out];exact zlx HE4.out ⟨w.heap.size,0,rfl,Hg.out,fun y h=>(by cases h),HC4.out⟩ (fun t h=>(by cases h))
 · rw[if_pos hc];have hcv:zda (zm x L.2.2.2.1 rest)=.iface 35 (.int .i64 ((zm x L.2.2.2.1 rest:Nat):Int)):=if_neg hc;rw[hcv] at HL;clear hc hx hr hR hcv hE he he2 ht;generalize zm x L.2.2.2.1 rest=c at*;go_enter Tryz.func273,Tryz.ntmps273;go_wp2_with fail;refine HL.out.mono ?_;rintro e w' ⟨rfl,rfl⟩;go_wp2_with fail;go_ret2;exact⟨Below.refl _ _,rfl,_,HR.out,rfl⟩
set_option maxRecDepth 20000 in
theorem ztp (base g:Nat) (L:zb) (nx:Value) (s:PS) (x rest:Nat) (w:World) (h:PkR w base g L nx s) (ht:s.tag=4) (hx:x<18446744073709551616) (hl:yj s.h):
 Calls Tryz.prog 299 #[.pointer (some ⟨g,0,none⟩),.int .u64 (x:Int),.int .i64 (rest:Int)] w (PkS w base g L (yb L.2.2.1 L.2.2.2.1 s x rest)):=by
 obtain⟨tag,v,rep,mx,hh,ents,hls,lo⟩:=s;simp only at ht hl;subst ht;obtain⟨hg,V,cu,hR,hB⟩:=h;obtain⟨hE,c,y,rfl,hbc,-,hC⟩:EntO w base V v rep mx hh∧CuAt w base cu none hh:=hB;have hps:yb L.2.2.1 L.2.2.2.1 ⟨4,v,rep,mx,hh,ents,hls,lo⟩ x rest=match loP (zo hh) 1 x with | none=>.error 8 | some z=>.ok ⟨5,v,rep,mx,hh,ents,hls,z⟩:=rfl
 rw[hps];clear hps;have HL:=hid (zhk c 1 y x hh.getLast? w hC (fun s hs=>(hl s (List.mem_of_getLast? hs)).2) (by omega) hx);have q10:=hR.cell 10 rfl;have HR:=hid hR;have HE:=hid hE;have HC:=hid hC;have Hne:=hid (hR.ne hC (by decide));have Hbw:=hid (show base≤w.heap.size by have:=hR.lt;omega);clear hR hE hC hx hl;unfold zo
 cases hlo:loP (hh.getLast?.map (·.2)) 1 x with
 | none=>
  rw[hlo] at HL;clear hlo;go_enter Tryz.func299,Tryz.ntmps299;go_wp2_with fail;refine HL.out.mono ?_;rintro e w1 ⟨rfl,hc1,hg1⟩;have HR1:=hid (HR.out.grown hg1 (fun e=>Hne.out (by injection e)));have Hb:=hid ((Below.refl base w).grown hg1 Hbw.out (fun k hk=>by injection hk with hk;omega));clear hc1 hg1;go_wp2_with fail;go_ret2
  exact⟨Hb.out,rfl,_,HR1.out,rfl⟩
 | some z=>
  rw[hlo] at HL;clear hlo;go_enter Tryz.func299,Tryz.ntmps299;go_wp2_with fail;refine HL.out.mono ?_;rintro e w1 ⟨rfl,hc1,hg1⟩;have HR1:=hid (HR.out.grown hg1 (fun e=>Hne.out (by injection e)));have Hb:=hid ((Below.refl base w).grown hg1 Hbw.out (fun k hk=>by injection hk with hk;omega));have HE1:=hid (HE.out.grown (HC.out.notT (by rintro(h | h | h) <;> cases h)) hg1);have HC1:=hid hc1;clear hc1 hg1;go_wp2_with fail;go_ret2;exact⟨Hb.out,nx,rfl,hg,V,_,HR1.out,HE1.out,c,z,rfl,hbc,fun y h=>(by injection h),HC1.out⟩
end
section
open Go.RowKit
attribute [local go_sem] jc
theorem zly {W:World} {base g:Nat} {L:zb} {nx V cu:Value} {e h:Nat} {v:Vec} (hV:OwnV W base V v) (hR:Row W g 282 (pkC L nx V e h cu)) (hg:base≤g) (r:Nat) (hb:v.length+1≤1000000000000):
 ∃ge cp w',(Builtin.append_ #[95,95] 95 #[V,.slice (some ⟨W.heap.size,0,none⟩) 1 1]).run Tryz.prog (W.alloc (.cells #[.int .u64 ((r:Nat):Int),.int .u64 0,.slice none 0 0] 93))=.ok (.slice (some ⟨ge,0,none⟩) (v.length+1) cp) w'∧
  w'.cell? ⟨g,7,none⟩=some V∧w'.frozen? ⟨g,7,none⟩=false∧Below base W (w'.setCell ⟨g,7,none⟩ (.slice (some ⟨ge,0,none⟩) (v.length+1) cp))∧Row (w'.setCell ⟨g,7,none⟩ (.slice (some ⟨ge,0,none⟩) (v.length+1) cp)) g 282 (pkC L nx (.slice (some ⟨ge,0,none⟩) (v.length+1) cp) e h cu)∧EntO (w'.setCell ⟨g,7,none⟩ (.slice (some ⟨ge,0,none⟩) (v.length+1) cp)) base (.slice (some ⟨ge,0,none⟩) (v.length+1) cp) v r 0 []:=by
 have hal:Below W.heap.size W (W.alloc (.cells #[.int .u64 ((r:Nat):Int),.int .u64 0,.slice none 0 0] 93)):=(Below.refl _ _).alloc (Nat.le_refl _) _;have hbW:base≤W.heap.size:=by have:=hR.lt;omega
 obtain⟨V',w',hrun,hE,hgr,hk⟩:=(hV.below hal).open r (some ⟨W.heap.size,0,none⟩) 1 (kx (qi W (.cells #[.int .u64 ((r:Nat):Int),.int .u64 0,.slice none 0 0] 93) _ rfl) rfl rfl) hb (Nat.le_trans hbW hal.size)
 obtain⟨ge,cp,rfl,-⟩:=hE.at
 have hR1:=hR.later hal;obtain⟨ss,ho,-⟩:=hV.below hal;have hR2:Row w' g 282 (pkC L nx V e h cu):=hR1.grown hgr fun e'=>hR1.ne_own ho (by decide) g e'.symm rfl
 refine⟨ge,cp,w',hrun,hR2.cell 7 rfl,hR2.fz 7,?_,hR2.set 7 _,hE.grown (hR2.notT (by rintro(h | h | h) <;> cases h)) (jk _ _ _ _)⟩;exact(Below.grown (hal.mono hbW) hgr (Nat.le_trans hbW hal.size) hk).setCell (p:=⟨g,7,none⟩) hg _
theorem ztq (x:Nat):jv [] x=some x:=rfl
theorem ztr {v:Vec} (h:0<v.length) (x:Nat):jv v x=if (zg v (v.length - 1)).1+1+x<18446744073709551616 then some ((zg v (v.length - 1)).1+1+x) else none:=by
 unfold jv;have hne:v≠[]:=fun e=>by rw[e] at h;cases h
 rw[List.getLast?_eq_getElem?,List.getElem?_eq_getElem (by omega),ve (by omega)]
set_option maxRecDepth 20000 in
theorem zts (base g:Nat) (L:zb) (nx:Value) (s:PS) (x rest:Nat) (w:World) (h:PkR w base g L nx s) (ht:s.tag=1) (hx:x<18446744073709551616) (hlv:LtV s.v) (hl:s.v.length+1≤1000000000000):
 Calls Tryz.prog 231 #[.pointer (some ⟨g,0,none⟩),.int .u64 (x:Int),.int .i64 (rest:Int)] w (PkS w base g L (yb L.2.2.1 L.2.2.2.1 s x rest)):=by
 obtain⟨tag,v,rep,mx,hh,ents,hls,lo⟩:=s;simp only at ht hl hlv;subst ht;obtain⟨hg,V,cu,hR,hB⟩:=h;have hV:OwnV w base V v:=hB;have hps:yb L.2.2.1 L.2.2.2.1 ⟨1,v,rep,mx,hh,ents,hls,lo⟩ x rest=match jv v x with | none=>.error 8 | some r=>.ok ⟨2,v,r,mx,hh,ents,hls,lo⟩:=rfl
 rw[hps];clear hps hB;by_cases h0:v=[]
 · subst h0;obtain⟨a,c,rfl,-⟩:=hV.ents hlv;obtain⟨ge,cp,w',hrun,c7,f7,hb,hR',hE⟩:=zly hV hR hg x hl;have q7:=hR.cell 7 rfl;rw[ztq];have Hrun:=hid hrun;have HR:=hid hR';have HE:=hid hE;have Hb:=hid hb;clear hV hR hrun hR' hE hb hl hx hlv;simp only[List.length_nil] at*;go_enter Tryz.func231,Tryz.ntmps231;go_wp2_with (at_builtin;refine ym _ _ 95 rfl rfl _ _ rfl rfl _ _ Hrun.out ?_);go_ret2;exact⟨Hb.out,nx,rfl,hg,_,cu,HR.out,HE.out⟩
 · have hpos:0<v.length:=List.length_pos_iff.2 h0;obtain⟨a,c,rfl,hEn⟩:=hV.ents hlv;obtain⟨b,o,rfl,hcells⟩:=hEn.cells hpos;have hi:v.length - 1<v.length:=by omega
   have qe:=(hcells _ hi).1;have hrep:=(hlv _ (zc2 hi)).rep;rw[ztr hpos];generalize (zg v (v.length - 1)).1=y at*;have q7:=hR.cell 7 rfl
   have h64:∀z∈[y,1,x],z<18446744073709551616:=fun z hz=>by
    simp only[List.mem_cons,List.not_mem_nil,or_false] at hz;rcases hz with rfl | rfl | rfl <;> first | assumption | omega
   have H64:=hid h64;have hsum:[y,1,x].sum=y+1+x:=by simp only[List.sum_cons,List.sum_nil,Nat.add_zero,Nat.add_assoc]
   obtain⟨n,hn⟩:∃n,n=v.length:=⟨_,rfl⟩;have Hn:=hid hn;have HV:=hid hV;have HR:=hid hR;have Hl:=hid hl;have hn1:1≤n∧n≤1000000000000:=by omega
   rw[←hn] at qe q7;clear hcells hEn hi hrep h64 h0 hpos hx hlv hV hR hl hn;have e1:(n:Int) - 1=((n - 1:Nat):Int):=by omega
   by_cases hc:y+1+x<18446744073709551616
   · have hv:qk [y,1,x].sum=.tuple #[.int .u64 ((y+1+x:Nat):Int),.bool true]:=by rw[hsum];exact zd9 hc
     have HS:=hid (fun W hW=>zc9 [y,1,x] W w.heap.size 3 hW rfl H64.out (by omega) hv);rw[if_pos hc];clear hc hsum hv;generalize y+1+x=S at*;go_enter Tryz.func231,Tryz.ntmps231;go_wp2_with fail;refine(HS.out _ (by exact qi w _ _ rfl)).mono ?_;rintro e w1 ⟨rfl,hb1⟩;have hb2:Below w.heap.size w w1:=((Below.refl _ _).alloc (Nat.le_refl _) _).trans (hb1.mono (by simp));obtain⟨ge,cp,w',hrun,c7,f7,hb,hR',hE⟩:=zly (HV.out.below hb2) (HR.out.later hb2) hg S Hl.out;have p7:=(HR.out.later hb2).cell 7 rfl;rw[←Hn.out] at hrun c7 hb hR' hE p7;have Hrun:=hid hrun;have HR':=hid hR';have HE:=hid hE;have Hb:=hid ((hb2.mono (show base≤w.heap.size by have:=HR.out.lt;omega)).trans hb);clear hrun hR' hE hb hb1 hb2 qe q7 HR HV;go_wp2_with (at_builtin;refine ym _ _ 95 rfl rfl _ _ rfl rfl _ _ Hrun.out ?_);go_ret2;exact⟨Hb.out,nx,rfl,hg,_,cu,HR'.out,HE.out⟩
   · have hv:qk [y,1,x].sum=.tuple #[.int .u64 0,.bool false]:=by rw[hsum];exact zea hc
     have HS:=hid (fun W hW=>zc9 [y,1,x] W w.heap.size 3 hW rfl H64.out (by omega) hv);rw[if_neg hc];clear hc hsum hv;go_enter Tryz.func231,Tryz.ntmps231;go_wp2_with fail;refine(HS.out _ (by exact qi w _ _ rfl)).mono ?_;rintro e w1 ⟨rfl,hb1⟩;have hb2:Below w.heap.size w w1:=((Below.refl _ _).alloc (Nat.le_refl _) _).trans (hb1.mono (by simp));have HR':=hid (HR.out.later hb2);have Hb:=hid (hb2.mono (show base≤w.heap.size by have:=HR.out.lt;omega));clear hb1 hb2 qe q7 HR HV;go_wp2_with fail;go_ret2;exact⟨Hb.out,rfl,_,HR'.out,rfl⟩
end
section
open Go.RowKit
attribute [local go_sem] jc
theorem ztt (L:zb) (w:World):Calls Tryz.prog 145 #[lmV L] w fun e w'=>e=.returned (.pointer (some ⟨w.heap.size+1,0,none⟩))∧PkR w' w.heap.size (w.heap.size+1) L (pkF (w.heap.size+1) 0) ps0∧Below w.heap.size w w':=by
 unfold lmV;go_enter Tryz.func145,Tryz.ntmps145;go_wp2_with fail;go_ret;refine⟨rfl,⟨by omega,.slice none 0 0,.pointer none,?_,rfl⟩,((Below.refl _ _).alloc (Nat.le_refl _) _).alloc (by simp) _⟩;have:=zu (w.alloc (.cells #[.int .i64 L.1,.int .i64 L.2.1,.int .i64 L.2.2.1,.int .i64 L.2.2.2.1,.int .i64 L.2.2.2.2] 24)) 282 (pkC L (pkF (w.heap.size+1) 0) (.slice none 0 0) 0 0 (.pointer none));rw[World.size_alloc] at this;exact this
theorem zft (g ge n cap:Nat) (w:World) (hq:w.cell? ⟨g,7,none⟩=some (.slice (some ⟨ge,0,none⟩) (n+1) cap)) (hn:n≤1000000000000):
 Calls Tryz.prog 272 #[.pointer (some ⟨g,0,none⟩)] w fun e w'=>e=.returned (.pointer (some ⟨ge,n*3,none⟩))∧∃k,w'=w.drewN k:=by
 go_enter Tryz.func272,Tryz.ntmps272;go_wp2;go_quiet (fail);go_wp2;go_ret;exact⟨rfl,_,rfl⟩
set_option maxRecDepth 20000 in
theorem ztu (base g:Nat) (L:zb) (nx:Value) (s:PS) (x rest:Nat) (w:World) (h:PkR w base g L nx s) (ht:s.tag=0) (hL:LimsI L) (hx:x<18446744073709551616) (hr:rest<9223372036854775808):
 Calls Tryz.prog 189 #[.pointer (some ⟨g,0,none⟩),.int .u64 (x:Int),.int .i64 (rest:Int)] w (PkS w base g L (yb L.2.2.1 L.2.2.2.1 s x rest)):=by
 obtain⟨tag,v,rep,mx,hh,ents,hls,lo⟩:=s;simp only at ht;subst ht;obtain⟨hg,V,cu,hR,hB⟩:=h;have hV:V=.slice none 0 0:=hB;subst hV;have HL:=hid (zlj x L.2.2.1 rest w hx hL.c hr);have q2:=hR.cell 2 rfl;have q8:=hR.cell 8 rfl;have z8:=hR.fz 8;have HR:=hid hR;have Hg:=hid (show base≤w.heap.size by have:=hR.lt;omega);clear hB;by_cases hc:zm x L.2.2.1 rest=0
 · rw[hc] at HL;have Hc:=hid hc;clear hc hx hr;by_cases hx0:x=0
   · subst hx0
     have Hp:=hid (show yb L.2.2.1 L.2.2.2.1 ⟨0,v,rep,mx,hh,ents,hls,lo⟩ 0 rest=.error 9 from by
      show (if zm 0 L.2.2.1 rest≠0 then _ else _)=_;rw[if_neg (fun h=>h Hc.out),if_pos rfl])
     rw[Hp.out];clear hR;go_enter Tryz.func189,Tryz.ntmps189;go_wp2_with fail;refine HL.out.mono ?_;rintro e w' ⟨rfl,rfl⟩;simp only[zda,if_true];go_wp2_with fail;go_ret2;exact⟨Below.refl _ _,rfl,_,HR.out,rfl⟩
   · have Hp:=hid (show yb L.2.2.1 L.2.2.2.1 ⟨0,v,rep,mx,hh,ents,hls,lo⟩ x rest=.ok ⟨1,[],rep,mx,hh,x,hls,lo⟩ from by
      show (if zm x L.2.2.1 rest≠0 then _ else _)=_;rw[if_neg (fun h=>h Hc.out),if_neg hx0])
     rw[Hp.out];have HS:=hid (show Row (w.setCell ⟨g,8,none⟩ (.int .u64 (x:Int))) g 282 (pkC L nx (.slice none 0 0) x hls cu) from hR.set 8 _);clear hR;go_enter Tryz.func189,Tryz.ntmps189;go_wp2_with fail;refine HL.out.mono ?_;rintro e w' ⟨rfl,rfl⟩;simp only[zda,if_true];go_wp2_with fail;go_ret2;exact⟨(Below.refl _ _).setCell (p:=⟨g,8,none⟩) hg _,nx,rfl,hg,_,cu,HS.out,zjk _ _⟩
 · have Hp:=hid (show yb L.2.2.1 L.2.2.2.1 ⟨0,v,rep,mx,hh,ents,hls,lo⟩ x rest=.error (zm x L.2.2.1 rest) from by
    show (if zm x L.2.2.1 rest≠0 then _ else _)=_;rw[if_pos hc])
   rw[Hp.out];have hcv:zda (zm x L.2.2.1 rest)=.iface 35 (.int .i64 ((zm x L.2.2.1 rest:Nat):Int)):=if_neg hc;rw[hcv] at HL;clear hc hx hr hR hcv;generalize zm x L.2.2.1 rest=c at*;go_enter Tryz.func189,Tryz.ntmps189;go_wp2_with fail;refine HL.out.mono ?_;rintro e w' ⟨rfl,rfl⟩;go_wp2_with fail;go_ret2;exact⟨Below.refl _ _,rfl,_,HR.out,rfl⟩
set_option maxRecDepth 20000 in
theorem ztv (base g:Nat) (L:zb) (nx:Value) (s:PS) (x rest:Nat) (w:World) (h:PkR w base g L nx s) (ht:s.tag=2) (hl:s.v.length≤1000000000000):
 Calls Tryz.prog 260 #[.pointer (some ⟨g,0,none⟩),.int .u64 (x:Int),.int .i64 (rest:Int)] w (PkS w base g L (yb L.2.2.1 L.2.2.2.1 s x rest)):=by
 obtain⟨tag,v,rep,mx,hh,ents,hls,lo⟩:=s;simp only at ht hl;subst ht;obtain⟨hg,V,cu,hR,hB⟩:=h;have hE:EntO w base V v rep 0 []:=hB;obtain⟨ge,cap,rfl,hge,hgl,⟨C,fr,hrow⟩,c0,c1,hf,-⟩:=hE.at
 have HE:=hid (fun k=>(hE.later (zq (Below.refl _ _) k)).max x);have q7:=hR.cell 7 rfl;have HP:=hid (zft g ge v.length cap w q7 hl);have HR:=hid hR
 have Hne:=hid (show g≠ge from fun e=>by
  subst e;unfold Row at hR;rw[hrow] at hR;injection hR with hR;injection hR with _ hR _;cases hR)
 have Hp:=hid (show yb L.2.2.1 L.2.2.2.1 ⟨2,v,rep,mx,hh,ents,hls,lo⟩ x rest=.ok ⟨3,v,rep,x,hh,ents,hls,lo⟩ from rfl);rw[Hp.out];have c1':∀k,(w.drewN k).cell? ⟨ge,v.length*3+1,none⟩=some (.int .u64 0):=fun k=>c1
 have f1:∀k,(w.drewN k).frozen? ⟨ge,v.length*3+1,none⟩=false:=fun k=>hf _
 clear hE hB hrow c0 c1 hf hR q7;go_enter Tryz.func260,Tryz.ntmps260;go_wp2_with fail;refine HP.out.mono ?_;rintro e w' ⟨rfl,k,rfl⟩;go_wp2_with fail;go_ret2;exact⟨(show Below base w (w.drewN k) from zq (Below.refl _ _) k).setCell (p:=⟨ge,v.length*3+1,none⟩) hge _,nx,rfl,hg,_,cu,(show Row (w.drewN k) _ _ _ from HR.out).other (a:=⟨ge,v.length*3+1,none⟩) Hne.out _,HE.out k⟩
end
section
open Go.RowKit
attribute [local go_sem] jc
def wkC (L:zb) (part K:Value) (U C:Nat) (err:Value):List Value:=
 [.int .i64 L.1,.int .i64 L.2.1,.int .i64 L.2.2.1,.int .i64 L.2.2.2.1,.int .i64 L.2.2.2.2,part,K,.map (some U),.pointer (some ⟨C,0,none⟩),err]
def zcm:Value:=.iface 131 (.agg #[])
def vcC (left:Nat) (frm:Int) (ip:Value):List Value:=[.int .u64 (left:Int),.int .i64 frm,ip]
def sgC (left turn:Nat) (last:Int) (touch:Bool):List Value:=[.int .u64 (left:Int),.int .i64 (turn:Int),.int .i64 last,.bool touch]
def VecAt (w:World) (base R:Nat) (L:zb) (K:Value) (U C B:Nat) (s:WS):Prop:=
 (s.inner=ps0∧(∃ip,Row w B 199 (vcC s.left (-1) ip))∧KV w base K s.vs)∨
 (1≤s.inner.tag∧∃P pb wb,Row w B 199 (vcC s.left (s.frm:Int) (.pointer (some ⟨P,0,none⟩)))∧KV wb base K s.vs∧Steady 0 qw wb w∧wb.heap.size≤pb∧base≤pb∧R<pb∧U<pb∧C<pb∧B<pb∧PkR w pb P L (pkF P s.inner.tag) s.inner)
def cuC (C lo0:Nat) (s:WS):List Value:=match s.turn with | 0=>qj C 0 lo0 s.l.getLast? false | 1=>qj C 0 s.lo s.l.getLast? true | _=>qj C 0 lo0 (some (s.lo,s.hi)) false
def ztw (w:World) (C B:Nat) (s:WS):Prop:=
 ∃(last:Int) (touch:Bool) (lo0:Nat),Row w B 204 (sgC s.left s.turn last touch)∧(∀x,s.ix.getLast?=some x→last=(x:Int))∧(1≤s.turn→touch=s.tch)∧
  Row w C 193 (cuC C lo0 s)
def WkB (w:World) (base R:Nat) (L:zb) (s:WS) (part K:Value) (U C:Nat):Prop:=
 match s.tag with
 | 0=>part=.iface 123 (.agg #[])∧KV w base K s.vs∧Row w C 193 (qj C 0 0 none false)
 | 1=>∃B,part=.iface 196 (.pointer (some ⟨B,0,none⟩))∧base≤B∧Row w C 193 (qj C 0 0 none false)∧VecAt w base R L K U C B s
 | 2=>part=.iface 200 (.agg #[])∧KV w base K s.vs∧Row w C 193 (qj C 0 0 none false)
 | 3=>∃B,part=.iface 202 (.pointer (some ⟨B,0,none⟩))∧base≤B∧SegM w base K s.vs s.l s.ix∧ztw w C B s
 | _=>part=zcm∧SegM w base K s.vs s.l s.ix
def WkR (w:World) (base R:Nat) (L:zb) (s:WS):Prop:=
 base≤R∧∃part K U C,base≤U∧base≤C∧Row w R 130 (wkC L part K U C .nilIface)∧UsedM w U s.ix∧WkB w base R L s part K U C
def vd (c o:Nat):Value:=.iface 112 (.agg #[.int .i64 (c:Int),.int .i64 (o:Int)])
theorem ztx {c o:Nat} (h:c≠0):zn (zcc (c:Int) (o:Int))=vd c o:=by
 unfold zcc;rw[if_neg (by omega)]
 rfl
def WkS (w:World) (base R:Nat) (L:zb) (r:Except (Nat×Nat) WS) (e:Ending) (w':World):Prop:=
 Below base w w'∧match r with
 | .error x=>e=.returned (vd x.1 x.2)∧∃C,Row w' R 130 C∧C.length=10
 | .ok s'=>e=.returned .nilIface∧WkR w' base R L s'
theorem kr {c o:Nat} (h:c≠0) (w:World):Calls Tryz.prog 82 #[.int .i64 (c:Int),.int .i64 (o:Int)] w fun e w'=>e=.returned (vd c o)∧w=w':=
 (je (c:Int) (o:Int) w).mono fun e w' ⟨h1,h2⟩=>⟨by rw[h1,ztx h],h2⟩
theorem zlz (x:Nat) (lim:Int) (rest:Nat) (w:World) (hx:x<18446744073709551616) (hl:I64 lim) (hr:rest<9223372036854775808):
 Calls Tryz.prog 110 #[.int .u64 (x:Int),.int .i64 lim,.int .i64 (rest:Int)] w fun e w'=>e=.returned (.int .i64 ((zm x lim rest:Nat):Int))∧w=w':=by
 have hc:=zli x lim rest;obtain⟨l1,l2⟩:=hl;generalize zm x lim rest=c at*;have Hx:=hid hx;clear hx;by_cases hneg:lim<0
 · have e0:max lim 0=0:=by omega
   rw[e0] at hc;clear e0;rcases hc with ⟨h1,rfl⟩ | ⟨h1,h2,rfl⟩ | ⟨h1,h2,rfl⟩
   · have h1':0<x:=by omega
     clear h1;go_enter Tryz.func110,Tryz.ntmps110;go_wp2_with fail;go_ret;exact⟨rfl,rfl⟩
   · have h1':x=0:=by omega
     omega
   · obtain rfl:x=0:=by omega
     go_enter Tryz.func110,Tryz.ntmps110;go_wp2_with fail;go_ret;exact⟨rfl,rfl⟩
 · obtain⟨m,rfl⟩:=Int.eq_ofNat_of_zero_le (show 0≤lim by omega);have e0:max (m:Int) 0=(m:Int):=by omega
   rw[e0] at hc;clear e0;rcases hc with ⟨h1,rfl⟩ | ⟨h1,h2,rfl⟩ | ⟨h1,h2,rfl⟩
   · have h1':m<x:=by omega
     clear h1;go_enter Tryz.func110,Tryz.ntmps110;go_wp2_with fail;go_ret;exact⟨rfl,rfl⟩
   · have h1':¬m<x:=by omega
     clear h1;go_enter Tryz.func110,Tryz.ntmps110;go_wp2_with fail;go_ret;exact⟨rfl,rfl⟩
   · have h1':¬m<x:=by omega
     clear h1;go_enter Tryz.func110,Tryz.ntmps110;go_wp2_with fail;go_ret;exact⟨rfl,rfl⟩
set_option maxRecDepth 20000 in
theorem zl0 (base R:Nat) (L:zb) (s:WS) (part K:Value) (U C E next:Nat) (w:World) (hR0:base≤R) (hU:base≤U) (hC:base≤C) (hR:Row w R 130 (wkC L part K U C .nilIface)) (hu:UsedM w U s.ix) (hK:SegM w base K s.vs s.l s.ix)
 (hli:s.ix.length=s.l.length) (hix:∀i∈s.ix,i<s.vs.length) (hE:E - next<9223372036854775808) (hn:next≤E):
 Calls Tryz.prog 112 #[.pointer (some ⟨R,0,none⟩),.int .i64 (next:Int),.int .i64 ((E - next:Nat):Int)] w (WkS w base R L (js E s next)):=by
 obtain⟨ka,kc,rfl⟩:=hK.len;have hgr:=jk w R 5 zcm;have hN:=hR.notT (by rintro(h | h | h) <;> cases h);have HR:=hid (show Row (w.setCell ⟨R,5,none⟩ zcm) R 130 (wkC L zcm (.slice ka s.vs.length kc) U C .nilIface) from hR.set 5 _);have HK:=hid (hK.grown hN hgr);have HU:=hid (hu.same (hgr.block U hu.lt (fun e=>by injection e with e;exact hu.ne (show w.heap[R]?=_ from hR) e)));have q5:=hR.cell 5 rfl;have z5:=hR.fz 5;have hc:=zsx (vs:=s.vs) hli;have Hb:=hid ((Below.refl base w).setCell (p:=⟨R,5,none⟩) hR0 zcm);have Hix:=hid hix
 have hvl:s.vs.length≤9223372036854775807:=by
  obtain⟨_,X,Y,h1,h2,h3,h4,-⟩:=hK;rcases h4.2 with ⟨h',-⟩ | ⟨g,cap,cur,h',hg,hh,hnc,hcm,_⟩
  · injection h' with _ h' _;omega
  · unfold maxLen at hcm;omega
 unfold js;simp only[hc];clear hR hu hK hgr hN hc hix hli;unfold zcm at HR HK HU Hb;obtain⟨N,hN⟩:∃N,N=s.vs.length:=⟨_,rfl⟩;rw[←hN] at hvl HR HK Hix ⊢;have Hn:=hid hN;have hul:=zhl s.ix N;clear hN;by_cases h1:jb s.ix N<N
 · rw[if_pos h1];have HN:=hid (fun W=>kr (c:=10) (o:=next) (by decide) W);have hl:=fun k ty=>((HU.out.same (w':=(w.setCell ⟨R,5,none⟩ (.iface 131 (.agg #[]))).drewN k) rfl).len N Hix.out ty)
   have hd1:decide ((jb s.ix N:Int)<(N:Int))=true:=by rw[decide_eq_true_iff];omega
   have hd2:decide (jb s.ix N<N)=true:=by rw[decide_eq_true_iff];omega
   have q6:=fun k=>(show Row ((w.setCell ⟨R,5,none⟩ (.iface 131 (.agg #[]))).drewN k) R 130 _ from HR.out).cell 6 rfl
   have q7:=fun k=>(show Row ((w.setCell ⟨R,5,none⟩ (.iface 131 (.agg #[]))).drewN k) R 130 _ from HR.out).cell 7 rfl
   clear hul h1;generalize jb s.ix N=u at*;go_enter Tryz.func112,Tryz.ntmps112;go_wp2;generalize w.setCell ⟨R,5,none⟩ (.iface 131 (.agg #[]))=w1 at*;go_quiet (fail);go_wp2_with fail;refine(HN.out _).mono ?_;rintro e w' ⟨rfl,rfl⟩;go_wp2_with fail;go_ret;exact⟨zq Hb.out _,rfl,_,HR.out,rfl⟩
 · rw[if_neg h1];have hl:=fun k ty=>((HU.out.same (w':=(w.setCell ⟨R,5,none⟩ (.iface 131 (.agg #[]))).drewN k) rfl).len N Hix.out ty)
   have hd1:decide ((jb s.ix N:Int)<(N:Int))=false:=by rw[decide_eq_false_iff_not];omega
   have hd2:decide (jb s.ix N<N)=false:=by rw[decide_eq_false_iff_not];omega
   have q6:=fun k=>(show Row ((w.setCell ⟨R,5,none⟩ (.iface 131 (.agg #[]))).drewN k) R 130 _ from HR.out).cell 6 rfl
   have q7:=fun k=>(show Row ((w.setCell ⟨R,5,none⟩ (.iface 131 (.agg #[]))).drewN k) R 130 _ from HR.out).cell 7 rfl
   clear hul h1;generalize jb s.ix N=u at*;by_cases h2:next<E
   · rw[if_pos h2];have h3:0<E - next:=by omega
     have HN:=hid (fun W=>kr (c:=11) (o:=next) (by decide) W);clear h2 hE hn;generalize E - next=d at*
     go_enter Tryz.func112,Tryz.ntmps112;go_wp2;generalize w.setCell ⟨R,5,none⟩ (.iface 131 (.agg #[]))=w1 at*;go_quiet (fail);go_wp2_with fail;refine(HN.out _).mono ?_;rintro e w' ⟨rfl,rfl⟩;go_wp2_with fail;go_ret;exact⟨zq Hb.out _,rfl,_,HR.out,rfl⟩
   · obtain rfl:next=E:=by omega
     rw[if_neg h2,Nat.sub_self];clear h2 hE hn;go_enter Tryz.func112,Tryz.ntmps112;go_wp2;generalize w.setCell ⟨R,5,none⟩ (.iface 131 (.agg #[]))=w1 at*;go_quiet (fail);go_wp2_with fail;go_ret;exact⟨zq Hb.out _,rfl,hR0,_,_,U,C,hU,hC,HR.out,HU.out.same rfl,rfl,HK.out.later (zq (Below.refl _ _) _)⟩
end
section
open Go.RowKit
def KnoS (w:World) (K:Value) (k:Kno):Prop:=∃base vs l ix,SegM w base K vs l ix∧yj l∧k=zw vs l ix
theorem KnoS.steady {w w':World} {K:Value} {k:Kno} (h:KnoS w K k) (hs:Steady 0 qw w w'):KnoS w' K k:=by
 obtain⟨b,vs,l,ix,h1,h2,h3⟩:=h;exact⟨b,vs,l,ix,h1.steady hs,h2,h3⟩
theorem KnoS.later {w w':World} {K:Value} {k:Kno} (h:KnoS w K k) (hb:Below w.heap.size w w'):KnoS w' K k:=h.steady (.of_below hb)
theorem KnoS.frags {w:World} {K:Value} {k:Kno} (h:KnoS w K k):∃a c,K=.slice a k.length c∧Frags w a k.length c k:=by
 obtain⟨b,vs,l,ix,h1,h2,rfl⟩:=h;have e:(zw vs l ix).length=vs.length:=by rw[zci];simp
 rw[e];exact h1.frags h2
theorem OwnV.add {w:World} {base base':Nat} {V S:Value} {v:Vec} {r m:Nat} {h:List Iv} (hV:OwnV w base V v) (hS:w.ownsRow base' 89 2 S h.length (ivC h)) (hl:yj h) (A:Option Addr) (c:Nat) (hr:Rd w 3 A 1 [.int .u64 (r:Nat),.int .u64 (m:Nat),S]) (hb:v.length+1≤1000000000000) (hbase:base≤w.heap.size):
 ∃V' w',(Builtin.append_ #[95,95] 95 #[V,.slice A 1 c]).run Tryz.prog w=.ok V' w'∧OwnV w' base V' (v++[(r,m,h)])∧w.grownBy w' V.ownBlock∧(∀k,V.ownBlock=some k→base≤k):=by
 obtain⟨ss,ho,hh⟩:=hV;obtain⟨a,cs,rfl,hI⟩:=zji (base':=0) hS hl;obtain⟨V',w',h1,h2,h3⟩:=zbp base _ _ _ _ 3 40 Tryz.underlying95 Tryz.info_ent rfl (by omega) V v.length _ ho A 1 c _ hr (by simp[Value.oneCell']) (by unfold maxLen;omega) (by omega) hbase;have hs:Steady base ze9 w w':=.grown ho h3 (show ¬(93:TypeId)=89 by decide);refine⟨V',w',h1,⟨ss++[.slice a h.length cs],?_,(hh.snoc (e:=(r,m,h)) hI).steady (hs.lower (Nat.zero_le _)) rfl⟩,h3,fun k hk=>(ho.lt k hk).1⟩;rw[zjj hh.1,List.length_append];exact h2
abbrev zty (L:zb):List Value:=[.int .i64 L.1,.int .i64 L.2.1,.int .i64 L.2.2.1,.int .i64 L.2.2.2.1,.int .i64 L.2.2.2.2]
structure RdM (w wi:World) (g:Nat) (B:Value) (E:Nat) (L:zb) (cs:Except (Nat×Nat) Nat):Prop where
 grown:w.grownBy wi (some g)
 lim:Row wi w.heap.size 24 (zty L)
 cur:CurM wi g B E cs
theorem RdM.below {w wi w':World} {g E:Nat} {B:Value} {L:zb} {cs:Except (Nat×Nat) Nat} (h:RdM w wi g B E L cs) (hb:Below wi.heap.size wi w'):RdM w w' g B E L cs:=⟨yp h.grown hb,h.lim.later hb,CurM.later h.cur hb⟩
theorem RdM.own {w wi w':World} {g E base sz n:Nat} {B V:Value} {L:zb} {cs:Except (Nat×Nat) Nat} {T:TypeId} {xs:List Value} (h:RdM w wi g B E L cs) (ho:wi.ownsRow base T sz V n xs) (hb:w.heap.size≤base) (hT:T≠24∧T≠106) (hg:wi.grownBy w' V.ownBlock):RdM w w' g B E L cs:=
 ⟨za4 h.grown hg fun k hk=>Nat.le_trans hb (ho.lt k hk).1,h.lim.grown hg fun e=>h.lim.ne_own ho (fun e=>hT.1 e.symm) _ e.symm rfl,h.cur.grown hg fun e=>CurM.ne_own h.cur ho (fun e=>hT.2 e.symm) _ e.symm rfl⟩
structure ItemB (wz w:World) (g cu i n cap E:Nat) (B:Value) (L:zb) (cs:Except (Nat×Nat) Nat) (vs:List Vec) (l:List Iv) (ix:List Nat) (all:Value) (la:List Iv) (w':World) (gS m cS:Nat) (S:Value):Prop where
 mem:RdM w w' cu B E L cs
 lo:w.heap.size≤g
 cell:w'.cell? ⟨g,i*2,none⟩=some S
 frozen:w'.frozen? ⟨g,i*2,none⟩=false
 fin:SegB wz (w'.setCell ⟨g,i*2,none⟩ (.slice (some ⟨gS,0,none⟩) m cS)) w.heap.size (.slice (some ⟨g,0,none⟩) n cap) vs l ix all la
 limNe:g≠w.heap.size
 curNe:g≠cu
theorem ItemB.done {wz w w':World} {g cu i n cap E gS m cS:Nat} {B all S:Value} {L:zb} {cs:Except (Nat×Nat) Nat} {vs:List Vec} {l la:List Iv} {ix:List Nat} (h:ItemB wz w g cu i n cap E B L cs vs l ix all la w' gS m cS S):RdM w (w'.setCell ⟨g,i*2,none⟩ (.slice (some ⟨gS,0,none⟩) m cS)) cu B E L cs:=
 ⟨zj h.mem.grown (a:=⟨g,i*2,none⟩) _ (.inl h.lo),h.mem.lim.other (a:=⟨g,i*2,none⟩) (fun e=>h.limNe e.symm) _,h.mem.cur.other h.curNe _⟩
