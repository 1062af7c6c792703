/- Part 28. -/
import Derived.Test.YtdnipikdddfhfaaGreatDoorWd27
set_option linter.unusedVariables false
set_option maxHeartbeats 16000000
namespace Go.Proofs.YtdnipikdddfhfaaGreatDoor
open Lib (hid)
section
open Go.RowKit
attribute [local go_sem] zad
structure HoleOut (base g n cap:Nat) (v:Vec) (r m:Nat) (h:List Iv) (W w':World) (gS cS:Nat) (S:Value):Prop where
 below:Below base W w'
 cell:w'.cell? ⟨g,n*3+2,none⟩=some S
 frozen:w'.frozen? ⟨g,n*3+2,none⟩=false
 row:∀g' T C,Row W g' T C→T≠89→Row w' g' T C
 fin:∀w2,w'.grownBy w2 none→EntO (w2.setCell ⟨g,n*3+2,none⟩ (.slice (some ⟨gS,0,none⟩) h.length cS)) base (.slice (some ⟨g,0,none⟩) (n+1) cap) v r m h
theorem z3h {w W:World} {ops:Array Oper} {o:Oper} {a:Act} {K:Act→World→Prop} {Q:Exit→Act→World→Prop} {E:Prop} (hgd:o.guard=none) (s x:Operand)
 (ho:o.op=.call { callee:=.builtin .append,args:= #[s,x],argTypes:= #[91,91] }) (hty:o.type=91)
 {base g n cap:Nat} {v:Vec} {r m:Nat} {h:List Iv} (hE:EntO w base (.slice (some ⟨g,0,none⟩) (n+1) cap) v r m h) (hn:n=v.length) {S:Value} (hS:w.cell? ⟨g,n*3+2,none⟩=some S) (t:Iv) (hW:Below w.heap.size w W)
 (hs:a.eval s=S) (A:Option Addr) (c:Nat) (hx:a.eval x=.slice A 1 c) (hr:Rd W 2 A 1 (ivC [t])) (hb:h.length+1≤1000000000000)
 (hK:∀gS cS w',HoleOut base g n cap v r m (h++[t]) w w' gS cS S→K (a.put o.dst (.slice (some ⟨gS,0,none⟩) (h++[t]).length cS)) w'):
 if Region.wanted o (yielded ops a.tmps)=true then Oper.wp Tryz.prog o a W K Q else E:=by
 subst hn;obtain⟨S',w',hrun,⟨gS,cS,rfl⟩,h1,h2,h3,h4,h5,h6,h7⟩:=hE.hole hS t W hW A c hr hb;refine zfm hgd s x _ ho _ _ hs hx _ w' (by rw[hty];exact hrun) ?_;have e:(h++[t]).length=h.length+1:=by simp
 rw[←e]
 have hbw:base≤w.heap.size:=by
  obtain⟨_,_,_,q1,q2,-⟩:=hE.at
  omega
 refine hK gS cS w' ⟨(hW.mono hbw).trans h1,h3,h4,fun g' T C hR hT=>(hR.later hW).grown h5 fun e=>?_,fun w2 hw2=>by rw[e];exact h7 w2 hw2⟩;obtain⟨-,C',fr,hk⟩:=h6 g' e.symm;replace hR:=hR.later hW;unfold Row at hR;rw[hk] at hR;injection hR with hR;injection hR with _ hR _;exact hT hR.symm
set_option maxRecDepth 100000 in
theorem z3i (base g:Nat) (L:zg) (nx:Value) (s:PS) (x rest:Nat) (w:World) (h:PkR w base g L nx s) (ht:s.tag=5) (hx:x<18446744073709551616) (hF:PFit s 900000000000) (he:0<s.ents):
 Calls Tryz.prog 303 #[.pointer (some ⟨g,0,none⟩),.int .u64 (x:Int),.int .i64 (rest:Int)] w (PkS w base g L (qa L.2.2.1 L.2.2.2.1 s x rest)):=by
 have hps:qa L.2.2.1 L.2.2.2.1 s x rest=if s.lo+x<18446744073709551616∧s.lo+x<s.mx then .ok (jn s s.hls (s.h++[(s.lo,s.lo+x)])) else .error 8:=by
  unfold qa;rw[ht];rfl
 rw[hps];clear hps;obtain⟨hg,V,cu,hR,hB⟩:=h;obtain⟨hE,c,y,rfl,hbc,hy,hC⟩:EntO w base V s.v s.rep s.mx s.h∧CuAt w base cu (some s.lo) s.h:=by unfold PkB at hB;rw[ht] at hB;exact hB
 obtain rfl:=hy s.lo rfl;obtain⟨ge,cap,rfl,hge,hgl,⟨Cg,fr,hrow⟩,-,-,-,-⟩:=hE.at
 have HC:=hid (zrb c 1 s.lo x s.h.getLast? w hC hF.lo hx);have HF:=hid hF;have q10:=hR.cell 10 rfl;have HR:=hid hR;have HE:=hid hE;have HCu:=hid hC;have Hne:=hid (hR.ne hC (by decide));have Hbw:=hid (show base≤w.heap.size by have:=hR.lt;omega);have He:=hid he;have hvl:s.v.length≤1000000000000:=by have:=hF.vl;omega
 have Hgg:=hid (show g≠ge from fun e=>by
  subst e;unfold Row at hR;rw[hrow] at hR;injection hR with hR;injection hR with _ hR _;cases hR)
 have Hcg:=hid (show c≠ge from fun e=>by
  subst e;unfold Row at hC;rw[hrow] at hC;injection hC with hC;injection hC with _ hC _;cases hC)
 clear hB hy hR hE hC hF hx he ht hrow;unfold zgc at HC;by_cases hlt:s.lo+x<18446744073709551616
 · have HC2:=hid (HC.out.mono fun e w' h=>by rw[if_pos hlt] at h;exact h);have Hlt:=hid hlt;have Hs:=hid (show zk [(s.lo,s.lo+x)] from zet HF.out.lo hlt);clear HC;obtain⟨n,hn⟩:∃n,n=s.v.length:=⟨_,rfl⟩;have Hn:=hid hn;rw[←hn] at hvl;clear hlt hn;generalize hz:s.lo+x=z at*;clear hz;by_cases hm:z<s.mx
   · rw[if_pos ⟨Hlt.out,hm⟩];have d1:decide ((s.mx:Int)≤(z:Int))=false:=by rw[decide_eq_false_iff_not];omega
     have d2:decide (s.mx≤z)=false:=by rw[decide_eq_false_iff_not];omega
     clear hm;go_enter Tryz.func303,Tryz.ntmps303;go_wp2_with fail;refine HC2.out.mono ?_;rintro e w1 ⟨rfl,hc1,hg1⟩;have hR1:=HR.out.grown hg1 (fun e=>Hne.out (by injection e));have hE1:=HE.out.grown (HCu.out.notT (by rintro(h | h | h) <;> cases h)) hg1;have Hb1:=hid ((Below.refl base w).grown hg1 Hbw.out (fun k hk=>by injection hk with hk;omega));have hbl:∀o,Below w1.heap.size w1 (w1.alloc o):=fun o=>(Below.refl _ _).alloc (Nat.le_refl _) _
     have q7:=fun o=>(hR1.later (hbl o)).cell 7 rfl
     obtain⟨ge',cap',e',-,-,-,c0,c1,cf,S,lim,cS,-⟩:=hE1.at
     have e2:ge'=ge:=by injection e' with e1;injection e1 with e1;injection e1 with e1;exact e1.symm
     subst e2;rw[←Hn.out] at c1 cS;have m1:∀o,(w1.alloc o).cell? ⟨ge',n*3+1,none⟩=some (.int .u64 ((s.mx:Nat):Int)):=fun o=>((hbl o).cell (p:=⟨ge',n*3+1,none⟩) (zh c1)).trans c1
     have HR1:=hid hR1;have HE1:=hid hE1;have Hc1:=hid hc1;clear hR1 hE1 hc1 hg1 e' c0 c1 cf cS hbl;rw[←Hn.out] at q7;unfold ivV;go_wp2_with fail;go_quiet ((go_at_call 272;exact Calls.quiet_of (zic g ge' n cap _ (by exact q7 _) hvl)));obtain⟨w2,hw2⟩:∃w2,w2=w1.alloc (.cells #[.int .u64 ((s.lo:Nat):Int),.int .u64 ((z:Nat):Int)] 89):=⟨_,rfl⟩;have hb2:Below w1.heap.size w1 w2:=by rw[hw2];exact(Below.refl _ _).alloc (Nat.le_refl _) _
     have hX:Row w2 w1.heap.size 89 [.int .u64 ((s.lo:Nat):Int),.int .u64 ((z:Nat):Int)]:=by rw[hw2];exact ju _ _ _
     rw[←hw2];clear hw2 q7 m1;have hR2:=HR1.out.later hb2;have hE2:=HE1.out.later hb2;have q7:w2.cell? ⟨g,7,none⟩=some (.slice (some ⟨ge',0,none⟩) (n+1) cap):=by have:=hR2.cell 7 rfl;rw[←Hn.out] at this;exact this
     have x0:=hX.cell 0 rfl;have x1:=hX.cell 1 rfl;have HX:=hid hX;have HR2:=hid hR2;have HE2:=hid hE2;have Hb2:=hid hb2;obtain⟨ge2,cap2,e',-,-,-,c0,c1,cf,S,lim,cS,-⟩:=hE2.at
     have e2:ge2=ge':=by injection e' with e1;injection e1 with e1;injection e1 with e1;exact e1.symm
     subst e2;rw[←Hn.out] at cS hE2;have hhl:s.h.length+1≤1000000000000:=by have:=HF.out.hl;omega
     have Hhl:=hid hhl;have q7o:∀k o,((w2.drewN k).alloc o).cell? ⟨g,7,none⟩=some (.slice (some ⟨ge2,0,none⟩) (n+1) cap):=fun k o=>((((Below.refl w2.heap.size w2)).alloc (Nat.le_refl _) o).cell (p:=⟨g,7,none⟩) (zh q7)).trans q7
     have cSo:∀k o,((w2.drewN k).alloc o).cell? ⟨ge2,n*3+2,none⟩=some S:=fun k o=>((((Below.refl w2.heap.size w2)).alloc (Nat.le_refl _) o).cell (p:=⟨ge2,n*3+2,none⟩) (zh cS)).trans cS
     clear hX hR2 hb2 e' c0 c1 cf hhl;go_wp2_with fail
     go_region_law (first
      | (go_simp;go_at_call 272;refine(zic g ge2 n cap _ (by first | exact q7 | exact q7o _ _) hvl).mono ?_;rintro e w3 ⟨rfl,k,rfl⟩)
      | (refine z3h rfl (.tmp 38) (.tmp 40) rfl rfl hE2 Hn.out cS (s.lo,z) ?hW rfl _ _ rfl (vy (yp _ _ _ (by simp)) rfl rfl) Hhl.out ?_
         case hW=>repeat (first | exact Below.refl _ _ | refine Below.alloc ?_ (by simp) _ | refine Below.drew ?_ | refine zy ?_ _)
         intro gS cS w4 hO;have hq:=hO.cell;have hf:=hO.frozen;have HO:=hid hO;clear hO))
     all_goals go_wp2_with fail
     all_goals
      have hR4:=HO.out.row g _ _ HR2.out (by decide);have hC4:=HO.out.row c _ _ (Hc1.out.later Hb2.out) (by decide);have hfin:=HO.out.fin w4 (jk _ _);have e9:(s.h++[(s.lo,z)]).length=s.h.length+1:=by simp
      rw[e9] at hfin;have hR5:=hR4.other (a:=⟨ge2,n*3+2,none⟩) Hgg.out (.slice (some ⟨gS,0,none⟩) (s.h.length+1) cS);have HC5:=hid (hC4.other (a:=⟨ge2,n*3+2,none⟩) Hcg.out (.slice (some ⟨gS,0,none⟩) (s.h.length+1) cS));have HB5:=hid ((((Hb1.out.trans (Hb2.out.mono (Nat.le_trans Hbw.out Hb1.out.size)))).trans HO.out.below).setCell (p:=⟨ge2,n*3+2,none⟩) hge (.slice (some ⟨gS,0,none⟩) (s.h.length+1) cS));have HH:=hid (zr1 g L nx _ _ s s.hls (s.h++[(s.lo,z)]) _ hR5 He.out HF.out.ents HF.out.hls);have HE5:=hid hfin;have HR5:=hid hR5;clear hR4 hC4 hfin e9 hR5 hq hf x0 x1 cSo q7o hE2 q10;refine HH.out.mono ?_;rintro e w6 ⟨rfl,hR6,hg6⟩;have HR6:=hid hR6;have hN:=HR5.out.notT (by rintro(h | h | h) <;> cases h);have HE6:=hid (HE5.out.grown hN hg6);have HC6:=hid (HC5.out.grown hg6 (fun e=>by injection e with e;exact Hne.out e.symm));have Hb6:=hid (HB5.out.grown hg6 (by have:=HB5.out.size;have:=Hbw.out;omega) (fun k hk=>by injection hk with hk;omega));clear hR6 hN hg6;generalize hnh:jn s s.hls (s.h++[(s.lo,z)])=s' at*;have Hnh:=hid hnh;clear hnh;generalize hF:pkF g s'.tag=F at*;have HF':=hid hF;clear hF;go_wp2_with fail;go_ret2;refine⟨Hb6.out,nx,by rw[HF'.out];rfl,hg,_,_,HR6.out,?_⟩;rw[←Hnh.out];refine zr2 (by rw[←Hn.out];exact HE6.out) ⟨c,s.lo,rfl,hbc,fun y h=>(by cases h),?_⟩ (fun t ht=>?_)
      · have e8:(s.h++[(s.lo,z)]).getLast?=some (s.lo,z):=by simp
        rw[e8];exact HC6.out
      · rcases List.mem_append.1 ht with h | h
        · exact HF.out.h t h
        · exact Hs.out t h
   · rw[if_neg (fun h=>hm h.2)];have d1:decide ((s.mx:Int)≤(z:Int))=true:=by rw[decide_eq_true_iff];omega
     have d2:decide (s.mx≤z)=true:=by rw[decide_eq_true_iff];omega
     clear hm;go_enter Tryz.func303,Tryz.ntmps303;go_wp2_with fail;refine HC2.out.mono ?_;rintro e w1 ⟨rfl,hc1,hg1⟩;have hR1:=HR.out.grown hg1 (fun e=>Hne.out (by injection e));have hE1:=HE.out.grown (HCu.out.notT (by rintro(h | h | h) <;> cases h)) hg1;have Hb1:=hid ((Below.refl base w).grown hg1 Hbw.out (fun k hk=>by injection hk with hk;omega));have hbl:∀o,Below w1.heap.size w1 (w1.alloc o):=fun o=>(Below.refl _ _).alloc (Nat.le_refl _) _
     have q7:=fun o=>(hR1.later (hbl o)).cell 7 rfl
     obtain⟨ge',cap',e',-,-,-,c0,c1,cf,S,lim,cS,-⟩:=hE1.at
     have e2:ge'=ge:=by injection e' with e1;injection e1 with e1;injection e1 with e1;exact e1.symm
     subst e2;rw[←Hn.out] at c1;have m1:∀o,(w1.alloc o).cell? ⟨ge',n*3+1,none⟩=some (.int .u64 ((s.mx:Nat):Int)):=fun o=>((hbl o).cell (p:=⟨ge',n*3+1,none⟩) (zh c1)).trans c1
     have HRf:=hid (fun o=>hR1.later (hbl o));have HBf:=hid (fun o=>Hb1.out.trans ((hbl o).mono (Nat.le_trans Hbw.out Hb1.out.size)));clear hR1 hE1 hc1 hg1 e' c0 c1 cf cS hbl;rw[←Hn.out] at q7;unfold ivV;go_wp2_with fail;go_quiet ((go_at_call 272;exact Calls.quiet_of (zic g ge' n cap _ (by exact q7 _) hvl)));all_goals go_wp2_with fail
     all_goals go_ret2
     all_goals exact⟨zy (HBf.out _) _,rfl,_,HRf.out _,rfl⟩
 · have HC2:=hid (HC.out.mono fun e w' h=>by rw[if_neg hlt] at h;exact h);rw[if_neg (fun h=>hlt h.1)];clear HC hlt;go_enter Tryz.func303,Tryz.ntmps303;go_wp2_with fail;refine HC2.out.mono ?_;rintro e w1 ⟨rfl,hc1,hg1⟩;have hR1:=HR.out.grown hg1 (fun e=>Hne.out (by injection e));have Hb1:=hid ((Below.refl base w).grown hg1 Hbw.out (fun k hk=>by injection hk with hk;omega));have hbl:∀o,Below w1.heap.size w1 (w1.alloc o):=fun o=>(Below.refl _ _).alloc (Nat.le_refl _) _
   have HRf:=hid (fun o=>hR1.later (hbl o));have HBf:=hid (fun o=>Hb1.out.trans ((hbl o).mono (Nat.le_trans Hbw.out Hb1.out.size)));clear hR1 hc1 hg1 hbl;unfold ivV;go_wp2_with fail;go_quiet (fail);all_goals go_wp2_with fail
   all_goals go_ret2
   all_goals exact⟨zy (HBf.out _) _,rfl,_,HRf.out _,rfl⟩
end
section
open Go.RowKit
theorem UsedM.grownT {w w':World} {U g:Nat} {ix:List Nat} {T:TypeId} {C:List Value} (h:UsedM w U ix) (hR:Row w g T C) (hg:w.grownBy w' (some g)):UsedM w' U ix:=
 h.same (hg.block U h.lt (fun e=>by injection e with e;exact h.ne (show w.heap[g]?=_ from hR) e))
structure VRows (w:World) (base R:Nat) (L:zg) (part K:Value) (U C B left:Nat) (fr:Int) (ip:Value) (ix:List Nat) (vs:List Vec):Prop where
 row:Row w R 130 (wkC L part K U C .nilIface)
 vrow:Row w B 199 (vcC left fr ip)
 cur:Row w C 193 (jj C 0 0 none false)
 used:UsedM w U ix
 kv:KV w base K vs
theorem zif {W:World} {base R:Nat} {L:zg} {part K:Value} {U C B left:Nat} {fr:Int} {ip:Value} {ix:List Nat} {vs:List Vec} (h:VRows W base R L part K U C B left fr ip ix vs) (hb:base≤R) {V:Value} {v:Vec} (hV:EnSl W 0 V v) (hl:vs.length+1≤1000000000000):
 ∃gK cK w3,(Builtin.append_ #[27,27] 27 #[K,.slice (some ⟨W.heap.size,0,none⟩) 1 1]).run Tryz.prog (W.alloc (.cells #[.slice none 0 0,V] 97))=.ok (.slice (some ⟨gK,0,none⟩) (vs.length+1) cK) w3∧Below base W w3∧
  Row w3 R 130 (wkC L part K U C .nilIface)∧Row w3 B 199 (vcC left fr ip)∧Row w3 C 193 (jj C 0 0 none false)∧UsedM w3 U ix∧KV w3 base (.slice (some ⟨gK,0,none⟩) (vs.length+1) cK) (vs++[v]):=by
 have hal:Below W.heap.size W (W.alloc (.cells #[.slice none 0 0,V] 97)):=(Below.refl _ _).alloc (Nat.le_refl _) _;have hbW:base≤W.heap.size:=by have:=h.row.lt;omega
 have hVs:EnSl (W.alloc (.cells #[.slice none 0 0,V] 97)) 0 V v:=hV.steady (P:=fun _=>True) (.of_below hal) trivial trivial;have hKa:=h.kv.later hal;obtain⟨K',w3,hrun,hK',hg,hk⟩:=hKa.snoc hVs (some ⟨W.heap.size,0,none⟩) 1 (vy (yp W (.cells #[.slice none 0 0,V] 97) _ rfl) rfl rfl) hl (Nat.le_trans hbW hal.size);have hK2:=hK';obtain⟨Y,hoK,-⟩:=hK2;obtain⟨gK,cK,e,-⟩:=zbq hoK (by simp);have eL:(vs++[v]).length=vs.length+1:=by simp
 rw[eL] at e;subst e;obtain⟨Y0,ho0,-⟩:=hKa;have ne:∀{g T C},Row (W.alloc (.cells #[.slice none 0 0,V] 97)) g T C→T≠97→some g≠K.ownBlock:=fun hR hT e=>hR.ne_own ho0 hT _ e.symm rfl
 refine⟨gK,cK,w3,hrun,Below.grown (hal.mono hbW) hg (Nat.le_trans hbW hal.size) hk,(h.row.later hal).grown hg (ne (h.row.later hal) (by decide)),(h.vrow.later hal).grown hg (ne (h.vrow.later hal) (by decide)),(h.cur.later hal).grown hg (ne (h.cur.later hal) (by decide)),?_,hK'⟩;have hU:=h.used.same (hal.block U h.used.lt);refine hU.same (hg.block U hU.lt fun e=>?_);rcases ho0.2 with ⟨e',_⟩ | ⟨b,cap,cur,e',_,hh,_⟩
 · rw[e'] at e;cases e
 · rw[e'] at e;injection e with e;subst e;exact hU.ne hh rfl
theorem zdh {w:World} {base R:Nat} {L:zg} {part K:Value} {U C B left:Nat} {fr:Int} {ip:Value} {ix:List Nat} {vs:List Vec} {K':Value} (hR:Row w R 130 (wkC L part K U C .nilIface)) (hB:Row w B 199 (vcC left fr ip)) (hC:Row w C 193 (jj C 0 0 none false)) (hu:UsedM w U ix) (hK:KV w base K' vs) (left':Nat):
 VRows (((w.setCell ⟨R,6,none⟩ K').setCell ⟨B,1,none⟩ (.int .i64 (-1))).setCell ⟨B,0,none⟩ (.int .u64 (left':Int))) base R L part K' U C B left' (-1) ip ix vs:=by
 have g1:=kd w R 6 K';have hR1:Row (w.setCell ⟨R,6,none⟩ K') R 130 (wkC L part K' U C .nilIface):=hR.set 6 _;have nRB:=hR.ne hB (by decide);have hB1:=hB.grown g1 (fun e=>by injection e with e;exact nRB e.symm);have hC1:=hC.grown g1 (fun e=>by injection e with e;exact hR.ne hC (by decide) e.symm);have hu1:=hu.grownT hR g1;have hK1:=hK.grown (hR.notT (by rintro(h | h | h) <;> cases h)) g1;have g2:(w.setCell ⟨R,6,none⟩ K').grownBy (((w.setCell ⟨R,6,none⟩ K').setCell ⟨B,1,none⟩ (.int .i64 (-1))).setCell ⟨B,0,none⟩ (.int .u64 (left':Int))) (some B):=zn (a:=⟨B,0,none⟩) (zn (a:=⟨B,1,none⟩) (jk _ _) _ (.inr rfl)) _ (.inr rfl);refine⟨hR1.grown g2 (fun e=>by injection e with e;exact nRB e),(hB1.set 1 (.int .i64 (-1))).set 0 (.int .u64 (left':Int)),hC1.grown g2 (fun e=>by injection e with e;exact hB1.ne hC1 (by decide) e.symm),hu1.grownT hB1 g2,hK1.grown (hB1.notT (by rintro(h | h | h) <;> cases h)) g2⟩
theorem VRows.more {w:World} {base R:Nat} {L:zg} {K ip:Value} {U C B left:Nat} {s:WS} {vs:List Vec} (h:VRows w base R L (.iface 196 (.pointer (some ⟨B,0,none⟩))) K U C B left (-1) ip s.ix vs) (ht:s.tag=1) (hR:base≤R) (hU:base≤U) (hC:base≤C) (hB:base≤B):WkR w base R L { s with vs:=vs,left:=left,inner:=ps0 }:=by
 refine⟨hR,_,K,U,C,hU,hC,h.row,h.used,?_⟩;unfold WkB;simp only[ht];exact⟨B,rfl,hB,h.cur,.inl ⟨rfl,⟨ip,h.vrow⟩,h.kv⟩⟩
theorem VRows.mid {w:World} {base R:Nat} {L:zg} {part K ip:Value} {U C B left:Nat} {fr:Int} {s:WS} {vs:List Vec} (h:VRows w base R L part K U C B left fr ip s.ix vs) (hR:base≤R) (hU:base≤U) (hC:base≤C):WkR (w.setCell ⟨R,5,none⟩ (.iface 200 (.agg #[]))) base R L { s with tag:=2,vs:=vs,left:=0,inner:=ps0 }:=by
 have g1:=kd w R 5 (.iface 200 (.agg #[]));exact⟨hR,_,K,U,C,hU,hC,h.row.set 5 _,h.used.grownT h.row g1,rfl,h.kv.grown (h.row.notT (by rintro(h | h | h) <;> cases h)) g1,h.cur.grown g1 (fun e=>by injection e with e;exact h.row.ne h.cur (by decide) e.symm)⟩
theorem z3j {l:List Iv} (h:0<l.length):z7 l=some (za l (l.length - 1)).2:=by
 unfold z7;rw[List.getLast?_eq_getElem?,List.getElem?_eq_getElem (by omega),yw (by omega)]
 rfl
theorem z3k (lo y:Nat):[lo,y].sum=lo+y:=by simp
theorem z3l (prev:Option Nat) (b:Bool) (h ap x:Nat) (w:World) (hb:prev.isNone=b) (hp:∀y,prev=some y→y=h) (h1:h<18446744073709551616) (h2:ap≤1) (h3:x<18446744073709551616):
 Calls Tryz.prog 136 #[.bool b,.int .u64 h,.int .u64 ap,.int .u64 x] w fun e w'=>e=.returned (loV (loP prev ap x))∧Below w.heap.size w w':=by
 subst hb;exact z0z prev h ap x w hp h1 h2 h3
theorem z3m (W:World) (g0 lo y:Nat) (h:W.heap[g0]?=some (.cells (zo [lo,y]).toArray 43)) (h1:lo<18446744073709551616) (h2:y<18446744073709551616):
 Calls Tryz.prog 137 #[.slice (some ⟨g0,0,none⟩) 2 2] W fun e w'=>e=.returned (jl (lo+y))∧Below W.heap.size W w':=
 zk6 [lo,y] W g0 2 h rfl (fun z hz=>by
  simp only[List.mem_cons,List.not_mem_nil,or_false] at hz;rcases hz with rfl | rfl <;> assumption) (by omega) (congrArg jl (z3k lo y))
def z3n (T:zt) (r:Option Nat) (q q1:Nat):RR (Iv×Nat):=match r with | none=>.error (8,q) | some lo=>hiP T lo q1
theorem zeg {s:Nat} (h:s<18446744073709551616):jl s=.tuple #[.int .u64 (s:Int),.bool true]:=if_pos h
theorem zlm {s:Nat} (h:¬s<18446744073709551616):jl s=.tuple #[.int .u64 0,.bool false]:=if_neg h
theorem CurM.other {w:World} {g R i:Nat} {B:Value} {E:Nat} {s:Except (Nat×Nat) Nat} (h:CurM w g B E s) (ha:R≠g) (v:Value):CurM (w.setCell ⟨R,i,none⟩ v) g B E s:=by
 cases s with
 | ok q=>exact Row.other h (a:=⟨R,i,none⟩) (fun e=>ha e.symm) v
 | error e=>obtain⟨q,h⟩:=h;exact⟨q,Row.other h (a:=⟨R,i,none⟩) (fun e=>ha e.symm) v⟩
abbrev ivT (s:Iv):Value:=.agg #[.int .u64 (s.1:Nat),.int .u64 (s.2:Nat)]
set_option maxRecDepth 20000 in
theorem zsg {w:World} {g n cap E q nl cl ap:Nat} {a al:Option Addr} {l:List Nat} {pv:List Iv} (hB:∀W,w.grownBy W (some g)→Rf W a n cap E l) (h:CurM w g (.slice a n cap) E (.ok q)) (hq:q≤n) (hqE:q≤E)
 (hIv:∀W,w.grownBy W (some g)→Ivs W al nl cl pv) (hap:ap≤1):
 Calls Tryz.prog 99 #[.pointer (some ⟨g,0,none⟩),.slice al nl cl,.int .u64 ap] w fun e w'=>yd (ivP (zf l E) (z7 pv) ap q) e w w' g (.slice a n cap) E (fun s=>e=.returned (ivT s.1)) (e=.returned (ivT (0,0))):=by
 have hg:=CurM.lt h;have hI0:=hIv w (jk _ _);have hlen:=hI0.len;have hnm:nl≤9223372036854775807:=Nat.le_trans hI0.room hI0.most;have Hlt:=hid (hB w (jk _ _)).b.lt;obtain⟨w0,hw0⟩:∃w0,w0=w.alloc (.cells #[.int .u64 0,.int .u64 0] 89):=⟨_,rfl⟩;have Hw0:=hid hw0;have HR0:=hid (show Row w0 w.heap.size 89 [.int .u64 0,.int .u64 0] from by rw[hw0];exact ju w _ _);have HG0:=hid (show w.grownBy w0 (some g) from by rw[hw0];exact zxn (jk _ _) _);have HC0:=hid (show CurM w0 g (.slice a n cap) E (.ok q) from by rw[hw0];exact CurM.later h ((Below.refl _ _).alloc (Nat.le_refl _) _));have HN0:=hid (ze7 (hB _ HG0.out) HC0.out hq hqE);have HB:=hid hB;have HIv:=hid hIv;have Hgr:Hid (some w.heap.size≠some g):=hid (by intro e;injection e;omega);have Hgs:=hid (show w.heap.size≠g by omega);clear hw0 hB h hI0 hIv hg
 obtain⟨hv,b,hb0,hpv,hv64⟩:∃(hv:Nat) (b:Bool),((nl:Int) == 0)=b∧((nl=0∧hv=0∧z7 pv=none∧b=true)∨(0<nl∧hv=(za pv (nl - 1)).2∧z7 pv=some hv∧b=false))∧hv<18446744073709551616:=by
  rcases Nat.eq_zero_or_pos nl with h0 | h0
  · refine⟨0,true,by rw[beq_iff_eq];omega,.inl ⟨h0,rfl,?_,rfl⟩,by decide⟩;rw[List.eq_nil_of_length_eq_zero (by omega:pv.length=0)];rfl
  · refine⟨_,false,by rw[beq_eq_false_iff_ne];omega,.inr ⟨h0,rfl,?_,rfl⟩,?_⟩
    · rw[z3j (by omega),hlen]
    · exact((HIv.out w (jk _ _)).lt _ (zas (by omega))).2
 have hiso:(z7 pv).isNone=b∧∀y,z7 pv=some y→y=hv:=by
  rcases hpv with ⟨-,rfl,e,rfl⟩ | ⟨-,-,e,rfl⟩
  · rw[e];exact⟨rfl,fun y hy=>by cases hy⟩
  · rw[e];exact⟨rfl,fun y hy=>by cases hy;rfl⟩
 have HLo:=hid (fun W x (hx:x<18446744073709551616)=>z3l (z7 pv) b hv ap x W hiso.1 hiso.2 hv64 hap hx);have Hlo64:=hid (fun x lo (hx:x<18446744073709551616) (e:loP (z7 pv) ap x=some lo)=>zlf hx e);have HS:=hid z3m
 have Hlast:=hid (fun W (hW:w.grownBy W (some g)) (h0:0<nl) (e:hv=(za pv (nl - 1)).2)=>show ∃bb oo,al=some ⟨bb,oo,none⟩∧W.cell? ⟨bb,oo+(nl - 1)*2+1,none⟩=some (.int .u64 (hv:Nat)) from by
  obtain⟨bb,oo,rfl,hc⟩:=(HIv.out W hW).cells h0;exact⟨bb,oo,rfl,by rw[e];exact(hc (nl - 1) (by omega)).2⟩)
 clear HIv hlen hiso
 cases hT:zf l E q with
 | error c=>
  have Hr:=hid (show ivP (zf l E) (z7 pv) ap q=.error (c,q) from by unfold ivP nmP;rw[hT];rfl);have HT:=hid hT;clear hT;obtain⟨r,hr⟩:∃r,r=loP (z7 pv) ap 0:=⟨_,rfl⟩;have HL:=hid (fun W=>HLo.out W 0 (by decide));have H0:=hid (fun lo=>Hlo64.out 0 lo (by decide));rw[←hr] at HL H0;clear hr HLo Hlo64;go_enter Tryz.func99,Tryz.ntmps99;go_wp2_with fail;rw[←Hw0.out];refine HN0.out.mono ?_;rintro e w1 ⟨hg1,x,rfl,-,h2⟩;obtain⟨rfl,hC1⟩:=h2 c HT.out;have HG1:=hid (yr HG0.out hg1);have HC1:=hid hC1;have HR1:=hid (HR0.out.grown hg1 Hgr.out);clear hg1 h2 hC1;rcases hpv with ⟨h0,rfl,e0,rfl⟩ | ⟨h0,e1,e0,rfl⟩
  case' inl=>
   have hd:decide (0<(nl:Int))=false:=by rw[decide_eq_false_iff_not];omega
  case' inr=>
   have hd:decide (0<(nl:Int))=true:=by rw[decide_eq_true_iff];omega
   obtain⟨bb,oo,rfl,hcell⟩:=Hlast.out w1 HG1.out h0 e1;have hsub:IntKind.i64.wrap ((nl:Int) - 1)=((nl - 1:Nat):Int):=by rw[IntKind.wrap_i64];omega
   have h1:(0:Int)≤((nl - 1:Nat):Int):=by omega
   have h2:((nl - 1:Nat):Int)<(nl:Int):=by omega
   clear e1 h0;generalize nl - 1=m at*
  all_goals
   go_wp2_with fail;refine(HL.out w1).mono ?_;rintro e w2 ⟨rfl,hb2⟩;have HG2:=hid (ji HG1.out hb2);have HC2:=hid (CurM.later HC1.out hb2);have HR2:=hid (HR1.out.later hb2);clear hb2
   cases r with
   | none=>
    unfold loV;go_wp2_with fail;refine(zia (c:=8) (p:=q) HC2.out).mono ?_;rintro e w6 ⟨rfl,rfl⟩;go_wp2_with fail;refine(zc1 HC2.out).mono ?_;rintro e w7 ⟨rfl,rfl⟩;go_wp2_with fail;refine(HS.out _ w2.heap.size 0 0 (by exact yp w2 _ _ rfl) (by decide) (by decide)).mono ?_;rintro e w8 ⟨rfl,hb8⟩;have hal:=(Below.refl w2.heap.size w2).alloc (Nat.le_refl _) (.cells #[.int .u64 (0:Nat),.int .u64 0] 43);have hb9:=hal.trans (hb8.mono hal.size);have HG8:=hid (ji HG2.out hb9);have HC8:=hid (CurM.later HC2.out hb9);have HR8:=hid (HR2.out.later hb9);rw[Nat.add_zero,zeg (by decide)];clear hal hb8 hb9;go_wp2_with fail;refine(vw HC8.out).mono ?_;rintro e w9 ⟨rfl,rfl⟩;have c0:=HR8.out.cell 0 rfl;have c1:=HR8.out.cell 1 rfl;have f0:=HR8.out.fz 0;have f1:=HR8.out.fz 1;have HRf:=hid ((HR8.out.set 0 (.int .u64 0)).set 1 (.int .u64 0));have HCf:=hid ((HC8.out.other Hgs.out (.int .u64 0) (i:=0)).other Hgs.out (.int .u64 0) (i:=1));have HGf:=hid (zn (zn HG8.out (a:=⟨w.heap.size,0,none⟩) (.int .u64 0) (.inl (Nat.le_refl _))) (a:=⟨w.heap.size,1,none⟩) (.int .u64 0) (.inl (Nat.le_refl _)));go_wp2_with fail;refine bodyPost_ret (results_cell_row rfl _ _ w.heap.size 89 #[.int .u64 0,.int .u64 0] (0,0) _ rfl HRf.out Tryz.underlying89 rfl (by kernel_rfl)) rfl ?_;unfold yd;rw[Hr.out]
    exact⟨HGf.out,HCf.out,rfl⟩
   | some lo=>
    have Hl64:=hid (H0.out lo rfl);unfold loV;go_wp2_with fail;refine(zc1 HC2.out).mono ?_;rintro e w7 ⟨rfl,rfl⟩;go_wp2_with fail;refine(HS.out _ w2.heap.size lo 0 (by exact yp w2 _ _ rfl) Hl64.out (by decide)).mono ?_;rintro e w8 ⟨rfl,hb8⟩;have hal:=(Below.refl w2.heap.size w2).alloc (Nat.le_refl _) (.cells #[.int .u64 (lo:Nat),.int .u64 0] 43);have hb9:=hal.trans (hb8.mono hal.size);have HG8:=hid (ji HG2.out hb9);have HC8:=hid (CurM.later HC2.out hb9);have HR8:=hid (HR2.out.later hb9);rw[Nat.add_zero,zeg Hl64.out];clear hal hb8 hb9;go_wp2_with fail;refine(vw HC8.out).mono ?_;rintro e w9 ⟨rfl,rfl⟩;have c0:=HR8.out.cell 0 rfl;have c1:=HR8.out.cell 1 rfl;have f0:=HR8.out.fz 0;have f1:=HR8.out.fz 1;have HRf:=hid ((HR8.out.set 0 (.int .u64 0)).set 1 (.int .u64 0));have HCf:=hid ((HC8.out.other Hgs.out (.int .u64 0) (i:=0)).other Hgs.out (.int .u64 0) (i:=1));have HGf:=hid (zn (zn HG8.out (a:=⟨w.heap.size,0,none⟩) (.int .u64 0) (.inl (Nat.le_refl _))) (a:=⟨w.heap.size,1,none⟩) (.int .u64 0) (.inl (Nat.le_refl _)));go_wp2_with fail;refine bodyPost_ret (results_cell_row rfl _ _ w.heap.size 89 #[.int .u64 0,.int .u64 0] (0,0) _ rfl HRf.out Tryz.underlying89 rfl (by kernel_rfl)) rfl ?_;unfold yd;rw[Hr.out]
    exact⟨HGf.out,HCf.out,rfl⟩
 | ok y=>
  obtain⟨x,q1⟩:=y;obtain⟨t1,t2,t3,t4,-⟩:=za8 Hlt.out hT;rw[(HB.out w (jk _ _)).b.len] at t2;obtain⟨r,hr⟩:∃r,r=loP (z7 pv) ap x:=⟨_,rfl⟩;have HL:=hid (fun W=>HLo.out W x t4);have H0:=hid (fun lo=>Hlo64.out x lo t4);have hiv:ivP (zf l E) (z7 pv) ap q=z3n (zf l E) r q q1:=by rw[hr];unfold ivP nmP;rw[hT];rfl
  rw[←hr] at HL H0;have HT:=hid hT;have Hiv:=hid hiv;have HN2:=hid (fun W (hW:w.grownBy W (some g)) (hC:CurM W g (.slice a n cap) E (.ok q1))=>ze7 (HB.out W hW) hC t2 t3);clear hr HLo Hlo64 hT hiv t1 t2 t3;go_enter Tryz.func99,Tryz.ntmps99;go_wp2_with fail;rw[←Hw0.out];refine HN0.out.mono ?_;rintro e w1 ⟨hg1,x',rfl,h1',-⟩;obtain⟨e1',hC1⟩:=h1' _ HT.out;obtain rfl:x'=x:=e1';have HG1:=hid (yr HG0.out hg1);have HC1:=hid hC1;have HR1:=hid (HR0.out.grown hg1 Hgr.out);clear hg1 h1' hC1;rcases hpv with ⟨h0,rfl,e0,rfl⟩ | ⟨h0,e1,e0,rfl⟩
  case' inl=>
   have hd:decide (0<(nl:Int))=false:=by rw[decide_eq_false_iff_not];omega
  case' inr=>
   have hd:decide (0<(nl:Int))=true:=by rw[decide_eq_true_iff];omega
   obtain⟨bb,oo,rfl,hcell⟩:=Hlast.out w1 HG1.out h0 e1;have hsub:IntKind.i64.wrap ((nl:Int) - 1)=((nl - 1:Nat):Int):=by rw[IntKind.wrap_i64];omega
   have h1:(0:Int)≤((nl - 1:Nat):Int):=by omega
   have h2:((nl - 1:Nat):Int)<(nl:Int):=by omega
   clear e1 h0;generalize nl - 1=m at*
  all_goals
   go_wp2_with fail;refine(HL.out w1).mono ?_;rintro e w2 ⟨rfl,hb2⟩;have HG2:=hid (ji HG1.out hb2);have HC2:=hid (CurM.later HC1.out hb2);have HR2:=hid (HR1.out.later hb2);clear hb2
   cases r with
   | none=>
    have Hr:=hid (show ivP (zf l E) (z7 pv) ap q=.error (8,q) from Hiv.out);unfold loV;go_wp2_with fail;refine(za7 (c:=8) (p:=q) HC2.out (by decide)).mono ?_;rintro e w6 ⟨rfl,hg6,hC6⟩;have HG6:=hid (yr HG2.out hg6);have HC6:=hid hC6;have HR6:=hid (HR2.out.grown hg6 Hgr.out);clear hg6 hC6;go_wp2_with fail;refine(zc1 HC6.out).mono ?_;rintro e w7 ⟨rfl,rfl⟩;go_wp2_with fail;refine(HS.out _ w6.heap.size 0 0 (by exact yp w6 _ _ rfl) (by decide) (by decide)).mono ?_;rintro e w8 ⟨rfl,hb8⟩;have hal:=(Below.refl w6.heap.size w6).alloc (Nat.le_refl _) (.cells #[.int .u64 (0:Nat),.int .u64 0] 43);have hb9:=hal.trans (hb8.mono hal.size);have HG8:=hid (ji HG6.out hb9);have HC8:=hid (CurM.later HC6.out hb9);have HR8:=hid (HR6.out.later hb9);rw[Nat.add_zero,zeg (by decide)];clear hal hb8 hb9;go_wp2_with fail;refine(vw HC8.out).mono ?_;rintro e w9 ⟨rfl,rfl⟩;have c0:=HR8.out.cell 0 rfl;have c1:=HR8.out.cell 1 rfl;have f0:=HR8.out.fz 0;have f1:=HR8.out.fz 1;have HRf:=hid ((HR8.out.set 0 (.int .u64 0)).set 1 (.int .u64 0));have HCf:=hid ((HC8.out.other Hgs.out (.int .u64 0) (i:=0)).other Hgs.out (.int .u64 0) (i:=1));have HGf:=hid (zn (zn HG8.out (a:=⟨w.heap.size,0,none⟩) (.int .u64 0) (.inl (Nat.le_refl _))) (a:=⟨w.heap.size,1,none⟩) (.int .u64 0) (.inl (Nat.le_refl _)));go_wp2_with fail;refine bodyPost_ret (results_cell_row rfl _ _ w.heap.size 89 #[.int .u64 0,.int .u64 0] (0,0) _ rfl HRf.out Tryz.underlying89 rfl (by kernel_rfl)) rfl ?_;unfold yd;rw[Hr.out]
    exact⟨HGf.out,HCf.out,rfl⟩
   | some lo=>
    have Hl64:=hid (H0.out lo rfl);unfold loV;go_wp2_with fail;refine(HN2.out w2 HG2.out HC2.out).mono ?_;rintro e w6 ⟨hg6,y,rfl,h1',h2'⟩;have HG6:=hid (yr HG2.out hg6);have HR6:=hid (HR2.out.grown hg6 Hgr.out);have H1:=hid h1';have H2:=hid h2';clear hg6 h1' h2'
    cases hT2:zf l E q1 with
    | error c=>
     have Hr:=hid (show ivP (zf l E) (z7 pv) ap q=.error (c,q1) from by rw[Hiv.out];show hiP _ lo q1=_;unfold hiP nmP;rw[hT2];rfl);obtain⟨rfl,hC6⟩:=H2.out c hT2;have HC6:=hid hC6;clear hC6 hT2;go_wp2_with fail;refine(HS.out _ w6.heap.size lo 0 (by exact yp w6 _ _ rfl) Hl64.out (by decide)).mono ?_;rintro e w8 ⟨rfl,hb8⟩;have hal:=(Below.refl w6.heap.size w6).alloc (Nat.le_refl _) (.cells #[.int .u64 (lo:Nat),.int .u64 0] 43);have hb9:=hal.trans (hb8.mono hal.size);have HG8:=hid (ji HG6.out hb9);have HC8:=hid (CurM.later HC6.out hb9);have HR8:=hid (HR6.out.later hb9);rw[Nat.add_zero,zeg Hl64.out];clear hal hb8 hb9;go_wp2_with fail;refine(vw HC8.out).mono ?_;rintro e w9 ⟨rfl,rfl⟩;have c0:=HR8.out.cell 0 rfl;have c1:=HR8.out.cell 1 rfl;have f0:=HR8.out.fz 0;have f1:=HR8.out.fz 1;have HRf:=hid ((HR8.out.set 0 (.int .u64 0)).set 1 (.int .u64 0));have HCf:=hid ((HC8.out.other Hgs.out (.int .u64 0) (i:=0)).other Hgs.out (.int .u64 0) (i:=1));have HGf:=hid (zn (zn HG8.out (a:=⟨w.heap.size,0,none⟩) (.int .u64 0) (.inl (Nat.le_refl _))) (a:=⟨w.heap.size,1,none⟩) (.int .u64 0) (.inl (Nat.le_refl _)));go_wp2_with fail;refine bodyPost_ret (results_cell_row rfl _ _ w.heap.size 89 #[.int .u64 0,.int .u64 0] (0,0) _ rfl HRf.out Tryz.underlying89 rfl (by kernel_rfl)) rfl ?_;unfold yd;rw[Hr.out]
     exact⟨HGf.out,HCf.out,rfl⟩
    | ok z=>
     obtain⟨y',q2⟩:=z;obtain⟨e3,hC6⟩:=H1.out _ hT2;obtain rfl:y=y':=e3;obtain⟨-,-,-,u4,-⟩:=za8 Hlt.out hT2;have Hu:=hid u4;have HC6:=hid hC6;have hr1:ivP (zf l E) (z7 pv) ap q=if lo+y<18446744073709551616 then .ok (((lo,lo+y),q1),q2) else .error (8,q1):=by rw[Hiv.out];show hiP _ lo q1=_;unfold hiP nmP;rw[hT2];rfl
     have Hr1:=hid hr1;clear hC6 hT2 u4 hr1;go_wp2_with fail;refine(HS.out _ w6.heap.size lo y (by exact yp w6 _ _ rfl) Hl64.out Hu.out).mono ?_;rintro e w8 ⟨rfl,hb8⟩;have hal:=(Below.refl w6.heap.size w6).alloc (Nat.le_refl _) (.cells #[.int .u64 (lo:Nat),.int .u64 (y:Nat)] 43);have hb9:=hal.trans (hb8.mono hal.size);have HG8:=hid (ji HG6.out hb9);have HC8:=hid (CurM.later HC6.out hb9);have HR8:=hid (HR6.out.later hb9);clear hal hb8 hb9;by_cases hlt:lo+y<18446744073709551616
     · have Hr:=hid (Hr1.out.trans (if_pos hlt));rw[zeg hlt];clear hlt;generalize lo+y=hi at*;go_wp2_with fail;refine(kp HC8.out).mono ?_;rintro e w9 ⟨rfl,rfl⟩;have c0:=HR8.out.cell 0 rfl;have c1:=HR8.out.cell 1 rfl;have f0:=HR8.out.fz 0;have f1:=HR8.out.fz 1;have HRf:=hid ((HR8.out.set 0 (.int .u64 (lo:Nat))).set 1 (.int .u64 (hi:Nat)));have HCf:=hid ((HC8.out.other Hgs.out (.int .u64 (lo:Nat)) (i:=0)).other Hgs.out (.int .u64 (hi:Nat)) (i:=1));have HGf:=hid (zn (zn HG8.out (a:=⟨w.heap.size,0,none⟩) (.int .u64 (lo:Nat)) (.inl (Nat.le_refl _))) (a:=⟨w.heap.size,1,none⟩) (.int .u64 (hi:Nat)) (.inl (Nat.le_refl _)));go_wp2_with fail;refine bodyPost_ret (results_cell_row rfl _ _ w.heap.size 89 #[.int .u64 (lo:Nat),.int .u64 (hi:Nat)] (0,0) _ rfl HRf.out Tryz.underlying89 rfl (by kernel_rfl)) rfl ?_;unfold yd;rw[Hr.out];exact⟨HGf.out,HCf.out,rfl⟩
     · have Hr:=hid (Hr1.out.trans (if_neg hlt));rw[zlm hlt];clear hlt;go_wp2_with fail;refine(za7 (c:=8) (p:=q1) HC8.out (by decide)).mono ?_;rintro e w10 ⟨rfl,hg10,hC10⟩;have HG10:=hid (yr HG8.out hg10);have HC10:=hid hC10;have HR10:=hid (HR8.out.grown hg10 Hgr.out);clear hg10 hC10;go_wp2_with fail;refine(vw HC10.out).mono ?_;rintro e w11 ⟨rfl,rfl⟩;have c0:=HR10.out.cell 0 rfl;have c1:=HR10.out.cell 1 rfl;have f0:=HR10.out.fz 0;have f1:=HR10.out.fz 1;have HRf:=hid ((HR10.out.set 0 (.int .u64 0)).set 1 (.int .u64 0));have HCf:=hid ((HC10.out.other Hgs.out (.int .u64 0) (i:=0)).other Hgs.out (.int .u64 0) (i:=1));have HGf:=hid (zn (zn HG10.out (a:=⟨w.heap.size,0,none⟩) (.int .u64 0) (.inl (Nat.le_refl _))) (a:=⟨w.heap.size,1,none⟩) (.int .u64 0) (.inl (Nat.le_refl _)));go_wp2_with fail;refine bodyPost_ret (results_cell_row rfl _ _ w.heap.size 89 #[.int .u64 0,.int .u64 0] (0,0) _ rfl HRf.out Tryz.underlying89 rfl (by kernel_rfl)) rfl ?_;unfold yd;rw[Hr.out];exact⟨HGf.out,HCf.out,rfl⟩
