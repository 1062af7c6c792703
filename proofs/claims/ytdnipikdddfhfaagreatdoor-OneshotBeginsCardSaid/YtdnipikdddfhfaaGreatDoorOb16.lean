/- Part 16. -/
import Derived.Test.YtdnipikdddfhfaaGreatDoorOb15
set_option linter.unusedVariables false
set_option maxHeartbeats 16000000
namespace Go.Proofs.YtdnipikdddfhfaaGreatDoor
open Lib (hid)
section
open Go.RowKit
attribute [local go_sem] qj
structure HoleOut (base g n cap:Nat) (v:Vec) (r m:Nat) (h:List Iv) (W w':World) (gS cS:Nat) (S:Value):Prop where
 below:Below base W w'
 cell:w'.cell? ⟨g,n*3+2,none⟩=some S
 frozen:w'.frozen? ⟨g,n*3+2,none⟩=false
 row:∀g' T C,Row W g' T C→T≠89→Row w' g' T C
 fin:∀w2,w'.grownBy w2 none→EntO (w2.setCell ⟨g,n*3+2,none⟩ (.slice (some ⟨gS,0,none⟩) h.length cS)) base (.slice (some ⟨g,0,none⟩) (n+1) cap) v r m h
theorem zsp {w W:World} {ops:Array Oper} {o:Oper} {a:Act} {K:Act→World→Prop} {Q:Exit→Act→World→Prop} {E:Prop} (hgd:o.guard=none) (s x:Operand)
 (ho:o.op=.call { callee:=.builtin .append,args:= #[s,x],argTypes:= #[91,91] }) (hty:o.type=91)
 {base g n cap:Nat} {v:Vec} {r m:Nat} {h:List Iv} (hE:EntO w base (.slice (some ⟨g,0,none⟩) (n+1) cap) v r m h) (hn:n=v.length) {S:Value} (hS:w.cell? ⟨g,n*3+2,none⟩=some S) (t:Iv) (hW:Below w.heap.size w W)
 (hs:a.eval s=S) (A:Option Addr) (c:Nat) (hx:a.eval x=.slice A 1 c) (hr:Rd W 2 A 1 (ivC [t])) (hb:h.length+1≤1000000000000)
 (hK:∀gS cS w',HoleOut base g n cap v r m (h++[t]) w w' gS cS S→K (a.put o.dst (.slice (some ⟨gS,0,none⟩) (h++[t]).length cS)) w'):
 if Region.wanted o (yielded ops a.tmps)=true then Oper.wp Tryz.prog o a W K Q else E:=by
 subst hn;obtain⟨S',w',hrun,⟨gS,cS,rfl⟩,h1,h2,h3,h4,h5,h6,h7⟩:=hE.hole hS t W hW A c hr hb;refine zhj hgd s x _ ho _ _ hs hx _ w' (by rw[hty];exact hrun) ?_;have e:(h++[t]).length=h.length+1:=by simp
 rw[←e]
 have hbw:base≤w.heap.size:=by
  obtain⟨_,_,_,q1,q2,-⟩:=hE.at
  omega
 refine hK gS cS w' ⟨(hW.mono hbw).trans h1,h3,h4,fun g' T C hR hT=>(hR.later hW).grown h5 fun e=>?_,fun w2 hw2=>by rw[e];exact h7 w2 hw2⟩;obtain⟨-,C',fr,hk⟩:=h6 g' e.symm;replace hR:=hR.later hW;unfold Row at hR;rw[hk] at hR;injection hR with hR;injection hR with _ hR _;exact hT hR.symm
set_option maxRecDepth 100000 in
theorem zsq (base g:Nat) (L:za) (nx:Value) (s:PS) (x rest:Nat) (w:World) (h:PkR w base g L nx s) (ht:s.tag=5) (hx:x<18446744073709551616) (hF:PFit s 900000000000) (he:0<s.ents):
 Calls Tryz.prog 303 #[.pointer (some ⟨g,0,none⟩),.int .u64 (x:Int),.int .i64 (rest:Int)] w (PkS w base g L (zm L.2.2.1 L.2.2.2.1 s x rest)):=by
 have hps:zm L.2.2.1 L.2.2.2.1 s x rest=if s.lo+x<18446744073709551616∧s.lo+x<s.mx then .ok (yo s s.hls (s.h++[(s.lo,s.lo+x)])) else .error 8:=by
  unfold zm;rw[ht];rfl
 rw[hps];clear hps;obtain⟨hg,V,cu,hR,hB⟩:=h;obtain⟨hE,c,y,rfl,hbc,hy,hC⟩:EntO w base V s.v s.rep s.mx s.h∧CuAt w base cu (some s.lo) s.h:=by unfold PkB at hB;rw[ht] at hB;exact hB
 obtain rfl:=hy s.lo rfl;obtain⟨ge,cap,rfl,hge,hgl,⟨Cg,fr,hrow⟩,-,-,-,-⟩:=hE.at
 have HC:=hid (zjm c 1 s.lo x s.h.getLast? w hC hF.lo hx);have HF:=hid hF;have q10:=hR.cell 10 rfl;have HR:=hid hR;have HE:=hid hE;have HCu:=hid hC;have Hne:=hid (hR.ne hC (by decide));have Hbw:=hid (show base≤w.heap.size by have:=hR.lt;omega);have He:=hid he;have hvl:s.v.length≤1000000000000:=by have:=hF.vl;omega
 have Hgg:=hid (show g≠ge from fun e=>by
  subst e;unfold Row at hR;rw[hrow] at hR;injection hR with hR;injection hR with _ hR _;cases hR)
 have Hcg:=hid (show c≠ge from fun e=>by
  subst e;unfold Row at hC;rw[hrow] at hC;injection hC with hC;injection hC with _ hC _;cases hC)
 clear hB hy hR hE hC hF hx he ht hrow;unfold zcy at HC;by_cases hlt:s.lo+x<18446744073709551616
 · have HC2:=hid (HC.out.mono fun e w' h=>by rw[if_pos hlt] at h;exact h);have Hlt:=hid hlt;have Hs:=hid (show yg [(s.lo,s.lo+x)] from zna HF.out.lo hlt);clear HC;obtain⟨n,hn⟩:∃n,n=s.v.length:=⟨_,rfl⟩;have Hn:=hid hn;rw[←hn] at hvl;clear hlt hn;generalize hz:s.lo+x=z at*;clear hz;by_cases hm:z<s.mx
   · rw[if_pos ⟨Hlt.out,hm⟩];have d1:decide ((s.mx:Int)≤(z:Int))=false:=by rw[decide_eq_false_iff_not];omega
     have d2:decide (s.mx≤z)=false:=by rw[decide_eq_false_iff_not];omega
     clear hm;go_enter Tryz.func303,Tryz.ntmps303;go_wp2_with fail;refine HC2.out.mono ?_;rintro e w1 ⟨rfl,hc1,hg1⟩;have hR1:=HR.out.grown hg1 (fun e=>Hne.out (by injection e));have hE1:=HE.out.grown (HCu.out.notT (by rintro(h | h | h) <;> cases h)) hg1;have Hb1:=hid ((Below.refl base w).grown hg1 Hbw.out (fun k hk=>by injection hk with hk;omega));have hbl:∀o,Below w1.heap.size w1 (w1.alloc o):=fun o=>(Below.refl _ _).alloc (Nat.le_refl _) _
     have q7:=fun o=>(hR1.later (hbl o)).cell 7 rfl
     obtain⟨ge',cap',e',-,-,-,c0,c1,cf,S,lim,cS,-⟩:=hE1.at
     have e2:ge'=ge:=by injection e' with e1;injection e1 with e1;injection e1 with e1;exact e1.symm
     subst e2;rw[←Hn.out] at c1 cS;have m1:∀o,(w1.alloc o).cell? ⟨ge',n*3+1,none⟩=some (.int .u64 ((s.mx:Nat):Int)):=fun o=>((hbl o).cell (p:=⟨ge',n*3+1,none⟩) (ze c1)).trans c1
     have HR1:=hid hR1;have HE1:=hid hE1;have Hc1:=hid hc1;clear hR1 hE1 hc1 hg1 e' c0 c1 cf cS hbl;rw[←Hn.out] at q7;unfold ivV;go_wp2_with fail;go_quiet ((go_at_call 272;exact Calls.quiet_of (zed g ge' n cap _ (by exact q7 _) hvl)));obtain⟨w2,hw2⟩:∃w2,w2=w1.alloc (.cells #[.int .u64 ((s.lo:Nat):Int),.int .u64 ((z:Nat):Int)] 89):=⟨_,rfl⟩;have hb2:Below w1.heap.size w1 w2:=by rw[hw2];exact(Below.refl _ _).alloc (Nat.le_refl _) _
     have hX:Row w2 w1.heap.size 89 [.int .u64 ((s.lo:Nat):Int),.int .u64 ((z:Nat):Int)]:=by rw[hw2];exact yf _ _ _
     rw[←hw2];clear hw2 q7 m1;have hR2:=HR1.out.later hb2;have hE2:=HE1.out.later hb2;have q7:w2.cell? ⟨g,7,none⟩=some (.slice (some ⟨ge',0,none⟩) (n+1) cap):=by have:=hR2.cell 7 rfl;rw[←Hn.out] at this;exact this
     have x0:=hX.cell 0 rfl;have x1:=hX.cell 1 rfl;have HX:=hid hX;have HR2:=hid hR2;have HE2:=hid hE2;have Hb2:=hid hb2;obtain⟨ge2,cap2,e',-,-,-,c0,c1,cf,S,lim,cS,-⟩:=hE2.at
     have e2:ge2=ge':=by injection e' with e1;injection e1 with e1;injection e1 with e1;exact e1.symm
     subst e2;rw[←Hn.out] at cS hE2;have hhl:s.h.length+1≤1000000000000:=by have:=HF.out.hl;omega
     have Hhl:=hid hhl;have q7o:∀k o,((w2.drewN k).alloc o).cell? ⟨g,7,none⟩=some (.slice (some ⟨ge2,0,none⟩) (n+1) cap):=fun k o=>((((Below.refl w2.heap.size w2)).alloc (Nat.le_refl _) o).cell (p:=⟨g,7,none⟩) (ze q7)).trans q7
     have cSo:∀k o,((w2.drewN k).alloc o).cell? ⟨ge2,n*3+2,none⟩=some S:=fun k o=>((((Below.refl w2.heap.size w2)).alloc (Nat.le_refl _) o).cell (p:=⟨ge2,n*3+2,none⟩) (ze cS)).trans cS
     clear hX hR2 hb2 e' c0 c1 cf hhl;go_wp2_with fail
     go_region_law (first
      | (go_simp;go_at_call 272;refine(zed g ge2 n cap _ (by first | exact q7 | exact q7o _ _) hvl).mono ?_;rintro e w3 ⟨rfl,k,rfl⟩)
      | (refine zsp rfl (.tmp 38) (.tmp 40) rfl rfl hE2 Hn.out cS (s.lo,z) ?hW rfl _ _ rfl (kw (j2 _ _ _ (by simp)) rfl rfl) Hhl.out ?_
         case hW=>repeat (first | exact Below.refl _ _ | refine Below.alloc ?_ (by simp) _ | refine Below.drew ?_ | refine zv ?_ _)
         intro gS cS w4 hO;have hq:=hO.cell;have hf:=hO.frozen;have HO:=hid hO;clear hO))
     all_goals go_wp2_with fail
     all_goals
      have hR4:=HO.out.row g _ _ HR2.out (by decide);have hC4:=HO.out.row c _ _ (Hc1.out.later Hb2.out) (by decide);have hfin:=HO.out.fin w4 (za7 _ _);have e9:(s.h++[(s.lo,z)]).length=s.h.length+1:=by simp
      rw[e9] at hfin;have hR5:=hR4.other (a:=⟨ge2,n*3+2,none⟩) Hgg.out (.slice (some ⟨gS,0,none⟩) (s.h.length+1) cS);have HC5:=hid (hC4.other (a:=⟨ge2,n*3+2,none⟩) Hcg.out (.slice (some ⟨gS,0,none⟩) (s.h.length+1) cS));have HB5:=hid ((((Hb1.out.trans (Hb2.out.mono (Nat.le_trans Hbw.out Hb1.out.size)))).trans HO.out.below).setCell (p:=⟨ge2,n*3+2,none⟩) hge (.slice (some ⟨gS,0,none⟩) (s.h.length+1) cS));have HH:=hid (zj3 g L nx _ _ s s.hls (s.h++[(s.lo,z)]) _ hR5 He.out HF.out.ents HF.out.hls);have HE5:=hid hfin;have HR5:=hid hR5;clear hR4 hC4 hfin e9 hR5 hq hf x0 x1 cSo q7o hE2 q10;refine HH.out.mono ?_;rintro e w6 ⟨rfl,hR6,hg6⟩;have HR6:=hid hR6;have hN:=HR5.out.notT (by rintro(h | h | h) <;> cases h);have HE6:=hid (HE5.out.grown hN hg6);have HC6:=hid (HC5.out.grown hg6 (fun e=>by injection e with e;exact Hne.out e.symm));have Hb6:=hid (HB5.out.grown hg6 (by have:=HB5.out.size;have:=Hbw.out;omega) (fun k hk=>by injection hk with hk;omega));clear hR6 hN hg6;generalize hnh:yo s s.hls (s.h++[(s.lo,z)])=s' at*;have Hnh:=hid hnh;clear hnh;generalize hF:pkF g s'.tag=F at*;have HF':=hid hF;clear hF;go_wp2_with fail;go_ret2;refine⟨Hb6.out,nx,by rw[HF'.out];rfl,hg,_,_,HR6.out,?_⟩;rw[←Hnh.out];refine zj4 (by rw[←Hn.out];exact HE6.out) ⟨c,s.lo,rfl,hbc,fun y h=>(by cases h),?_⟩ (fun t ht=>?_)
      · have e8:(s.h++[(s.lo,z)]).getLast?=some (s.lo,z):=by simp
        rw[e8];exact HC6.out
      · rcases List.mem_append.1 ht with h | h
        · exact HF.out.h t h
        · exact Hs.out t h
   · rw[if_neg (fun h=>hm h.2)];have d1:decide ((s.mx:Int)≤(z:Int))=true:=by rw[decide_eq_true_iff];omega
     have d2:decide (s.mx≤z)=true:=by rw[decide_eq_true_iff];omega
     clear hm;go_enter Tryz.func303,Tryz.ntmps303;go_wp2_with fail;refine HC2.out.mono ?_;rintro e w1 ⟨rfl,hc1,hg1⟩;have hR1:=HR.out.grown hg1 (fun e=>Hne.out (by injection e));have hE1:=HE.out.grown (HCu.out.notT (by rintro(h | h | h) <;> cases h)) hg1;have Hb1:=hid ((Below.refl base w).grown hg1 Hbw.out (fun k hk=>by injection hk with hk;omega));have hbl:∀o,Below w1.heap.size w1 (w1.alloc o):=fun o=>(Below.refl _ _).alloc (Nat.le_refl _) _
     have q7:=fun o=>(hR1.later (hbl o)).cell 7 rfl
     obtain⟨ge',cap',e',-,-,-,c0,c1,cf,S,lim,cS,-⟩:=hE1.at
     have e2:ge'=ge:=by injection e' with e1;injection e1 with e1;injection e1 with e1;exact e1.symm
     subst e2;rw[←Hn.out] at c1;have m1:∀o,(w1.alloc o).cell? ⟨ge',n*3+1,none⟩=some (.int .u64 ((s.mx:Nat):Int)):=fun o=>((hbl o).cell (p:=⟨ge',n*3+1,none⟩) (ze c1)).trans c1
     have HRf:=hid (fun o=>hR1.later (hbl o));have HBf:=hid (fun o=>Hb1.out.trans ((hbl o).mono (Nat.le_trans Hbw.out Hb1.out.size)));clear hR1 hE1 hc1 hg1 e' c0 c1 cf cS hbl;rw[←Hn.out] at q7;unfold ivV;go_wp2_with fail;go_quiet ((go_at_call 272;exact Calls.quiet_of (zed g ge' n cap _ (by exact q7 _) hvl)));all_goals go_wp2_with fail
     all_goals go_ret2
     all_goals exact⟨zv (HBf.out _) _,rfl,_,HRf.out _,rfl⟩
 · have HC2:=hid (HC.out.mono fun e w' h=>by rw[if_neg hlt] at h;exact h);rw[if_neg (fun h=>hlt h.1)];clear HC hlt;go_enter Tryz.func303,Tryz.ntmps303;go_wp2_with fail;refine HC2.out.mono ?_;rintro e w1 ⟨rfl,hc1,hg1⟩;have hR1:=HR.out.grown hg1 (fun e=>Hne.out (by injection e));have Hb1:=hid ((Below.refl base w).grown hg1 Hbw.out (fun k hk=>by injection hk with hk;omega));have hbl:∀o,Below w1.heap.size w1 (w1.alloc o):=fun o=>(Below.refl _ _).alloc (Nat.le_refl _) _
   have HRf:=hid (fun o=>hR1.later (hbl o));have HBf:=hid (fun o=>Hb1.out.trans ((hbl o).mono (Nat.le_trans Hbw.out Hb1.out.size)));clear hR1 hc1 hg1 hbl;unfold ivV;go_wp2_with fail;go_quiet (fail);all_goals go_wp2_with fail
   all_goals go_ret2
   all_goals exact⟨zv (HBf.out _) _,rfl,_,HRf.out _,rfl⟩
end
section
open Go.RowKit
def zbd (x:Err) (d:Int):Bool:=match x with | none=>false | some y=>decide (y.1=d)
theorem zsr (x:Err) (d:Int) (w:World):Calls Tryz.prog 201 #[zh x,.iface 35 (.int .i64 d)] w fun e w'=>e=.returned (.bool (zbd x d))∧Below w.heap.size w w':=by
 rcases x with _ | ⟨c,_ | a⟩
 · exact(zmn d w).mono fun e w' ⟨h1,h2⟩=>⟨h1,by subst h2;exact Below.refl _ _⟩
 · exact(zmm c d w).mono fun e w' ⟨h1,h2⟩=>⟨h1,by subst h2;exact Below.refl _ _⟩
 · exact znv c a d w
theorem zss (x:Err) (d:Int) (g:Nat) (w:World) (hg:w.cell? ⟨g,0,none⟩=some (.int .i64 d)):
 Calls Tryz.prog 166 #[zh x,.slice (some ⟨g,0,none⟩) 1 1] w fun e w'=>e=.returned (.bool (zbd x d))∧Below w.heap.size w w':=by
 have HI:=hid (fun W=>zsr x d W);have Hc:=hid (fun W (h:Below w.heap.size w W)=>(h.cell (p:=⟨g,0,none⟩) (ze hg)).trans hg);generalize zh x=v at*;generalize zbd x d=b at*;clear hg;go_enter Tryz.func166,Tryz.ntmps166;go_wp2;go_loopw [9] (fun i wr=>∃k:Nat,k≤1∧i=.int .i64 k∧Hid (Below w.heap.size w wr)∧Hid (k=1→b=false)) (fun i _=>1 - (intOf i).toNat)
 case atStart=>exact⟨0,by omega,rfl,hid (Below.refl _ _),fun h=>by cases h⟩
 case round=>
  obtain⟨k,hk,rfl,hb,he⟩:=hrel;have hq:=Hc.out _ hb.out;rcases(by omega:k=0∨k=1) with h0 | h1
  · have hd:decide ((k:Int)<1)=true:=by rw[decide_eq_true_iff];omega
    subst h0;go_wp2_with fail;refine(HI.out _).mono ?_;rintro e w1 ⟨rfl,hb1⟩;have Hb1:=hid (hb.out.trans (hb1.mono hb.out.size));clear hb1
    cases hbb:b with
    | true=>
     have Hbb:=hid hbb;clear hbb;go_wp2_with fail;go_ret
     exact⟨by rw[Hbb.out];rfl,Hb1.out⟩
    | false=>
     have Hbb:=hid hbb;clear hbb;go_wp2_with fail;go_roundw
     case rel=>exact⟨1,by omega,rfl,Hb1,fun _=>Hbb.out⟩
     case measure=>simp[intOf]
  · have hb0:=he.out h1;subst h1;have Hb0:=hid hb0;clear hb0;go_wp2_with fail;go_ret;exact⟨by rw[Hb0.out];rfl,hb.out⟩
theorem zst (c a b:Nat) (w:World) (hD:Door w) (hab:a+b<9223372036854775808):
 Calls Tryz.prog 167 #[jg c a,.int .i64 (b:Int)] w fun e w'=>e=.returned (jg c (a+b))∧Below w.heap.size w w':=by
 have HD:=hid hD;have HC:=hid (fun W (h:Below w.heap.size w W)=>kx (some ((c:Int),some (a:Int))) W (hD.below (Nat.le_refl _) h));have hs:IntKind.i64.wrap ((a:Int)+(b:Int))=((a+b:Nat):Int):=by rw[IntKind.wrap_i64];omega
 clear hD hab;unfold jg;simp only[zh,kh] at HC;go_enter Tryz.func167,Tryz.ntmps167;go_wp2_with fail;refine(zhp (c:Int) (a:Int) _ HD.out).mono ?_;rintro e w1 ⟨rfl,hb1⟩;have hb2:=hb1.trans ((Below.refl w1.heap.size w1).alloc (Nat.le_refl _) (.cells #[.int .i64 (c:Int),.int .i64 (a:Int)] 112) |>.mono hb1.size);have Hb2:=hid hb2;clear hb1 hb2;go_wp2_with fail;have Hq:=hid (fun W (h:Below (w1.alloc (.cells #[.int .i64 (c:Int),.int .i64 (a:Int)] 112)).heap.size (w1.alloc (.cells #[.int .i64 (c:Int),.int .i64 (a:Int)] 112)) W)=>show W.cell? ⟨w1.heap.size,1,none⟩=some (.int .i64 (a:Int)) from(h.cell (p:=⟨w1.heap.size,1,none⟩) (by simp)).trans (by go_simp));generalize w1.alloc (.cells #[.int .i64 (c:Int),.int .i64 (a:Int)] 112)=w2 at*;refine zae (by kernel_rfl) (by kernel_rfl) ?_
 repeat (go_big_quiet_step ((intro hw;first
  | rfl
  | (go_at_call 19;exact za2 hw (HC.out _ (Hb2.out.trans (hw.mono Hb2.out.size))))
  | (have q0:=Hq.out _ hw
     go_simp;first | rfl | exact⟨rfl,hw⟩ | (trace_state;fail)))))
 refine wpQuiet_nil ?_;intro w3 hb3;have Hb3:=hid (Hb2.out.trans (hb3.mono Hb2.out.size));clear hb3;go_wp2_with fail;go_ret;exact⟨rfl,Hb3.out⟩
theorem UsedM.grownT {w w':World} {U g:Nat} {ix:List Nat} {T:TypeId} {C:List Value} (h:UsedM w U ix) (hR:Row w g T C) (hg:w.grownBy w' (some g)):UsedM w' U ix:=
 h.same (hg.block U h.lt (fun e=>by injection e with e;exact h.ne (show w.heap[g]?=_ from hR) e))
structure VRows (w:World) (base R:Nat) (L:za) (part K:Value) (U C B left:Nat) (fr:Int) (ip:Value) (ix:List Nat) (vs:List Vec):Prop where
 row:Row w R 130 (wkC L part K U C .nilIface)
 vrow:Row w B 199 (vcC left fr ip)
 cur:Row w C 193 (ym C 0 0 none false)
 used:UsedM w U ix
 kv:KV w base K vs
theorem zef {W:World} {base R:Nat} {L:za} {part K:Value} {U C B left:Nat} {fr:Int} {ip:Value} {ix:List Nat} {vs:List Vec} (h:VRows W base R L part K U C B left fr ip ix vs) (hb:base≤R) {V:Value} {v:Vec} (hV:EnSl W 0 V v) (hl:vs.length+1≤1000000000000):
 ∃gK cK w3,(Builtin.append_ #[27,27] 27 #[K,.slice (some ⟨W.heap.size,0,none⟩) 1 1]).run Tryz.prog (W.alloc (.cells #[.slice none 0 0,V] 97))=.ok (.slice (some ⟨gK,0,none⟩) (vs.length+1) cK) w3∧Below base W w3∧
  Row w3 R 130 (wkC L part K U C .nilIface)∧Row w3 B 199 (vcC left fr ip)∧Row w3 C 193 (ym C 0 0 none false)∧UsedM w3 U ix∧KV w3 base (.slice (some ⟨gK,0,none⟩) (vs.length+1) cK) (vs++[v]):=by
 have hal:Below W.heap.size W (W.alloc (.cells #[.slice none 0 0,V] 97)):=(Below.refl _ _).alloc (Nat.le_refl _) _;have hbW:base≤W.heap.size:=by have:=h.row.lt;omega
 have hVs:EnSl (W.alloc (.cells #[.slice none 0 0,V] 97)) 0 V v:=hV.steady (P:=fun _=>True) (.of_below hal) trivial trivial;have hKa:=h.kv.later hal;obtain⟨K',w3,hrun,hK',hg,hk⟩:=hKa.snoc hVs (some ⟨W.heap.size,0,none⟩) 1 (kw (j2 W (.cells #[.slice none 0 0,V] 97) _ rfl) rfl rfl) hl (Nat.le_trans hbW hal.size);have hK2:=hK';obtain⟨Y,hoK,-⟩:=hK2;obtain⟨gK,cK,e,-⟩:=zan hoK (by simp);have eL:(vs++[v]).length=vs.length+1:=by simp
 rw[eL] at e;subst e;obtain⟨Y0,ho0,-⟩:=hKa;have ne:∀{g T C},Row (W.alloc (.cells #[.slice none 0 0,V] 97)) g T C→T≠97→some g≠K.ownBlock:=fun hR hT e=>hR.ne_own ho0 hT _ e.symm rfl
 refine⟨gK,cK,w3,hrun,Below.grown (hal.mono hbW) hg (Nat.le_trans hbW hal.size) hk,(h.row.later hal).grown hg (ne (h.row.later hal) (by decide)),(h.vrow.later hal).grown hg (ne (h.vrow.later hal) (by decide)),(h.cur.later hal).grown hg (ne (h.cur.later hal) (by decide)),?_,hK'⟩;have hU:=h.used.same (hal.block U h.used.lt);refine hU.same (hg.block U hU.lt fun e=>?_);rcases ho0.2 with ⟨e',_⟩ | ⟨b,cap,cur,e',_,hh,_⟩
 · rw[e'] at e;cases e
 · rw[e'] at e;injection e with e;subst e;exact hU.ne hh rfl
theorem zav {w:World} {base R:Nat} {L:za} {part K:Value} {U C B left:Nat} {fr:Int} {ip:Value} {ix:List Nat} {vs:List Vec} {K':Value} (hR:Row w R 130 (wkC L part K U C .nilIface)) (hB:Row w B 199 (vcC left fr ip)) (hC:Row w C 193 (ym C 0 0 none false)) (hu:UsedM w U ix) (hK:KV w base K' vs) (left':Nat):
 VRows (((w.setCell ⟨R,6,none⟩ K').setCell ⟨B,1,none⟩ (.int .i64 (-1))).setCell ⟨B,0,none⟩ (.int .u64 (left':Int))) base R L part K' U C B left' (-1) ip ix vs:=by
 have g1:=jt w R 6 K';have hR1:Row (w.setCell ⟨R,6,none⟩ K') R 130 (wkC L part K' U C .nilIface):=hR.set 6 _;have nRB:=hR.ne hB (by decide);have hB1:=hB.grown g1 (fun e=>by injection e with e;exact nRB e.symm);have hC1:=hC.grown g1 (fun e=>by injection e with e;exact hR.ne hC (by decide) e.symm);have hu1:=hu.grownT hR g1;have hK1:=hK.grown (hR.notT (by rintro(h | h | h) <;> cases h)) g1;have g2:(w.setCell ⟨R,6,none⟩ K').grownBy (((w.setCell ⟨R,6,none⟩ K').setCell ⟨B,1,none⟩ (.int .i64 (-1))).setCell ⟨B,0,none⟩ (.int .u64 (left':Int))) (some B):=jd (a:=⟨B,0,none⟩) (jd (a:=⟨B,1,none⟩) (za7 _ _) _ (.inr rfl)) _ (.inr rfl);refine⟨hR1.grown g2 (fun e=>by injection e with e;exact nRB e),(hB1.set 1 (.int .i64 (-1))).set 0 (.int .u64 (left':Int)),hC1.grown g2 (fun e=>by injection e with e;exact hB1.ne hC1 (by decide) e.symm),hu1.grownT hB1 g2,hK1.grown (hB1.notT (by rintro(h | h | h) <;> cases h)) g2⟩
theorem VRows.more {w:World} {base R:Nat} {L:za} {K ip:Value} {U C B left:Nat} {s:WS} {vs:List Vec} (h:VRows w base R L (.iface 196 (.pointer (some ⟨B,0,none⟩))) K U C B left (-1) ip s.ix vs) (ht:s.tag=1) (hR:base≤R) (hU:base≤U) (hC:base≤C) (hB:base≤B):WkR w base R L { s with vs:=vs,left:=left,inner:=ps0 }:=by
 refine⟨hR,_,K,U,C,hU,hC,h.row,h.used,?_⟩;unfold WkB;simp only[ht];exact⟨B,rfl,hB,h.cur,.inl ⟨rfl,⟨ip,h.vrow⟩,h.kv⟩⟩
theorem VRows.mid {w:World} {base R:Nat} {L:za} {part K ip:Value} {U C B left:Nat} {fr:Int} {s:WS} {vs:List Vec} (h:VRows w base R L part K U C B left fr ip s.ix vs) (hR:base≤R) (hU:base≤U) (hC:base≤C):WkR (w.setCell ⟨R,5,none⟩ (.iface 200 (.agg #[]))) base R L { s with tag:=2,vs:=vs,left:=0,inner:=ps0 }:=by
 have g1:=jt w R 5 (.iface 200 (.agg #[]));exact⟨hR,_,K,U,C,hU,hC,h.row.set 5 _,h.used.grownT h.row g1,rfl,h.kv.grown (h.row.notT (by rintro(h | h | h) <;> cases h)) g1,h.cur.grown g1 (fun e=>by injection e with e;exact h.row.ne h.cur (by decide) e.symm)⟩
end
section
structure VsInv (le lh:Int) (vs:List Vec):Prop where
 all:∀v∈vs,CanV v∧LtV v∧v≠[]∧okV le lh v
 asc:vs.Pairwise fun u v=>jp u v= -1
theorem zsu {vs:List Vec} {v:Vec} (ha:vs.Pairwise fun u v=>jp u v= -1) (h:¬qt vs v=true):∀u∈vs,jp u v= -1:=by
 intro u hu;unfold qt at h;rw[List.getLast?_eq_getElem?] at h;have h0:0<vs.length:=List.length_pos_iff.2 (List.ne_nil_of_mem hu);rw[List.getElem?_eq_getElem (by omega)] at h;simp only[decide_eq_true_eq] at h
 have hl:jp (vs[vs.length - 1]'(by omega)) v= -1:=by
  rcases ze6 (vs[vs.length - 1]'(by omega)) v with h1 | h1 | h1
  · exact h1
  · rw[h1] at h;exact absurd (Int.le_refl _) h
  · rw[h1] at h;exact absurd (by decide) h
 obtain⟨i,hi,rfl⟩:=List.getElem_of_mem hu;rcases Nat.lt_or_ge i (vs.length - 1) with h1 | h1
 · exact znd (List.pairwise_iff_getElem.1 ha i (vs.length - 1) hi (by omega) h1) hl
 · have e:i=vs.length - 1:=by omega
   subst e;exact hl
theorem zkh {T:zg} {E:Nat} {le lh:Int} (hT:T64 T):∀(n:Nat) (acc:List Vec) {p q:Nat} {vs:List Vec},yw T E le lh n acc p=.ok (vs,q)→VsInv le lh acc→
 ∀{P0:Nat},zy T P0 (acc.flatMap km) p→zy T P0 (vs.flatMap km) q∧VsInv le lh vs∧vs.length=acc.length+n
 | 0,acc,p,q,vs,h,hI,P0,hr=>by cases h;exact⟨hr,hI,rfl⟩
 | n+1,acc,p,q,vs,h,hI,P0,hr=>by
   rw[yw] at h;obtain⟨v,r,h1,h2⟩:=y7 h;obtain⟨a1,a2,a3,a4,a5⟩:=zso hT h1;split at h2
   · cases h2
   · rename_i ho
     obtain⟨b1,b2,b3⟩:=zkh hT n (acc++[v]) h2 ⟨fun x hx=>by
      rcases List.mem_append.1 hx with hx | hx
      · exact hI.all x hx
      · simp at hx;subst hx;exact⟨a2,a3,a4,a5⟩,List.pairwise_append.2 ⟨hI.asc,List.pairwise_singleton _ _,fun x hx y hy=>by
      simp at hy;subst hy;exact zsu hI.asc ho x hx⟩⟩ (P0:=P0) (by
      rw[List.flatMap_append];exact qv.2 ⟨p,hr,by simpa using a1⟩)
     refine⟨b1,b2,?_⟩;rw[b3,List.length_append,List.length_cons,List.length_nil];omega
def zaa (l:List Iv) (x:List Nat):Nat→List Nat
 | 0=>[]
 | d+1=>zaa l x d++[qn l 0 d,(zb l d).2 - (zb l d).1,nth x d]
theorem zki (l:List Iv) (x:List Nat):∀d,j7 l x d=l.length :: zaa l x d
 | 0=>rfl
 | d+1=>by rw[j7,zaa,zki l x d];rfl
theorem zc3 {l t:List Nat} {i:Nat} (h:i<l.length):nth (l++t) i=nth l i:=by simp[nth,List.getElem?_append_left h]
theorem zf8 (l:List Nat) (x:Nat):nth (l++[x]) l.length=x:=by simp[nth]
theorem zkj (l t:List Iv) (x y:List Nat) (hl:l.length=x.length):∀d,d≤l.length→zaa (l++t) (x++y) d=zaa l x d
 | 0,_=>rfl
 | d+1,h=>by
   rw[zaa,zaa,zkj l t x y hl d (by omega),ve h,zc3 (by omega)]
   have:qn (l++t) 0 d=qn l 0 d:=by
    unfold qn;rw[ve (by omega),ve (i:=d) h,ve (by omega)]
   rw[this]
structure SInv (N:Nat) (l:List Iv) (ix:List Nat):Prop where
 diff:vv l 0
 lt:yg l
 len:l.length=ix.length
 idx:∀i,i<l.length→nth ix i<N
 apart:∀i,0<i→i<l.length→(zb l i).1=(zb l (i - 1)).2+1→nth ix i≠nth ix (i - 1)
theorem zkk {T:zg} {N:Nat} (hT:T64 T):∀(m:Nat) (l:List Iv) (ix:List Nat) {p q:Nat} {l':List Iv} {ix':List Nat},yq T N m l ix p=.ok ((l',ix'),q)→SInv N l ix→
 ∀{P0:Nat},zy T P0 (zaa l ix l.length) p→zy T P0 (zaa l' ix' l'.length) q∧SInv N l' ix'∧l'.length=l.length+m
 | 0,l,ix,p,q,l',ix',h,hI,P0,hr=>by cases h;exact⟨hr,hI,rfl⟩
 | m+1,l,ix,p,q,l',ix',h,hI,P0,hr=>by
   rw[yq] at h;obtain⟨⟨s,w⟩,r,h1,h2⟩:=y7 h;obtain⟨d1,d2,d3⟩:=zkc hT hI.diff hI.lt h1;unfold kr at h2;obtain⟨x,r2,h3,h4⟩:=y7 h2;have t3:=zau h3;split at h4
   · cases h4
   · rename_i hN;split at h4
     · cases h4
     · rename_i ht;simp only at ht h4
       obtain⟨b1,b2,b3⟩:=zkk hT m (l++[s]) (ix++[x]) h4 ⟨d1,d2,by simp[hI.len],fun i hi=>by
        rw[List.length_append,List.length_cons,List.length_nil] at hi;rcases Nat.lt_or_ge i l.length with h5 | h5
        · rw[zc3 (by rw[←hI.len];exact h5)];exact hI.idx i h5
        · rw[show i=ix.length by have:=hI.len;omega,zf8];omega,fun i h0 hi he=>by
        rw[List.length_append,List.length_cons,List.length_nil] at hi;rcases Nat.lt_or_ge i l.length with h5 | h5
        · rw[ve h5,ve (by omega)] at he;rw[zc3 (by rw[←hI.len];exact h5),zc3 (by rw[←hI.len];omega)];exact hI.apart i h0 h5 he
        · have e:i=l.length:=by omega
          subst e;rw[zc1,ve (by omega)] at he;rw[hI.len,zf8,zc3 (by rw[←hI.len];omega)];intro e2;refine ht ⟨?_,?_⟩
          · unfold kq;rw[zkb,if_neg (by omega)];simp only[decide_eq_true_eq];exact he
          · rw[List.getLast?_eq_getElem?,List.getElem?_eq_getElem (by rw[←hI.len];omega),e2];simp[nth,List.getElem?_eq_getElem (show ix.length - 1<ix.length by rw[←hI.len];omega)]⟩ (P0:=P0) (by
        rw[List.length_append,List.length_cons,List.length_nil,Nat.zero_add,zaa,zkj l [s] ix [x] hI.len l.length (Nat.le_refl _),zc1];rw[show nth (ix++[x]) l.length=x by rw[hI.len,zf8]];exact qv.2 ⟨p,hr,qv (a:=[qn (l++[s]) 0 l.length,s.2 - s.1]) (b:=[x]).2 ⟨r,d3,r2,t3,rfl⟩⟩)
       refine⟨b1,b2,?_⟩;rw[b3,List.length_append,List.length_cons,List.length_nil];omega
theorem zkl (L:List Seg) (i:Nat):∀d,d≤L.length→itB (zp L) ((zw L).map fun (n:Nat)=>(n:Int)) i d=((L.take d).filter fun p=>decide (p.2=i)).map (·.1)
 | 0,_=>by simp[itB]
 | d+1,h=>by
   have e1:zb (zp L) d=L[d].1:=by rw[yr (by rw[qz];exact h)];simp[zp]
   have e2:ko ((zw L).map fun (n:Nat)=>(n:Int)) d=(L[d].2:Int):=by rw[zd2 (by simp[zw];exact h)];simp[zw]
   rw[itB,zkl L i d (by omega),e1,e2,List.take_succ_eq_append_getElem h,List.filter_append,List.map_append];congr 1;by_cases e:L[d].2=i
   · rw[if_pos (by omega),List.filter_cons_of_pos (by simpa using e)];rfl
   · rw[if_neg (by omega),List.filter_cons_of_neg (by simpa using e)];rfl
abbrev zf9 (p q:Seg):Prop:=p.1.2<q.1.1∧(p.2=q.2→p.1.2+1<q.1.1)
theorem zkm {N:Nat} {L:List Seg} (h:SInv N (zp L) (zw L)):L.Pairwise zf9∧∀p∈L,p.1.1≤p.1.2∧p.2<N:=by
 have at1:∀i (hi:i<L.length),zb (zp L) i=L[i].1:=fun i hi=>by rw[yr (by rw[qz];exact hi)];simp[zp]
 have at2:∀i (hi:i<L.length),nth (zw L) i=L[i].2:=fun i hi=>by simp[nth,zw,hi]
 have one:∀i (hi:i<L.length),L[i].1.1≤L[i].1.2:=fun i hi=>by
  have:=(h.diff i (by rw[qz];exact hi)).1;rwa [at1 i hi] at this
 have stp:∀i (hi:i+1<L.length),zf9 L[i] L[i+1]:=fun i hi=>by
  have h1:=(h.diff (i+1) (by rw[qz];exact hi)).2 (by omega);rw[show i+1 - 1=i by omega,at1 (i+1) hi,at1 i (by omega)] at h1;refine⟨by omega,fun e=>?_⟩;rcases Nat.lt_or_ge (L[i].1.2+1) L[i+1].1.1 with h2 | h2
  · exact h2
  · have h3:=h.apart (i+1) (by omega) (by rw[qz];exact hi) (by rw[show i+1 - 1=i by omega,at1 (i+1) hi,at1 i (by omega)];omega);rw[show i+1 - 1=i by omega,at2 (i+1) hi,at2 i (by omega)] at h3;exact absurd e.symm h3
 refine⟨List.pairwise_iff_getElem.2 fun i j hi hj hij=>?_,fun p hp=>?_⟩
 · obtain⟨d,rfl⟩:∃d,j=i+1+d:=⟨j - i - 1,by omega⟩;clear hij
   induction d with
   | zero=>exact stp i hj
   | succ d ih=>
    have h1:=ih (by omega);have h2:=stp (i+1+d) hj;have h3:=one (i+1+d) (by omega);have e:L[i+1+d+1]'hj=L[i+1+(d+1)]'hj:=rfl;rw[e] at h2;exact⟨by have:=h1.1;have:=h2.1;omega,fun _=>by have:=h1.1;have:=h2.1;omega⟩
 · obtain⟨i,hi,rfl⟩:=List.getElem_of_mem hp;refine⟨one i hi,?_⟩;have:=h.idx i (by rw[qz];exact hi);rwa [at2 i hi] at this
theorem zkn:∀{l:List Iv},(l.Pairwise fun s t=>s.2+1<t.1)→(∀s∈l,s.1≤s.2)→Good l
 | [],_,_=>ze7 fun i hi=>(by simp at hi)
 | s :: l,h,h2=>by
   obtain⟨a,b⟩:=List.pairwise_cons.1 h;exact zlv (h2 s List.mem_cons_self) a (zkn b fun t ht=>h2 t (List.mem_cons_of_mem _ ht))
end
section
structure Cut (m:Nat) (T T':zg) (E E':Nat):Prop where
 tok:∀p,T' p=T p∨T' p=.error m
 le:E'=E∨(m=5∧E'≤E)
def vm {α:Type} (m:Nat) (a b:RR α):Prop:=b=a∨∃w,b=.error (m,w)
theorem jl {m:Nat} {α β:Type} {a b:RR α} {f g:α→Nat→RR β} (h:vm m a b) (hf:∀x q,vm m (f x q) (g x q)):vm m (thn a f) (thn b g):=by
 rcases h with rfl | ⟨w,rfl⟩
 · cases b with
   | error e=>exact .inl rfl
   | ok y=>exact hf y.1 y.2
 · exact .inr ⟨w,rfl⟩
theorem jm {m:Nat} {α:Type} (a:RR α):vm m a a:=.inl rfl
variable {m:Nat} {T T':zg} {E E':Nat}
theorem zb2 (h:Cut m T T' E E') (p:Nat):vm m (nmP T p) (nmP T' p):=by
 unfold nmP;rcases h.tok p with e | e
 · rw[e];exact .inl rfl
 · rw[e];exact .inr ⟨p,rfl⟩
theorem zeg (h:Cut m T T' E E') (lim:Int) (p:Nat):vm m (yz T E lim p) (yz T' E' lim p):=by
 unfold yz;refine jl (zb2 h p) fun x q=>?_
 unfold zl;rcases h.le with rfl | ⟨rfl,hle⟩
 · exact jm _
 · by_cases h1:lim<(x:Int)∧x≠0
   · rw[if_pos h1,if_pos h1];exact jm _
   · rw[if_neg h1,if_neg h1];by_cases h2:E' - q<x
     · rw[if_pos h2];exact .inr ⟨p,rfl⟩
     · rw[if_neg h2,if_neg (show ¬E - q<x by omega)];exact jm _
theorem zsv (h:Cut m T T' E E') (lo q:Nat):vm m (hiP T lo q) (hiP T' lo q):=jl (zb2 h q) fun x q=>jm _
theorem zko (h:Cut m T T' E E') (prev:Option Nat) (a p:Nat):vm m (ivP T prev a p) (ivP T' prev a p):=by
 unfold ivP;refine jl (zb2 h p) fun x q=>?_
 cases loP prev a x with
 | none=>exact jm _
 | some lo=>exact zsv h lo q
theorem zkp (h:Cut m T T' E E') (mx:Nat):∀n acc p,vm m (qs T mx n acc p) (qs T' mx n acc p)
 | 0,acc,p=>jm _
 | n+1,acc,p=>by
   rw[qs,qs];refine jl (zko h _ _ p) fun s q=>?_
   unfold kp;split
   · exact jm _
   · exact zkp h mx n _ q
theorem zkq (h:Cut m T T' E E') (lim:Int):∀n acc p,vm m (yv T E lim n acc p) (yv T' E' lim n acc p)
 | 0,acc,p=>jm _
 | n+1,acc,p=>by
   rw[yv,yv];refine jl ?_ fun e q=>zkq h lim n _ q
   unfold zaq;refine jl (zb2 h p) fun x q=>?_
   cases jk acc x with
   | none=>exact jm _
   | some r=>exact jl (zb2 h q) fun mx q=>jl (zeg h lim q) fun n q=>jl (zkp h mx n [] q) fun _ _=>jm _
theorem zkr (h:Cut m T T' E E') (le lh:Int):∀n acc p,vm m (yw T E le lh n acc p) (yw T' E' le lh n acc p)
 | 0,acc,p=>jm _
 | n+1,acc,p=>by
   rw[yw,yw];refine jl (jl (zeg h le p) fun n q=>?_) fun v q=>?_
   · split
     · exact jm _
     · exact zkq h lh n [] q
   · split
     · exact jm _
     · exact zkr h le lh n _ q
theorem zks (h:Cut m T T' E E') (N:Nat):∀k l ix p,vm m (yq T N k l ix p) (yq T' N k l ix p)
 | 0,l,ix,p=>jm _
 | k+1,l,ix,p=>by
   rw[yq,yq];refine jl (zko h _ _ p) fun s q=>jl (zb2 h q) fun x r=>?_
   split
   · exact jm _
   · split
     · exact jm _
     · exact zks h N k _ _ r
theorem zkt (h:Cut m T T' E E') (L:za) (p:Nat):vm m (thn (yz T E L.2.1 p) fun n q=>thn (yw T E L.2.2.1 L.2.2.2.1 n [] q) fun vs q=>thn (yz T E L.2.2.2.2 q) fun m q=>thn (yq T vs.length m [] [] q) fun s q=>(.ok (zt vs s.1 s.2,q):RR Kno))
 (thn (yz T' E' L.2.1 p) fun n q=>thn (yw T' E' L.2.2.1 L.2.2.2.1 n [] q) fun vs q=>thn (yz T' E' L.2.2.2.2 q) fun m q=>thn (yq T' vs.length m [] [] q) fun s q=>.ok (zt vs s.1 s.2,q)):=
 jl (zeg h _ p) fun n q=>jl (zkr h _ _ n [] q) fun vs q=>jl (zeg h _ q) fun m q=>jl (zks h _ m [] [] q) fun _ _=>jm _
theorem zga (T:zg) (E:Nat) (L:za) (p:Nat):yl T E L p=thn (thn (yz T E L.2.1 p) fun n q=>thn (yw T E L.2.2.1 L.2.2.2.1 n [] q) fun vs q=>thn (yz T E L.2.2.2.2 q) fun m q=>thn (yq T vs.length m [] [] q) fun s q=>(.ok (zt vs s.1 s.2,q):RR Kno)) fun c q=>jv E c q:=by
 unfold yl vz;rw[qc];refine jf fun n q=>?_
 rw[qc];refine jf fun vs q=>?_
 rw[qc];refine jf fun m q=>?_
 rw[qc]
 rfl
theorem zsw (h:Cut m T T' E E) (L:za) (p:Nat):vm m (yl T E L p) (yl T' E L p):=by
 rw[zga,zga];exact jl (zkt h L p) fun c q=>jm _
theorem zsx (h:Cut 5 T T' E E') (hT':∀p x q,T' p=.ok (x,q)→q≤E') (L:za) {p z:Nat} {c:Kno} (hp:p≤E') (hd:yl T E L p=.ok (c,z)) (hz:E'<z):∃w,yl T' E' L p=.error (5,w):=by
 have key:=zkt h L p;rw[zga] at hd ⊢;obtain⟨c',z',h1,h2⟩:=y7 hd;rw[h1] at key
 have hz':z'=z:=by
  unfold jv at h2;split at h2
  · cases h2
  · split at h2
    · cases h2
    · cases h2;rfl
 subst hz';rcases key with k | ⟨w,k⟩
 · exfalso;obtain⟨n,q1,a1,a2⟩:=y7 k;obtain⟨vs,q2,a3,a4⟩:=y7 a2;obtain⟨m,q3,a5,a6⟩:=y7 a4;obtain⟨s,q4,a7,a8⟩:=y7 a6;cases a8;have hq3:=hT' _ _ _ (zc0 a5).1
   have seg_le:∀m l ix p l' q,yq T' vs.length m l ix p=.ok (l',q)→p≤E'→q≤E':=by
    intro m
    induction m with
    | zero=>intro l ix p l' q h hp;cases h;exact hp
    | succ m ih=>
     intro l ix p l' q h hp;rw[yq] at h;obtain⟨s,r,b1,b2⟩:=y7 h;unfold kr at b2;obtain⟨x,r',b3,b4⟩:=y7 b2;split at b4
     · cases b4
     · split at b4
       · cases b4
       · exact ih _ _ _ _ _ b4 (hT' _ _ _ (zau b3))
   have:=seg_le _ _ _ _ _ _ a7 hq3;omega
 · rw[k];exact⟨w,rfl⟩
end
section
open Go.RowKit
attribute [local go_sem] qj
theorem zsy (f:Fn) (a b:Array Value) (w:World):(binOp .neq 280 (.func f a b) .nilFunc).run Tryz.prog w=.ok (.bool true) w:=by kernel_rfl
theorem zsz (f:Fn) (a b:Array Value) (w:World):(binOp .eql 280 (.func f a b) .nilFunc).run Tryz.prog w=.ok (.bool false) w:=by kernel_rfl
theorem zs0 (w:World):(binOp .neq 280 .nilFunc .nilFunc).run Tryz.prog w=.ok (.bool false) w:=by kernel_rfl
theorem zs1 (w:World):(binOp .eql 280 .nilFunc .nilFunc).run Tryz.prog w=.ok (.bool true) w:=by kernel_rfl
theorem zs2 (P:Program) (w:World) (a:Addr) (m:Mode):(store a .nilFunc m).run P w=stored P w a .nilFunc m:=run_store P w a _ m rfl
attribute [local go_sem] zs2 zsy zsz zs0 zs1
def PkP (w:World) (base g:Nat) (L:za) (r:Except Nat PS) (e:Ending) (w':World):Prop:=
 Below base w w'∧match r with
 | .error c=>e=.returned (.tuple #[.bool true,.iface 35 (.int .i64 (c:Int))])
 | .ok s'=>e=.returned (.tuple #[.bool (decide (s'.tag=6)),.nilIface])∧PkR w' base g L (pkF g s'.tag) s'
theorem zs3 (g t:Nat) (h:t<6):∃f,pkF g t=.func (.func f) #[.pointer (some ⟨g,0,none⟩)] #[]:=by
 rcases(by omega:t=0∨t=1∨t=2∨t=3∨t=4∨t=5) with rfl | rfl | rfl | rfl | rfl | rfl <;> exact⟨_,rfl⟩
set_option maxRecDepth 20000 in
theorem zb3 (base g:Nat) (L:za) (V cu:Value) (ents hls t:Nat) (ht6:t<6) (r:Except Nat PS) (x rest:Nat) (w:World) (hg:base≤g) (hR:Row w g 282 (pkC L (pkF g t) V ents hls cu))
 (hS:∀f,pkF g t=.func (.func f) #[.pointer (some ⟨g,0,none⟩)] #[]→Calls Tryz.prog f #[.pointer (some ⟨g,0,none⟩),.int .u64 (x:Int),.int .i64 (rest:Int)] w (PkS w base g L r)) (h6:∀s',r=.ok s'→s'.tag≤6):
 Calls Tryz.prog 146 #[.pointer (some ⟨g,0,none⟩),.int .u64 (x:Int),.int .i64 (rest:Int)] w (PkP w base g L r):=by
 have q5:=hR.cell 5 rfl;have q6:=hR.cell 6 rfl;have Hg:=hid hg
 cases r with
 | error c=>
  rcases(by omega:t=0∨t=1∨t=2∨t=3∨t=4∨t=5) with rfl | rfl | rfl | rfl | rfl | rfl
  all_goals
   have HS:=hid (hS _ rfl);simp only[pkF] at q5;clear hS;clear hR h6;go_enter Tryz.func146,Tryz.ntmps146;go_wp2_with fail;refine HS.out.mono ?_;rintro e w1 ⟨hb,rfl,C,hR1,hC⟩;obtain⟨y5,p5⟩:∃y,w1.cell? ⟨g,5,none⟩=some y:=⟨_,hR1.cell 5 (List.getElem?_eq_getElem (by omega))⟩;obtain⟨y6,p6⟩:∃y,w1.cell? ⟨g,6,none⟩=some y:=⟨_,hR1.cell 6 (List.getElem?_eq_getElem (by omega))⟩;have z5:=hR1.fz 5;have z6:=hR1.fz 6;have Hb:=hid ((hb.setCell (p:=⟨g,5,none⟩) hg .nilFunc).setCell (p:=⟨g,6,none⟩) hg (.iface 35 (.int .i64 (c:Int))));clear hb hR1 hC q5 q6;go_wp2_with fail;go_quiet (fail);all_goals go_wp2_with fail
   all_goals go_ret2
   all_goals exact⟨zv Hb.out _,rfl⟩
 | ok s'=>
  rcases(by omega:t=0∨t=1∨t=2∨t=3∨t=4∨t=5) with rfl | rfl | rfl | rfl | rfl | rfl
  all_goals
   have HS:=hid (hS _ rfl);simp only[pkF] at q5;clear hS;have H6:=hid (h6 s' rfl);clear hR h6;go_enter Tryz.func146,Tryz.ntmps146;go_wp2_with fail;refine HS.out.mono ?_;rintro e w1 ⟨hb,nx,rfl,hg',V',cu',hR1,hB⟩;have p5:=hR1.cell 5 rfl;have p6:=hR1.cell 6 rfl;have z5:=hR1.fz 5;have z6:=hR1.fz 6;have Hb:=hid ((hb.setCell (p:=⟨g,5,none⟩) hg (pkF g s'.tag)).setCell (p:=⟨g,6,none⟩) hg .nilIface);have HR:=hid (show Row ((w1.setCell ⟨g,5,none⟩ (pkF g s'.tag)).setCell ⟨g,6,none⟩ .nilIface) g 282 (pkC L (pkF g s'.tag) V' s'.ents s'.hls cu') from(hR1.set 5 _).set 6 _);have HB:=hid (hB.grown hR1 (jd (a:=⟨g,6,none⟩) (jd (a:=⟨g,5,none⟩) (za7 w1 _) (pkF g s'.tag) (.inr rfl)) .nilIface (.inr rfl)));clear hb hR1 hB q5 q6;by_cases ht:s'.tag=6
   · have Hd:=hid (show decide (s'.tag=6)=true from decide_eq_true ht);have Hf:=hid (show pkF g s'.tag=.nilFunc from by rw[ht];rfl);rw[Hf.out] at HR HB Hb ⊢;clear ht;go_wp2_with fail;go_quiet (fail);all_goals go_wp2_with fail
     all_goals go_ret2
     all_goals exact⟨zv Hb.out _,by rw[Hd.out];rfl,hg,V',cu',by rw[Hf.out];exact HR.out,HB.out.later (zv (Below.refl _ _) _)⟩
   · have Hd:=hid (show decide (s'.tag=6)=false from decide_eq_false ht);obtain⟨f',hf'⟩:=zs3 g s'.tag (by have:=H6.out;omega);have Hf:=hid hf';rw[hf'] at HR HB Hb ⊢;clear ht hf';go_wp2_with fail;go_quiet (fail);all_goals go_wp2_with fail
     all_goals go_ret2
     all_goals exact⟨zv Hb.out _,by rw[Hd.out];rfl,hg,V',cu',by rw[Hf.out];exact HR.out,HB.out.later (zv (Below.refl _ _) _)⟩
theorem zku (base g:Nat) (L:za) (s:PS) (x rest:Nat) (w:World) (h:PkR w base g L (pkF g s.tag) s) (ht:s.tag<6) (hL:LimsI L) (hx:x<18446744073709551616) (hr:rest<9223372036854775808) (hF:PFit s 900000000000) (he:1≤s.tag→0<s.ents):
 Calls Tryz.prog 146 #[.pointer (some ⟨g,0,none⟩),.int .u64 (x:Int),.int .i64 (rest:Int)] w (PkP w base g L (zm L.2.2.1 L.2.2.2.1 s x rest)):=by
 have h6:∀s',zm L.2.2.1 L.2.2.2.1 s x rest=.ok s'→s'.tag≤6:=fun s' hs=>(zct ht he hs).1
 have hvl:=hF.vl;obtain⟨hg,V,cu,hR,hB⟩:=h;have hP:PkR w base g L (pkF g s.tag) s:=⟨hg,V,cu,hR,hB⟩;rcases(by omega:s.tag=0∨s.tag=1∨s.tag=2∨s.tag=3∨s.tag=4∨s.tag=5) with e | e | e | e | e | e
 · exact zb3 base g L V cu _ _ s.tag ht _ x rest w hg hR (fun f hf=>by rw[e] at hf;cases hf;exact(zr5 base g L _ s x rest w hP e hL hx hr)) h6
 · exact zb3 base g L V cu _ _ s.tag ht _ x rest w hg hR (fun f hf=>by rw[e] at hf;cases hf;exact(zr3 base g L _ s x rest w hP e hx hF.v (by omega))) h6
 · exact zb3 base g L V cu _ _ s.tag ht _ x rest w hg hR (fun f hf=>by rw[e] at hf;cases hf;exact(zr6 base g L _ s x rest w hP e (by omega))) h6
 · exact zb3 base g L V cu _ _ s.tag ht _ x rest w hg hR (fun f hf=>by rw[e] at hf;cases hf;exact(zrz base g L _ s x rest w hP e hL hx hr (he (by omega)) hF.ents)) h6
 · exact zb3 base g L V cu _ _ s.tag ht _ x rest w hg hR (fun f hf=>by rw[e] at hf;cases hf;exact(zr0 base g L _ s x rest w hP e hx hF.h)) h6
 · exact zb3 base g L V cu _ _ s.tag ht _ x rest w hg hR (fun f hf=>by rw[e] at hf;cases hf;exact(zsq base g L _ s x rest w hP e hx hF (he (by omega)))) h6
set_option maxRecDepth 20000 in
theorem zkv (base g:Nat) (L:za) (s:PS) (w:World) (h:PkR w base g L (pkF g s.tag) s) (ht:s.tag=6):
 Calls Tryz.prog 147 #[.pointer (some ⟨g,0,none⟩)] w fun e w'=>(∃V,e=.returned V∧OwnV w base V s.v)∧w=w':=by
 obtain⟨hg,V,cu,hR,hB⟩:=h;have hV:OwnV w base V s.v:=by unfold PkB at hB;rw[ht] at hB;exact hB
 rw[ht] at hR;have q5:=hR.cell 5 rfl;have q6:=hR.cell 6 rfl;have q7:=hR.cell 7 rfl;have HV:=hid hV;simp only[pkF] at q5;clear hR hB hV ht;go_enter Tryz.func147,Tryz.ntmps147;go_wp2_with fail;go_ret;exact⟨⟨_,rfl,HV.out⟩,rfl⟩
end
