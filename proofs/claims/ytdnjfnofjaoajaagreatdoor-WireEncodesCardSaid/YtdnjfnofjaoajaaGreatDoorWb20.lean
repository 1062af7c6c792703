/- Walks and laws, joined: Wb20. -/
import Derived.Test.YtdnjfnofjaoajaaGreatDoorWb19
set_option linter.unusedVariables false
set_option maxHeartbeats 16000000
namespace Go.Proofs.YtdnjfnofjaoajaaGreatDoor
open Lib (hid)
section
open Go.RowKit Go.Shelf
attribute [local go_sem] Oper.semAt_some zd7
theorem z4j (x y:Bool) (w:World):Calls Tryz.prog 298 #[.agg #[.bool x,.bool y]] w fun e w'=>e=.returned (.bool (jl x y))∧Below w.heap.size w w':=by
 cases x <;> cases y <;>
 (go_enter Tryz.func298,Tryz.ntmps298
  go_wp2;all_goals go_ret
  all_goals exact⟨rfl,by first | exact(Below.refl _ _).alloc (Nat.le_refl _) _ | exact ye ((Below.refl _ _).alloc (Nat.le_refl _) _) _⟩)
set_option maxRecDepth 20000 in
theorem z4k (aa ab:Option Addr) (na ca nb cb:Nat) (a b:List Iv) (w:World) (hIa:Ivs w aa na ca a) (hIb:Ivs w ab nb cb b) (ga:Good a) (gb:Good b) (hn:2*a.length+2*b.length+1≤900000):
 Calls Tryz.prog 180 #[.slice aa na ca,.slice ab nb cb,.func (.func 298) #[] #[]] w fun e w'=>
  (∃v,e=.returned v∧w'.ownsRow w.heap.size 99 2 v (opL jl a b).length (ivC (opL jl a b)))∧Below w.heap.size w w':=by
 have Hla:=hid (show zq a from hIa.lt);have Hlb:=hid (show zq b from hIb.lt);have HIa:=hid hIa;have HIb:=hid hIb;have Hga:=hid ga;have Hgb:=hid gb;have Hn:=hid hn;clear hIa hIb ga gb hn;refine(callsIn_wide (n:=3)).1 ?_;refine callsIn_of_wp_marks Tryz.func180 rfl trivial ?_ rfl;simp only[Tryz.ntmps180,List.size_toArray,List.length_cons,List.length_nil,Nat.reduceAdd,Nat.reduceSub,Array.replicate_succ,Array.replicate_zero,List.push_toArray,List.append_toArray,List.nil_append,List.cons_append];refine wpIn_wide.2 ?_;go_wp2_with (go_at_call 231;refine(zog _ _ _ _ _ _ _).mono ?_;rintro e w1 ⟨rfl,rfl⟩);refine(wpIn_wide (n:=3)).1 ?_;obtain⟨C0,hC0⟩:∃C0:Obj,C0=.cells #[.func (.func 298) #[] #[]] 274:=⟨_,rfl⟩;obtain⟨C1,hC1⟩:∃C1:Obj,C1=.cells #[.slice none 0 0] 81:=⟨_,rfl⟩;obtain⟨C2,hC2⟩:∃C2:Obj,C2=.cells #[.slice aa na ca] 81:=⟨_,rfl⟩;obtain⟨C3,hC3⟩:∃C3:Obj,C3=.cells #[.slice ab nb cb] 81:=⟨_,rfl⟩;rw[←hC0,←hC1,←hC2,←hC3];obtain⟨wl,hwl⟩:∃wl:World,wl=(((w.alloc C0).alloc C1).alloc C2).alloc C3:=⟨_,rfl⟩;rw[←hwl];have hsz:wl.heap.size=w.heap.size+4:=by rw[hwl];simp
 have hbw:Below w.heap.size w wl:=by
  rw[hwl];exact((((Below.refl _ w).alloc (Nat.le_refl _) C0).alloc (by simp) C1).alloc (by simp;omega) C2).alloc (by simp;omega) C3
 have e0:wl.heap[w.heap.size]?=some C0:=by rw[hwl];exact qk (qk (qk (z7 rfl)))
 have e1:wl.heap[w.heap.size+1]?=some C1:=by rw[hwl];exact qk (qk (z7 (by simp)))
 have e2:wl.heap[w.heap.size+2]?=some C2:=by rw[hwl];exact qk (z7 (by simp))
 have e3:wl.heap[w.heap.size+3]?=some C3:=by rw[hwl];exact z7 (by simp)
 clear hwl
 refine zhp (n:=3) (gf:=259) (lb:= #[.pointer (some ⟨w.heap.size+2,0,none⟩),.pointer (some ⟨w.heap.size+3,0,none⟩)]) rfl (enters_of Tryz.func259 (by kernel_rfl) rfl)
  (zoh (3 - 1) w wl (w.heap.size+2) (w.heap.size+3) a b Hga.out Hgb.out hbw ⟨aa,na,ca,by rw[e2,hC2],HIa.out⟩ ⟨ab,nb,cb,by rw[e3,hC3],HIb.out⟩ (by omega) (by omega) (by omega))
  (fun x=>rfl) (fun k hk=>by omega) (fun k hk=>by omega)
  (fun pre W=>W.heap[w.heap.size]?=some C0∧Below w.heap.size w W∧∃v,W.heap[w.heap.size+1]?=some (.cells #[v] 81)∧W.ownsRow (w.heap.size+6) 99 2 v (zaq jl pre).length (ivC (zaq jl pre)))
  (fun _ _ _=>False) ?hI (fun _ _ _ _ h _=>h) ⟨e0,hbw,.slice none 0 0,by rw[e1,hC1],World.ownsRow_nil ..⟩ ?round ?done ?stop
 case hI=>
  rintro s A B ⟨h1,h4,v,h2,h3⟩ hk;have hs:=h4.size;exact⟨(hk.row _ (Array.getElem?_eq_some_iff.1 h1).1 (by omega)).trans h1,h4.trans (hk.toBelow (fun k hk'=>by omega) (by omega)),v,(hk.row _ (Array.getElem?_eq_some_iff.1 h2).1 (by omega)).trans h2,qr h3 (fun k hk1 hk2=>hk.row k hk2 (by omega))⟩
 case round=>
  rintro pre ⟨⟨p,q⟩,x,y⟩ W ⟨Y,hV⟩ ⟨h1,h4,v,h2,h3⟩ hsW;rw[hsz] at hsW ⊢;clear hsz;have HC0:=hid hC0;clear hbw e0 e1 e2 e3 hC0 hC1 hC2 hC3;have hp:q<18446744073709551616∧p≤q:=by obtain⟨_,k1,k2,_⟩:=zev hV;exact⟨k2,k1⟩
  obtain⟨hm1,hm2,hm3,hm4⟩:=zm7 (g:=jl) (zev hV).1;have hml:=Nat.le_trans (zrb jl pre) (zq8 (zev hV).1);have Hlen:=hid (Nat.le_trans hml Hn.out);have HsP:=hid (zra jl pre ((p,q),x,y));have Hm3:=hid hm3;have Hm1:=hid hm1;clear hm1 hm2 hm3 hm4 hml hV;have H3:=hid h3;have H4:=hid h4;have h4s:=h4.size;clear h3 h4;obtain⟨m,hm⟩:∃m:Nat,m=W.heap.size:=⟨_,rfl⟩;simp only[pcE,ivV]
  gi_wp2
  refine⟨((Kept.refl _ W).alloc _).alloc _,fun W2 hk2 hs2=>?_⟩
  try rw[World.size_alloc,World.size_alloc] at hs2
  have k1:Kept (fun k=>k≠w.heap.size+4+1) W W2:=(((Kept.refl _ W).alloc _).alloc _).trans hk2;have b1:W2.heap[w.heap.size]?=some C0:=(k1.row _ (Array.getElem?_eq_some_iff.1 h1).1 (by omega)).trans h1;have b2:W2.heap[w.heap.size+1]?=some (.cells #[v] 81):=(k1.row _ (Array.getElem?_eq_some_iff.1 h2).1 (by omega)).trans h2;have b3:W2.heap[m]?=some (.cells #[.int .u64 p,.int .u64 q] 99):=by rw[hm];exact(hk2.row _ (by simp <;> omega) (by omega)).trans (qk (z7 rfl))
  have b4:W2.heap[m+1]?=some (.cells #[.bool x,.bool y] 273):=by rw[hm];exact(hk2.row _ (by simp <;> omega) (by omega)).trans (z7 (by simp))
  have B3:=hid (qr H3.out (fun k hk1 hk2=>k1.row k hk2 (by omega)));have B4:=hid (H4.out.trans (k1.toBelow (n:=w.heap.size) (fun k hk'=>by omega) (by omega)));have hm2:m+2=W2.heap.size:=by omega
  clear k1 hk2 hs2 h1 h2 H3 H4;rw[HC0.out] at b1;rw[←hm];have Hm:=hid hm;have Hm2:=hid hm2;have HsW:=hid hsW;clear hm hm2 hsW;have c0:=y7 b1;have c1:W2.cell? ⟨m+1,0,none⟩=some (.bool x):=by simp[World.cell?,b4]
  have c2:W2.cell? ⟨m+1,1,none⟩=some (.bool y):=by simp[World.cell?,b4]
  clear b4;have hF:=hid (fun w=>z4j x y w)
  cases hg:jl x y with
  | false=>
   rw[hg] at hF HsP;simp only[Bool.false_eq_true,if_false] at HsP
   gi_wp2_with fail
   refine(CallsIn.inRound _ (callsIn_wide.2 (hF.out _))).mono ?_;rintro e w3 ⟨rfl,hb3⟩;have Hb3:=hid hb3;clear hb3
   gi_wp2
   refine⟨(Kept.refl _ W2).below Hb3.out,?_,?_,v,?_,?_⟩
   · rw[HC0.out];exact(Hb3.out.block _ (Array.getElem?_eq_some_iff.1 b1).1).trans b1
   · exact B4.out.trans (Hb3.out.mono B4.out.size)
   · exact(Hb3.out.block _ (Array.getElem?_eq_some_iff.1 b2).1).trans b2
   · rw[HsP.out];exact qr B3.out (fun k hk1 hk2=>Hb3.out.block k hk2)
  | true=>
   rw[hg] at hF HsP;simp only[if_true] at HsP
   gi_wp2_with fail
   refine(CallsIn.inRound _ (callsIn_wide.2 (hF.out _))).mono ?_;rintro e w3 ⟨rfl,hb3⟩;have Hb3:=hid hb3;clear hb3;have d1:=(Hb3.out.block _ (Array.getElem?_eq_some_iff.1 b1).1).trans b1;have d2:=(Hb3.out.block _ (Array.getElem?_eq_some_iff.1 b2).1).trans b2;have d3:=(Hb3.out.block _ (Array.getElem?_eq_some_iff.1 b3).1).trans b3;have D3:=hid (qr B3.out (fun k hk1 hk2=>Hb3.out.block k hk2));have D4:=hid (B4.out.trans (Hb3.out.mono B4.out.size));have D5:=hid ((Kept.refl (fun k=>(k<w.heap.size∨k=w.heap.size+2∨k=w.heap.size+3)∨k=w.heap.size+4∨k=w.heap.size+4+1) W2).below Hb3.out);have D6:=hid (show m+2≤w3.heap.size from by have:=Hm2.out;have:=Hb3.out.size;omega);have D7:=hid (show w.heap.size+6≤m from by have:=Hm.out;have:=HsW.out;omega);clear b1 b2 b3 B3 B4 Hb3 c0 c1 c2 hF Hm2 HsW Hm;have q1:=y7 d2;have q2:=zam d2;have q3:w3.cell? ⟨m,0,none⟩=some (.int .u64 p):=by simp[World.cell?,d3]
   have q4:w3.cell? ⟨m,1,none⟩=some (.int .u64 q):=by simp[World.cell?,d3]
   have Hd1:=hid d1;have Hd2:=hid d2;have Hd3:=hid d3;clear d1 d2 d3;generalize zaq jl pre=L at*;have hmx:Tryz.prog.follows .mixedOrders=true:=by kernel_rfl
   rcases zcm L with rfl | ⟨L,t,rfl⟩
   · obtain⟨ao,co,rfl,-⟩:=zah D3.out (fun t ht=>by cases ht);simp only[List.length_nil] at q1 Hd2 D3
     gi_wp2
     gi_cut [33] from 16 (fun v wx=>v=.bool false∧Hid (Below w3.heap.size w3 wx))
     case first=>
      gi_region_with_o (fail)
      all_goals gi_wp2
      all_goals gi_meet
      all_goals exact⟨rfl,(Below.refl _ _).drew⟩
     case rest=>
      obtain⟨wx,rfl⟩:∃wx:World,wx=wc:=⟨_,rfl⟩;obtain⟨rfl,Hbx⟩:=hcut;have HX:=hid (qr D3.out (w':=wx) (fun k hk1 hk2=>Hbx.out.block k hk2));have HX1:=hid ((Hbx.out.block _ (Array.getElem?_eq_some_iff.1 Hd1.out).1).trans Hd1.out);have HXb:=hid ((Hbx.out.block _ (Array.getElem?_eq_some_iff.1 Hd2.out).1).trans Hd2.out);have hd3:=(Hbx.out.block _ (Array.getElem?_eq_some_iff.1 Hd3.out).1).trans Hd3.out;have HX4:=hid (D4.out.trans (Hbx.out.mono D4.out.size));have HX5:=hid (D5.out.below Hbx.out);have HX6:=hid (show w.heap.size+8≤wx.heap.size from by have:=Hbx.out.size;have:=D6.out;have:=D7.out;omega);have q1:=y7 HXb.out;have q2:=zam HXb.out;have q3:wx.cell? ⟨m,0,none⟩=some (.int .u64 p):=by simp[World.cell?,hd3]
      have q4:wx.cell? ⟨m,1,none⟩=some (.int .u64 q):=by simp[World.cell?,hd3]
      clear hd3;obtain⟨v',w5,hr,ho,hgr⟩:=zd4 (w.heap.size+6) (.slice ao 0 co) 0 [] (HX.out.alloc (.cells #[.int .u64 p,.int .u64 q] 99)) (some ⟨wx.heap.size,0,none⟩) 1 1 [(p,q)] (yg (zg _ _ _ rfl) rfl rfl) (by have:=Hlen.out;simp at this ⊢ <;> omega) (by have:=HX6.out;simp;omega);obtain⟨g',cap',rfl⟩:=ownsRow_succ ho;have hne:some (w.heap.size+1)≠(.slice ao 0 co:Value).ownBlock:=fun e=>by have:=(HX.out.lt _ e.symm).1;omega
      have e5:w5.heap[w.heap.size+1]?=some (.cells #[.slice ao 0 co] 81):=(hgr.block _ (by have:=HX6.out;simp;omega) hne).trans (qk HXb.out);have q5:=y7 e5;have q6:=zam e5;have He5:=hid e5;have Ho:=hid ho;have Hgr:=hid hgr;clear e5 ho hgr hne
      gi_wp2_with (gi_at_builtin;refine zhq rfl _ _ 81 rfl _ _ rfl rfl _ _ hr ?_)
      refine⟨?_,?_,?_,_,zcj He5.out,?_⟩
      · exact((HX5.out.alloc _).grown Hgr.out (fun k hk _=>by have:=(HX.out.lt k hk).1;omega)).setCell (fun _=>by simp only;omega) _
      · rw[HC0.out];refine(Below.heap_setCell _ _ _ _ (by simp only;omega)).trans ((Hgr.out.block _ (by have:=HX6.out;simp;omega) (fun e=>by have:=(HX.out.lt _ e.symm).1;omega)).trans (qk HX1.out))
      · exact((HX4.out.alloc HX4.out.size _).grown Hgr.out (by have:=HX4.out.size;simp;omega) (fun k hk=>by have:=(HX.out.lt k hk).1;omega)).setCell (by simp only;omega) _
      · have h:=qr Ho.out (w':=w5.setCell ⟨w.heap.size+1,0,none⟩ (.slice (some ⟨g',0,none⟩) (0+1) cap')) (fun k hk1 hk2=>Below.heap_setCell _ _ _ _ (by simp only;omega));rw[HsP.out,zga];simpa using h
   · have hlk:L.length+1=(L++[t]).length:=by simp
     obtain⟨n,hn⟩:∃n:Nat,n=(L++[t]).length:=⟨_,rfl⟩;rw[←hn] at D3 Hlen;obtain⟨k,hk⟩:∃k:Nat,k=L.length:=⟨_,rfl⟩;have hnk:n=k+1:=by omega
     obtain⟨g,co,rfl,-⟩:=D3.out.form (by omega);obtain⟨e1,e2⟩:=zd2 (L++[t]) k (by simp;omega);have hnt:zb (L++[t]) k=t:=by rw[qf (by simp;omega),List.getElem_append_right (by omega)];simp[hk]
     rw[hnt] at e1 e2;have hc1:=(D3.out.cellAt (k*2) (by omega)).trans e1;have hc2:=(D3.out.cellAt (k*2+1) (by omega)).trans e2;have Hc2:=hid e2;have Ht:=hid (Hm3.out t (by simp))
     have Hco:=hid (show n≤co from by
      rcases D3.out.2 with ⟨h',_⟩ | ⟨g',cap',cur,h',_,_,hnc,_⟩
      · simp at h'
      · simp only[Value.slice.injEq,Option.some.injEq,Addr.mk.injEq,and_true,true_and] at h';obtain⟨rfl,rfl⟩:=h';exact hnc)
     have hsub:IntKind.i64.wrap ((n:Int) - 1)=(k:Int):=by have:=Hlen.out;rw[IntKind.wrap_i64];omega
     have h01:(k:Int)<(n:Int):=by omega
     have h02:decide ((0:Int)≤(k:Int))=true:=by rw[decide_eq_true_iff];omega
     have hgl:=ze hc1;simp only at hgl;have Hk:=hid hnk;have Hl:=hid hk;have Hn2:=hid hn;have hR:=hid (fun w=>zmv t (p,q) w Ht.out ⟨by omega,hp.1⟩);have Hrel:=hid (show (decide (qh t (p,q)=1))=decide (t.2+1=p) from decide_eq_decide.2 (zqr (Hm1.out.ok t (by simp)) hp.2));clear hlk hnk hk hn e1 e2 hnt;obtain⟨tx,ty⟩:=t
     gi_wp2
     gi_cut [33] from 16 (fun v wx=>v=.bool (decide (ty+1=p))∧Hid (Below w3.heap.size w3 wx))
     case first=>
      obtain⟨r,hr⟩:∃r:Nat,r=qh (tx,ty) (p,q):=⟨_,rfl⟩;rw[←hr] at hR Hrel;have hrr:((r:Int) == 1)=decide (ty+1=p):=by rw[←Hrel.out];by_cases h:r=1 <;> simp[h] <;> omega
      clear hr
      gi_region_with_o (gi_at_call 154;refine(CallsIn.inRound _ (callsIn_wide.2 (hR.out _))).mono ?_;rintro e w4 ⟨rfl,hb4⟩)
      all_goals gi_wp2
      all_goals gi_meet
      all_goals exact⟨by first | rfl | rw[hrr],by first | exact hb4.drew | exact((Below.refl _ _).drew).trans hb4⟩
     case rest=>
      obtain⟨wx,rfl⟩:∃wx:World,wx=wc:=⟨_,rfl⟩;obtain⟨rfl,Hbx⟩:=hcut;have HX:=hid (qr D3.out (w':=wx) (fun k hk1 hk2=>Hbx.out.block k hk2));have HX1:=hid ((Hbx.out.block _ (Array.getElem?_eq_some_iff.1 Hd1.out).1).trans Hd1.out);have HXb:=hid ((Hbx.out.block _ (Array.getElem?_eq_some_iff.1 Hd2.out).1).trans Hd2.out);have hd3:=(Hbx.out.block _ (Array.getElem?_eq_some_iff.1 Hd3.out).1).trans Hd3.out;have HX4:=hid (D4.out.trans (Hbx.out.mono D4.out.size));have HX5:=hid (D5.out.below Hbx.out);have HX6:=hid (show w.heap.size+8≤wx.heap.size from by have:=Hbx.out.size;have:=D6.out;have:=D7.out;omega);have q1:=y7 HXb.out;have q2:=zam HXb.out;have q3:wx.cell? ⟨m,0,none⟩=some (.int .u64 p):=by simp[World.cell?,hd3]
      have q4:wx.cell? ⟨m,1,none⟩=some (.int .u64 q):=by simp[World.cell?,hd3]
      clear hd3;by_cases htb:ty+1=p
      · have htb':decide (ty+1=p)=true:=decide_eq_true htb;have Htb:=hid htb;clear htb;have hle:k<n:=by have:=Hk.out;omega
        have hco:n≤co:=Hco.out;have z1:=(HX.out.cellAt (k*2+1) (by have:=Hk.out;omega)).trans Hc2.out;have z2:=HX.out.frozenAt (k*2+1);have hgb:=(HX.out.lt g rfl).1
        gi_wp2
        refine⟨HX5.out.setCell (fun _=>by simp only;omega) _,?_,HX4.out.setCell (by simp only;omega) _,_,(Below.heap_setCell _ _ _ _ (by simp only;omega)).trans HXb.out,?_⟩
        · rw[HC0.out];exact(Below.heap_setCell _ _ _ _ (by simp only;omega)).trans HX1.out
        · have h:=(HX.out.stored (k*2+1) (.int .u64 q)).1;rw[HsP.out,zej,if_pos Htb.out,show (L++[(tx,q)]).length=n from by have:=Hk.out;have:=Hl.out;simp;omega];rw[Hl.out,zmn (L++[(tx,ty)]) L.length q (by simp)] at h;have e:(L++[(tx,ty)]).set L.length ((zb (L++[(tx,ty)]) L.length).1,q)=L++[(tx,q)]:=by simp[zb]
          rw[e,←Hl.out] at h;exact h
      · have htb':decide (ty+1=p)=false:=decide_eq_false htb;have Htb:=hid htb;clear htb;obtain⟨v',w5,hr,ho,hgr⟩:=zd4 (w.heap.size+6) (.slice (some ⟨g,0,none⟩) n co) n (L++[(tx,ty)]) (HX.out.alloc (.cells #[.int .u64 p,.int .u64 q] 99)) (some ⟨wx.heap.size,0,none⟩) 1 1 [(p,q)] (yg (zg _ _ _ rfl) rfl rfl) (by have:=Hlen.out;simp at this ⊢ <;> omega) (by have:=HX6.out;simp;omega);obtain⟨g',cap',rfl⟩:=ownsRow_succ ho;have hne:some (w.heap.size+1)≠(.slice (some ⟨g,0,none⟩) n co:Value).ownBlock:=fun e=>by have:=(HX.out.lt _ e.symm).1;omega
        have e5:w5.heap[w.heap.size+1]?=some (.cells #[.slice (some ⟨g,0,none⟩) n co] 81):=(hgr.block _ (by have:=HX6.out;simp;omega) hne).trans (qk HXb.out);have q5:=y7 e5;have q6:=zam e5;have He5:=hid e5;have Ho:=hid ho;have Hgr:=hid hgr;clear e5 ho hgr hne
        gi_wp2_with (gi_at_builtin;refine zhq rfl _ _ 81 rfl _ _ rfl rfl _ _ hr ?_)
        refine⟨?_,?_,?_,_,zcj He5.out,?_⟩
        · exact((HX5.out.alloc _).grown Hgr.out (fun k hk _=>by have:=(HX.out.lt k hk).1;omega)).setCell (fun _=>by simp only;omega) _
        · rw[HC0.out];refine(Below.heap_setCell _ _ _ _ (by simp only;omega)).trans ((Hgr.out.block _ (by have:=HX6.out;simp;omega) (fun e=>by have:=(HX.out.lt _ e.symm).1;omega)).trans (qk HX1.out))
        · exact((HX4.out.alloc HX4.out.size _).grown Hgr.out (by have:=HX4.out.size;simp;omega) (fun k hk=>by have:=(HX.out.lt k hk).1;omega)).setCell (by simp only;omega) _
        · have h:=qr Ho.out (w':=w5.setCell ⟨w.heap.size+1,0,none⟩ (.slice (some ⟨g',0,none⟩) (n+1) cap')) (fun k hk1 hk2=>Below.heap_setCell _ _ _ _ (by simp only;omega));rw[HsP.out,zej,if_neg Htb.out,show (L++[(tx,ty)]++[(p,q)]).length=n+1 from by have:=Hk.out;have:=Hl.out;simp;omega];exact h
 case done=>
  rintro ps W hS ⟨h1,h4,v,h2,h3⟩ hK;have hall:=hid (zm8 (g:=jl) Hla.out Hlb.out rfl hS);rw[hall.out] at h3;have q1:=y7 h2;have H3:=hid h3;have H4:=hid h4;have Hhw:=hid (Array.getElem?_eq_some_iff.1 hK).1;clear h1 h2 h3 h4 hS e0 e1 e2 e3
  gi_wp2
  go_wp2;refine⟨by simp,.inl ⟨_,_,rfl,run_takeDeferred hK,?_⟩⟩;refine⟨_,results_tmp rfl _ _ _,⟨v,rfl,?_⟩,?_⟩
  · refine y9 (qr H3.out (fun k hk1 hk2=>World.putObj_heap_other (by omega))) (by omega)
  · exact(Kept.refl (fun k=>k<w.heap.size) W).putObj (fun _ h=>by have h':wl.heap.size<w.heap.size:=h;omega) _ |>.toBelow (fun _ h=>h) H4.out.size |> H4.out.trans
 case stop=>
  rintro c pre W hV h;exact h.elim
end
section
open Go.RowKit Go.Shelf
attribute [local go_sem] Oper.semAt_some zd7
theorem z4l (x y:Bool) (w:World):Calls Tryz.prog 181 #[.agg #[.bool x,.bool y]] w fun e w'=>e=.returned (.bool (gOr x y))∧Below w.heap.size w w':=by
 cases x <;> cases y <;>
 (go_enter Tryz.func181,Tryz.ntmps181
  go_wp2;all_goals go_ret
  all_goals exact⟨rfl,by first | exact(Below.refl _ _).alloc (Nat.le_refl _) _ | exact ye ((Below.refl _ _).alloc (Nat.le_refl _) _) _⟩)
set_option maxRecDepth 20000 in
theorem z4m (aa ab:Option Addr) (na ca nb cb:Nat) (a b:List Iv) (w:World) (hIa:Ivs w aa na ca a) (hIb:Ivs w ab nb cb b) (ga:Good a) (gb:Good b) (hn:2*a.length+2*b.length+1≤900000):
 Calls Tryz.prog 180 #[.slice aa na ca,.slice ab nb cb,.func (.func 181) #[] #[]] w fun e w'=>
  (∃v,e=.returned v∧w'.ownsRow w.heap.size 99 2 v (opL gOr a b).length (ivC (opL gOr a b)))∧Below w.heap.size w w':=by
 have Hla:=hid (show zq a from hIa.lt);have Hlb:=hid (show zq b from hIb.lt);have HIa:=hid hIa;have HIb:=hid hIb;have Hga:=hid ga;have Hgb:=hid gb;have Hn:=hid hn;clear hIa hIb ga gb hn;refine(callsIn_wide (n:=3)).1 ?_;refine callsIn_of_wp_marks Tryz.func180 rfl trivial ?_ rfl;simp only[Tryz.ntmps180,List.size_toArray,List.length_cons,List.length_nil,Nat.reduceAdd,Nat.reduceSub,Array.replicate_succ,Array.replicate_zero,List.push_toArray,List.append_toArray,List.nil_append,List.cons_append];refine wpIn_wide.2 ?_;go_wp2_with (go_at_call 231;refine(zog _ _ _ _ _ _ _).mono ?_;rintro e w1 ⟨rfl,rfl⟩);refine(wpIn_wide (n:=3)).1 ?_;obtain⟨C0,hC0⟩:∃C0:Obj,C0=.cells #[.func (.func 181) #[] #[]] 274:=⟨_,rfl⟩;obtain⟨C1,hC1⟩:∃C1:Obj,C1=.cells #[.slice none 0 0] 81:=⟨_,rfl⟩;obtain⟨C2,hC2⟩:∃C2:Obj,C2=.cells #[.slice aa na ca] 81:=⟨_,rfl⟩;obtain⟨C3,hC3⟩:∃C3:Obj,C3=.cells #[.slice ab nb cb] 81:=⟨_,rfl⟩;rw[←hC0,←hC1,←hC2,←hC3];obtain⟨wl,hwl⟩:∃wl:World,wl=(((w.alloc C0).alloc C1).alloc C2).alloc C3:=⟨_,rfl⟩;rw[←hwl];have hsz:wl.heap.size=w.heap.size+4:=by rw[hwl];simp
 have hbw:Below w.heap.size w wl:=by
  rw[hwl];exact((((Below.refl _ w).alloc (Nat.le_refl _) C0).alloc (by simp) C1).alloc (by simp;omega) C2).alloc (by simp;omega) C3
 have e0:wl.heap[w.heap.size]?=some C0:=by rw[hwl];exact qk (qk (qk (z7 rfl)))
 have e1:wl.heap[w.heap.size+1]?=some C1:=by rw[hwl];exact qk (qk (z7 (by simp)))
 have e2:wl.heap[w.heap.size+2]?=some C2:=by rw[hwl];exact qk (z7 (by simp))
 have e3:wl.heap[w.heap.size+3]?=some C3:=by rw[hwl];exact z7 (by simp)
 clear hwl
 refine zhp (n:=3) (gf:=259) (lb:= #[.pointer (some ⟨w.heap.size+2,0,none⟩),.pointer (some ⟨w.heap.size+3,0,none⟩)]) rfl (enters_of Tryz.func259 (by kernel_rfl) rfl)
  (zoh (3 - 1) w wl (w.heap.size+2) (w.heap.size+3) a b Hga.out Hgb.out hbw ⟨aa,na,ca,by rw[e2,hC2],HIa.out⟩ ⟨ab,nb,cb,by rw[e3,hC3],HIb.out⟩ (by omega) (by omega) (by omega))
  (fun x=>rfl) (fun k hk=>by omega) (fun k hk=>by omega)
  (fun pre W=>W.heap[w.heap.size]?=some C0∧Below w.heap.size w W∧∃v,W.heap[w.heap.size+1]?=some (.cells #[v] 81)∧W.ownsRow (w.heap.size+6) 99 2 v (zaq gOr pre).length (ivC (zaq gOr pre)))
  (fun _ _ _=>False) ?hI (fun _ _ _ _ h _=>h) ⟨e0,hbw,.slice none 0 0,by rw[e1,hC1],World.ownsRow_nil ..⟩ ?round ?done ?stop
 case hI=>
  rintro s A B ⟨h1,h4,v,h2,h3⟩ hk;have hs:=h4.size;exact⟨(hk.row _ (Array.getElem?_eq_some_iff.1 h1).1 (by omega)).trans h1,h4.trans (hk.toBelow (fun k hk'=>by omega) (by omega)),v,(hk.row _ (Array.getElem?_eq_some_iff.1 h2).1 (by omega)).trans h2,qr h3 (fun k hk1 hk2=>hk.row k hk2 (by omega))⟩
 case round=>
  rintro pre ⟨⟨p,q⟩,x,y⟩ W ⟨Y,hV⟩ ⟨h1,h4,v,h2,h3⟩ hsW;rw[hsz] at hsW ⊢;clear hsz;have HC0:=hid hC0;clear hbw e0 e1 e2 e3 hC0 hC1 hC2 hC3;have hp:q<18446744073709551616∧p≤q:=by obtain⟨_,k1,k2,_⟩:=zev hV;exact⟨k2,k1⟩
  obtain⟨hm1,hm2,hm3,hm4⟩:=zm7 (g:=gOr) (zev hV).1;have hml:=Nat.le_trans (zrb gOr pre) (zq8 (zev hV).1);have Hlen:=hid (Nat.le_trans hml Hn.out);have HsP:=hid (zra gOr pre ((p,q),x,y));have Hm3:=hid hm3;have Hm1:=hid hm1;clear hm1 hm2 hm3 hm4 hml hV;have H3:=hid h3;have H4:=hid h4;have h4s:=h4.size;clear h3 h4;obtain⟨m,hm⟩:∃m:Nat,m=W.heap.size:=⟨_,rfl⟩;simp only[pcE,ivV]
  gi_wp2
  refine⟨((Kept.refl _ W).alloc _).alloc _,fun W2 hk2 hs2=>?_⟩
  try rw[World.size_alloc,World.size_alloc] at hs2
  have k1:Kept (fun k=>k≠w.heap.size+4+1) W W2:=(((Kept.refl _ W).alloc _).alloc _).trans hk2;have b1:W2.heap[w.heap.size]?=some C0:=(k1.row _ (Array.getElem?_eq_some_iff.1 h1).1 (by omega)).trans h1;have b2:W2.heap[w.heap.size+1]?=some (.cells #[v] 81):=(k1.row _ (Array.getElem?_eq_some_iff.1 h2).1 (by omega)).trans h2;have b3:W2.heap[m]?=some (.cells #[.int .u64 p,.int .u64 q] 99):=by rw[hm];exact(hk2.row _ (by simp <;> omega) (by omega)).trans (qk (z7 rfl))
  have b4:W2.heap[m+1]?=some (.cells #[.bool x,.bool y] 273):=by rw[hm];exact(hk2.row _ (by simp <;> omega) (by omega)).trans (z7 (by simp))
  have B3:=hid (qr H3.out (fun k hk1 hk2=>k1.row k hk2 (by omega)));have B4:=hid (H4.out.trans (k1.toBelow (n:=w.heap.size) (fun k hk'=>by omega) (by omega)));have hm2:m+2=W2.heap.size:=by omega
  clear k1 hk2 hs2 h1 h2 H3 H4;rw[HC0.out] at b1;rw[←hm];have Hm:=hid hm;have Hm2:=hid hm2;have HsW:=hid hsW;clear hm hm2 hsW;have c0:=y7 b1;have c1:W2.cell? ⟨m+1,0,none⟩=some (.bool x):=by simp[World.cell?,b4]
  have c2:W2.cell? ⟨m+1,1,none⟩=some (.bool y):=by simp[World.cell?,b4]
  clear b4;have hF:=hid (fun w=>z4l x y w)
  cases hg:gOr x y with
  | false=>
   rw[hg] at hF HsP;simp only[Bool.false_eq_true,if_false] at HsP
   gi_wp2_with fail
   refine(CallsIn.inRound _ (callsIn_wide.2 (hF.out _))).mono ?_;rintro e w3 ⟨rfl,hb3⟩;have Hb3:=hid hb3;clear hb3
   gi_wp2
   refine⟨(Kept.refl _ W2).below Hb3.out,?_,?_,v,?_,?_⟩
   · rw[HC0.out];exact(Hb3.out.block _ (Array.getElem?_eq_some_iff.1 b1).1).trans b1
   · exact B4.out.trans (Hb3.out.mono B4.out.size)
   · exact(Hb3.out.block _ (Array.getElem?_eq_some_iff.1 b2).1).trans b2
   · rw[HsP.out];exact qr B3.out (fun k hk1 hk2=>Hb3.out.block k hk2)
  | true=>
   rw[hg] at hF HsP;simp only[if_true] at HsP
   gi_wp2_with fail
   refine(CallsIn.inRound _ (callsIn_wide.2 (hF.out _))).mono ?_;rintro e w3 ⟨rfl,hb3⟩;have Hb3:=hid hb3;clear hb3;have d1:=(Hb3.out.block _ (Array.getElem?_eq_some_iff.1 b1).1).trans b1;have d2:=(Hb3.out.block _ (Array.getElem?_eq_some_iff.1 b2).1).trans b2;have d3:=(Hb3.out.block _ (Array.getElem?_eq_some_iff.1 b3).1).trans b3;have D3:=hid (qr B3.out (fun k hk1 hk2=>Hb3.out.block k hk2));have D4:=hid (B4.out.trans (Hb3.out.mono B4.out.size));have D5:=hid ((Kept.refl (fun k=>(k<w.heap.size∨k=w.heap.size+2∨k=w.heap.size+3)∨k=w.heap.size+4∨k=w.heap.size+4+1) W2).below Hb3.out);have D6:=hid (show m+2≤w3.heap.size from by have:=Hm2.out;have:=Hb3.out.size;omega);have D7:=hid (show w.heap.size+6≤m from by have:=Hm.out;have:=HsW.out;omega);clear b1 b2 b3 B3 B4 Hb3 c0 c1 c2 hF Hm2 HsW Hm;have q1:=y7 d2;have q2:=zam d2;have q3:w3.cell? ⟨m,0,none⟩=some (.int .u64 p):=by simp[World.cell?,d3]
   have q4:w3.cell? ⟨m,1,none⟩=some (.int .u64 q):=by simp[World.cell?,d3]
   have Hd1:=hid d1;have Hd2:=hid d2;have Hd3:=hid d3;clear d1 d2 d3;generalize zaq gOr pre=L at*;have hmx:Tryz.prog.follows .mixedOrders=true:=by kernel_rfl
   rcases zcm L with rfl | ⟨L,t,rfl⟩
   · obtain⟨ao,co,rfl,-⟩:=zah D3.out (fun t ht=>by cases ht);simp only[List.length_nil] at q1 Hd2 D3
     gi_wp2
     gi_cut [33] from 16 (fun v wx=>v=.bool false∧Hid (Below w3.heap.size w3 wx))
     case first=>
      gi_region_with_o (fail)
      all_goals gi_wp2
      all_goals gi_meet
      all_goals exact⟨rfl,(Below.refl _ _).drew⟩
     case rest=>
      obtain⟨wx,rfl⟩:∃wx:World,wx=wc:=⟨_,rfl⟩;obtain⟨rfl,Hbx⟩:=hcut;have HX:=hid (qr D3.out (w':=wx) (fun k hk1 hk2=>Hbx.out.block k hk2));have HX1:=hid ((Hbx.out.block _ (Array.getElem?_eq_some_iff.1 Hd1.out).1).trans Hd1.out);have HXb:=hid ((Hbx.out.block _ (Array.getElem?_eq_some_iff.1 Hd2.out).1).trans Hd2.out);have hd3:=(Hbx.out.block _ (Array.getElem?_eq_some_iff.1 Hd3.out).1).trans Hd3.out;have HX4:=hid (D4.out.trans (Hbx.out.mono D4.out.size));have HX5:=hid (D5.out.below Hbx.out);have HX6:=hid (show w.heap.size+8≤wx.heap.size from by have:=Hbx.out.size;have:=D6.out;have:=D7.out;omega);have q1:=y7 HXb.out;have q2:=zam HXb.out;have q3:wx.cell? ⟨m,0,none⟩=some (.int .u64 p):=by simp[World.cell?,hd3]
      have q4:wx.cell? ⟨m,1,none⟩=some (.int .u64 q):=by simp[World.cell?,hd3]
      clear hd3;obtain⟨v',w5,hr,ho,hgr⟩:=zd4 (w.heap.size+6) (.slice ao 0 co) 0 [] (HX.out.alloc (.cells #[.int .u64 p,.int .u64 q] 99)) (some ⟨wx.heap.size,0,none⟩) 1 1 [(p,q)] (yg (zg _ _ _ rfl) rfl rfl) (by have:=Hlen.out;simp at this ⊢ <;> omega) (by have:=HX6.out;simp;omega);obtain⟨g',cap',rfl⟩:=ownsRow_succ ho;have hne:some (w.heap.size+1)≠(.slice ao 0 co:Value).ownBlock:=fun e=>by have:=(HX.out.lt _ e.symm).1;omega
      have e5:w5.heap[w.heap.size+1]?=some (.cells #[.slice ao 0 co] 81):=(hgr.block _ (by have:=HX6.out;simp;omega) hne).trans (qk HXb.out);have q5:=y7 e5;have q6:=zam e5;have He5:=hid e5;have Ho:=hid ho;have Hgr:=hid hgr;clear e5 ho hgr hne
      gi_wp2_with (gi_at_builtin;refine zhq rfl _ _ 81 rfl _ _ rfl rfl _ _ hr ?_)
      refine⟨?_,?_,?_,_,zcj He5.out,?_⟩
      · exact((HX5.out.alloc _).grown Hgr.out (fun k hk _=>by have:=(HX.out.lt k hk).1;omega)).setCell (fun _=>by simp only;omega) _
      · rw[HC0.out];refine(Below.heap_setCell _ _ _ _ (by simp only;omega)).trans ((Hgr.out.block _ (by have:=HX6.out;simp;omega) (fun e=>by have:=(HX.out.lt _ e.symm).1;omega)).trans (qk HX1.out))
      · exact((HX4.out.alloc HX4.out.size _).grown Hgr.out (by have:=HX4.out.size;simp;omega) (fun k hk=>by have:=(HX.out.lt k hk).1;omega)).setCell (by simp only;omega) _
      · have h:=qr Ho.out (w':=w5.setCell ⟨w.heap.size+1,0,none⟩ (.slice (some ⟨g',0,none⟩) (0+1) cap')) (fun k hk1 hk2=>Below.heap_setCell _ _ _ _ (by simp only;omega));rw[HsP.out,zga];simpa using h
   · have hlk:L.length+1=(L++[t]).length:=by simp
     obtain⟨n,hn⟩:∃n:Nat,n=(L++[t]).length:=⟨_,rfl⟩;rw[←hn] at D3 Hlen;obtain⟨k,hk⟩:∃k:Nat,k=L.length:=⟨_,rfl⟩;have hnk:n=k+1:=by omega
     obtain⟨g,co,rfl,-⟩:=D3.out.form (by omega);obtain⟨e1,e2⟩:=zd2 (L++[t]) k (by simp;omega);have hnt:zb (L++[t]) k=t:=by rw[qf (by simp;omega),List.getElem_append_right (by omega)];simp[hk]
     rw[hnt] at e1 e2;have hc1:=(D3.out.cellAt (k*2) (by omega)).trans e1;have hc2:=(D3.out.cellAt (k*2+1) (by omega)).trans e2;have Hc2:=hid e2;have Ht:=hid (Hm3.out t (by simp))
     have Hco:=hid (show n≤co from by
      rcases D3.out.2 with ⟨h',_⟩ | ⟨g',cap',cur,h',_,_,hnc,_⟩
      · simp at h'
      · simp only[Value.slice.injEq,Option.some.injEq,Addr.mk.injEq,and_true,true_and] at h';obtain⟨rfl,rfl⟩:=h';exact hnc)
     have hsub:IntKind.i64.wrap ((n:Int) - 1)=(k:Int):=by have:=Hlen.out;rw[IntKind.wrap_i64];omega
     have h01:(k:Int)<(n:Int):=by omega
     have h02:decide ((0:Int)≤(k:Int))=true:=by rw[decide_eq_true_iff];omega
     have hgl:=ze hc1;simp only at hgl;have Hk:=hid hnk;have Hl:=hid hk;have Hn2:=hid hn;have hR:=hid (fun w=>zmv t (p,q) w Ht.out ⟨by omega,hp.1⟩);have Hrel:=hid (show (decide (qh t (p,q)=1))=decide (t.2+1=p) from decide_eq_decide.2 (zqr (Hm1.out.ok t (by simp)) hp.2));clear hlk hnk hk hn e1 e2 hnt;obtain⟨tx,ty⟩:=t
     gi_wp2
     gi_cut [33] from 16 (fun v wx=>v=.bool (decide (ty+1=p))∧Hid (Below w3.heap.size w3 wx))
     case first=>
      obtain⟨r,hr⟩:∃r:Nat,r=qh (tx,ty) (p,q):=⟨_,rfl⟩;rw[←hr] at hR Hrel;have hrr:((r:Int) == 1)=decide (ty+1=p):=by rw[←Hrel.out];by_cases h:r=1 <;> simp[h] <;> omega
      clear hr
      gi_region_with_o (gi_at_call 154;refine(CallsIn.inRound _ (callsIn_wide.2 (hR.out _))).mono ?_;rintro e w4 ⟨rfl,hb4⟩)
      all_goals gi_wp2
      all_goals gi_meet
      all_goals exact⟨by first | rfl | rw[hrr],by first | exact hb4.drew | exact((Below.refl _ _).drew).trans hb4⟩
     case rest=>
      obtain⟨wx,rfl⟩:∃wx:World,wx=wc:=⟨_,rfl⟩;obtain⟨rfl,Hbx⟩:=hcut;have HX:=hid (qr D3.out (w':=wx) (fun k hk1 hk2=>Hbx.out.block k hk2));have HX1:=hid ((Hbx.out.block _ (Array.getElem?_eq_some_iff.1 Hd1.out).1).trans Hd1.out);have HXb:=hid ((Hbx.out.block _ (Array.getElem?_eq_some_iff.1 Hd2.out).1).trans Hd2.out);have hd3:=(Hbx.out.block _ (Array.getElem?_eq_some_iff.1 Hd3.out).1).trans Hd3.out;have HX4:=hid (D4.out.trans (Hbx.out.mono D4.out.size));have HX5:=hid (D5.out.below Hbx.out);have HX6:=hid (show w.heap.size+8≤wx.heap.size from by have:=Hbx.out.size;have:=D6.out;have:=D7.out;omega);have q1:=y7 HXb.out;have q2:=zam HXb.out;have q3:wx.cell? ⟨m,0,none⟩=some (.int .u64 p):=by simp[World.cell?,hd3]
      have q4:wx.cell? ⟨m,1,none⟩=some (.int .u64 q):=by simp[World.cell?,hd3]
      clear hd3;by_cases htb:ty+1=p
      · have htb':decide (ty+1=p)=true:=decide_eq_true htb;have Htb:=hid htb;clear htb;have hle:k<n:=by have:=Hk.out;omega
        have hco:n≤co:=Hco.out;have z1:=(HX.out.cellAt (k*2+1) (by have:=Hk.out;omega)).trans Hc2.out;have z2:=HX.out.frozenAt (k*2+1);have hgb:=(HX.out.lt g rfl).1
        gi_wp2
        refine⟨HX5.out.setCell (fun _=>by simp only;omega) _,?_,HX4.out.setCell (by simp only;omega) _,_,(Below.heap_setCell _ _ _ _ (by simp only;omega)).trans HXb.out,?_⟩
        · rw[HC0.out];exact(Below.heap_setCell _ _ _ _ (by simp only;omega)).trans HX1.out
        · have h:=(HX.out.stored (k*2+1) (.int .u64 q)).1;rw[HsP.out,zej,if_pos Htb.out,show (L++[(tx,q)]).length=n from by have:=Hk.out;have:=Hl.out;simp;omega];rw[Hl.out,zmn (L++[(tx,ty)]) L.length q (by simp)] at h;have e:(L++[(tx,ty)]).set L.length ((zb (L++[(tx,ty)]) L.length).1,q)=L++[(tx,q)]:=by simp[zb]
          rw[e,←Hl.out] at h;exact h
      · have htb':decide (ty+1=p)=false:=decide_eq_false htb;have Htb:=hid htb;clear htb;obtain⟨v',w5,hr,ho,hgr⟩:=zd4 (w.heap.size+6) (.slice (some ⟨g,0,none⟩) n co) n (L++[(tx,ty)]) (HX.out.alloc (.cells #[.int .u64 p,.int .u64 q] 99)) (some ⟨wx.heap.size,0,none⟩) 1 1 [(p,q)] (yg (zg _ _ _ rfl) rfl rfl) (by have:=Hlen.out;simp at this ⊢ <;> omega) (by have:=HX6.out;simp;omega);obtain⟨g',cap',rfl⟩:=ownsRow_succ ho;have hne:some (w.heap.size+1)≠(.slice (some ⟨g,0,none⟩) n co:Value).ownBlock:=fun e=>by have:=(HX.out.lt _ e.symm).1;omega
        have e5:w5.heap[w.heap.size+1]?=some (.cells #[.slice (some ⟨g,0,none⟩) n co] 81):=(hgr.block _ (by have:=HX6.out;simp;omega) hne).trans (qk HXb.out);have q5:=y7 e5;have q6:=zam e5;have He5:=hid e5;have Ho:=hid ho;have Hgr:=hid hgr;clear e5 ho hgr hne
        gi_wp2_with (gi_at_builtin;refine zhq rfl _ _ 81 rfl _ _ rfl rfl _ _ hr ?_)
        refine⟨?_,?_,?_,_,zcj He5.out,?_⟩
        · exact((HX5.out.alloc _).grown Hgr.out (fun k hk _=>by have:=(HX.out.lt k hk).1;omega)).setCell (fun _=>by simp only;omega) _
        · rw[HC0.out];refine(Below.heap_setCell _ _ _ _ (by simp only;omega)).trans ((Hgr.out.block _ (by have:=HX6.out;simp;omega) (fun e=>by have:=(HX.out.lt _ e.symm).1;omega)).trans (qk HX1.out))
        · exact((HX4.out.alloc HX4.out.size _).grown Hgr.out (by have:=HX4.out.size;simp;omega) (fun k hk=>by have:=(HX.out.lt k hk).1;omega)).setCell (by simp only;omega) _
        · have h:=qr Ho.out (w':=w5.setCell ⟨w.heap.size+1,0,none⟩ (.slice (some ⟨g',0,none⟩) (n+1) cap')) (fun k hk1 hk2=>Below.heap_setCell _ _ _ _ (by simp only;omega));rw[HsP.out,zej,if_neg Htb.out,show (L++[(tx,ty)]++[(p,q)]).length=n+1 from by have:=Hk.out;have:=Hl.out;simp;omega];exact h
 case done=>
  rintro ps W hS ⟨h1,h4,v,h2,h3⟩ hK;have hall:=hid (zm8 (g:=gOr) Hla.out Hlb.out rfl hS);rw[hall.out] at h3;have q1:=y7 h2;have H3:=hid h3;have H4:=hid h4;have Hhw:=hid (Array.getElem?_eq_some_iff.1 hK).1;clear h1 h2 h3 h4 hS e0 e1 e2 e3
  gi_wp2
  go_wp2;refine⟨by simp,.inl ⟨_,_,rfl,run_takeDeferred hK,?_⟩⟩;refine⟨_,results_tmp rfl _ _ _,⟨v,rfl,?_⟩,?_⟩
  · refine y9 (qr H3.out (fun k hk1 hk2=>World.putObj_heap_other (by omega))) (by omega)
  · exact(Kept.refl (fun k=>k<w.heap.size) W).putObj (fun _ h=>by have h':wl.heap.size<w.heap.size:=h;omega) _ |>.toBelow (fun _ h=>h) H4.out.size |> H4.out.trans
 case stop=>
  rintro c pre W hV h;exact h.elim
end
section
open Go.RowKit Go.Shelf
theorem zoj (aa ab:Option Addr) (na ca nb cb:Nat) (a b:List Iv) (w:World) (hIa:Ivs w aa na ca a) (hIb:Ivs w ab nb cb b) (ga:Good a) (gb:Good b) (hn:2*a.length+2*b.length+1≤900000):
 Calls Tryz.prog 131 #[.slice aa na ca,.slice ab nb cb] w fun e w'=>zcb w.heap.size (opL gOr a b) e w'∧Below w.heap.size w w':=by
 have hC:=hid (z4m aa ab na ca nb cb a b w hIa hIb ga gb hn);clear hIa hIb ga gb hn;go_enter Tryz.func131,Tryz.ntmps131;go_wp2_with fail;refine hC.out.mono ?_;rintro e w1 ⟨⟨v,rfl,ho⟩,hb⟩;have Ho:=hid ho;have Hb:=hid hb;clear ho hb;go_wp2;go_ret;exact⟨⟨v,rfl,Ho.out⟩,Hb.out⟩
theorem z4n (aa ab:Option Addr) (na ca nb cb:Nat) (a b:List Iv) (w:World) (hIa:Ivs w aa na ca a) (hIb:Ivs w ab nb cb b) (ga:Good a) (gb:Good b) (hn:2*a.length+2*b.length+1≤900000):
 Calls Tryz.prog 294 #[.slice aa na ca,.slice ab nb cb] w fun e w'=>zcb w.heap.size (opL jl a b) e w'∧Below w.heap.size w w':=by
 have hC:=hid (z4k aa ab na ca nb cb a b w hIa hIb ga gb hn);clear hIa hIb ga gb hn;go_enter Tryz.func294,Tryz.ntmps294;go_wp2_with fail;refine hC.out.mono ?_;rintro e w1 ⟨⟨v,rfl,ho⟩,hb⟩;have Ho:=hid ho;have Hb:=hid hb;clear ho hb;go_wp2;go_ret;exact⟨⟨v,rfl,Ho.out⟩,Hb.out⟩
theorem zud (aa:Option Addr) (na ca:Nat) (a:List Iv) (s:Iv) (w:World) (hIa:Ivs w aa na ca a) (ga:Good a) (hs:s.1≤s.2) (hs2:s.2<18446744073709551616) (hn:2*a.length+3≤900000):
 Calls Tryz.prog 285 #[.slice aa na ca,ivV s] w fun e w'=>zcb w.heap.size (opL jl [s] a) e w'∧Below w.heap.size w w':=by
 obtain⟨p,q⟩:=s;have HI:=hid hIa;have Hg:=hid ga;have Hn:=hid hn;have Hs:=hid (And.intro hs hs2);clear hIa ga hn hs hs2;go_enter Tryz.func285,Tryz.ntmps285;go_wp2_with fail;have hb1:Below w.heap.size w ((w.alloc (.cells #[.int .u64 p,.int .u64 q] 99)).alloc (.cells #[.int .u64 p,.int .u64 q] 99)):=((Below.refl _ _).alloc (Nat.le_refl _) _).alloc (by simp) _;have hr:((w.alloc (.cells #[.int .u64 p,.int .u64 q] 99)).alloc (.cells #[.int .u64 p,.int .u64 q] 99)).heap[w.heap.size+1]?=some (.cells #[.int .u64 p,.int .u64 q] 99):=z7 (by simp);have Hb1:=hid hb1;refine(z4n _ _ _ _ _ _ [(p,q)] a _ (zgk hr ⟨by have:=Hs.out;simp at this ⊢;omega,Hs.out.2⟩) (HI.out.below hb1) Hs.out.1 Hg.out (by have:=Hn.out;simp;omega)).mono ?_;rintro e w1 ⟨⟨v,rfl,ho⟩,hb⟩;have Ho:=hid ho;have Hb:=hid hb;clear ho hb hr hb1;go_wp2;go_ret;exact⟨⟨v,rfl,y9 Ho.out Hb1.out.size⟩,Hb1.out.trans (Hb.out.mono Hb1.out.size)⟩
theorem zue (t:Nat) (w:World):Calls Tryz.prog 286 #[.int .u64 t] w fun e w'=>e=.returned (ivV (0,t))∧Below w.heap.size w w':=by
 go_enter Tryz.func286,Tryz.ntmps286;go_wp2;refine bodyPost_ret (v:=ivV (0,t)) (by simp[results,Tryz.results286,go_sem]) rfl ?_;exact⟨rfl,(Below.refl _ _).alloc (Nat.le_refl _) _⟩
end
section
open Go.RowKit
theorem zuf (s1:Value) (y b:Option Addr) (m c m' c':Nat) (v u:Vec) (w:World) (hV:Ents w y m c v) (hU:Ents w b m' c' u) (fv:VecFits v) (fu:VecFits u):
 Calls Tryz.prog 198 #[.agg #[s1,.slice y m c],.slice b m' c'] w fun x w'=>x=.returned (.int .i64 (yk v u))∧Below w.heap.size w w':=by
 have hal:Below w.heap.size w (w.alloc (.cells #[s1,.slice y m c] 85)):=(Below.refl w.heap.size w).alloc (Nat.le_refl _) _;have hC:=hid (zld y b m c m' c' v u _ (hV.below hal) (hU.below hal) fv fu);obtain⟨q0,q1⟩:=zir w s1 (.slice y m c) 85 _ (Below.refl _ _);have Hal:=hid hal;generalize yk v u=z at*;clear hV hU fv fu hal;go_enter Tryz.func198,Tryz.ntmps198;go_wp2_with fail;refine hC.out.mono ?_;rintro e w1 ⟨rfl,hb1⟩;have Hb1:=hid hb1;clear hb1;go_wp2;go_ret;exact⟨rfl,Hal.out.trans (Hb1.out.mono Hal.out.size)⟩
theorem zug {k:Kno} (h:k.Pairwise jy) {i j:Nat} (hij:i<j) (hj:j<k.length):yk (za k i).2 (za k j).2= -1:=by
 have:=List.pairwise_iff_getElem.1 h i j (by omega) hj hij;rw[ym (by omega),ym hj];exact this
set_option maxRecDepth 20000 in
theorem z4o (a b:Option Addr) (n cap m c:Nat) (k:Kno) (v:Vec) (w:World) (hE:Frags w a n cap k) (hV:Ents w b m c v) (hA:k.Pairwise jy) (hn:n≤1000000) (fk:∀f∈k,VecFits f.2) (fv:VecFits v):
 Calls Tryz.prog 197 #[.slice a n cap,.slice b m c,.func (.func 198) #[] #[]] w fun e w'=>
  e=.returned (.tuple #[.int .i64 (qg k v:Int),.bool (zbg k v)])∧Below w.heap.size w w':=by
 have HE:=hid hE;have HA:=hid hA;have HV:=hid hV;have HFk:=hid fk;have HFv:=hid fv;have Hl:=hid hE.len;clear hE hA hV fk fv;go_enter Tryz.func197,Tryz.ntmps197;go_wp2;go_loopw [9,10,11] (fun i j _ wr=>∃p q:Nat,p≤q∧q≤n∧i=.int .i64 p∧j=.int .i64 q∧Below w.heap.size w wr∧Hid ((∀t,t<p→yk (za k t).2 v= -1)∧∀t,q≤t→t<n→yk (za k t).2 v≠ -1)) (fun i j _ _=>(intOf j).toNat - (intOf i).toNat)
 case atStart=>exact⟨0,n,by omega,by omega,rfl,rfl,Below.refl _ _,fun t ht=>by omega,fun t h1 h2=>by omega⟩
 case round=>
  obtain⟨p,q,hpq,hqn,rfl,rfl,hb,ht⟩:=hrel;have Hb:=hid hb;clear hb;have HEr:=hid (HE.out.below Hb.out);by_cases hlt:p<q
  · obtain⟨bb,oo,rfl⟩:=HEr.out.some (by omega);obtain⟨h,hh,hph,hhq⟩:∃h:Nat,((p:Int)+(q:Int)) / 2=(h:Int)∧p≤h∧h<q:=⟨(p+q) / 2,by omega,by omega,by omega⟩;have hhn:h<n:=by omega
    have hhk:h<k.length:=by rw[Hl.out];exact hhn
    obtain⟨x,m1,c1,y,m2,c2,hq⟩:=HEr.out.fix hhn;obtain⟨hc1,-,hc2,hyV⟩:=hq _ (Below.refl _ _);clear hq;have hC:=hid (zuf (.slice x m1 c1) y b m2 c2 m c (za k h).2 v wr hyV (HV.out.below Hb.out) (HFk.out _ (yb hhk)) HFv.out);have Hms:=hid (fun t (ht:t<h)=>zug HA.out ht hhk);have Hms2:=hid (fun t (ht:h<t) (htl:t<n)=>zug HA.out ht (by rw[Hl.out];exact htl));have hrg:=zet (za k h).2 v;clear hyV;by_cases hlx:yk (za k h).2 v= -1
    · have Hr:=hid (show ∀t,t<h+1→yk (za k t).2 v= -1 from by
       intro t htt;by_cases e:t=h
       · subst e;exact hlx
       · exact zgj (Hms.out t (by omega)) hlx)
      have hci:decide (yk (za k h).2 v<0)=true:=by rw[hlx];rfl
      generalize yk (za k h).2 v=ci at*;clear hlx hrg;go_wp2_with fail;refine hC.out.mono ?_;rintro e w1 ⟨rfl,hb1⟩;have Hb1:=hid (Hb.out.trans (hb1.mono Hb.out.size));clear hb1;clear hc1 hc2 hh;go_wp2_with fail;go_roundw
      case rel=>exact⟨h+1,q,by omega,by omega,by go_num,rfl,Hb1.out,Hr.out,ht.out.2⟩
      case measure=>simp[intOf];omega
    · have Hr:=hid (show ∀t,h≤t→t<n→yk (za k t).2 v≠ -1 from by
       intro t htt htn;by_cases e:t=h
       · subst e;exact hlx
       · intro h2;exact hlx (zgj (Hms2.out t (by omega) htn) h2))
      have hci:decide (yk (za k h).2 v<0)=false:=by
       rw[decide_eq_false_iff_not];rcases hrg with h | h | h <;> omega
      generalize yk (za k h).2 v=ci at*;clear hlx hrg;go_wp2_with fail;refine hC.out.mono ?_;rintro e w1 ⟨rfl,hb1⟩;have Hb1:=hid (Hb.out.trans (hb1.mono Hb.out.size));clear hb1;clear hc1 hc2 hh;go_wp2_with fail;go_roundw
      case rel=>exact⟨p,h,by omega,by omega,rfl,rfl,Hb1.out,ht.out.1,Hr.out⟩
      case measure=>simp[intOf];omega
  · obtain rfl:p=q:=by omega
    by_cases hpn:p<n
    · obtain⟨bb,oo,rfl⟩:=HEr.out.some (by omega);have hpk:p<k.length:=by rw[Hl.out];exact hpn
      have hpos:p=qg k v:=zh4 (by omega) ht.out.1 (fun h=>ht.out.2 p (Nat.le_refl _) hpn);have hhit:=(zki (k:=k) (v:=v) (by rw[←hpos];exact hpk)).2;rw[←hpos] at hhit;have Hpos:=hid hpos;have Hhit:=hid hhit;obtain⟨x,m1,c1,y,m2,c2,hq⟩:=HEr.out.fix hpn;obtain⟨hc1,-,hc2,hyV⟩:=hq _ (Below.refl _ _);clear hq;have hC:=hid (zuf (.slice x m1 c1) y b m2 c2 m c (za k p).2 v wr hyV (HV.out.below Hb.out) (HFk.out _ (yb hpk)) HFv.out);have hd:decide (p<n)=true:=by rw[decide_eq_true_iff];exact hpn
      have hci:(yk (za k p).2 v == 0)=decide (yk (za k p).2 v=0):=by
       by_cases h:yk (za k p).2 v=0
       · rw[h];rfl
       · rw[decide_eq_false h,beq_eq_false_iff_ne];exact h
      have Hci:=hid hci;generalize yk (za k p).2 v=ci at*;clear hyV hpos hhit hci;go_wp2_with fail;refine hC.out.mono ?_;rintro e w1 ⟨rfl,hb1⟩;have Hb1:=hid (Hb.out.trans (hb1.mono Hb.out.size));clear hb1;clear hc1 hc2;go_wp2;go_ret2;exact⟨by rw[Hhit.out,←Hci.out,←Hpos.out];rfl,Hb1.out⟩
    · obtain rfl:p=n:=by omega
      have hpos:k.length=qg k v:=zh4 (Nat.le_refl _) (fun j hj=>ht.out.1 j (by rw[←Hl.out];exact hj)) (fun h=>by omega);have hhit:=zkj hpos.symm;have Hr:=hid (show (Value.tuple #[.int .i64 (p:Int),.bool false])=.tuple #[.int .i64 (qg k v:Int),.bool (zbg k v)] from by rw[←hpos,hhit,Hl.out]);have hd:decide (p<p)=false:=by simp
      clear hpos hhit;go_wp2;go_ret2;exact⟨by rw[←Hr.out];rfl,Hb.out⟩
end
end Go.Proofs.YtdnjfnofjaoajaaGreatDoor
