/- Part 13. -/
import Derived.Test.YtdnipikdddfhfaaGreatDoorWd12
set_option linter.unusedVariables false
set_option maxHeartbeats 16000000
namespace Go.Proofs.YtdnipikdddfhfaaGreatDoor
open Lib (hid)
section
open Go.RowKit Go.Shelf
attribute [local go_sem] Oper.semAt_some zdy
theorem zxp (x y:Bool) (w:World):Calls Tryz.prog 302 #[.agg #[.bool x,.bool y]] w fun e w'=>e=.returned (.bool (js x y))∧Below w.heap.size w w':=by
 cases x <;> cases y <;>
 (go_enter Tryz.func302,Tryz.ntmps302
  go_wp2;all_goals go_ret
  all_goals exact⟨rfl,by first | exact(Below.refl _ _).alloc (Nat.le_refl _) _ | exact zy ((Below.refl _ _).alloc (Nat.le_refl _) _) _⟩)
set_option maxRecDepth 20000 in
theorem zxq (aa ab:Option Addr) (na ca nb cb:Nat) (a b:List Iv) (w:World) (hIa:Ivs w aa na ca a) (hIb:Ivs w ab nb cb b) (ga:Good a) (gb:Good b) (hn:2*a.length+2*b.length+1≤900000):
 Calls Tryz.prog 242 #[.slice aa na ca,.slice ab nb cb,.func (.func 302) #[] #[]] w fun e w'=>
  (∃v,e=.returned v∧w'.ownsRow w.heap.size 89 2 v (opL js a b).length (ivC (opL js a b)))∧Below w.heap.size w w':=by
 have Hla:=hid (show zk a from hIa.lt);have Hlb:=hid (show zk b from hIb.lt);have HIa:=hid hIa;have HIb:=hid hIb;have Hga:=hid ga;have Hgb:=hid gb;have Hn:=hid hn;clear hIa hIb ga gb hn;refine(callsIn_wide (n:=3)).1 ?_;refine callsIn_of_wp_marks Tryz.func242 rfl trivial ?_ rfl;simp only[Tryz.ntmps242,List.size_toArray,List.length_cons,List.length_nil,Nat.reduceAdd,Nat.reduceSub,Array.replicate_succ,Array.replicate_zero,List.push_toArray,List.append_toArray,List.nil_append,List.cons_append];refine wpIn_wide.2 ?_;go_wp2_with (go_at_call 265;refine(zom _ _ _ _ _ _ _).mono ?_;rintro e w1 ⟨rfl,rfl⟩);refine(wpIn_wide (n:=3)).1 ?_;obtain⟨C0,hC0⟩:∃C0:Obj,C0=.cells #[.func (.func 302) #[] #[]] 337:=⟨_,rfl⟩;obtain⟨C1,hC1⟩:∃C1:Obj,C1=.cells #[.slice none 0 0] 91:=⟨_,rfl⟩;obtain⟨C2,hC2⟩:∃C2:Obj,C2=.cells #[.slice aa na ca] 91:=⟨_,rfl⟩;obtain⟨C3,hC3⟩:∃C3:Obj,C3=.cells #[.slice ab nb cb] 91:=⟨_,rfl⟩;rw[←hC0,←hC1,←hC2,←hC3];obtain⟨wl,hwl⟩:∃wl:World,wl=(((w.alloc C0).alloc C1).alloc C2).alloc C3:=⟨_,rfl⟩;rw[←hwl];have hsz:wl.heap.size=w.heap.size+4:=by rw[hwl];simp
 have hbw:Below w.heap.size w wl:=by
  rw[hwl];exact((((Below.refl _ w).alloc (Nat.le_refl _) C0).alloc (by simp) C1).alloc (by simp;omega) C2).alloc (by simp;omega) C3
 have e0:wl.heap[w.heap.size]?=some C0:=by rw[hwl];exact qg (qg (qg (yh rfl)))
 have e1:wl.heap[w.heap.size+1]?=some C1:=by rw[hwl];exact qg (qg (yh (by simp)))
 have e2:wl.heap[w.heap.size+2]?=some C2:=by rw[hwl];exact qg (yh (by simp))
 have e3:wl.heap[w.heap.size+3]?=some C3:=by rw[hwl];exact yh (by simp)
 clear hwl
 refine zgy (n:=3) (gf:=274) (lb:= #[.pointer (some ⟨w.heap.size+2,0,none⟩),.pointer (some ⟨w.heap.size+3,0,none⟩)]) rfl (enters_of Tryz.func274 (by kernel_rfl) rfl)
  (zop (3 - 1) w wl (w.heap.size+2) (w.heap.size+3) a b Hga.out Hgb.out hbw ⟨aa,na,ca,by rw[e2,hC2],HIa.out⟩ ⟨ab,nb,cb,by rw[e3,hC3],HIb.out⟩ (by omega) (by omega) (by omega))
  (fun x=>rfl) (fun k hk=>by omega) (fun k hk=>by omega)
  (fun pre W=>W.heap[w.heap.size]?=some C0∧Below w.heap.size w W∧∃v,W.heap[w.heap.size+1]?=some (.cells #[v] 91)∧W.ownsRow (w.heap.size+6) 89 2 v (zaf js pre).length (ivC (zaf js pre)))
  (fun _ _ _=>False) ?hI (fun _ _ _ _ h _=>h) ⟨e0,hbw,.slice none 0 0,by rw[e1,hC1],World.ownsRow_nil ..⟩ ?round ?done ?stop
 case hI=>
  rintro s A B ⟨h1,h4,v,h2,h3⟩ hk;have hs:=h4.size;exact⟨(hk.row _ (Array.getElem?_eq_some_iff.1 h1).1 (by omega)).trans h1,h4.trans (hk.toBelow (fun k hk'=>by omega) (by omega)),v,(hk.row _ (Array.getElem?_eq_some_iff.1 h2).1 (by omega)).trans h2,qk h3 (fun k hk1 hk2=>hk.row k hk2 (by omega))⟩
 case round=>
  rintro pre ⟨⟨p,q⟩,x,y⟩ W ⟨Y,hV⟩ ⟨h1,h4,v,h2,h3⟩ hsW;rw[hsz] at hsW ⊢;clear hsz;have HC0:=hid hC0;clear hbw e0 e1 e2 e3 hC0 hC1 hC2 hC3;have hp:q<18446744073709551616∧p≤q:=by obtain⟨_,k1,k2,_⟩:=zd0 hV;exact⟨k2,k1⟩
  obtain⟨hm1,hm2,hm3,hm4⟩:=zjp (g:=js) (zd0 hV).1;have hml:=Nat.le_trans (znz js pre) (znv (zd0 hV).1);have Hlen:=hid (Nat.le_trans hml Hn.out);have HsP:=hid (znx js pre ((p,q),x,y));have Hm3:=hid hm3;have Hm1:=hid hm1;clear hm1 hm2 hm3 hm4 hml hV;have H3:=hid h3;have H4:=hid h4;have h4s:=h4.size;clear h3 h4;obtain⟨m,hm⟩:∃m:Nat,m=W.heap.size:=⟨_,rfl⟩;simp only[pcE,ivV]
  gi_wp2
  refine⟨((Kept.refl _ W).alloc _).alloc _,fun W2 hk2 hs2=>?_⟩
  try rw[World.size_alloc,World.size_alloc] at hs2
  have k1:Kept (fun k=>k≠w.heap.size+4+1) W W2:=(((Kept.refl _ W).alloc _).alloc _).trans hk2;have b1:W2.heap[w.heap.size]?=some C0:=(k1.row _ (Array.getElem?_eq_some_iff.1 h1).1 (by omega)).trans h1;have b2:W2.heap[w.heap.size+1]?=some (.cells #[v] 91):=(k1.row _ (Array.getElem?_eq_some_iff.1 h2).1 (by omega)).trans h2;have b3:W2.heap[m]?=some (.cells #[.int .u64 p,.int .u64 q] 89):=by rw[hm];exact(hk2.row _ (by simp <;> omega) (by omega)).trans (qg (yh rfl))
  have b4:W2.heap[m+1]?=some (.cells #[.bool x,.bool y] 336):=by rw[hm];exact(hk2.row _ (by simp <;> omega) (by omega)).trans (yh (by simp))
  have B3:=hid (qk H3.out (fun k hk1 hk2=>k1.row k hk2 (by omega)));have B4:=hid (H4.out.trans (k1.toBelow (n:=w.heap.size) (fun k hk'=>by omega) (by omega)));have hm2:m+2=W2.heap.size:=by omega
  clear k1 hk2 hs2 h1 h2 H3 H4;rw[HC0.out] at b1;rw[←hm];have Hm:=hid hm;have Hm2:=hid hm2;have HsW:=hid hsW;clear hm hm2 hsW;have c0:=yz b1;have c1:W2.cell? ⟨m+1,0,none⟩=some (.bool x):=by simp[World.cell?,b4]
  have c2:W2.cell? ⟨m+1,1,none⟩=some (.bool y):=by simp[World.cell?,b4]
  clear b4;have hF:=hid (fun w=>zxp x y w)
  cases hg:js x y with
  | false=>
   rw[hg] at hF HsP;simp only[Bool.false_eq_true,if_false] at HsP
   gi_wp2_with fail
   refine(CallsIn.inRound _ (callsIn_wide.2 (hF.out _))).mono ?_;rintro e w3 ⟨rfl,hb3⟩;have Hb3:=hid hb3;clear hb3
   gi_wp2
   refine⟨(Kept.refl _ W2).below Hb3.out,?_,?_,v,?_,?_⟩
   · rw[HC0.out];exact(Hb3.out.block _ (Array.getElem?_eq_some_iff.1 b1).1).trans b1
   · exact B4.out.trans (Hb3.out.mono B4.out.size)
   · exact(Hb3.out.block _ (Array.getElem?_eq_some_iff.1 b2).1).trans b2
   · rw[HsP.out];exact qk B3.out (fun k hk1 hk2=>Hb3.out.block k hk2)
  | true=>
   rw[hg] at hF HsP;simp only[if_true] at HsP
   gi_wp2_with fail
   refine(CallsIn.inRound _ (callsIn_wide.2 (hF.out _))).mono ?_;rintro e w3 ⟨rfl,hb3⟩;have Hb3:=hid hb3;clear hb3;have d1:=(Hb3.out.block _ (Array.getElem?_eq_some_iff.1 b1).1).trans b1;have d2:=(Hb3.out.block _ (Array.getElem?_eq_some_iff.1 b2).1).trans b2;have d3:=(Hb3.out.block _ (Array.getElem?_eq_some_iff.1 b3).1).trans b3;have D3:=hid (qk B3.out (fun k hk1 hk2=>Hb3.out.block k hk2));have D4:=hid (B4.out.trans (Hb3.out.mono B4.out.size));have D5:=hid ((Kept.refl (fun k=>(k<w.heap.size∨k=w.heap.size+2∨k=w.heap.size+3)∨k=w.heap.size+4∨k=w.heap.size+4+1) W2).below Hb3.out);have D6:=hid (show m+2≤w3.heap.size from by have:=Hm2.out;have:=Hb3.out.size;omega);have D7:=hid (show w.heap.size+6≤m from by have:=Hm.out;have:=HsW.out;omega);clear b1 b2 b3 B3 B4 Hb3 c0 c1 c2 hF Hm2 HsW Hm;have q1:=yz d2;have q2:=k9 d2;have q3:w3.cell? ⟨m,0,none⟩=some (.int .u64 p):=by simp[World.cell?,d3]
   have q4:w3.cell? ⟨m,1,none⟩=some (.int .u64 q):=by simp[World.cell?,d3]
   have Hd1:=hid d1;have Hd2:=hid d2;have Hd3:=hid d3;clear d1 d2 d3;generalize zaf js pre=L at*;have hmx:Tryz.prog.follows .mixedOrders=true:=by kernel_rfl
   rcases zca L with rfl | ⟨L,t,rfl⟩
   · obtain⟨ao,co,rfl,-⟩:=zbd D3.out (fun t ht=>by cases ht);simp only[List.length_nil] at q1 Hd2 D3
     gi_wp2
     gi_cut [33] from 16 (fun v wx=>v=.bool false∧Hid (Below w3.heap.size w3 wx))
     case first=>
      gi_region_with_o (fail)
      all_goals gi_wp2
      all_goals gi_meet
      all_goals exact⟨rfl,(Below.refl _ _).drew⟩
     case rest=>
      obtain⟨wx,rfl⟩:∃wx:World,wx=wc:=⟨_,rfl⟩;obtain⟨rfl,Hbx⟩:=hcut;have HX:=hid (qk D3.out (w':=wx) (fun k hk1 hk2=>Hbx.out.block k hk2));have HX1:=hid ((Hbx.out.block _ (Array.getElem?_eq_some_iff.1 Hd1.out).1).trans Hd1.out);have HXb:=hid ((Hbx.out.block _ (Array.getElem?_eq_some_iff.1 Hd2.out).1).trans Hd2.out);have hd3:=(Hbx.out.block _ (Array.getElem?_eq_some_iff.1 Hd3.out).1).trans Hd3.out;have HX4:=hid (D4.out.trans (Hbx.out.mono D4.out.size));have HX5:=hid (D5.out.below Hbx.out);have HX6:=hid (show w.heap.size+8≤wx.heap.size from by have:=Hbx.out.size;have:=D6.out;have:=D7.out;omega);have q1:=yz HXb.out;have q2:=k9 HXb.out;have q3:wx.cell? ⟨m,0,none⟩=some (.int .u64 p):=by simp[World.cell?,hd3]
      have q4:wx.cell? ⟨m,1,none⟩=some (.int .u64 q):=by simp[World.cell?,hd3]
      clear hd3;obtain⟨v',w5,hr,ho,hgr⟩:=zcp (w.heap.size+6) (.slice ao 0 co) 0 [] (HX.out.alloc (.cells #[.int .u64 p,.int .u64 q] 89)) (some ⟨wx.heap.size,0,none⟩) 1 1 [(p,q)] (vy (yp _ _ _ rfl) rfl rfl) (by have:=Hlen.out;simp at this ⊢ <;> omega) (by have:=HX6.out;simp;omega);obtain⟨g',cap',rfl⟩:=ownsRow_succ ho;have hne:some (w.heap.size+1)≠(.slice ao 0 co:Value).ownBlock:=fun e=>by have:=(HX.out.lt _ e.symm).1;omega
      have e5:w5.heap[w.heap.size+1]?=some (.cells #[.slice ao 0 co] 91):=(hgr.block _ (by have:=HX6.out;simp;omega) hne).trans (qg HXb.out);have q5:=yz e5;have q6:=k9 e5;have He5:=hid e5;have Ho:=hid ho;have Hgr:=hid hgr;clear e5 ho hgr hne
      gi_wp2_with (gi_at_builtin;refine zfo rfl _ _ 91 rfl _ _ rfl rfl _ _ hr ?_)
      refine⟨?_,?_,?_,_,zb0 He5.out,?_⟩
      · exact((HX5.out.alloc _).grown Hgr.out (fun k hk _=>by have:=(HX.out.lt k hk).1;omega)).setCell (fun _=>by simp only;omega) _
      · rw[HC0.out];refine(Below.heap_setCell _ _ _ _ (by simp only;omega)).trans ((Hgr.out.block _ (by have:=HX6.out;simp;omega) (fun e=>by have:=(HX.out.lt _ e.symm).1;omega)).trans (qg HX1.out))
      · exact((HX4.out.alloc HX4.out.size _).grown Hgr.out (by have:=HX4.out.size;simp;omega) (fun k hk=>by have:=(HX.out.lt k hk).1;omega)).setCell (by simp only;omega) _
      · have h:=qk Ho.out (w':=w5.setCell ⟨w.heap.size+1,0,none⟩ (.slice (some ⟨g',0,none⟩) (0+1) cap')) (fun k hk1 hk2=>Below.heap_setCell _ _ _ _ (by simp only;omega));rw[HsP.out,zel];simpa using h
   · have hlk:L.length+1=(L++[t]).length:=by simp
     obtain⟨n,hn⟩:∃n:Nat,n=(L++[t]).length:=⟨_,rfl⟩;rw[←hn] at D3 Hlen;obtain⟨k,hk⟩:∃k:Nat,k=L.length:=⟨_,rfl⟩;have hnk:n=k+1:=by omega
     obtain⟨g,co,rfl,-⟩:=D3.out.form (by omega);obtain⟨e1,e2⟩:=zen (L++[t]) k (by simp;omega);have hnt:za (L++[t]) k=t:=by rw[yw (by simp;omega),List.getElem_append_right (by omega)];simp[hk]
     rw[hnt] at e1 e2;have hc1:=(D3.out.cellAt (k*2) (by omega)).trans e1;have hc2:=(D3.out.cellAt (k*2+1) (by omega)).trans e2;have Hc2:=hid e2;have Ht:=hid (Hm3.out t (by simp))
     have Hco:=hid (show n≤co from by
      rcases D3.out.2 with ⟨h',_⟩ | ⟨g',cap',cur,h',_,_,hnc,_⟩
      · simp at h'
      · simp only[Value.slice.injEq,Option.some.injEq,Addr.mk.injEq,and_true,true_and] at h';obtain⟨rfl,rfl⟩:=h';exact hnc)
     have hsub:IntKind.i64.wrap ((n:Int) - 1)=(k:Int):=by have:=Hlen.out;rw[IntKind.wrap_i64];omega
     have h01:(k:Int)<(n:Int):=by omega
     have h02:decide ((0:Int)≤(k:Int))=true:=by rw[decide_eq_true_iff];omega
     have hgl:=zh hc1;simp only at hgl;have Hk:=hid hnk;have Hl:=hid hk;have Hn2:=hid hn;have hR:=hid (fun w=>zje t (p,q) w Ht.out ⟨by omega,hp.1⟩);have Hrel:=hid (show (decide (yo t (p,q)=1))=decide (t.2+1=p) from decide_eq_decide.2 (zm4 (Hm1.out.ok t (by simp)) hp.2));clear hlk hnk hk hn e1 e2 hnt;obtain⟨tx,ty⟩:=t
     gi_wp2
     gi_cut [33] from 16 (fun v wx=>v=.bool (decide (ty+1=p))∧Hid (Below w3.heap.size w3 wx))
     case first=>
      obtain⟨r,hr⟩:∃r:Nat,r=yo (tx,ty) (p,q):=⟨_,rfl⟩;rw[←hr] at hR Hrel;have hrr:((r:Int) == 1)=decide (ty+1=p):=by rw[←Hrel.out];by_cases h:r=1 <;> simp[h] <;> omega
      clear hr
      gi_region_with_o (gi_at_call 169;refine(CallsIn.inRound _ (callsIn_wide.2 (hR.out _))).mono ?_;rintro e w4 ⟨rfl,hb4⟩)
      all_goals gi_wp2
      all_goals gi_meet
      all_goals exact⟨by first | rfl | rw[hrr],by first | exact hb4.drew | exact((Below.refl _ _).drew).trans hb4⟩
     case rest=>
      obtain⟨wx,rfl⟩:∃wx:World,wx=wc:=⟨_,rfl⟩;obtain⟨rfl,Hbx⟩:=hcut;have HX:=hid (qk D3.out (w':=wx) (fun k hk1 hk2=>Hbx.out.block k hk2));have HX1:=hid ((Hbx.out.block _ (Array.getElem?_eq_some_iff.1 Hd1.out).1).trans Hd1.out);have HXb:=hid ((Hbx.out.block _ (Array.getElem?_eq_some_iff.1 Hd2.out).1).trans Hd2.out);have hd3:=(Hbx.out.block _ (Array.getElem?_eq_some_iff.1 Hd3.out).1).trans Hd3.out;have HX4:=hid (D4.out.trans (Hbx.out.mono D4.out.size));have HX5:=hid (D5.out.below Hbx.out);have HX6:=hid (show w.heap.size+8≤wx.heap.size from by have:=Hbx.out.size;have:=D6.out;have:=D7.out;omega);have q1:=yz HXb.out;have q2:=k9 HXb.out;have q3:wx.cell? ⟨m,0,none⟩=some (.int .u64 p):=by simp[World.cell?,hd3]
      have q4:wx.cell? ⟨m,1,none⟩=some (.int .u64 q):=by simp[World.cell?,hd3]
      clear hd3;by_cases htb:ty+1=p
      · have htb':decide (ty+1=p)=true:=decide_eq_true htb;have Htb:=hid htb;clear htb;have hle:k<n:=by have:=Hk.out;omega
        have hco:n≤co:=Hco.out;have z1:=(HX.out.cellAt (k*2+1) (by have:=Hk.out;omega)).trans Hc2.out;have z2:=HX.out.frozenAt (k*2+1);have hgb:=(HX.out.lt g rfl).1
        gi_wp2
        refine⟨HX5.out.setCell (fun _=>by simp only;omega) _,?_,HX4.out.setCell (by simp only;omega) _,_,(Below.heap_setCell _ _ _ _ (by simp only;omega)).trans HXb.out,?_⟩
        · rw[HC0.out];exact(Below.heap_setCell _ _ _ _ (by simp only;omega)).trans HX1.out
        · have h:=(HX.out.stored (k*2+1) (.int .u64 q)).1;rw[HsP.out,zdm,if_pos Htb.out,show (L++[(tx,q)]).length=n from by have:=Hk.out;have:=Hl.out;simp;omega];rw[Hl.out,zjb (L++[(tx,ty)]) L.length q (by simp)] at h;have e:(L++[(tx,ty)]).set L.length ((za (L++[(tx,ty)]) L.length).1,q)=L++[(tx,q)]:=by simp[za]
          rw[e,←Hl.out] at h;exact h
      · have htb':decide (ty+1=p)=false:=decide_eq_false htb;have Htb:=hid htb;clear htb;obtain⟨v',w5,hr,ho,hgr⟩:=zcp (w.heap.size+6) (.slice (some ⟨g,0,none⟩) n co) n (L++[(tx,ty)]) (HX.out.alloc (.cells #[.int .u64 p,.int .u64 q] 89)) (some ⟨wx.heap.size,0,none⟩) 1 1 [(p,q)] (vy (yp _ _ _ rfl) rfl rfl) (by have:=Hlen.out;simp at this ⊢ <;> omega) (by have:=HX6.out;simp;omega);obtain⟨g',cap',rfl⟩:=ownsRow_succ ho;have hne:some (w.heap.size+1)≠(.slice (some ⟨g,0,none⟩) n co:Value).ownBlock:=fun e=>by have:=(HX.out.lt _ e.symm).1;omega
        have e5:w5.heap[w.heap.size+1]?=some (.cells #[.slice (some ⟨g,0,none⟩) n co] 91):=(hgr.block _ (by have:=HX6.out;simp;omega) hne).trans (qg HXb.out);have q5:=yz e5;have q6:=k9 e5;have He5:=hid e5;have Ho:=hid ho;have Hgr:=hid hgr;clear e5 ho hgr hne
        gi_wp2_with (gi_at_builtin;refine zfo rfl _ _ 91 rfl _ _ rfl rfl _ _ hr ?_)
        refine⟨?_,?_,?_,_,zb0 He5.out,?_⟩
        · exact((HX5.out.alloc _).grown Hgr.out (fun k hk _=>by have:=(HX.out.lt k hk).1;omega)).setCell (fun _=>by simp only;omega) _
        · rw[HC0.out];refine(Below.heap_setCell _ _ _ _ (by simp only;omega)).trans ((Hgr.out.block _ (by have:=HX6.out;simp;omega) (fun e=>by have:=(HX.out.lt _ e.symm).1;omega)).trans (qg HX1.out))
        · exact((HX4.out.alloc HX4.out.size _).grown Hgr.out (by have:=HX4.out.size;simp;omega) (fun k hk=>by have:=(HX.out.lt k hk).1;omega)).setCell (by simp only;omega) _
        · have h:=qk Ho.out (w':=w5.setCell ⟨w.heap.size+1,0,none⟩ (.slice (some ⟨g',0,none⟩) (n+1) cap')) (fun k hk1 hk2=>Below.heap_setCell _ _ _ _ (by simp only;omega));rw[HsP.out,zdm,if_neg Htb.out,show (L++[(tx,ty)]++[(p,q)]).length=n+1 from by have:=Hk.out;have:=Hl.out;simp;omega];exact h
 case done=>
  rintro ps W hS ⟨h1,h4,v,h2,h3⟩ hK;have hall:=hid (zny (g:=js) Hla.out Hlb.out rfl hS);rw[hall.out] at h3;have q1:=yz h2;have H3:=hid h3;have H4:=hid h4;have Hhw:=hid (Array.getElem?_eq_some_iff.1 hK).1;clear h1 h2 h3 h4 hS e0 e1 e2 e3
  gi_wp2
  go_wp2;refine⟨by simp,.inl ⟨_,_,rfl,run_takeDeferred hK,?_⟩⟩;refine⟨_,results_tmp rfl _ _ _,⟨v,rfl,?_⟩,?_⟩
  · refine vz (qk H3.out (fun k hk1 hk2=>World.putObj_heap_other (by omega))) (by omega)
  · exact(Kept.refl (fun k=>k<w.heap.size) W).putObj (fun _ h=>by have h':wl.heap.size<w.heap.size:=h;omega) _ |>.toBelow (fun _ h=>h) H4.out.size |> H4.out.trans
 case stop=>
  rintro c pre W hV h;exact h.elim
end
section
open Go.RowKit Go.Shelf
attribute [local go_sem] Oper.semAt_some zdy
theorem zxr (x y:Bool) (w:World):Calls Tryz.prog 243 #[.agg #[.bool x,.bool y]] w fun e w'=>e=.returned (.bool (gOr x y))∧Below w.heap.size w w':=by
 cases x <;> cases y <;>
 (go_enter Tryz.func243,Tryz.ntmps243
  go_wp2;all_goals go_ret
  all_goals exact⟨rfl,by first | exact(Below.refl _ _).alloc (Nat.le_refl _) _ | exact zy ((Below.refl _ _).alloc (Nat.le_refl _) _) _⟩)
set_option maxRecDepth 20000 in
theorem zxs (aa ab:Option Addr) (na ca nb cb:Nat) (a b:List Iv) (w:World) (hIa:Ivs w aa na ca a) (hIb:Ivs w ab nb cb b) (ga:Good a) (gb:Good b) (hn:2*a.length+2*b.length+1≤900000):
 Calls Tryz.prog 242 #[.slice aa na ca,.slice ab nb cb,.func (.func 243) #[] #[]] w fun e w'=>
  (∃v,e=.returned v∧w'.ownsRow w.heap.size 89 2 v (opL gOr a b).length (ivC (opL gOr a b)))∧Below w.heap.size w w':=by
 have Hla:=hid (show zk a from hIa.lt);have Hlb:=hid (show zk b from hIb.lt);have HIa:=hid hIa;have HIb:=hid hIb;have Hga:=hid ga;have Hgb:=hid gb;have Hn:=hid hn;clear hIa hIb ga gb hn;refine(callsIn_wide (n:=3)).1 ?_;refine callsIn_of_wp_marks Tryz.func242 rfl trivial ?_ rfl;simp only[Tryz.ntmps242,List.size_toArray,List.length_cons,List.length_nil,Nat.reduceAdd,Nat.reduceSub,Array.replicate_succ,Array.replicate_zero,List.push_toArray,List.append_toArray,List.nil_append,List.cons_append];refine wpIn_wide.2 ?_;go_wp2_with (go_at_call 265;refine(zom _ _ _ _ _ _ _).mono ?_;rintro e w1 ⟨rfl,rfl⟩);refine(wpIn_wide (n:=3)).1 ?_;obtain⟨C0,hC0⟩:∃C0:Obj,C0=.cells #[.func (.func 243) #[] #[]] 337:=⟨_,rfl⟩;obtain⟨C1,hC1⟩:∃C1:Obj,C1=.cells #[.slice none 0 0] 91:=⟨_,rfl⟩;obtain⟨C2,hC2⟩:∃C2:Obj,C2=.cells #[.slice aa na ca] 91:=⟨_,rfl⟩;obtain⟨C3,hC3⟩:∃C3:Obj,C3=.cells #[.slice ab nb cb] 91:=⟨_,rfl⟩;rw[←hC0,←hC1,←hC2,←hC3];obtain⟨wl,hwl⟩:∃wl:World,wl=(((w.alloc C0).alloc C1).alloc C2).alloc C3:=⟨_,rfl⟩;rw[←hwl];have hsz:wl.heap.size=w.heap.size+4:=by rw[hwl];simp
 have hbw:Below w.heap.size w wl:=by
  rw[hwl];exact((((Below.refl _ w).alloc (Nat.le_refl _) C0).alloc (by simp) C1).alloc (by simp;omega) C2).alloc (by simp;omega) C3
 have e0:wl.heap[w.heap.size]?=some C0:=by rw[hwl];exact qg (qg (qg (yh rfl)))
 have e1:wl.heap[w.heap.size+1]?=some C1:=by rw[hwl];exact qg (qg (yh (by simp)))
 have e2:wl.heap[w.heap.size+2]?=some C2:=by rw[hwl];exact qg (yh (by simp))
 have e3:wl.heap[w.heap.size+3]?=some C3:=by rw[hwl];exact yh (by simp)
 clear hwl
 refine zgy (n:=3) (gf:=274) (lb:= #[.pointer (some ⟨w.heap.size+2,0,none⟩),.pointer (some ⟨w.heap.size+3,0,none⟩)]) rfl (enters_of Tryz.func274 (by kernel_rfl) rfl)
  (zop (3 - 1) w wl (w.heap.size+2) (w.heap.size+3) a b Hga.out Hgb.out hbw ⟨aa,na,ca,by rw[e2,hC2],HIa.out⟩ ⟨ab,nb,cb,by rw[e3,hC3],HIb.out⟩ (by omega) (by omega) (by omega))
  (fun x=>rfl) (fun k hk=>by omega) (fun k hk=>by omega)
  (fun pre W=>W.heap[w.heap.size]?=some C0∧Below w.heap.size w W∧∃v,W.heap[w.heap.size+1]?=some (.cells #[v] 91)∧W.ownsRow (w.heap.size+6) 89 2 v (zaf gOr pre).length (ivC (zaf gOr pre)))
  (fun _ _ _=>False) ?hI (fun _ _ _ _ h _=>h) ⟨e0,hbw,.slice none 0 0,by rw[e1,hC1],World.ownsRow_nil ..⟩ ?round ?done ?stop
 case hI=>
  rintro s A B ⟨h1,h4,v,h2,h3⟩ hk;have hs:=h4.size;exact⟨(hk.row _ (Array.getElem?_eq_some_iff.1 h1).1 (by omega)).trans h1,h4.trans (hk.toBelow (fun k hk'=>by omega) (by omega)),v,(hk.row _ (Array.getElem?_eq_some_iff.1 h2).1 (by omega)).trans h2,qk h3 (fun k hk1 hk2=>hk.row k hk2 (by omega))⟩
 case round=>
  rintro pre ⟨⟨p,q⟩,x,y⟩ W ⟨Y,hV⟩ ⟨h1,h4,v,h2,h3⟩ hsW;rw[hsz] at hsW ⊢;clear hsz;have HC0:=hid hC0;clear hbw e0 e1 e2 e3 hC0 hC1 hC2 hC3;have hp:q<18446744073709551616∧p≤q:=by obtain⟨_,k1,k2,_⟩:=zd0 hV;exact⟨k2,k1⟩
  obtain⟨hm1,hm2,hm3,hm4⟩:=zjp (g:=gOr) (zd0 hV).1;have hml:=Nat.le_trans (znz gOr pre) (znv (zd0 hV).1);have Hlen:=hid (Nat.le_trans hml Hn.out);have HsP:=hid (znx gOr pre ((p,q),x,y));have Hm3:=hid hm3;have Hm1:=hid hm1;clear hm1 hm2 hm3 hm4 hml hV;have H3:=hid h3;have H4:=hid h4;have h4s:=h4.size;clear h3 h4;obtain⟨m,hm⟩:∃m:Nat,m=W.heap.size:=⟨_,rfl⟩;simp only[pcE,ivV]
  gi_wp2
  refine⟨((Kept.refl _ W).alloc _).alloc _,fun W2 hk2 hs2=>?_⟩
  try rw[World.size_alloc,World.size_alloc] at hs2
  have k1:Kept (fun k=>k≠w.heap.size+4+1) W W2:=(((Kept.refl _ W).alloc _).alloc _).trans hk2;have b1:W2.heap[w.heap.size]?=some C0:=(k1.row _ (Array.getElem?_eq_some_iff.1 h1).1 (by omega)).trans h1;have b2:W2.heap[w.heap.size+1]?=some (.cells #[v] 91):=(k1.row _ (Array.getElem?_eq_some_iff.1 h2).1 (by omega)).trans h2;have b3:W2.heap[m]?=some (.cells #[.int .u64 p,.int .u64 q] 89):=by rw[hm];exact(hk2.row _ (by simp <;> omega) (by omega)).trans (qg (yh rfl))
  have b4:W2.heap[m+1]?=some (.cells #[.bool x,.bool y] 336):=by rw[hm];exact(hk2.row _ (by simp <;> omega) (by omega)).trans (yh (by simp))
  have B3:=hid (qk H3.out (fun k hk1 hk2=>k1.row k hk2 (by omega)));have B4:=hid (H4.out.trans (k1.toBelow (n:=w.heap.size) (fun k hk'=>by omega) (by omega)));have hm2:m+2=W2.heap.size:=by omega
  clear k1 hk2 hs2 h1 h2 H3 H4;rw[HC0.out] at b1;rw[←hm];have Hm:=hid hm;have Hm2:=hid hm2;have HsW:=hid hsW;clear hm hm2 hsW;have c0:=yz b1;have c1:W2.cell? ⟨m+1,0,none⟩=some (.bool x):=by simp[World.cell?,b4]
  have c2:W2.cell? ⟨m+1,1,none⟩=some (.bool y):=by simp[World.cell?,b4]
  clear b4;have hF:=hid (fun w=>zxr x y w)
  cases hg:gOr x y with
  | false=>
   rw[hg] at hF HsP;simp only[Bool.false_eq_true,if_false] at HsP
   gi_wp2_with fail
   refine(CallsIn.inRound _ (callsIn_wide.2 (hF.out _))).mono ?_;rintro e w3 ⟨rfl,hb3⟩;have Hb3:=hid hb3;clear hb3
   gi_wp2
   refine⟨(Kept.refl _ W2).below Hb3.out,?_,?_,v,?_,?_⟩
   · rw[HC0.out];exact(Hb3.out.block _ (Array.getElem?_eq_some_iff.1 b1).1).trans b1
   · exact B4.out.trans (Hb3.out.mono B4.out.size)
   · exact(Hb3.out.block _ (Array.getElem?_eq_some_iff.1 b2).1).trans b2
   · rw[HsP.out];exact qk B3.out (fun k hk1 hk2=>Hb3.out.block k hk2)
  | true=>
   rw[hg] at hF HsP;simp only[if_true] at HsP
   gi_wp2_with fail
   refine(CallsIn.inRound _ (callsIn_wide.2 (hF.out _))).mono ?_;rintro e w3 ⟨rfl,hb3⟩;have Hb3:=hid hb3;clear hb3;have d1:=(Hb3.out.block _ (Array.getElem?_eq_some_iff.1 b1).1).trans b1;have d2:=(Hb3.out.block _ (Array.getElem?_eq_some_iff.1 b2).1).trans b2;have d3:=(Hb3.out.block _ (Array.getElem?_eq_some_iff.1 b3).1).trans b3;have D3:=hid (qk B3.out (fun k hk1 hk2=>Hb3.out.block k hk2));have D4:=hid (B4.out.trans (Hb3.out.mono B4.out.size));have D5:=hid ((Kept.refl (fun k=>(k<w.heap.size∨k=w.heap.size+2∨k=w.heap.size+3)∨k=w.heap.size+4∨k=w.heap.size+4+1) W2).below Hb3.out);have D6:=hid (show m+2≤w3.heap.size from by have:=Hm2.out;have:=Hb3.out.size;omega);have D7:=hid (show w.heap.size+6≤m from by have:=Hm.out;have:=HsW.out;omega);clear b1 b2 b3 B3 B4 Hb3 c0 c1 c2 hF Hm2 HsW Hm;have q1:=yz d2;have q2:=k9 d2;have q3:w3.cell? ⟨m,0,none⟩=some (.int .u64 p):=by simp[World.cell?,d3]
   have q4:w3.cell? ⟨m,1,none⟩=some (.int .u64 q):=by simp[World.cell?,d3]
   have Hd1:=hid d1;have Hd2:=hid d2;have Hd3:=hid d3;clear d1 d2 d3;generalize zaf gOr pre=L at*;have hmx:Tryz.prog.follows .mixedOrders=true:=by kernel_rfl
   rcases zca L with rfl | ⟨L,t,rfl⟩
   · obtain⟨ao,co,rfl,-⟩:=zbd D3.out (fun t ht=>by cases ht);simp only[List.length_nil] at q1 Hd2 D3
     gi_wp2
     gi_cut [33] from 16 (fun v wx=>v=.bool false∧Hid (Below w3.heap.size w3 wx))
     case first=>
      gi_region_with_o (fail)
      all_goals gi_wp2
      all_goals gi_meet
      all_goals exact⟨rfl,(Below.refl _ _).drew⟩
     case rest=>
      obtain⟨wx,rfl⟩:∃wx:World,wx=wc:=⟨_,rfl⟩;obtain⟨rfl,Hbx⟩:=hcut;have HX:=hid (qk D3.out (w':=wx) (fun k hk1 hk2=>Hbx.out.block k hk2));have HX1:=hid ((Hbx.out.block _ (Array.getElem?_eq_some_iff.1 Hd1.out).1).trans Hd1.out);have HXb:=hid ((Hbx.out.block _ (Array.getElem?_eq_some_iff.1 Hd2.out).1).trans Hd2.out);have hd3:=(Hbx.out.block _ (Array.getElem?_eq_some_iff.1 Hd3.out).1).trans Hd3.out;have HX4:=hid (D4.out.trans (Hbx.out.mono D4.out.size));have HX5:=hid (D5.out.below Hbx.out);have HX6:=hid (show w.heap.size+8≤wx.heap.size from by have:=Hbx.out.size;have:=D6.out;have:=D7.out;omega);have q1:=yz HXb.out;have q2:=k9 HXb.out;have q3:wx.cell? ⟨m,0,none⟩=some (.int .u64 p):=by simp[World.cell?,hd3]
      have q4:wx.cell? ⟨m,1,none⟩=some (.int .u64 q):=by simp[World.cell?,hd3]
      clear hd3;obtain⟨v',w5,hr,ho,hgr⟩:=zcp (w.heap.size+6) (.slice ao 0 co) 0 [] (HX.out.alloc (.cells #[.int .u64 p,.int .u64 q] 89)) (some ⟨wx.heap.size,0,none⟩) 1 1 [(p,q)] (vy (yp _ _ _ rfl) rfl rfl) (by have:=Hlen.out;simp at this ⊢ <;> omega) (by have:=HX6.out;simp;omega);obtain⟨g',cap',rfl⟩:=ownsRow_succ ho;have hne:some (w.heap.size+1)≠(.slice ao 0 co:Value).ownBlock:=fun e=>by have:=(HX.out.lt _ e.symm).1;omega
      have e5:w5.heap[w.heap.size+1]?=some (.cells #[.slice ao 0 co] 91):=(hgr.block _ (by have:=HX6.out;simp;omega) hne).trans (qg HXb.out);have q5:=yz e5;have q6:=k9 e5;have He5:=hid e5;have Ho:=hid ho;have Hgr:=hid hgr;clear e5 ho hgr hne
      gi_wp2_with (gi_at_builtin;refine zfo rfl _ _ 91 rfl _ _ rfl rfl _ _ hr ?_)
      refine⟨?_,?_,?_,_,zb0 He5.out,?_⟩
      · exact((HX5.out.alloc _).grown Hgr.out (fun k hk _=>by have:=(HX.out.lt k hk).1;omega)).setCell (fun _=>by simp only;omega) _
      · rw[HC0.out];refine(Below.heap_setCell _ _ _ _ (by simp only;omega)).trans ((Hgr.out.block _ (by have:=HX6.out;simp;omega) (fun e=>by have:=(HX.out.lt _ e.symm).1;omega)).trans (qg HX1.out))
      · exact((HX4.out.alloc HX4.out.size _).grown Hgr.out (by have:=HX4.out.size;simp;omega) (fun k hk=>by have:=(HX.out.lt k hk).1;omega)).setCell (by simp only;omega) _
      · have h:=qk Ho.out (w':=w5.setCell ⟨w.heap.size+1,0,none⟩ (.slice (some ⟨g',0,none⟩) (0+1) cap')) (fun k hk1 hk2=>Below.heap_setCell _ _ _ _ (by simp only;omega));rw[HsP.out,zel];simpa using h
   · have hlk:L.length+1=(L++[t]).length:=by simp
     obtain⟨n,hn⟩:∃n:Nat,n=(L++[t]).length:=⟨_,rfl⟩;rw[←hn] at D3 Hlen;obtain⟨k,hk⟩:∃k:Nat,k=L.length:=⟨_,rfl⟩;have hnk:n=k+1:=by omega
     obtain⟨g,co,rfl,-⟩:=D3.out.form (by omega);obtain⟨e1,e2⟩:=zen (L++[t]) k (by simp;omega);have hnt:za (L++[t]) k=t:=by rw[yw (by simp;omega),List.getElem_append_right (by omega)];simp[hk]
     rw[hnt] at e1 e2;have hc1:=(D3.out.cellAt (k*2) (by omega)).trans e1;have hc2:=(D3.out.cellAt (k*2+1) (by omega)).trans e2;have Hc2:=hid e2;have Ht:=hid (Hm3.out t (by simp))
     have Hco:=hid (show n≤co from by
      rcases D3.out.2 with ⟨h',_⟩ | ⟨g',cap',cur,h',_,_,hnc,_⟩
      · simp at h'
      · simp only[Value.slice.injEq,Option.some.injEq,Addr.mk.injEq,and_true,true_and] at h';obtain⟨rfl,rfl⟩:=h';exact hnc)
     have hsub:IntKind.i64.wrap ((n:Int) - 1)=(k:Int):=by have:=Hlen.out;rw[IntKind.wrap_i64];omega
     have h01:(k:Int)<(n:Int):=by omega
     have h02:decide ((0:Int)≤(k:Int))=true:=by rw[decide_eq_true_iff];omega
     have hgl:=zh hc1;simp only at hgl;have Hk:=hid hnk;have Hl:=hid hk;have Hn2:=hid hn;have hR:=hid (fun w=>zje t (p,q) w Ht.out ⟨by omega,hp.1⟩);have Hrel:=hid (show (decide (yo t (p,q)=1))=decide (t.2+1=p) from decide_eq_decide.2 (zm4 (Hm1.out.ok t (by simp)) hp.2));clear hlk hnk hk hn e1 e2 hnt;obtain⟨tx,ty⟩:=t
     gi_wp2
     gi_cut [33] from 16 (fun v wx=>v=.bool (decide (ty+1=p))∧Hid (Below w3.heap.size w3 wx))
     case first=>
      obtain⟨r,hr⟩:∃r:Nat,r=yo (tx,ty) (p,q):=⟨_,rfl⟩;rw[←hr] at hR Hrel;have hrr:((r:Int) == 1)=decide (ty+1=p):=by rw[←Hrel.out];by_cases h:r=1 <;> simp[h] <;> omega
      clear hr
      gi_region_with_o (gi_at_call 169;refine(CallsIn.inRound _ (callsIn_wide.2 (hR.out _))).mono ?_;rintro e w4 ⟨rfl,hb4⟩)
      all_goals gi_wp2
      all_goals gi_meet
      all_goals exact⟨by first | rfl | rw[hrr],by first | exact hb4.drew | exact((Below.refl _ _).drew).trans hb4⟩
     case rest=>
      obtain⟨wx,rfl⟩:∃wx:World,wx=wc:=⟨_,rfl⟩;obtain⟨rfl,Hbx⟩:=hcut;have HX:=hid (qk D3.out (w':=wx) (fun k hk1 hk2=>Hbx.out.block k hk2));have HX1:=hid ((Hbx.out.block _ (Array.getElem?_eq_some_iff.1 Hd1.out).1).trans Hd1.out);have HXb:=hid ((Hbx.out.block _ (Array.getElem?_eq_some_iff.1 Hd2.out).1).trans Hd2.out);have hd3:=(Hbx.out.block _ (Array.getElem?_eq_some_iff.1 Hd3.out).1).trans Hd3.out;have HX4:=hid (D4.out.trans (Hbx.out.mono D4.out.size));have HX5:=hid (D5.out.below Hbx.out);have HX6:=hid (show w.heap.size+8≤wx.heap.size from by have:=Hbx.out.size;have:=D6.out;have:=D7.out;omega);have q1:=yz HXb.out;have q2:=k9 HXb.out;have q3:wx.cell? ⟨m,0,none⟩=some (.int .u64 p):=by simp[World.cell?,hd3]
      have q4:wx.cell? ⟨m,1,none⟩=some (.int .u64 q):=by simp[World.cell?,hd3]
      clear hd3;by_cases htb:ty+1=p
      · have htb':decide (ty+1=p)=true:=decide_eq_true htb;have Htb:=hid htb;clear htb;have hle:k<n:=by have:=Hk.out;omega
        have hco:n≤co:=Hco.out;have z1:=(HX.out.cellAt (k*2+1) (by have:=Hk.out;omega)).trans Hc2.out;have z2:=HX.out.frozenAt (k*2+1);have hgb:=(HX.out.lt g rfl).1
        gi_wp2
        refine⟨HX5.out.setCell (fun _=>by simp only;omega) _,?_,HX4.out.setCell (by simp only;omega) _,_,(Below.heap_setCell _ _ _ _ (by simp only;omega)).trans HXb.out,?_⟩
        · rw[HC0.out];exact(Below.heap_setCell _ _ _ _ (by simp only;omega)).trans HX1.out
        · have h:=(HX.out.stored (k*2+1) (.int .u64 q)).1;rw[HsP.out,zdm,if_pos Htb.out,show (L++[(tx,q)]).length=n from by have:=Hk.out;have:=Hl.out;simp;omega];rw[Hl.out,zjb (L++[(tx,ty)]) L.length q (by simp)] at h;have e:(L++[(tx,ty)]).set L.length ((za (L++[(tx,ty)]) L.length).1,q)=L++[(tx,q)]:=by simp[za]
          rw[e,←Hl.out] at h;exact h
      · have htb':decide (ty+1=p)=false:=decide_eq_false htb;have Htb:=hid htb;clear htb;obtain⟨v',w5,hr,ho,hgr⟩:=zcp (w.heap.size+6) (.slice (some ⟨g,0,none⟩) n co) n (L++[(tx,ty)]) (HX.out.alloc (.cells #[.int .u64 p,.int .u64 q] 89)) (some ⟨wx.heap.size,0,none⟩) 1 1 [(p,q)] (vy (yp _ _ _ rfl) rfl rfl) (by have:=Hlen.out;simp at this ⊢ <;> omega) (by have:=HX6.out;simp;omega);obtain⟨g',cap',rfl⟩:=ownsRow_succ ho;have hne:some (w.heap.size+1)≠(.slice (some ⟨g,0,none⟩) n co:Value).ownBlock:=fun e=>by have:=(HX.out.lt _ e.symm).1;omega
        have e5:w5.heap[w.heap.size+1]?=some (.cells #[.slice (some ⟨g,0,none⟩) n co] 91):=(hgr.block _ (by have:=HX6.out;simp;omega) hne).trans (qg HXb.out);have q5:=yz e5;have q6:=k9 e5;have He5:=hid e5;have Ho:=hid ho;have Hgr:=hid hgr;clear e5 ho hgr hne
        gi_wp2_with (gi_at_builtin;refine zfo rfl _ _ 91 rfl _ _ rfl rfl _ _ hr ?_)
        refine⟨?_,?_,?_,_,zb0 He5.out,?_⟩
        · exact((HX5.out.alloc _).grown Hgr.out (fun k hk _=>by have:=(HX.out.lt k hk).1;omega)).setCell (fun _=>by simp only;omega) _
        · rw[HC0.out];refine(Below.heap_setCell _ _ _ _ (by simp only;omega)).trans ((Hgr.out.block _ (by have:=HX6.out;simp;omega) (fun e=>by have:=(HX.out.lt _ e.symm).1;omega)).trans (qg HX1.out))
        · exact((HX4.out.alloc HX4.out.size _).grown Hgr.out (by have:=HX4.out.size;simp;omega) (fun k hk=>by have:=(HX.out.lt k hk).1;omega)).setCell (by simp only;omega) _
        · have h:=qk Ho.out (w':=w5.setCell ⟨w.heap.size+1,0,none⟩ (.slice (some ⟨g',0,none⟩) (n+1) cap')) (fun k hk1 hk2=>Below.heap_setCell _ _ _ _ (by simp only;omega));rw[HsP.out,zdm,if_neg Htb.out,show (L++[(tx,ty)]++[(p,q)]).length=n+1 from by have:=Hk.out;have:=Hl.out;simp;omega];exact h
 case done=>
  rintro ps W hS ⟨h1,h4,v,h2,h3⟩ hK;have hall:=hid (zny (g:=gOr) Hla.out Hlb.out rfl hS);rw[hall.out] at h3;have q1:=yz h2;have H3:=hid h3;have H4:=hid h4;have Hhw:=hid (Array.getElem?_eq_some_iff.1 hK).1;clear h1 h2 h3 h4 hS e0 e1 e2 e3
  gi_wp2
  go_wp2;refine⟨by simp,.inl ⟨_,_,rfl,run_takeDeferred hK,?_⟩⟩;refine⟨_,results_tmp rfl _ _ _,⟨v,rfl,?_⟩,?_⟩
  · refine vz (qk H3.out (fun k hk1 hk2=>World.putObj_heap_other (by omega))) (by omega)
  · exact(Kept.refl (fun k=>k<w.heap.size) W).putObj (fun _ h=>by have h':wl.heap.size<w.heap.size:=h;omega) _ |>.toBelow (fun _ h=>h) H4.out.size |> H4.out.trans
 case stop=>
  rintro c pre W hV h;exact h.elim
end
section
open Go.RowKit
def LstTo (w:World) (k:Kno) (d:Nat) (xs:List Value):Prop:=xs.length=d∧∀i,i<d→∃x m c,xs[i]?=some (.slice x m c)∧∀w',Below w.heap.size w w'→Ivs w' x m c (zb k i).1
theorem LstTo.snoc {w:World} {k:Kno} {d:Nat} {xs:List Value} {x:Option Addr} {m c:Nat} (h:LstTo w k d xs) (hI:∀w',Below w.heap.size w w'→Ivs w' x m c (zb k d).1):LstTo w k (d+1) (xs++[.slice x m c]):=by
 refine⟨by simp[h.1],fun i hi=>?_⟩;by_cases e:i=d
 · subst e;exact⟨x,m,c,by rw[List.getElem?_append_right (by rw[h.1];omega),h.1];simp,hI⟩
 · obtain⟨x',m',c',h1,h2⟩:=h.2 i (by omega);exact⟨x',m',c',by rw[List.getElem?_append_left (by rw[h.1];omega)];exact h1,h2⟩
theorem LstTo.rls {w w':World} {k:Kno} {n:Nat} {xs:List Value} {v:Value} (h:LstTo w k n xs) (hn:k.length=n) (hb:Below w.heap.size w w') (ho:w'.ownsRow w.heap.size 91 1 v n xs):∃a c,v=.slice a n c∧Rls w' a n c (k.map (·.1)):=by
 have ho2:=ho;rcases ho.2 with ⟨rfl,h0⟩ | ⟨g,cap,cur,rfl,hg,hh,hnc,hcm,_⟩
 · rw[h0] at hn ⊢;exact⟨none,0,rfl,by simpa using hn,by omega,by omega,fun _=>rfl,fun h=>by omega⟩
 · refine⟨_,_,rfl,by simpa using hn,hnc,by unfold maxLen at hcm;omega,(by intro h;cases h),fun h0=>⟨g,0,rfl,fun i hi=>?_⟩⟩;obtain⟨x,m,c,e,h2⟩:=h.2 i hi;have hI:=h2 w' hb;have c1:=ho2.cells (g:=g) rfl _ _ e;rw[yk] at c1
   have hk:(k.map (·.1)).getD i []=(zb k i).1:=by
    have hi':i<k.length:=by omega
    rw[ym hi',List.getD_eq_getElem?_getD,List.getElem?_map,List.getElem?_eq_getElem hi']
    rfl
   rw[hk];refine⟨x,c,?_,by rw[hI.len];exact hI⟩;rw[hI.len];exact c1
def zcw (k:Kno) (d:Nat):Kno:=((vq k).take d).map fun s=>([s],atK k s.1)
theorem zxt {k:Kno} {d:Nat} (h:d<(vq k).length):zcw k (d+1)=zcw k d++[([za (vq k) d],atK k (za (vq k) d).1)]:=by
 unfold zcw;rw[List.take_succ_eq_append_getElem h,List.map_append,yw h]
 rfl
theorem zxu (k:Kno):zcw k (vq k).length=jt k:=by unfold zcw jt;rw[List.take_length]
theorem zxv (k:Kno) (d:Nat):(zcw k d).length≤(vq k).length:=by
 unfold zcw;rw[List.length_map,List.length_take];omega
theorem zxw {W:World} {g:Nat} {s:Iv} (h:W.heap[g]?=some (.cells #[.int .u64 ((s.1:Nat):Int),.int .u64 ((s.2:Nat):Int)] 89)) (hs:s.1<18446744073709551616∧s.2<18446744073709551616) (b:Nat):IvSl W b (.slice (some ⟨g,0,none⟩) 1 1) [s]:=
 ⟨_,_,_,rfl,zjt h hs,fun _ p hp=>by cases hp;exact .inr ⟨_,_,h⟩⟩
theorem zxx {X w':World} {x y:Value} {T:TypeId} (h:Below (X.alloc (.cells #[x,y] T)).heap.size (X.alloc (.cells #[x,y] T)) w'):w'.heap[X.heap.size]?=some (.cells #[x,y] T):=
 (h.block _ (by simp)).trans (yh rfl)
theorem zxy {X w':World} {x y:Value} {T:TypeId} (h:Below (X.alloc (.cells #[x,y] T)).drew.heap.size (X.alloc (.cells #[x,y] T)).drew w'):w'.heap[X.heap.size]?=some (.cells #[x,y] T):=
 (h.block _ (by show X.heap.size<(X.alloc _).heap.size;simp)).trans (yh rfl)
theorem zf1 {w:World} {ops:Array Oper} {rest:List Oper} {o:Oper} {a:Act} {Q:Exit→Act→World→Prop} (hgd:o.guard=none) (s x:Operand)
 (ho:o.op=.call { callee:=.builtin .append,args:= #[s,x],argTypes:= #[91,91] }) (hty:o.type=91)
 (base:Nat) (v:Value) (n:Nat) (xs:List Iv) (hs:a.eval s=v) (hown:w.ownsRow base 89 2 v n (ivC xs)) (A:Option Addr) (m c:Nat) (l:List Iv) (hx:a.eval x=.slice A m c) (hr:Rd w 2 A m (ivC l)) (hb:n+m≤1000000) (hbase:base≤w.heap.size)
 (h:∀v' w',w'.ownsRow base 89 2 v' (n+m) (ivC (xs++l))→w.grownBy w' v.ownBlock→wpList Tryz.prog ops Q rest (a.put o.dst v') w'):wpList Tryz.prog ops Q (o :: rest) a w:=by
 obtain⟨v',w',hrun,h1,h2⟩:=zcp base v n xs hown A m c l hr hb hbase;exact jh _ _ _ ho (by simp[Region.wanted,hgd]) _ _ hs hx v' w' (by rw[hty];exact hrun) (h v' w' h1 h2)
def zbo (k:Kno) (d:Nat):List Iv:=((qj (inK k) (zm k)).take d).filterMap fun p=>if p.2=true then some p.1 else none
theorem zxz {k:Kno} {d:Nat} (h:d<(zm k).length):zbo k (d+1)=zbo k d++(if inK k (nth (zm k) d)=true then [zdn (zm k) d] else []):=by
 unfold zbo;have hk:d<(qj (inK k) (zm k)).length:=by rw[zbx];exact h
 have e:=zu5 (inK k) h;rw[List.getElem?_eq_getElem hk,Option.some.injEq] at e;rw[List.take_succ_eq_append_getElem hk,List.filterMap_append,e];simp only[List.filterMap_cons,List.filterMap_nil];cases inK k (nth (zm k) d) <;> rfl
theorem zhr (k:Kno):zbo k (zm k).length=vq k:=by
 unfold zbo vq;rw[List.take_of_length_le (by rw[zbx];exact Nat.le_refl _)]
theorem zhs (k:Kno) (d:Nat):(zbo k d).length≤(zm k).length:=by
 have h:=List.length_filterMap_le (fun p:Iv×Bool=>if p.2=true then some p.1 else none) ((qj (inK k) (zm k)).take d);rw[List.length_take,zbx] at h;unfold zbo;omega
theorem zx0 (k:Kno):(zm k).length≤(ve (k.map (·.1))).length:=by
 have h:=List.length_filter_le (fun x=>decide (x=0) || decide (zq k (x - 1)≠zq k x)) (za4 k);have h2:(za4 k).length≤(ve (k.map (·.1))).length:=zdp (zof k) (fun y hy=>(zc6 (ve (k.map fun f:Frg=>f.1)) y).1 hy);unfold zm;omega
theorem zx1 (k:Kno):(vq k).length≤(ve (k.map (·.1))).length:=by
 have h1:=zhs k (zm k).length;rw[zhr] at h1;have h2:=zx0 k;omega
