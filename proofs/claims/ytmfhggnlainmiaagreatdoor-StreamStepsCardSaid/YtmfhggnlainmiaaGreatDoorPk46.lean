/- Part 46. -/
import Derived.Test.YtmfhggnlainmiaaGreatDoorPk45
import Derived.Test.YtmfhggnlainmiaaGreatDoorPk33
set_option linter.unusedVariables false
set_option maxHeartbeats 16000000
namespace Go.Proofs.YtmfhggnlainmiaaGreatDoor
open Lib (hid)
section
open Go.RowKit
def za7 (w:World) (g:Nat) (B:Value) (E:Nat) (r:RR Kno) (e:Ending) (w':World):Prop:=
 qu r e w w' g B E (fun k=>∃K,e=.returned K∧KnoS w' K k) (e=.returned (.slice none 0 0))
def z14 (w wi:World) (l:List Nat) (E n N:Nat) (L:zc) (K:Value) (k:Nat) (res:RR (List Vec)):Except (Nat×Nat) Nat→Prop
 | .ok q=>∃vs,vs.length=k∧q≤n∧q≤E∧k≤q∧(∀v∈vs,LtV v∧(yj v).length≤n)∧KV wi w.heap.size K vs∧kg (ze l E) E L.2.2.1 L.2.2.2.1 (N - k) vs q=res
 | .error x=>res=.error x
def SgI (wz w wi:World) (l:List Nat) (E n M:Nat) (vs:List Vec) (K all:Value) (lst:Int) (k q:Nat) (res:RR (List Iv×List Nat)):Prop:=
 ∃la ix,la.length=k∧ix.length=k∧q≤n∧q≤E∧k≤q∧zo la∧(∀y:Nat,ix.getLast?=some y→lst=(y:Int))∧SegB wz wi w.heap.size K vs la ix all la∧vv (ze l E) vs.length (M - k) la ix q=res
set_option maxRecDepth 20000 in
theorem z15 {w:World} {g n cap E q:Nat} {a:Option Addr} {l:List Nat} {L:zc} (hB:∀W,w.grownBy W (some g)→Rf W a n cap E l) (h:CurM w g (.slice a n cap) E (.ok q)) (hq:q≤n) (hqE:q≤E) (hn6:n≤900000) (hL:LimsI L):
 Calls Tryz.prog 86 #[.pointer (some ⟨g,0,none⟩),lmV L] w (za7 w g (.slice a n cap) E (jc (ze l E) E L q)):=by
 have hg:=CurM.lt h;have Hlt:=hid (hB w (vy _ _)).b.lt;have Hbl:=hid (hB w (vy _ _)).b.len;have HEb:=hid (hB w (vy _ _)).E;obtain⟨w0,hw0⟩:∃w0,w0=w.alloc (.cells #[.int .i64 L.1,.int .i64 L.2.1,.int .i64 L.2.2.1,.int .i64 L.2.2.2.1,.int .i64 L.2.2.2.2] 24):=⟨_,rfl⟩;have hb0:Below w.heap.size w w0:=by rw[hw0];exact(Below.refl _ _).alloc (Nat.le_refl _) _
 have hC0:=CurM.later h hb0;have HM0:=hid (show RdM w w0 g (.slice a n cap) E L (.ok q) from⟨vg (vy _ _) hb0,by rw[hw0];exact y7 w _ _,hC0⟩);have HCt:=hid (zpk (lim:=L.2.1) (hB _ HM0.out.grown) hC0 hq hqE hL.b);have HB:=hid hB;have HLi:=hid hL;have HnL:=hid (show some w.heap.size≠some g from by intro e;injection e;omega);have Hw0:=hid hw0;have l1:=HM0.out.lim.cell 1 rfl;rw[hw0] at l1;clear hw0 hB h hb0 hg hC0 hL;unfold lmV;go_enter Tryz.func86,Tryz.ntmps86;go_wp2_with fail;clear l1;rw[←Hw0.out];refine HCt.out.mono ?_;rintro e w1 hres;unfold qu at hres;obtain⟨hg1,hres⟩:=hres
 cases hct:jf (ze l E) E L.2.1 q with
 | error ex=>
  rw[hct] at hres;obtain⟨hC1,rfl⟩:=hres;have Hr:=hid (show jc (ze l E) E L q=.error ex from by unfold jc;rw[hct];rfl);have HM1:=hid (HM0.out.move hg1 HnL.out hC1);have l4:=HM1.out.lim.cell 4 rfl;clear hC1 hct hg1;go_wp2;go_loopw [6,7] (fun y i wi=>i=.int .i64 0∧wi=w1) (fun _ _ _=>0)
  case atStart=>exact⟨rfl,rfl⟩
  case round=>
   obtain⟨rfl,rfl⟩:=hrel;go_wp2_with fail;refine(zh3 HM1.out.cur).mono ?_;rintro e wz ⟨rfl,rfl⟩;go_wp2;go_loopw [11,12,13] (fun y z i wi=>i=.int .i64 0∧wi=wr) (fun _ _ _ _=>0)
   case atStart=>exact⟨rfl,rfl⟩
   case round=>
    obtain⟨rfl,rfl⟩:=hrel;go_wp2_with fail;refine(zbg HM1.out.cur).mono ?_;rintro e wz ⟨rfl,rfl⟩;go_wp2_with fail;go_ret;show za7 _ _ _ _ _ _ _;unfold za7 qu;rw[Hr.out]
    exact⟨HM1.out.grown,HM1.out.cur,rfl⟩
 | ok y=>
  obtain⟨N,q1⟩:=y;rw[hct] at hres;obtain⟨hC1,rfl⟩:=hres;have hqq:=zkk Hlt.out hct;have hqb:=zpn Hlt.out hct;rw[Hbl.out] at hqq;have HM1:=hid (HM0.out.move hg1 HnL.out hC1);obtain⟨res,hres⟩:∃res,kg (ze l E) E L.2.2.1 L.2.2.2.1 N [] q1=res:=⟨_,rfl⟩;have hen:jc (ze l E) E L q=thn res (fun vs q=>zc2 (ze l E) E L.2.2.2.2 vs q):=by unfold jc;rw[hct,ja,hres]
  have Hr:=hid hen;have hN:N≤4000000000000000000:=Nat.le_trans hqq.2.2 HEb.out;have Hq1:=hid (show q1≤n∧q1≤E from⟨hqq.1,hqq.2.1⟩);have Hres:=hid (show kg (ze l E) E L.2.2.1 L.2.2.2.1 (N - 0) [] q1=res from hres);clear hC1 hct hqq hqb hres hen hg1;go_wp2;go_loopw [6,7] (fun y i wi=>∃(k:Nat) (cs:Except (Nat×Nat) Nat),k≤N∧i=.int .i64 k∧Hid (RdM w wi g (.slice a n cap) E L cs)∧Hid (z14 w wi l E n N L y k res cs)) (fun _ i _=>N - (intOf i).toNat)
  case atStart=>exact⟨0,.ok q1,by omega,rfl,HM1,[],rfl,Hq1.out.1,Hq1.out.2,Nat.zero_le _,(fun e he=>(by cases he)),z0w _ _,Hres.out⟩
  case round=>
   obtain⟨k,cs,hk,rfl,hM,hI⟩:=hrel;by_cases hkN:k<N
   · have hd:decide ((k:Int)<(N:Int))=true:=by rw[decide_eq_true_iff];omega
     have hd':decide (k<N)=true:=by rw[decide_eq_true_iff];omega
     cases cs with
     | error ex=>
      have Hr2:=hid (show jc (ze l E) E L q=.error ex from by rw[Hr.out,show res=.error ex from hI.out];rfl);have l4:=hM.out.lim.cell 4 rfl;go_wp2_with fail;refine(zbg hM.out.cur).mono ?_;rintro e wz ⟨rfl,rfl⟩;go_wp2_with fail;refine(zh3 hM.out.cur).mono ?_;rintro e wz ⟨rfl,rfl⟩;go_wp2;go_loopw [11,12,13] (fun y z i wi=>i=.int .i64 0∧wi=wr) (fun _ _ _ _=>0)
      case atStart=>exact⟨rfl,rfl⟩
      case round=>
       obtain⟨rfl,rfl⟩:=hrel;go_wp2_with fail;refine(zbg hM.out.cur).mono ?_;rintro e wz ⟨rfl,rfl⟩;go_wp2_with fail;go_ret;show za7 _ _ _ _ _ _ _;unfold za7 qu;rw[Hr2.out]
       exact⟨hM.out.grown,hM.out.cur,rfl⟩
     | ok q4=>
      obtain⟨vs,e1,j1,j2,j3,j4,j5,j6⟩:=hI.out;have HV:=hid j5;have Hj:=hid (And.intro j1 (And.intro j2 (And.intro j3 (And.intro e1 j4))));have Hst:=hid (show thn (za3 (ze l E) E L.2.2.1 L.2.2.2.1 q4) (fun v q=>if za4 vs v=true then .error (3,q4) else kg (ze l E) E L.2.2.1 L.2.2.2.1 (N - (k+1)) (vs++[v]) q)=res from by rw[←j6,show N - k=(N - (k+1))+1 by omega];rfl);obtain⟨av,cv,rfl⟩:=j5.len;have l0:=hM.out.lim.cell 0 rfl;have l1:=hM.out.lim.cell 1 rfl;have l2:=hM.out.lim.cell 2 rfl;have l3:=hM.out.lim.cell 3 rfl;have l4:=hM.out.lim.cell 4 rfl;have c1:=Row.cell hM.out.cur 1 rfl;have HVn:=hid (yft (Rf.keep HB.out hM.out.grown) hM.out.cur j1 j2 (by omega) HLi.out);unfold lmV at HVn;clear e1 j1 j2 j3 j4 j5 j6;go_wp2_with fail;refine(zb3 hM.out.cur).mono ?_;rintro e wz ⟨rfl,rfl⟩;go_wp2_with fail;refine HVn.out.mono ?_;rintro e w2 hres;unfold zes qu at hres;obtain⟨hg2,hres⟩:=hres;have HV2:=hid (HV.out.grown (CurM.notT hM.out.cur) hg2);clear l0 l1 l2 l3 l4 c1
      cases hvp:za3 (ze l E) E L.2.2.1 L.2.2.2.1 q4 with
      | error ex=>
       rw[hvp] at hres;obtain⟨hC2,rfl⟩:=hres;have Hnew:=hid (show res=.error ex from by rw[←Hst.out,hvp];rfl);have HM2:=hid (hM.out.move hg2 HnL.out hC2);obtain⟨K',w4,hrun,hM4,-⟩:=ztn HM2.out HV2.out (yfb _) (by have:=Hj.out;omega);have HM4:=hid hM4;clear hC2 hg2 hvp hM4;go_wp2_with fail;refine(zbg HM2.out.cur).mono ?_;rintro e wz ⟨rfl,rfl⟩;go_wp2_with (at_builtin;refine qf _ _ 48 rfl rfl _ _ rfl rfl _ _ hrun ?_);clear hrun;go_roundw
       case rel=>exact⟨k+1,.error ex,by omega,by go_num,HM4,Hnew⟩
       case measure=>simp[intOf];omega
      | ok y=>
       obtain⟨v,q5⟩:=y;rw[hvp] at hres;obtain⟨hC2,V,rfl,hV,hlv⟩:=hres;have hw:=yfx Hlt.out hvp;rw[Hbl.out] at hw;have HM2:=hid (hM.out.move hg2 HnL.out hC2);obtain⟨aV,cV,rfl⟩:=hV.slice;have HSl:=hid (hV.enSl hlv);have Hst2:=hid (show (if za4 vs v=true then .error (3,q4) else kg (ze l E) E L.2.2.1 L.2.2.2.1 (N - (k+1)) (vs++[v]) q5)=res from by rw[←Hst.out,hvp,ja]);have HW:=hid hw;have Hlv:=hid hlv;have Hb5:=hid (show vs.length+1≤1000000000000 from by have:=Hj.out;omega);clear hC2 hg2 hvp hV hlv hw Hst HVn;have hz0:0<k∨k=0:=by omega
       obtain⟨bad,hbad⟩:∃bad,za4 vs v=bad:=⟨_,rfl⟩;have HBad:=hid hbad;rw[hbad] at Hst2;clear hbad;have Hz0:=hid hz0;clear hz0;go_upto_region 8 with fail
       go_cut [56] (fun v wc=>v=.bool bad∧Hid (Below w2.heap.size w2 wc))
       case first=>
        go_wp2_with fail;refine(zb3 HM2.out.cur).mono ?_;rintro e wz ⟨rfl,rfl⟩;rcases Hz0.out with h0 | h0
        · have hp:decide (0<(k:Int))=true:=by rw[decide_eq_true_iff];omega
          have hp':decide (0<k)=true:=by rw[decide_eq_true_iff];omega
          have hkl:=Hj.out.2.2.2.1;obtain⟨gK,cK,e,-,-,y,hy,-,hyE⟩:=HV2.out.at (i:=k - 1) (by omega);injection e with e1 _ e2;subst e1 e2;obtain⟨ya,yn,yc,rfl,hET⟩:=hyE;obtain⟨ua,un,uc,e,hEU⟩:=HSl.out;injection e with e1 e2 e3;subst e1 e2 e3;have hmem:kd vs (k - 1)∈vs:=by unfold kd;rw[List.getD_eq_getElem?_getD,List.getElem?_eq_getElem (by omega)];exact List.getElem_mem _
          have hvn:=Hj.out.2.2.2.2 _ hmem;have hCmp:=zs3 ya aV yn yc v.length cV (kd vs (k - 1)) v w2 hET.ents hEU.ents (by omega) (by have:=HW.out;omega) (zlg hvn.1 (by omega)) (zlg Hlv.out (by have:=HW.out;omega))
          have hob:bad=decide (0≤yx (kd vs (k - 1)) v):=by
           rw[←HBad.out];unfold za4;rw[List.getLast?_eq_getElem?,List.getElem?_eq_getElem (by omega)];simp only;unfold kd;rw[List.getD_eq_getElem?_getD,List.getElem?_eq_getElem (show k - 1<vs.length by omega)];simp only[hkl,Option.getD_some]
          generalize yx (kd vs (k - 1)) v=z at*;have HCmp:=hid hCmp;have Hob:=hid hob.symm;have hsub:IntKind.i64.wrap ((k:Int) - 1)=((k - 1:Nat):Int):=by rw[IntKind.wrap_i64];omega
          have h1:(0:Int)≤((k - 1:Nat):Int):=by omega
          have h2:((k - 1:Nat):Int)<(vs.length:Int):=by omega
          clear hkl hET hEU hmem hvn hCmp hob h0;generalize k - 1=km at*;go_wp2_with fail;refine HCmp.out.mono ?_;rintro e w3 ⟨rfl,hb3⟩;have Hb3:=hid hb3;clear hb3;go_wp2_with fail;go_meet
          exact⟨by rw[Hob.out],Hb3⟩
        · have hp:decide (0<(k:Int))=false:=by rw[decide_eq_false_iff_not];omega
          have hp':decide (0<k)=false:=by rw[decide_eq_false_iff_not];omega
          have hkl:=Hj.out.2.2.2.1;have Hob:=hid (show false=bad from by rw[←HBad.out,List.length_eq_zero_iff.1 (hkl.trans h0)];rfl);clear hkl h0;go_wp2_with fail;go_meet
          exact⟨by rw[Hob.out],hid (Below.refl _ _)⟩
       case rest=>
        obtain⟨rfl,hb3⟩:=hcut;have HM3:=hid (HM2.out.below hb3.out);have HV3:=hid (HV2.out.later hb3.out);have HS3:=hid (show EnSl wc 0 (.slice aV v.length cV) v from HSl.out.steady (P:=jw) (.of_below hb3.out) (.inl rfl) (.inr (.inl rfl)));clear hb3
        cases bad with
        | true=>
         rw[if_pos rfl] at Hst2;have HF:=hid (zdy (c:=3) (p:=q4) HM3.out.cur (by decide));go_wp2_with fail;refine HF.out.mono ?_;rintro e w3 ⟨rfl,hg3,hC3⟩;have HM5:=hid (HM3.out.move hg3 HnL.out hC3);have hV5:=HV3.out.grown (CurM.notT HM3.out.cur) hg3;have hS5:EnSl w3 0 (.slice aV v.length cV) v:=HS3.out.steady (P:=jw) (zhm (CurM.notT HM3.out.cur) (Nat.zero_le _) hg3) (.inl rfl) (.inr (.inl rfl));obtain⟨K',w4,hrun,hM4,-⟩:=ztn HM5.out hV5 hS5 Hb5.out;have HM4:=hid hM4;clear hg3 hC3 hM4 hV5 hS5;go_wp2_with (at_builtin;refine qf _ _ 48 rfl rfl _ _ rfl rfl _ _ hrun ?_);clear hrun;go_roundw
         case rel=>exact⟨k+1,.error (3,q4),by omega,by go_num,HM4,hid Hst2.out.symm⟩
         case measure=>simp[intOf];omega
        | false=>
         rw[if_neg (by decide)] at Hst2;obtain⟨K',w4,hrun,hM4,hK4⟩:=ztn HM3.out HV3.out HS3.out Hb5.out;have HM4:=hid hM4
         have Hnew:=hid (show z14 w w4 l E n N L K' (k+1) res (.ok q5) from⟨vs++[v],by rw[List.length_append,Hj.out.2.2.2.1];rfl,HW.out.2.1,HW.out.2.2,by have:=HW.out.1;have:=Hj.out.2.2.1;have:1≤(yj v).length:=Nat.succ_pos _;omega,fun u hu=>by
          rcases List.mem_append.1 hu with h | h
          · exact Hj.out.2.2.2.2 u h
          · rw[List.mem_singleton] at h;subst h;exact⟨Hlv.out,by have:=HW.out;omega⟩,hK4,Hst2.out⟩)
         clear hM4 hK4;go_wp2_with (at_builtin;refine qf _ _ 48 rfl rfl _ _ rfl rfl _ _ hrun ?_);clear hrun;go_roundw
         case rel=>exact⟨k+1,.ok q5,by omega,by go_num,HM4,Hnew⟩
         case measure=>simp[intOf];omega
   · obtain rfl:k=N:=by omega
     have hd:decide ((k:Int)<(k:Int))=false:=by rw[decide_eq_false_iff_not];omega
     have l4:=hM.out.lim.cell 4 rfl
     cases cs with
     | error ex=>
      have Hr2:=hid (show jc (ze l E) E L q=.error ex from by rw[Hr.out,show res=.error ex from hI.out];rfl);go_wp2_with fail;refine(zh3 hM.out.cur).mono ?_;rintro e wz ⟨rfl,rfl⟩;go_wp2;go_loopw [11,12,13] (fun y z i wi=>i=.int .i64 0∧wi=wr) (fun _ _ _ _=>0)
      case atStart=>exact⟨rfl,rfl⟩
      case round=>
       obtain⟨rfl,rfl⟩:=hrel;go_wp2_with fail;refine(zbg hM.out.cur).mono ?_;rintro e wz ⟨rfl,rfl⟩;go_wp2_with fail;go_ret;show za7 _ _ _ _ _ _ _;unfold za7 qu;rw[Hr2.out]
       exact⟨hM.out.grown,hM.out.cur,rfl⟩
     | ok q4=>
      obtain⟨vs,e1,j1,j2,j3,j4,j5,j6⟩:=hI.out;have hrs:res=.ok (vs,q4):=by rw[←j6,Nat.sub_self];rfl
      subst e1;have HCt2:=hid (zpk (lim:=L.2.2.2.2) (Rf.keep HB.out hM.out.grown _ (vy _ _)) hM.out.cur j1 j2 HLi.out.e);obtain⟨av,cv,rfl⟩:=j5.len;have HV:=hid j5;have Hvs:=hid (And.intro j3 (And.intro j1 j4));have Hrs:=hid hrs;clear j1 j2 j3 j4 j5 j6 hrs hI;go_wp2_with fail;refine HCt2.out.mono ?_;rintro e w2 hres2;unfold qu at hres2;obtain⟨hg2,hres2⟩:=hres2
      cases hct2:jf (ze l E) E L.2.2.2.2 q4 with
      | error ex=>
       rw[hct2] at hres2;obtain⟨hC2,rfl⟩:=hres2;have HM2:=hid (hM.out.move hg2 HnL.out hC2);have Hr2:=hid (show jc (ze l E) E L q=.error ex from by rw[Hr.out,Hrs.out,ja];unfold zc2;rw[hct2];rfl);clear hC2 hg2 hct2 l4;go_wp2;go_loopw [11,12,13] (fun y z i wi=>i=.int .i64 0∧wi=w2) (fun _ _ _ _=>0)
       case atStart=>exact⟨rfl,rfl⟩
       case round=>
        obtain⟨rfl,rfl⟩:=hrel;go_wp2_with fail;refine(zbg HM2.out.cur).mono ?_;rintro e wz ⟨rfl,rfl⟩;go_wp2_with fail;go_ret;show za7 _ _ _ _ _ _ _;unfold za7 qu;rw[Hr2.out]
        exact⟨HM2.out.grown,HM2.out.cur,rfl⟩
      | ok y=>
       obtain⟨M,q6⟩:=y;rw[hct2] at hres2;obtain⟨hC2,rfl⟩:=hres2;have HM2:=hid (hM.out.move hg2 HnL.out hC2);have hq6:=zkk Hlt.out hct2;rw[Hbl.out] at hq6;have hM4:M≤4000000000000000000:=Nat.le_trans hq6.2.2 HEb.out;have Hq6:=hid (show q6≤n∧q6≤E from⟨hq6.1,hq6.2.1⟩);have HS0:=hid ((HV.out.grown (CurM.notT hM.out.cur) hg2).segB HM2.out.grown.size);obtain⟨sres,hsres⟩:∃sres,vv (ze l E) vs.length M [] [] q6=sres:=⟨_,rfl⟩;have Hr2:=hid (show jc (ze l E) E L q=thn sres (fun s q=>zbq E (qj vs s.1 s.2) q) from by rw[Hr.out,Hrs.out,ja];unfold zc2;rw[hct2,ja,hsres]);have Hs0:=hid (show vv (ze l E) vs.length (M - 0) [] [] q6=sres from hsres);have hkb:vs.length≤900000:=by have:=Hvs.out;omega
       clear hC2 hg2 hct2 l4 hq6 hsres HV hd hM Hr Hrs Hres Hq1 HM1 HM0 HCt2;go_wp2;go_loopw [11,12,13] (fun y z i wi=>∃(k2:Nat) (lst:Int) (q7:Nat),k2≤M∧i=.int .i64 k2∧z=.int .i64 lst∧Hid (RdM w wi g (.slice a n cap) E L (.ok q7))∧Hid (SgI w2 w wi l E n M vs (.slice av vs.length cv) y lst k2 q7 sres)) (fun _ _ i _=>M - (intOf i).toNat)
       case atStart=>exact⟨0,-1,q6,by omega,rfl,rfl,HM2,[],[],rfl,rfl,Hq6.out.1,Hq6.out.2,Nat.zero_le _,(fun t ht=>by cases ht),(fun y hy=>by cases hy),HS0.out,Hs0.out⟩
       case round=>
        obtain⟨k2,lst,q7,hk2,rfl,rfl,hM3,hI3⟩:=hrel;obtain⟨la,ix,i1,i2,i3,i4,i5,i6,i7,i8,i9⟩:=hI3.out;by_cases hkM:k2<M
        · have hd2:decide ((k2:Int)<(M:Int))=true:=by rw[decide_eq_true_iff];omega
          have hd2':decide (k2<M)=true:=by rw[decide_eq_true_iff];omega
          obtain⟨aa,ca,rfl,hIv⟩:=yfe i8 (CurM.notT hM3.out.cur) i6;have Hiv:=hid (z11 (ap:=0) (Rf.keep HB.out hM3.out.grown) hM3.out.cur i3 i4 hIv (by omega));have HS:=hid i8;have Hi:=hid (And.intro i1 (And.intro i2 (And.intro i3 (And.intro i4 (And.intro i5 (And.intro i6 i7))))));have Hst:=hid (show thn (ivP (ze l E) (qr la) 0 q7) (fun s q=>zdw (ze l E) vs.length (zc1 la s.1.1) ix q fun x r=>vv (ze l E) vs.length (M - (k2+1)) (la++[s.1]) (ix++[x]) r)=sres from by rw[←i9,show M - k2=(M - (k2+1))+1 by omega];rfl);clear i1 i2 i3 i4 i5 i6 i7 i8 i9 hIv hI3;go_wp2_with fail;refine(zb3 hM3.out.cur).mono ?_;rintro e wz ⟨rfl,rfl⟩;go_wp2_with fail;refine Hiv.out.mono ?_;rintro e w3 hres3;unfold qu at hres3;obtain⟨hg3,hres3⟩:=hres3;have HS3:=hid (HS.out.grown (CurM.notT hM3.out.cur) hg3)
          cases hip:ivP (ze l E) (qr la) 0 q7 with
          | error ex=>
           rw[hip] at hres3;obtain⟨hC3,rfl⟩:=hres3;have HM5:=hid ((hM3.out.move hg3 HnL.out hC3).below ((Below.refl w3.heap.size w3).alloc (Nat.le_refl _) (.cells #[.int .u64 0,.int .u64 0] 135)));have Hr3:=hid (show jc (ze l E) E L q=.error ex from by rw[Hr2.out,←Hst.out,hip];rfl);clear hC3 hg3 hip;go_wp2_with fail;refine(zg4 HM5.out.cur).mono ?_;rintro e wz ⟨rfl,rfl⟩;go_wp2_with fail;refine(zbg HM5.out.cur).mono ?_;rintro e wz ⟨rfl,rfl⟩;go_wp2_with fail;go_ret;show za7 _ _ _ _ _ _ _;unfold za7 qu;rw[Hr3.out]
           exact⟨HM5.out.grown,HM5.out.cur,rfl⟩
          | ok y=>
           obtain⟨⟨s,wh⟩,q8⟩:=y;rw[hip] at hres3;obtain⟨hC3,rfl⟩:=hres3;have hw:=zpl Hlt.out hip;rw[Hbl.out] at hw;obtain⟨s1,s2⟩:=s;obtain⟨bx,hbx⟩:∃bx,bx=w3.heap.size:=⟨_,rfl⟩;obtain⟨w4,hw4⟩:∃w4,w4=w3.alloc (.cells #[.int .u64 (s1:Nat),.int .u64 (s2:Nat)] 135):=⟨_,rfl⟩;have hal:Below w3.heap.size w3 w4:=by rw[hw4];exact(Below.refl _ _).alloc (Nat.le_refl _) _
           have HM4:=hid ((hM3.out.move hg3 HnL.out hC3).below hal);have HS4:=hid (HS3.out.later hal);have hX:Row w4 bx 135 [.int .u64 (s1:Nat),.int .u64 (s2:Nat)]:=by rw[hw4,hbx];exact y7 _ _ _
           have HX4:=hid hX;have Hne:=hid (show (Value.slice aa la.length ca).ownBlock≠some bx from fun e=>by have:=(HS3.out.own.lt bx e).2;omega);have HN:=hid (zkj (Rf.keep HB.out HM4.out.grown _ (vy _ _)) HM4.out.cur hw.2.1 hw.2.2.1);have HW:=hid hw;have Hip:=hid hip;have Hw4:=hid hw4;have Hbx:=hid hbx;clear hC3 hg3 hal hX hw hip hw4 hbx HS3 Hiv;go_wp2_with fail;rw[←Hw4.out,←Hbx.out];refine HN.out.mono ?_;rintro e w5 ⟨hg5,x,rfl,hok,hbad⟩
           cases hT:ze l E q8 with
           | error c=>
            obtain⟨rfl,hC5⟩:=hbad c hT;have HM6:=hid (HM4.out.move hg5 HnL.out hC5)
            have Hr3:=hid (show jc (ze l E) E L q=.error (c,q8) from by
             rw[Hr2.out,←Hst.out,Hip.out,ja];unfold zdw nmP;rw[hT]
             rfl)
            clear hC5 hg5 hok hbad hT;go_wp2_with fail;refine(zbg HM6.out.cur).mono ?_;rintro e wz ⟨rfl,rfl⟩;go_wp2_with fail;go_ret;show za7 _ _ _ _ _ _ _;unfold za7 qu;rw[Hr3.out]
            exact⟨HM6.out.grown,HM6.out.cur,rfl⟩
           | ok y=>
            obtain⟨x',q9⟩:=y;obtain⟨e2,hC5⟩:=hok _ hT;obtain rfl:x=x':=e2;have ht:=zap Hlt.out hT;rw[Hbl.out] at ht;have HM6:=hid (HM4.out.move hg5 HnL.out hC5);have HS6:=hid (HS4.out.grown (CurM.notT HM4.out.cur) hg5);have HX6:=hid (HX4.out.grown hg5 (fun e=>by injection e with e;exact HX4.out.ne (show Row w4 g 145 _ from HM4.out.cur) (by decide) e))
            have Hst3:=hid (show (if vs.length≤x then .error (8,q8) else if zc1 la s1=true∧ix.getLast?=some x then .error (10,q8) else vv (ze l E) vs.length (M - (k2+1)) (la++[(s1,s2)]) (ix++[x]) q9)=sres from by
             rw[←Hst.out,Hip.out,ja];unfold zdw nmP;rw[hT,ja])
            have HT:=hid ht;have hwn:IntKind.u64.wrap (vs.length:Int)=(vs.length:Int):=by rw[IntKind.wrap_u64];omega
            clear hC5 hg5 hok hbad hT ht Hst HN HS4 HX4 HM4;by_cases h8:vs.length≤x
            · rw[if_pos h8] at Hst3;have hd8:decide ((vs.length:Int)≤(x:Int))=true:=by rw[decide_eq_true_iff];omega
              have hd8':decide (vs.length≤x)=true:=by rw[decide_eq_true_iff];omega
              have Hr3:=hid (show jc (ze l E) E L q=.error (8,q8) from by rw[Hr2.out,←Hst3.out];rfl);have HF:=hid (zdy (c:=8) (p:=q8) HM6.out.cur (by decide));clear h8;go_wp2_with fail;refine(zb3 HM6.out.cur).mono ?_;rintro e wz ⟨rfl,rfl⟩;go_wp2_with fail;refine HF.out.mono ?_;rintro e w7 ⟨rfl,hg7,hC7⟩;have HM7:=hid (HM6.out.move hg7 HnL.out hC7);clear hg7 hC7;go_wp2_with fail;go_ret;show za7 _ _ _ _ _ _ _;unfold za7 qu;rw[Hr3.out];exact⟨HM7.out.grown,HM7.out.cur,rfl⟩
            · rw[if_neg h8] at Hst3;have hd8:decide ((vs.length:Int)≤(x:Int))=false:=by rw[decide_eq_false_iff_not];omega
              have hd8':decide (vs.length≤x)=false:=by rw[decide_eq_false_iff_not];omega
              have hxw:IntKind.i64.wrap (x:Int)=(x:Int):=by rw[IntKind.wrap_i64];omega
              have Hx:=hid (show x<vs.length by omega);obtain⟨tb,htb⟩:∃tb:Bool,tb=decide (zc1 la s1=true∧ix.getLast?=some x):=⟨_,rfl⟩;have HTb:=hid htb;clear h8 htb;go_wp2_with fail;refine(zb3 HM6.out.cur).mono ?_;rintro e wz ⟨rfl,rfl⟩;go_upto_region 24 with fail
              go_cut [115] (fun v wc=>v=.bool tb∧∃qd,wc=w5.drewN qd)
              case first=>
               have x1:=HX6.out.cell 0 rfl;rcases(by omega:0<k2∨k2=0) with h0 | h0
               · have hp:decide (0<(k2:Int))=true:=by rw[decide_eq_true_iff];omega
                 have hp':decide (0<k2)=true:=by rw[decide_eq_true_iff];omega
                 have hla:=Hi.out.1;obtain⟨a7,c7,e7,hIv7⟩:=za2 HS6.out.own Hi.out.2.2.2.2.2.1;injection e7 with e8 _ e9;subst e8 e9;obtain⟨b7,o7,rfl,hc7⟩:=hIv7.cells (by omega);have y1:=(hc7 (k2 - 1) (by omega)).2;have hlo:(zb la (k2 - 1)).2+1≤s1:=yfi (h:=(zb la (k2 - 1)).2) (by have:=Hip.out;unfold qr at this;rw[List.getLast?_eq_getElem?,List.getElem?_eq_getElem (show la.length - 1<la.length by omega)] at this;rw[jg (by omega)];simp only[hla,Option.map_some] at this;exact this);have htl:=yfh (l:=la) (lo:=s1) (by omega);rw[hla] at htl;have hlh:(zb la (k2 - 1)).2<18446744073709551616:=by have:=HW.out;omega
                 generalize (zb la (k2 - 1)).2=hh at*;have hs1:s1<18446744073709551616:=by have:=HW.out;omega
                 have hsw:IntKind.u64.wrap ((s1:Int) - (hh:Int))=((s1 - hh:Nat):Int):=by rw[IntKind.wrap_u64];omega
                 have hsub:IntKind.i64.wrap ((k2:Int) - 1)=((k2 - 1:Nat):Int):=by rw[IntKind.wrap_i64];omega
                 have h1:(0:Int)≤((k2 - 1:Nat):Int):=by omega
                 have h2:((k2 - 1:Nat):Int)<(la.length:Int):=by omega
                 have hlst:=Hi.out.2.2.2.2.2.2;have hne:ix≠[]:=fun e=>by have:=Hi.out.2.1;rw[e] at this;simp at this;omega
                 obtain⟨yl,hyl⟩:∃y,ix.getLast?=some y:=by
                  cases hg:ix.getLast? with
                  | none=>exact absurd (List.getLast?_eq_none_iff.1 hg) hne
                  | some y=>exact⟨y,rfl⟩
                 have hl2:=hlst yl hyl
                 have hkinds:(((s1 - hh:Nat):Int) == 1)=true∧((x:Int) == lst)=true∧tb=true∨(((s1 - hh:Nat):Int) == 1)=true∧((x:Int) == lst)=false∧tb=false∨(((s1 - hh:Nat):Int) == 1)=false∧tb=false:=by
                  rw[HTb.out,htl,hyl,hl2];simp only[beq_iff_eq,beq_eq_false_iff_ne,decide_eq_true_iff,decide_eq_false_iff_not,Option.some.injEq];omega
                 have Hk:=hid hkinds;clear hla hIv7 hc7 hlo htl hlh hs1 hlst hne hyl hl2 hkinds h0;generalize k2 - 1=km at*;generalize s1 - hh=df at*;rcases Hk.out with ⟨t1,t2,t3⟩ | ⟨t1,t2,t3⟩ | ⟨t1,t3⟩
                 all_goals
                  have Ht3:=hid t3;clear t3;go_quiet (fail);go_wp2_with fail;go_meet
                  exact⟨by rw[Ht3.out],_,rfl⟩
               · have hp:decide (0<(k2:Int))=false:=by rw[decide_eq_false_iff_not];omega
                 have hp':decide (0<k2)=false:=by rw[decide_eq_false_iff_not];omega
                 have Ht3:=hid (show tb=false from by rw[HTb.out,List.length_eq_zero_iff.1 (Hi.out.1.trans h0)];rfl);clear h0;go_quiet (fail);go_wp2_with fail;go_meet
                 exact⟨by rw[Ht3.out],_,rfl⟩
              case rest=>
               obtain⟨rfl,qd,rfl⟩:=hcut;have hbd:=z7 (Below.refl w5.heap.size w5) qd;have HM7:=hid (HM6.out.below hbd);have HS7:=hid (HS6.out.later hbd);have HX7:=hid (HX6.out.later hbd);clear hbd;generalize w5.drewN qd=w6 at*
               cases tb with
               | true=>
                rw[if_pos (of_decide_eq_true HTb.out.symm)] at Hst3;have Hr3:=hid (show jc (ze l E) E L q=.error (10,q8) from by rw[Hr2.out,←Hst3.out];rfl);have HF:=hid (zdy (c:=10) (p:=q8) HM7.out.cur (by decide));go_wp2_with fail;refine HF.out.mono ?_;rintro e w7 ⟨rfl,hg7,hC7⟩;have HM8:=hid (HM7.out.move hg7 HnL.out hC7);clear hg7 hC7;go_wp2_with fail;go_ret;show za7 _ _ _ _ _ _ _;unfold za7 qu;rw[Hr3.out]
                exact⟨HM8.out.grown,HM8.out.cur,rfl⟩
               | false=>
                rw[if_neg (of_decide_eq_false HTb.out.symm)] at Hst3;have Hln:=hid (show la.length+1≤1000000000000 from by have:=Hi.out;omega);obtain⟨all8,w8,hrun,hM8,hS8,hX8⟩:=yfc HM7.out HS7.out (s1,s2) Hln.out HX7.out Hne.out;have HM8:=hid hM8;have HS8:=hid hS8;have HX8:=hid hX8;obtain⟨gk,ck,a9,c9,e9,hcS⟩:=z1w hS8 Hx.out;injection e9 with e10 _ e11;subst e10 e11;have x0:=HX7.out.cell 0 rfl;have x1:=HX7.out.cell 1 rfl;have z0:=HX8.out.cell 0 rfl;have z1:=HX8.out.cell 1 rfl;have hal:∀o,Below w8.heap.size w8 (w8.alloc o):=fun o=>(Below.refl _ _).alloc (Nat.le_refl _) o
                have cSo:=fun o=>((hal o).cell (p:=⟨gk,x*2,none⟩) (zf hcS)).trans hcS
                have h0x:(0:Int)≤(x:Int):=by omega
                have h0n:(x:Int)<(vs.length:Int):=by have:=Hx.out;omega
                have Hli:=hid (show ix.length=la.length from Hi.out.2.1.trans Hi.out.1.symm);clear hM8 hS8 hX8 hal;go_wp2_with (at_builtin;refine qf _ _ 123 rfl rfl _ _ rfl rfl _ _ hrun ?_);clear hrun x0 x1
                go_region_law (first
                 | (refine yfd rfl (.tmp 131) (.tmp 133) rfl rfl HM8.out HS8.out rfl Hli.out Hx.out hcS (s1,s2) ?hW rfl _ _ rfl (yq (zh _ _ _ (by simp)) rfl rfl) Hln.out ?_
                    case hW=>repeat (first | exact Below.refl _ _ | refine Below.alloc ?_ (by simp) _ | refine Below.drew ?_ | refine z7 ?_ _)
                    intro gS m cS' w9 hO;have hq4:=hO.cell;have hf4:=hO.frozen;have HM9:=hid (fun W hb=>hO.done.below (w':=W) hb)
                    have Hnew:=hid (fun W hb=>show SgI w2 w W l E n M vs (.slice (some ⟨gk,0,none⟩) vs.length cv) all8 (x:Int) (k2+1) q9 sres from⟨la++[(s1,s2)],ix++[x],by rw[List.length_append,Hi.out.1];rfl,by rw[List.length_append,Hi.out.2.1];rfl,HT.out.2.1,HT.out.2.2.1,by have:=HW.out;have:=HT.out;have:=Hi.out;omega,fun t ht=>by
                     rcases List.mem_append.1 ht with h | h
                     · exact Hi.out.2.2.2.2.2.1 t h
                     · rw[List.mem_singleton] at h;subst h;have:=HW.out;exact⟨by omega,by omega⟩,fun y hy=>by
                     rw[List.getLast?_append,List.getLast?_singleton] at hy;injection hy with hy;rw[hy],hO.fin.later hb,Hst3.out⟩)
                    clear hO))
                all_goals
                 clear z0 z1 hcS cSo;go_wp2_with fail;go_roundw
                 case rel=>exact⟨k2+1,(x:Int),q9,by omega,by go_num,rfl,hid (HM9.out _ (by first | exact Below.refl _ _ | exact(Below.refl _ _).drew | exact z7 (Below.refl _ _) _)),hid (Hnew.out _ (by first | exact Below.refl _ _ | exact(Below.refl _ _).drew | exact z7 (Below.refl _ _) _))⟩
                 case measure=>simp[intOf];omega
        · obtain rfl:k2=M:=by omega
          have hd2:decide ((k2:Int)<(k2:Int))=false:=by rw[decide_eq_false_iff_not];omega
          have HS:=hid i8;have Hl64:=hid i6;have Hr3:=hid (show jc (ze l E) E L q=zbq E (qj vs la ix) q7 from by rw[Hr2.out,←i9,Nat.sub_self];rfl);clear i1 i2 i3 i4 i5 i6 i7 i8 i9 hI3;go_wp2_with fail;refine(zb3 hM3.out.cur).mono ?_;rintro e wz ⟨rfl,rfl⟩;go_wp2;obtain⟨wC,hwC⟩:∃wC,wC=wr:=⟨_,rfl⟩;rw[←hwC] at hM3 HS ⊢;clear hwC;go_loopw [17] (fun i wi=>∃j:Nat,j≤vs.length∧i=.int .i64 j∧wi=wC∧Hid (∀t,t<j→(itN la ix t).length≠0)) (fun i _=>vs.length - (intOf i).toNat)
          case atStart=>exact⟨0,by omega,rfl,rfl,fun t h=>by omega⟩
          case round=>
           obtain⟨j,hj,rfl,rfl,hall⟩:=hrel;have c1:=Row.cell hM3.out.cur 1 rfl;have c2:=Row.cell hM3.out.cur 2 rfl;by_cases hjn:j<vs.length
           · have hd3:decide ((j:Int)<(vs.length:Int))=true:=by rw[decide_eq_true_iff];omega
             have hd3':decide (j<vs.length)=true:=by rw[decide_eq_true_iff];omega
             obtain⟨gk,ck,a9,c9,e9,hcS⟩:=z1w HS.out hjn;injection e9 with e10 _ e11;subst e10 e11;have h0j:(0:Int)≤(j:Int):=by omega
             have h0n:(j:Int)<(vs.length:Int):=by omega
             by_cases hm:(itN la ix j).length=0
             · have hm0:(((itN la ix j).length:Int) == 0)=true:=by rw[beq_iff_eq];omega
               have Hr4:=hid (show jc (ze l E) E L q=.error (10,q7) from Hr3.out.trans (yff hjn hm));have HF:=hid (zdy (c:=10) (p:=q7) hM3.out.cur (by decide));clear hm hall hjn;generalize (itN la ix j).length=ml at*;go_wp2_with fail;refine HF.out.mono ?_;rintro e w7 ⟨rfl,hg7,hC7⟩;have HM8:=hid (hM3.out.move hg7 HnL.out hC7);clear hg7 hC7;go_wp2_with fail;go_ret;show za7 _ _ _ _ _ _ _;unfold za7 qu;rw[Hr4.out];exact⟨HM8.out.grown,HM8.out.cur,rfl⟩
             · have hm0:(((itN la ix j).length:Int) == 0)=false:=by rw[beq_eq_false_iff_ne];omega
               have Hall:=hid (show ∀t,t<j+1→(itN la ix t).length≠0 from fun t h=>by
                rcases(by omega:t<j∨t=j) with h | rfl
                · exact hall.out t h
                · exact hm)
               clear hm hall;generalize (itN la ix j).length=ml at*;go_wp2_with fail;go_roundw
               case rel=>exact⟨j+1,by omega,by go_num,by first | rfl | trivial,Hall⟩
               case measure=>simp[intOf];omega
           · obtain rfl:j=vs.length:=by omega
             have hd3:decide ((vs.length:Int)<(vs.length:Int))=false:=by rw[decide_eq_false_iff_not];omega
             have hfin:=Hr3.out.trans (yfg (E:=E) (q:=q7) hall.out);obtain⟨af,cf,e9,-⟩:=HS.out.seg.frags Hl64.out;have hFr:KnoS _ _ _:=.inl ⟨_,_,_,_,HS.out.seg,Hl64.out,rfl⟩;injection e9 with e10 _ e11;subst e10 e11;have HFr:=hid hFr;by_cases hqe:q7<E
             · have hd4:decide ((q7:Int)<(E:Int))=true:=by rw[decide_eq_true_iff];omega
               have hd4':decide (q7<E)=true:=by rw[decide_eq_true_iff];omega
               rw[if_pos hqe] at hfin;have Hr4:=hid hfin;clear hfin hqe hall hjn hFr;have HM8:=hid (fun k=>hM3.out.below (z7 (Below.refl wr.heap.size wr) k));go_wp2_with fail;go_quiet (fail);go_wp2_with fail;refine(zdy (c:=11) (p:=q7) (HM8.out _).cur (by decide)).mono ?_;rintro e w7 ⟨rfl,hg7,hC7⟩;have HM9:=hid ((HM8.out _).move hg7 HnL.out hC7);clear hg7 hC7;go_wp2_with fail;go_ret;show za7 _ _ _ _ _ _ _;unfold za7 qu;rw[Hr4.out];exact⟨HM9.out.grown,HM9.out.cur,rfl⟩
             · have hd4:decide ((q7:Int)<(E:Int))=false:=by rw[decide_eq_false_iff_not];omega
               have hd4':decide (q7<E)=false:=by rw[decide_eq_false_iff_not];omega
               rw[if_neg hqe] at hfin;have Hr4:=hid hfin;clear hfin hqe hall hjn hFr;go_wp2_with fail;go_quiet (fail);have hbd:=fun k=>z7 (Below.refl wr.heap.size wr) k
               have HM8:=hid (fun k=>hM3.out.below (hbd k));have HF8:=hid (fun k=>HFr.out.later (hbd k));clear hbd;go_wp2_with fail;go_ret;show za7 _ _ _ _ _ _ _;unfold za7 qu;rw[Hr4.out];exact⟨(HM8.out _).grown,(HM8.out _).cur,_,rfl,HF8.out _⟩
