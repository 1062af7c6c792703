/- Part 78. -/
import Derived.Test.YtmfhggnlainmiaaGreatDoorPk77
import Derived.Test.YtmfhggnlainmiaaGreatDoorPk71
import Derived.Test.YtmfhggnlainmiaaGreatDoorPk76
set_option linter.unusedVariables false
set_option maxHeartbeats 16000000
namespace Go.Proofs.YtmfhggnlainmiaaGreatDoor
open Lib (hid)
section
open Go.RowKit
def znb (a:Lim):Option Nat:=j7 (fun i=>if jz a i<0 then some i else none) 5
set_option maxRecDepth 20000 in
theorem ykp (a:Lim) (w:World):Calls Tryz.prog 57 #[zc8 a] w fun x w'=>x=.returned (.int .i64 (zck (znb a)))∧Below w.heap.size w w':=by
 have Hal:=hid (show Below w.heap.size w (w.alloc (.cells #[.int .i64 a.1,.int .i64 a.2.1,.int .i64 a.2.2.1,.int .i64 a.2.2.2.1,.int .i64 a.2.2.2.2] 24)) from(Below.refl _ _).alloc (Nat.le_refl _) _);have Hx:=hid (show znb a=j7 (fun i=>if jz a i<0 then some i else none) 5 from rfl);have hC:=hid (fun w=>zvl a w);unfold zc8 at hC ⊢;go_enter Tryz.func57,Tryz.ntmps57;go_wp2_with fail;refine(hC.out _).mono ?_;rintro e w1 ⟨rfl,hb1⟩;have Hb1:=hid (Hal.out.trans (hb1.mono Hal.out.size));clear hb1;have HA:=hid (zvk w1 a 167);have Hb2:=hid (Hb1.out.trans ((show Below w1.heap.size w1 (w1.alloc (.cells #[.int .i64 a.1,.int .i64 a.2.1,.int .i64 a.2.2.1,.int .i64 a.2.2.2.1,.int .i64 a.2.2.2.2] 167)) from(Below.refl _ _).alloc (Nat.le_refl _) _).mono Hb1.out.size));go_wp2_with fail;generalize w1.alloc (.cells #[.int .i64 a.1,.int .i64 a.2.1,.int .i64 a.2.2.1,.int .i64 a.2.2.2.1,.int .i64 a.2.2.2.2] 167)=W at*;go_loopw [4] (fun i wr=>∃q:Nat,q≤5∧i=.int .i64 q∧Below W.heap.size W wr∧Hid (∀j,j<q→(if jz a j<0 then some j else none)=none)) (fun i _=>5 - (intOf i).toNat)
 case atStart=>exact⟨0,by omega,rfl,Below.refl _ _,fun j h=>by omega⟩
 case round=>
  obtain⟨q,hq5,rfl,hb,ht⟩:=hrel;have Hb:=hid hb;clear hb;have h0:(0:Int)≤q:=by omega
  by_cases hq:q<5
  · have h04:(q:Int)<5:=by omega
    have y1:=HA.out _ Hb.out q hq;by_cases h:jz a q<0
    · have hd1:decide (jz a q<0)=true:=decide_eq_true h;have Hr:=hid (zbb hq ht.out (if_pos h));generalize jz a q=xa at*;clear h;go_wp2;go_ret;exact⟨by rw[Hx.out,Hr.out];rfl,Hb2.out.trans (Hb.out.mono Hb2.out.size)⟩
    · have hd1:decide (jz a q<0)=false:=decide_eq_false h;have Hr:=hid (zdb ht.out (if_neg h));generalize jz a q=xa at*;clear h;go_wp2;go_roundw
      case rel=>exact⟨q+1,by omega,by go_num,Hb.out,Hr.out⟩
      case measure=>simp[intOf];omega
  · obtain rfl:q=5:=by omega
    have Hr:=hid (zbs ht.out);go_wp2;go_ret;exact⟨by rw[Hx.out,Hr.out];rfl,Hb2.out.trans (Hb.out.mono Hb2.out.size)⟩
end
section
theorem ykq {L:zc} {cs:List Kno} (hK:∀c∈cs,EncK c) {i:Nat} (hi:i<cs.length) (h:∀j,j<i→zc7 L (cs.getD j [])) (hn:¬zc7 L (cs.getD i [])):
 ∃es o,kq (yo cs) L (cs.take i) es (7,o)∧(yo (cs.take i)).length<o∧o<(yo (cs.take (i+1))).length:=by
 have e1:cs=cs.take i++(cs.getD i [] :: cs.drop (i+1)):=by
  rw[List.getD_eq_getElem?_getD,List.getElem?_eq_getElem hi];simp
 have e2:cs.take (i+1)=cs.take i++[cs.getD i []]:=by
  rw[List.take_add_one,List.getD_eq_getElem?_getD,List.getElem?_eq_getElem hi];rfl
 have hm:∀c∈cs.take i,EncK c∧zc7 L c:=fun c hc=>by
  obtain⟨j,hj,rfl⟩:=List.getElem_of_mem hc;rw[List.length_take] at hj;have:=h j (by omega);rw[List.getD_eq_getElem?_getD,List.getElem?_eq_getElem (show j<cs.length by omega)] at this;rw[List.getElem_take];exact⟨hK _ (List.getElem_mem _),this⟩
 have hKi:EncK (cs.getD i []):=by
  rw[List.getD_eq_getElem?_getD,List.getElem?_eq_getElem hi];exact hK _ (List.getElem_mem _)
 obtain⟨es,h1⟩:=zvg (cs.take i) [] (kw (cs.getD i [])++yo (cs.drop (i+1))) (fun _ h=>by cases h) (zvf (zm2 _) (zf6 _)) hm;obtain⟨o,h2,h3,h4⟩:=(z5f (yo (cs.take i)) (yo (cs.drop (i+1))) (cs.getD i []) L (zf6 _) (zf6 _) hKi).2 hn
 have e3:yo cs=yo (cs.take i)++kw (cs.getD i [])++yo (cs.drop (i+1)):=by
  conv=>lhs;rw[e1,zql,zjk]
  simp
 refine⟨es,o,⟨(yo (cs.take i)).length,?_,?_⟩,h3,?_⟩
 · rw[e3,List.append_assoc];simpa using h1
 · rw[e3];exact h2
 · rw[e2,zql,show yo [cs.getD i []]=kw (cs.getD i []) by simp[yo]];exact h4
theorem ykr {c:Kno} {L:zc} (hp:znb L=none) (h:zc7 L c):zha (zax c) L=none:=by
 have hp':∀i,i<5→0≤jz L i:=fun i hi=>by
  unfold znb at hp;have:=List.findSome?_eq_none_iff.1 hp i (List.mem_range.2 hi);split at this
  · cases this
  · omega
 have h1:=zna.1 ((z5n hp').1 h.2);refine zna.2 fun i hi=>?_
 rcases Nat.eq_zero_or_pos i with rfl | h0
 · have:=h.1;have e:jz (zax c) 0=((zq (zn c)).length:Int):=rfl;have e2:jz L 0=L.1:=rfl;have:=hp' 0 (by omega);omega
 · have:=h1 i hi;rcases(by omega:i=1∨i=2∨i=3∨i=4) with rfl | rfl | rfl | rfl <;> exact this
end
section
open Go.RowKit
attribute [local go_sem] y9 Tryz.eqGuard_if
theorem KnS.takeR {ks:List Kno} (h:RightL ks) (i:Nat):RightL (ks.take i):=⟨by have:=h.len;rw[List.length_take];omega,fun k hk=>h.one k (List.mem_of_mem_take hk)⟩
set_option maxRecDepth 20000 in
theorem yks (a:Option Addr) (n cap:Nat) (ks:List Kno) (L:zc) (w:World) (hE:KnS w a n cap ks) (hL:LimsI L) (hD:Door w):
 Calls Tryz.prog 11 #[.slice a n cap,lmV L] w fun e w'=>e=.returned (.bool true)∧Below w.heap.size w w':=by
 obtain⟨wB,hwB⟩:∃wB,wB=w.alloc (.cells #[.int .i64 L.1,.int .i64 L.2.1,.int .i64 L.2.2.1,.int .i64 L.2.2.2.1,.int .i64 L.2.2.2.2] 24):=⟨_,rfl⟩;have hbB:Below w.heap.size w wB:=by rw[hwB];exact(Below.refl _ _).alloc (Nat.le_refl _) _
 have HG:=hid (show Row wB w.heap.size 24 [.int .i64 L.1,.int .i64 L.2.1,.int .i64 L.2.2.1,.int .i64 L.2.2.2.1,.int .i64 L.2.2.2.2] from by rw[hwB];exact y7 w _ _);have HwB:=hid hwB;have HbB:=hid hbB;have HA:=hid (fun W (h:Below w.heap.size w W)=>zvj W (hD.below (Nat.le_refl _) h));have HE:=hid (fun W (h:Below w.heap.size w W)=>hE.below h);have HRt:=hid (fun W (h:Below w.heap.size w W)=>zvi a n cap ks W (hE.below h));have HCk:=hid (fun W=>ykp L W);have HX:=hid (fun c W=>z5m c L W);have HP:=hid (fun W x m c l (hB:Byts W x m c l) (h:Below w.heap.size w W) (hm:m≤900000000000)=>zmg x m c l L W hB (hD.below (Nat.le_refl _) h) hL hm);have hnm:n≤9223372036854775807:=Nat.le_trans hE.room hE.most;have Hlen:=hid hE.len;have Hroom:=hid hE.room;clear hE hL hD hwB hbB;unfold lmV at HP ⊢;unfold zc8 at HCk HX;go_enter Tryz.func11,Tryz.ntmps11;go_upto_region 1 with fail
 rw[←HwB.out];go_wp2_with fail;refine(HRt.out _ HbB.out).mono ?_;rintro e w1 ⟨⟨r,rfl,hr⟩,hb1⟩;have HG1:=hid (HG.out.later hb1);have Hb1:=hid (HbB.out.trans (hb1.mono HbB.out.size));clear hb1;rcases hr with ⟨rfl,hR⟩ | ⟨rfl,hR⟩
 case' inr=>
  clear hR;go_wp2_with fail;refine(HA.out _ Hb1.out).mono ?_;rintro e w2 ⟨rfl,hb2⟩;have Hb2:=hid (Hb1.out.trans (hb2.mono Hb1.out.size));clear hb2;go_wp2_with fail;go_ret;exact⟨rfl,Hb2.out⟩
 have HR:=hid hR;clear hR;have l0:=HG1.out.cell 0 rfl;have l1:=HG1.out.cell 1 rfl;have l2:=HG1.out.cell 2 rfl;have l3:=HG1.out.cell 3 rfl;have l4:=HG1.out.cell 4 rfl;go_wp2_with fail;refine(HCk.out _).mono ?_;rintro e w2 ⟨rfl,hb2⟩;have HG2:=hid (HG1.out.later hb2);have Hb2:=hid (Hb1.out.trans (hb2.mono Hb1.out.size));clear hb2 l0 l1 l2 l3 l4;obtain⟨lk,hlk⟩:∃lk,znb L=lk:=⟨_,rfl⟩;rw[hlk];have Hlk:=hid hlk;clear hlk
 cases lk with
 | some i=>
  unfold zck;simp only;have hd:decide ((i:Int)<0)=false:=by rw[decide_eq_false_iff_not];omega
  have hd1:decide ((0:Int)≤(i:Int))=true:=by rw[decide_eq_true_iff];omega
  have hd2:decide ((i:Int)≥0)=true:=by rw[decide_eq_true_iff];omega
  go_wp2_with fail;refine(HA.out _ Hb2.out).mono ?_;rintro e w3 ⟨rfl,hb3⟩;have Hb3:=hid (Hb2.out.trans (hb3.mono Hb2.out.size));clear hb3;go_wp2_with fail;go_ret
  exact⟨rfl,Hb3.out⟩
 | none=>
 unfold zck;simp only;have HEn:=hid (fun W (h:Below w.heap.size w W)=>zm9 a n cap ks W (HE.out W h) HR.out);obtain⟨cs,hcs⟩:∃cs,ks.map zv=cs:=⟨_,rfl⟩;have Hcs:=hid hcs;have Hcl:=hid (show cs.length=n from by rw[←hcs,List.length_map,Hlen.out])
 have hKs:∀i,i<n→EncK (zt cs i)∧zt cs i=zv (zt ks i):=fun i hi=>by
  have hi':i<ks.length:=by rw[Hlen.out];exact hi
  rw[←hcs,zqs hi'];obtain⟨hfw,hck⟩:=HR.out.one _ (zif hi');obtain⟨b,o,-,hc⟩:=(HE.out _ (Below.refl _ _)).cells (by omega);obtain⟨x,m,c,-,hf⟩:=hc i hi;exact⟨(zg8 hf.all hfw hck).2.2.2.2.2,rfl⟩
 have HKs:=hid hKs
 have HKa:=hid (show ∀c∈cs,EncK c from fun c hc=>by
  obtain⟨i,hi,rfl⟩:=List.getElem_of_mem hc;rw[←zb2 hi];exact(hKs i (by rw[←Hcl.out];exact hi)).1)
 have Hbl:=hid (show (yo cs).length≤900000000000 from by
  have h1:=zqv HKa.out;have:=Hcl.out;have:=HR.out.len;have:=Hlen.out;have:9000000019*cs.length≤9000000019*6:=Nat.mul_le_mul_left _ (by omega);omega)
 clear hcs hKs;rw[Hcs.out] at HEn;go_wp2_with fail;refine(HEn.out _ Hb2.out).mono ?_;rintro e w3 ⟨⟨v3,rfl,ho3⟩,hb3⟩;obtain⟨a3,c3,rfl,hB3⟩:=zbk ho3 (zf6 cs);have HG3:=hid (HG2.out.later hb3);have Hb3:=hid (Hb2.out.trans (hb3.mono Hb2.out.size));have HB3:=hid hB3;clear hb3 ho3 hB3;have l0:=HG3.out.cell 0 rfl;have l1:=HG3.out.cell 1 rfl;have l2:=HG3.out.cell 2 rfl;have l3:=HG3.out.cell 3 rfl;have l4:=HG3.out.cell 4 rfl;have hml:(yo cs).length≤9223372036854775807:=by have:=Hbl.out;omega
 obtain⟨m,hm⟩:∃m,(yo cs).length=m:=⟨_,rfl⟩;rw[hm] at hml HB3 ⊢;have Hm:=hid hm;clear hm;go_wp2_with fail;refine(HP.out _ _ _ _ _ HB3.out Hb3.out (by have:=Hbl.out;have:=Hm.out;omega)).mono ?_;rintro e w4 ⟨⟨ks4,es4,x4,V4,hP4,rfl,hK4⟩,hb4⟩;obtain⟨va,vc,rfl⟩:=hK4.slice;have HG4:=hid (HG3.out.later hb4);have Hb4:=hid (Hb3.out.trans (hb4.mono Hb3.out.size));have HP4:=hid hP4;clear hb4 hP4 hK4 l0 l1 l2 l3 l4;obtain⟨wC,hwC⟩:∃wC,wC=w4.alloc (.cells #[.int .i64 (x4.1:Int),.int .i64 (x4.2:Int)] 29):=⟨_,rfl⟩;have hbC:=(Below.refl w4.heap.size w4).alloc (Nat.le_refl _) (.cells #[.int .i64 (x4.1:Int),.int .i64 (x4.2:Int)] 29);rw[←hwC] at hbC;have HV:=hid (show Row wC w4.heap.size 29 [.int .i64 (x4.1:Int),.int .i64 (x4.2:Int)] from by rw[hwC];exact y7 w4 29 _);have HwC:=hid hwC;have HGC:=hid (HG4.out.later hbC);have HbC:=hid (Hb4.out.trans (hbC.mono Hb4.out.size));clear hwC hbC;go_upto_region 5 with fail
 rw[←HwC.out];generalize w4.heap.size=g at*;go_wp2_with fail;go_loopw [31] (fun i wr=>∃k:Nat,k≤n∧i=.int .i64 k∧Hid (Below wC.heap.size wC wr)∧Hid (∀j,j<k→zc7 L (zt cs j))) (fun i _=>n - (intOf i).toNat)
 case atStart=>exact⟨0,Nat.zero_le _,rfl,hid (Below.refl _ _),hid fun j hj=>absurd hj (Nat.not_lt_zero j)⟩
 case round=>
  obtain⟨k,hkn,rfl,hbr,hI⟩:=hrel;have Hbr:=hid (HbC.out.trans (hbr.out.mono HbC.out.size));by_cases hlt:k<n
  · obtain⟨b,o,rfl,hc⟩:=(HE.out _ Hbr.out).cells (by omega);obtain⟨x,mm,c,e1,hf⟩:=hc k hlt;have hkl:k<ks.length:=by rw[Hlen.out];exact hlt
    have hd2:decide ((k:Int)<(n:Int))=true:=by rw[decide_eq_true_iff];omega
    have hk1:IntKind.i64.wrap ((k:Int)+1)=((k+1:Nat):Int):=by rw[IntKind.wrap_i64];omega
    have h0:(0:Int)≤(k:Int):=by omega
    have h0n:(k:Int)<(n:Int):=by omega
    obtain⟨hfw,hck⟩:=HR.out.one _ (zif hkl);obtain⟨k1,k2,k3,k4,k5,k6⟩:=zg8 hf.all hfw hck;have HLs:=hid (fun W (h:Below wr.heap.size wr W)=>z5p x mm c (zt ks k) W (hf.below h) k1 k4 k5 k6);have hce:=(HKs.out k hlt).2;rw[←hce] at HLs;have HGr:=hid (fun W (h:Below wr.heap.size wr W)=>(HGC.out.later (hbr.out.trans (h.mono hbr.out.size))));have HYf:=hid (fun W (h:Below wr.heap.size wr W)=>And.intro ((HGr.out W h).cell 0 rfl) (And.intro ((HGr.out W h).cell 1 rfl) (And.intro ((HGr.out W h).cell 2 rfl) (And.intro ((HGr.out W h).cell 3 rfl) ((HGr.out W h).cell 4 rfl)))));have HXL:=hid (fun W=>HX.out (zax (zt cs k)) W);obtain⟨lx,hlx⟩:∃lx,zha (zax (zt cs k)) L=lx:=⟨_,rfl⟩;rw[hlx] at HXL;have Hlx:=hid hlx;unfold zc8 at HLs;clear hc hf hfw hck k1 k2 k3 k4 k5 k6 hce hlx
    cases lx with
    | none=>
     unfold zck at HXL;simp only at HXL
     have HI2:=hid (show ∀j,j<k+1→zc7 L (zt cs j) from fun j hj=>by
      by_cases e:j=k
      · subst e;exact z5q Hlx.out
      · exact hI.out j (by omega))
     go_upto_region 8 with fail
     refine jl (by kernel_rfl) (by kernel_rfl) ?_
     repeat (go_big_quiet_step ((intro hw;first
      | rfl
      | (go_at_call 55;exact jt hw (HLs.out _ hw))
      | (go_at_call 54;exact jt hw (HXL.out _))
      | (obtain⟨y0,y1,y2,y3,y4⟩:=HYf.out _ hw
         go_simp;first | rfl | exact⟨rfl,hw⟩ | (trace_state;fail)))))
     refine wpQuiet_nil ?_;intro w5 hb5;have Hb5:=hid (hbr.out.trans (hb5.mono hbr.out.size));clear hb5;go_wp2_with fail;go_roundw
     case rel=>exact⟨k+1,hlt,rfl,Hb5,HI2⟩
     case measure=>simp[intOf];omega
    | some i=>
     unfold zck at HXL;simp only at HXL;have hno:¬zc7 L (zt cs k):=fun h=>by have:=ykr Hlk.out h;rw[Hlx.out] at this;cases this
     obtain⟨es,o5,hp,ho1,ho2⟩:=ykq (L:=L) (cs:=cs) HKa.out (i:=k) (by rw[Hcl.out];exact hlt) hI.out hno;obtain⟨e1',-,e3'⟩:=zdl hp HP4.out;subst e1' e3';have hkl4:(cs.take k).length=k:=by rw[List.length_take,Hcl.out];omega
     rw[hkl4];have HE1:=hid (fun W (h:Below w.heap.size w W)=>zm9 (some ⟨b,o,none⟩) k cap (ks.take k) W ((HE.out W h).take (by omega)) (KnS.takeR HR.out k));have HE2:=hid (fun W (h:Below w.heap.size w W)=>zm9 (some ⟨b,o,none⟩) (k+1) cap (ks.take (k+1)) W ((HE.out W h).take (by omega)) (KnS.takeR HR.out (k+1)));rw[List.map_take,Hcs.out] at HE1 HE2;obtain⟨f1,hf1⟩:∃f,(yo (cs.take k)).length=f:=⟨_,rfl⟩;obtain⟨f2,hf2⟩:∃f,(yo (cs.take (k+1))).length=f:=⟨_,rfl⟩;rw[hf1] at HE1 ho1;rw[hf2] at HE2 ho2;have hdi:decide ((i:Int)<0)=false:=by rw[decide_eq_false_iff_not];omega
     have hd3:decide ((0:Int)≤(i:Int))=true:=by rw[decide_eq_true_iff];omega
     have hd4:decide ((f1:Int)<(o5:Int))=true:=by rw[decide_eq_true_iff];omega
     have hd5:decide ((o5:Int)<(f2:Int))=true:=by rw[decide_eq_true_iff];omega
     have hd4n:decide (f1<o5)=true:=by rw[decide_eq_true_iff];omega
     have hd5n:decide (o5<f2)=true:=by rw[decide_eq_true_iff];omega
     have hck:k≤cap:=by have:=Hroom.out;omega
     obtain⟨k2,hk2⟩:∃k2,k+1=k2:=⟨_,rfl⟩;rw[hk2] at hk1 HE2;have hck1:k2≤cap:=by have:=Hroom.out;omega
     have hci:(k:Int)≤(cap:Int):=by omega
     have hci1:(k2:Int)≤(cap:Int):=by omega
     have h01:(0:Int)≤(k2:Int):=by omega
     clear hk2;have hVr:=hid (fun W (h:Below wr.heap.size wr W)=>(HV.out.later (hbr.out.trans (h.mono hbr.out.size))));clear hp ho1 ho2 hf1 hf2 hkl4 hno;go_upto_region 8 with fail
     refine jl (by kernel_rfl) (by kernel_rfl) ?_
     repeat (go_big_quiet_step ((intro hw;first
      | rfl
      | (go_at_call 55;exact jt hw (HLs.out _ hw))
      | (go_at_call 54;exact jt hw (HXL.out _))
      | (obtain⟨y0,y1,y2,y3,y4⟩:=HYf.out _ hw
         go_simp;first | rfl | exact⟨rfl,hw⟩ | (trace_state;fail)))))
     refine wpQuiet_nil ?_;intro w5 hb5;have Hb5:=hid (Hbr.out.trans (hb5.mono Hbr.out.size));have HV5:=hid (fun W (h:Below w5.heap.size w5 W)=>hVr.out W (hb5.trans (h.mono hb5.size)));clear hb5;go_wp2_with fail
     go_region_held3 (fun w'=>Below w5.heap.size w5 w') (first | assumption | exact(Below.refl _ _) | exact(Below.refl _ _).drew) (first
      | (go_at_call 34
         first
         | (with_reducible refine(HE1.out _ (Hb5.out.trans (Below.mono (by assumption) Hb5.out.size))).mono ?_)
         | (with_reducible refine(HE2.out _ (Hb5.out.trans (Below.mono (by assumption) Hb5.out.size))).mono ?_)
         rintro e w6 ⟨⟨v6,rfl,ho6⟩,hb6⟩;obtain⟨a6,c6,rfl⟩:=jh ho6;have hS6:Below w5.heap.size w5 w6:=Below.trans (by assumption) (hb6.mono (Below.size (by assumption)));clear ho6 hb6))
     all_goals
      have Hb6:=hid (Hb5.out.trans (hS6.mono Hb5.out.size));have HV6:=hid (HV5.out _ hS6);clear hS6;go_wp2_with fail;refine(HA.out _ Hb6.out).mono ?_;rintro e w7 ⟨rfl,hb7⟩;have x0:=(HV6.out.later hb7).cell 0 rfl;have x1:=(HV6.out.later hb7).cell 1 rfl;have Hb7:=hid (Hb6.out.trans (hb7.mono Hb6.out.size));clear hb7;go_wp2_with fail;go_ret;exact⟨rfl,Hb7.out⟩
  · obtain rfl:k=n:=by omega
    have hd2:decide ((k:Int)<(k:Int))=false:=by rw[decide_eq_false_iff_not];omega
    obtain⟨es,hp⟩:=zvh (L:=L) (cs:=cs) (fun c hc=>⟨HKa.out c hc,by
     obtain⟨i,hi,rfl⟩:=List.getElem_of_mem hc;rw[←zb2 hi];exact hI.out i (by rw[←Hcl.out];exact hi)⟩)
    obtain⟨e1',-,e3'⟩:=zdl hp HP4.out;subst e1' e3';rw[Hcl.out];have HV5:=hid (fun W (h:Below wr.heap.size wr W)=>(HV.out.later (hbr.out.trans (h.mono hbr.out.size))));clear hp;go_wp2_with fail;refine(HA.out _ Hbr.out).mono ?_;rintro e w6 ⟨rfl,hb6⟩;have Hb6:=hid (Hbr.out.trans (hb6.mono Hbr.out.size));have x0:=(HV5.out w6 hb6).cell 0 rfl;have x1:=(HV5.out w6 hb6).cell 1 rfl;rw[Hm.out] at x1;clear hb6;go_wp2_with fail;go_ret;exact⟨rfl,Hb6.out⟩
end
