/- Walks and laws, joined: Wb19. -/
import Derived.Test.YtdnjfnofjaoajaaGreatDoorWb18
set_option linter.unusedVariables false
set_option maxHeartbeats 16000000
namespace Go.Proofs.YtdnjfnofjaoajaaGreatDoor
open Lib (hid)
section
open Go.RowKit
theorem z36 (x y:Option Addr) (m c m' c' bt t:Nat) (l:List Iv) (w:World) (hI:Ivs w x m c l) (hG:Good l) (hn:m≤1000000) (hbt:w.heap[bt]?=some (.cells #[.int .u64 t] 52)):
 Calls Tryz.prog 165 #[.agg #[.slice x m c,.slice y m' c'],.pointer (some ⟨bt,0,none⟩)] w fun e w'=>e=.returned (.bool (mem l t))∧Below w.heap.size w w':=by
 have hal:Below w.heap.size w (w.alloc (.cells #[.slice x m c,.slice y m' c'] 85)):=(Below.refl w.heap.size w).alloc (Nat.le_refl _) _;have hC:=hid (zn1 x m c t l _ (hI.below hal) hG hn);obtain⟨q0,q1⟩:=zis w (.slice x m c) (.slice y m' c') 85 _ (Below.refl _ _);have q2:=y7 ((hal.block bt (Array.getElem?_eq_some_iff.1 hbt).1).trans hbt);have Hal:=hid hal;clear hI hG hal hbt;generalize mem l t=b at*;go_enter Tryz.func165,Tryz.ntmps165;go_wp2_with fail;refine hC.out.mono ?_;rintro e w1 ⟨rfl,hb1⟩;have Hb1:=hid hb1;clear hb1;go_wp2;go_ret;exact⟨rfl,Hal.out.trans (Hb1.out.mono Hal.out.size)⟩
set_option maxRecDepth 20000 in
theorem z37 (a:Option Addr) (n cap bt t:Nat) (k:Kno) (w:World) (hE:Frags w a n cap k) (hG:∀f∈k,Good f.1∧f.1.length≤1000000) (hbt:w.heap[bt]?=some (.cells #[.int .u64 t] 52)):
 Calls Tryz.prog 164 #[.slice a n cap,.func (.func 165) #[] #[.pointer (some ⟨bt,0,none⟩)]] w fun x w'=>
  x=.returned (.int .i64 (zax (qj (fun i=>if mem (za k i).1 t=true then some i else none) k.length)))∧Below w.heap.size w w':=by
 have HE:=hid hE;have HG:=hid hG;have Hl:=hid hE.len;have hm:n≤9223372036854775807:=Nat.le_trans hE.room hE.most;obtain⟨f,hf⟩:∃f:Nat→Option Nat,f=fun i=>if mem (za k i).1 t=true then some i else none:=⟨_,rfl⟩
 rw[←hf];have Hf:=hid (show ∀i,f i=if mem (za k i).1 t=true then some i else none from fun i=>by rw[hf]);have Hbt:=hid (fun w' (h:Below w.heap.size w w')=>(h.block bt (Array.getElem?_eq_some_iff.1 hbt).1).trans hbt);clear hE hG hf hbt;go_enter Tryz.func164,Tryz.ntmps164;go_wp2;go_loopw [5,8] (fun _ i wr=>∃d:Nat,d≤n∧i=.int .i64 d∧Below w.heap.size w wr∧Hid (∀j,j<d→f j=none)) (fun _ i _=>n - (intOf i).toNat)
 case atStart=>exact⟨0,by omega,rfl,Below.refl _ _,fun j h=>by omega⟩
 case round=>
  obtain⟨d,hd,rfl,hb,ht⟩:=hrel;have Hb:=hid hb;clear hb;by_cases hdn:d<n
  · have hdk:d<k.length:=by rw[Hl.out];exact hdn
    have HEr:=hid (HE.out.below Hb.out);obtain⟨bb,oo,rfl⟩:=HEr.out.some (by omega);obtain⟨x,m,c,y,m',c',hq⟩:=HEr.out.fix hdn;have Hat:=hid (Hf.out d);obtain⟨q1,hI,q2,-⟩:=hq _ (Below.refl _ _);have hgd:=HG.out _ (yb hdk);have hC:=hid (z36 x y m c m' c' bt t (za k d).1 wr hI hgd.1 (by rw[←hI.len];exact hgd.2) (Hbt.out _ Hb.out));clear hq hI hgd;generalize za k d=e at*;generalize mem e.1 t=b at*;have h0:(0:Int)≤d:=by omega
    have h04:(d:Int)<(n:Int):=by omega
    cases b with
    | false=>
     have Hr:=hid (ko ht.out (Hat.out.trans (if_neg (by simp))));go_wp2_with fail;refine hC.out.mono ?_;rintro e w1 ⟨rfl,hb1⟩;have Hb1:=hid (Hb.out.trans (hb1.mono Hb.out.size));clear hb1;go_wp2;go_roundw
     case rel=>exact⟨d+1,by omega,by go_num,Hb1.out,Hr.out⟩
     case measure=>simp[intOf];omega
    | true=>
     have Hr:=hid (jg hdk ht.out (Hat.out.trans (if_pos rfl)));go_wp2_with fail;refine hC.out.mono ?_;rintro e w1 ⟨rfl,hb1⟩;have Hb1:=hid (Hb.out.trans (hb1.mono Hb.out.size));clear hb1;go_wp2;go_ret;exact⟨by rw[Hr.out];rfl,Hb1.out⟩
  · obtain rfl:d=n:=by omega
    have Hr:=hid (k7 (n:=k.length) (fun j hj=>ht.out j (by rw[←Hl.out];exact hj)));go_wp2;go_ret;exact⟨by rw[Hr.out];rfl,Hb.out⟩
theorem z38 (a:Option Addr) (n cap t:Nat) (k:Kno) (w:World) (hE:Frags w a n cap k) (hG:∀f∈k,Good f.1∧f.1.length≤1000000):
 Calls Tryz.prog 124 #[.slice a n cap,.int .u64 t] w fun x w'=>
  x=.returned (.int .i64 (zax (qj (fun i=>if mem (za k i).1 t=true then some i else none) k.length)))∧Below w.heap.size w w':=by
 have hal:Below w.heap.size w (w.alloc (.cells #[.int .u64 t] 52)):=(Below.refl w.heap.size w).alloc (Nat.le_refl _) _;have hC:=hid (z37 a n cap w.heap.size t k _ (hE.below hal) hG (z7 rfl));have Hal:=hid hal;clear hE hG hal;generalize zax (qj (fun i=>if mem (za k i).1 t=true then some i else none) k.length)=z at*;go_enter Tryz.func124,Tryz.ntmps124;go_wp2_with fail;refine hC.out.mono ?_;rintro e w1 ⟨rfl,hb1⟩;have Hb1:=hid hb1;clear hb1;go_wp2;go_ret;exact⟨rfl,Hal.out.trans (Hb1.out.mono Hal.out.size)⟩
theorem zoi (x:Nat) (w:World):Calls Tryz.prog 262 #[.int .i64 x] w fun e w'=>e=.returned (.bool false)∧w'=w:=by
 go_enter Tryz.func262,Tryz.ntmps262;go_wp2;go_ret;exact⟨by simp,rfl⟩
theorem z4a (x y:Nat) (w:World):Calls Tryz.prog 235 #[.int .i64 x,.int .i64 y] w fun e w'=>e=.returned (.int .i64 (if x<y then -1 else if y<x then 1 else 0))∧w'=w:=by
 by_cases h1:x<y
 · rw[if_pos h1];go_enter Tryz.func235,Tryz.ntmps235;go_wp2_with (go_at_call 262;refine(zoi _ _).mono ?_;rintro e w1 ⟨rfl,rfl⟩);go_ret;exact⟨rfl,rfl⟩
 · rw[if_neg h1];by_cases h2:y<x
   · rw[if_pos h2];go_enter Tryz.func235,Tryz.ntmps235;go_wp2_with (go_at_call 262;refine(zoi _ _).mono ?_;rintro e w1 ⟨rfl,rfl⟩);go_ret;exact⟨rfl,rfl⟩
   · rw[if_neg h2];go_enter Tryz.func235,Tryz.ntmps235;go_wp2_with (go_at_call 262;refine(zoi _ _).mono ?_;rintro e w1 ⟨rfl,rfl⟩);go_ret;exact⟨rfl,rfl⟩
set_option maxRecDepth 20000 in
theorem z4b (a d:Option Addr) (N c M c':Nat) (P R:List Nat) (w:World) (hP:U64s w a N c P) (hR:U64s w d M c' R):
 Calls Tryz.prog 191 #[.slice a N c,.slice d M c'] w fun e w'=>e=.returned (.int .i64 (qw P R))∧Below w.heap.size w w':=by
 have HP:=hid hP;have HR:=hid hR;have HN:=hid hP.len;have HM:=hid hR.len;have hNm:N≤9223372036854775807:=Nat.le_trans hP.room hP.most;have hMm:M≤9223372036854775807:=Nat.le_trans hR.room hR.most;clear hP hR;obtain⟨K,hK⟩:∃K:Nat,K=min N M:=⟨_,rfl⟩;have hK1:K≤N:=by omega
 have hK2:K≤M:=by omega
 have hK3:K=N∨K=M:=by omega
 have hmin:min (N:Int) (M:Int)=(K:Int):=by omega
 have HKc:=hid hK3;clear hK hK3;go_enter Tryz.func191,Tryz.ntmps191;go_wp2;go_loopw [5,11] (fun _ i wr=>∃k:Nat,k≤K∧i=.int .i64 k∧Below w.heap.size w wr∧Hid (qw P R=qw (P.drop k) (R.drop k))) (fun _ i _=>K - (intOf i).toNat)
 case atStart=>exact⟨0,by omega,rfl,Below.refl _ _,rfl⟩
 case round=>
  obtain⟨k,hk,rfl,hb,ht⟩:=hrel;have Hb:=hid hb;clear hb;have h0:(0:Int)≤k:=by omega
  by_cases hkK:k<K
  · have h1:k<N:=by omega
    have h2:k<M:=by omega
    have hst:=zsq (p:=P) (q:=R) (k:=k) (by rw[HN.out];exact h1) (by rw[HM.out];exact h2);have Hst:=hid (ht.out.trans hst);obtain⟨b1,o1,rfl,hc1⟩:=(HP.out.below Hb.out).cells (by omega);obtain⟨b2,o2,rfl,hc2⟩:=(HR.out.below Hb.out).cells (by omega);have q1:=hc1 k h1;have q2:=hc2 k h2;clear hst hc1 hc2;generalize nth P k=x at*;generalize nth R k=y at*;have h01:(k:Int)<(N:Int):=by omega
    have h02:(k:Int)<(M:Int):=by omega
    have h03:(k:Int)<(K:Int):=by omega
    have hcP:=HP.out.room;have hcR:=HR.out.room;by_cases hxy:x=y
    · subst hxy;rw[if_neg (Nat.lt_irrefl _),if_neg (Nat.lt_irrefl _)] at Hst;go_wp2;go_quiet (fail);go_wp2;go_roundw
      case rel=>exact⟨k+1,by omega,by go_num,by first | exact Hb.out | exact ye Hb.out _,Hst.out⟩
      case measure=>simp[intOf];omega
    · have hne:((x:Int) != (y:Int))=true:=by rw[bne_iff_ne];omega
      have Hci:=hid (show Lib.compareInt (x:Int) (y:Int)=qw P R from by
       rw[Hst.out];unfold Lib.compareInt;by_cases hlt:x<y
       · rw[if_pos (by omega),if_pos hlt]
       · rw[if_neg (by omega),if_neg hlt,if_pos (by omega),if_pos (by omega)])
      have hC:=hid (fun w'=>zme x y w');rw[Hci.out] at hC;generalize hzz:qw P R=z at*;have Hzz:=hid hzz;clear hzz;have hq1:=hid (fun w' (h:Below wr.heap.size wr w')=>(h.cell (p:=⟨b1,o1+k,none⟩) (ze q1)).trans q1);have hq2:=hid (fun w' (h:Below wr.heap.size wr w')=>(h.cell (p:=⟨b2,o2+k,none⟩) (ze q2)).trans q2);clear hxy;go_wp2;go_quiet (fail);go_wp2_with fail;refine qi (by kernel_rfl) (by kernel_rfl) ?_
      repeat (go_big_quiet_step ((intro hw;first
       | rfl
       | (have q3:=hq1.out _ (by first | exact hw | exact Below.trans (ye (Below.refl _ _) _) hw)
          have q4:=hq2.out _ (by first | exact hw | exact Below.trans (ye (Below.refl _ _) _) hw)
          first
          | (go_at_call 123;refine(hC.out _).mono ?_;rintro e w4 ⟨rfl,rfl⟩;exact⟨rfl,hw⟩)
          | (go_simp
             first | rfl | exact⟨rfl,hw⟩ | (trace_state;fail))))))
      refine wpQuiet_nil ?_;intro w3 hb3;go_wp2;go_ret;exact⟨by rw[Hzz.out];rfl,Hb.out.trans ((by first | exact hb3 | exact Below.trans (ye (Below.refl _ _) _) hb3:Below wr.heap.size wr w3).mono Hb.out.size)⟩
  · obtain rfl:k=K:=by omega
    have Hz:=hid (ht.out.trans (zn0 (by rw[HN.out];omega) (by rw[HM.out];omega) (by rw[HN.out,HM.out];exact HKc.out)));rw[HN.out,HM.out] at Hz;have hK:=hid (fun w'=>z4a N M w');obtain⟨zz,hzz⟩:∃zz:Int,zz=if N<M then -1 else if M<N then 1 else 0:=⟨_,rfl⟩;rw[←hzz] at hK Hz;clear hzz;go_wp2_with fail;refine(hK.out _).mono ?_;rintro e w1 ⟨rfl,rfl⟩;go_wp2;go_ret;exact⟨by rw[Hz.out];rfl,Hb.out⟩
theorem zld (a d:Option Addr) (n c n' c':Nat) (v u:Vec) (w:World) (hE:Ents w a n c v) (hF:Ents w d n' c' u) (fv:VecFits v) (fu:VecFits u):
 Calls Tryz.prog 149 #[.slice a n c,.slice d n' c'] w fun x w'=>x=.returned (.int .i64 (yk v u))∧Below w.heap.size w w':=by
 have hC:=hid (zua a n c v w hE (by rw[←hE.len];exact fv.len) (zgo fv));have hD:=hid (fun w' (h:Below w.heap.size w w')=>zua d n' c' u w' (hF.below h) (by rw[←hF.len];exact fu.len) (zgo fu));have Hpl:=hid (zgp hE.lt fv);have Hql:=hid (zgp hF.lt fu);have Hcv:=hid (show yk v u=qw (qa v) (qa u) from rfl);clear hE hF fv fu;generalize qa v=P at*;generalize qa u=R at*;go_enter Tryz.func149,Tryz.ntmps149;go_wp2_with fail;refine hC.out.mono ?_;rintro e w1 ⟨⟨y,rfl,ho1⟩,hb1⟩;have Hb1:=hid hb1;obtain⟨aP,cP,rfl,hU1⟩:=zbf ho1 Hpl.out;have HU1:=hid hU1;clear hb1 ho1 hU1;go_wp2_with fail;refine(hD.out _ Hb1.out).mono ?_;rintro e w2 ⟨⟨y,rfl,ho2⟩,hb2⟩;have Hb2:=hid (Hb1.out.trans (hb2.mono Hb1.out.size));obtain⟨aR,cR,rfl,hU2⟩:=zbf ho2 Hql.out;have HUp:=hid (HU1.out.below hb2);have HUr:=hid hU2;clear hb2 ho2 hU2;go_wp2_with fail;refine(z4b _ _ _ _ _ _ P R _ HUp.out HUr.out).mono ?_;rintro e w3 ⟨rfl,hb3⟩;have Hb3:=hid (Hb2.out.trans (hb3.mono Hb2.out.size));clear hb3;go_wp2;go_ret;exact⟨by rw[Hcv.out];rfl,Hb3.out⟩
set_option maxRecDepth 20000 in
theorem z4c (a:Option Addr) (n cap:Nat) (k:Kno) (w:World) (hE:Frags w a n cap k) (hL:LtK k) (hF:KnoFits k) (hG:∀f∈k,Good f.1) (hS:(zx k).length≤10000):
 Calls Tryz.prog 159 #[.slice a n cap] w fun x w'=>zcb w.heap.size (jz k) x w'∧Below w.heap.size w w':=by
 have HE:=hid hE;have hC:=hid (z35 a n cap k w hE hL hF hG hS);have Hall:=hid (zie k);have Hsa:=hid (zd9 k);have Hlt:=hid (zni hL);have HLn:=hid hS;have hmem:∀f∈k,Good f.1∧f.1.length≤1000000:=fun f hf=>⟨hG f hf,by have:=hF.items f hf;omega⟩
 have hn5:n≤500:=by rw[←hE.len];exact hF.len
 have HM:=hid (fun (t:Nat) (w':World) (h:Below w.heap.size w w')=>zt8 a n cap t k w' (hE.below h) hmem hn5);clear hE hL hF hG hS hmem;go_enter Tryz.func159,Tryz.ntmps159;go_wp2_with fail;refine hC.out.mono ?_;rintro e w1 ⟨⟨v,rfl,ho⟩,hb1⟩;have Hb1:=hid hb1;obtain⟨aU,cU,rfl,hU⟩:=zbf ho Hlt.out;have HU:=hid hU;clear hb1 ho hU hC;obtain⟨N,hN⟩:∃N,N=(zx k).length:=⟨_,rfl⟩;have HN:=hid hN;rw[←hN] at HU HLn Hall ⊢;clear hN;have hN2:N≤10000:=HLn.out;go_wp2;go_loopw [3,5,6,7,12] (fun y _ _ _ i wr=>∃d:Nat,d≤N∧i=.int .i64 d∧Below w1.heap.size w1 wr∧Hid (wr.ownsRow w1.heap.size 99 2 y (zbs k d).length (ivC (zbs k d)))) (fun _ _ _ _ i _=>N - (intOf i).toNat)
 case atStart=>exact⟨0,by omega,rfl,Below.refl _ _,World.ownsRow_nil _ _ _ _⟩
 case round=>
  obtain⟨d,hd,rfl,hb,ho⟩:=hrel;have Hb:=hid hb;clear hb;have Hbw:=hid (Hb1.out.trans (Hb.out.mono Hb1.out.size));by_cases hdN:d<N
  · have HUr:=hid (HU.out.below Hb.out);have hcl:=HUr.out.room;obtain⟨bS,oS,rfl,hcS⟩:=HUr.out.cells (by omega);have q1:=hcS d hdN;have Hst:=hid (zsl (k:=k) (d:=d) (by rw[←HN.out];exact hdN));have Hpl:=hid (zif k d);rw[←HN.out] at Hpl;have hD:=hid (HM.out (nth (zx k) d) wr Hbw.out);have Hin:=hid (show inK k (nth (zx k) d)=decide (zw k (nth (zx k) d)≠[]) from rfl);have Hx64:=hid (Hlt.out (nth (zx k) d) (za5 (by rw[←HN.out];exact hdN)));have h0:(0:Int)≤d:=by omega
    have h04:(d:Int)<(N:Int):=by omega
    have hMl:(zw k (nth (zx k) d)).length≤9223372036854775807:=by
     have:=zkt k (nth (zx k) d) k.length;have h2:zw k (nth (zx k) d)=kz k (nth (zx k) d) k.length:=rfl;rw[h2];have:=HE.out.len;omega
    by_cases hM:zw k (nth (zx k) d)=[]
    · have hd1:(((zw k (nth (zx k) d)).length:Int) == 0)=true:=by rw[hM];rfl
      rw[Hin.out,if_neg (by simpa using hM),List.append_nil] at Hst;generalize zbs k d=P0 at*;generalize nth (zx k) d=x at*;generalize zw k x=M at*;clear hM Hin hcS;go_wp2_with fail;refine hD.out.mono ?_;rintro e w2 ⟨⟨y,rfl,ho2⟩,hb2⟩;have Hb2w:=hid (Hb.out.trans (hb2.mono Hb.out.size));have Ho2:=hid (zm ho.out hb2);obtain⟨am,cm,rfl⟩:=ks ho2;clear ho2 hb2;go_wp2;go_roundw
      case rel=>exact⟨d+1,by omega,by go_num,Hb2w.out,by rw[Hst.out];exact Ho2.out⟩
      case measure=>simp[intOf];omega
    · have hMp:0<(zw k (nth (zx k) d)).length:=List.length_pos_iff.2 hM;have hd1:(((zw k (nth (zx k) d)).length:Int) == 0)=false:=by rw[beq_eq_false_iff_ne];omega
      rw[Hin.out,if_pos (by simpa using hM)] at Hst;by_cases hl:d+1<N
      · have q2:=hcS (d+1) hl;have hlt2:=zco Hsa.out (i:=d) (j:=d+1) (by omega) (by rw[←HN.out];exact hl)
        have hp:za4 (zx k) d=(nth (zx k) d,nth (zx k) (d+1) - 1):=by
         unfold za4;rw[if_pos (by rw[←HN.out];exact hl)]
        rw[hp] at Hst;have hy64:=Hlt.out (nth (zx k) (d+1)) (za5 (by rw[←HN.out];exact hl));generalize zbs k d=P0 at*;generalize nth (zx k) (d+1)=y2 at*;generalize nth (zx k) d=x at*;generalize zw k x=M at*;have hwr:IntKind.u64.wrap ((y2:Int) - 1)=((y2 - 1:Nat):Int):=by rw[IntKind.wrap_u64];omega
        have hl1:((d:Int)+1)<(N:Int):=by omega
        have q3:wr.cell? ⟨bS,oS+(d+1),none⟩=some (.int .u64 (y2:Int)):=q2;clear hM Hin hcS hp;go_wp2_with fail;refine hD.out.mono ?_;rintro e w2 ⟨⟨y,rfl,ho2⟩,hb2⟩;have Hb2w:=hid (Hb.out.trans (hb2.mono Hb.out.size));have Ho2:=hid (zm ho.out hb2);have q4:w2.cell? ⟨bS,oS+(d+1),none⟩=some (.int .u64 (y2:Int)):=(hb2.cell (p:=⟨bS,oS+(d+1),none⟩) (ze q2)).trans q2;obtain⟨am,cm,rfl⟩:=ks ho2;clear ho2 hb2 q2 q3 q1;have hal:Below w2.heap.size w2 (w2.alloc (.cells #[.int .u64 x,.int .u64 ((y2 - 1:Nat):Int)] 99)):=(Below.refl _ _).alloc (Nat.le_refl _) _;go_wp2_with (at_builtin;refine zgn rfl _ _ rfl rfl w1.heap.size _ _ P0 rfl (Ho2.out.alloc _) _ 1 _ [(x,y2 - 1)] rfl (yg (zg _ _ _ (by simp)) rfl rfl) (by have:=Hpl.out;omega) (by have:=Hb2w.out.size;simp;omega) ?_;intro v' w8 ho8 hg8);have Hb8:=hid (Below.grown (B:=w1.heap.size) (Hb2w.out.alloc Hb2w.out.size _) hg8 (by have:=Hb2w.out.size;simp;omega) (fun k hk=>(Ho2.out.lt k hk).1));go_roundw
        case rel=>exact⟨d+1,by omega,by go_num,Hb8.out,by rw[Hst.out,List.length_append];exact ho8⟩
        case measure=>simp[intOf];omega
      · have hp:za4 (zx k) d=(nth (zx k) d,18446744073709551615):=by
         unfold za4;rw[if_neg (by rw[←HN.out];exact hl)]
        rw[hp] at Hst;generalize zbs k d=P0 at*;generalize nth (zx k) d=x at*;generalize zw k x=M at*;have hl1:¬((d:Int)+1)<(N:Int):=by omega
        clear hM Hin hcS hp;go_wp2_with fail;refine hD.out.mono ?_;rintro e w2 ⟨⟨y,rfl,ho2⟩,hb2⟩;have Hb2w:=hid (Hb.out.trans (hb2.mono Hb.out.size));have Ho2:=hid (zm ho.out hb2);obtain⟨am,cm,rfl⟩:=ks ho2;clear ho2 hb2 q1;go_wp2_with (at_builtin;refine zgn rfl _ _ rfl rfl w1.heap.size _ _ P0 rfl (Ho2.out.alloc _) _ 1 _ [(x,18446744073709551615)] rfl (yg (zg _ _ _ (by simp)) rfl rfl) (by have:=Hpl.out;omega) (by have:=Hb2w.out.size;simp;omega) ?_;intro v' w8 ho8 hg8);have Hb8:=hid (Below.grown (B:=w1.heap.size) (Hb2w.out.alloc Hb2w.out.size _) hg8 (by have:=Hb2w.out.size;simp;omega) (fun k hk=>(Ho2.out.lt k hk).1));go_roundw
        case rel=>exact⟨d+1,by omega,by go_num,Hb8.out,by rw[Hst.out,List.length_append];exact ho8⟩
        case measure=>simp[intOf];omega
  · obtain rfl:d=N:=by omega
    have Ho:=hid ho.out;rw[Hall.out] at Ho;go_wp2;go_ret;exact⟨⟨_,rfl,y9 Ho.out Hb1.out.size⟩,Hbw.out⟩
theorem z4d (base:Nat) (v:Value) (l:List Iv) (w:World) (ho:w.ownsRow base 99 2 v l.length (ivC l)) (hl:∀s∈l,s.1<18446744073709551616∧s.2<18446744073709551616) (hn:l.length≤100000) (hb:base≤w.heap.size):
 Calls Tryz.prog 121 #[v,.func (.func 122) #[] #[]] w fun e w'=>e=.returned (.tuple #[])∧(∃l' a c,v=.slice a l.length c∧l'.Perm l∧zfp l'∧Ivs w' a l.length c l'∧∀p,a=some p→p.off=0∧p.block<w'.heap.size)∧Below base w w':=by
 rcases ho.2 with ⟨rfl,h0⟩ | ⟨g,cap,cur,rfl,hg,hr,hnc,hcm,hcs,htake⟩
 · have:l=[]:=List.length_eq_zero_iff.1 h0;subst this;refine(z1x w).mono ?_;rintro e w' ⟨rfl,rfl⟩;exact⟨rfl,⟨[],none,0,rfl,List.Perm.refl _,(fun i j h1 h2=>by simp at h2),zgd _,fun p h=>by cases h⟩,Below.refl _ _⟩
 · have hgl:g<w.heap.size:=(Array.getElem?_eq_some_iff.1 hr).1;refine(z0a g l.length cap l w rfl (zql ho) hgl hn).mono ?_;rintro e w3 ⟨rfl,l',mm,os,hpm,hal,hw3⟩;have hs':l'.toArray.size=l.toArray.size:=by simpa using hpm.length_eq
   have hl':∀s∈l',s.1<18446744073709551616∧s.2<18446744073709551616:=fun s hs=>hl s (hpm.mem_iff.1 hs)
   have hI3:=zzt (m:=mm) os (zql ho) hs' hgl (by simpa using hl') (show l.toArray.size=l.length by simp) (by omega);have hb3:=zzs (n:=mm) l'.toArray os (base:=base) (g:=g) (w:=w) hg hb;rw[←hw3] at hI3 hb3;refine⟨rfl,⟨l',_,_,rfl,hpm,hal,z11 (by simpa using hI3) hnc hcm,fun p h=>?_⟩,hb3⟩;cases h;exact⟨rfl,Nat.lt_of_lt_of_le hgl hb3.size⟩
def zdg (k:Kno) (l:List Iv) (j:Nat):List Nat:=(l.take j).map (fun s=>zcv k s.1)++List.replicate (l.length - j) 0
theorem z4e (k:Kno) (l:List Iv):zdg k l 0=List.replicate l.length 0:=by simp[zdg]
theorem z4f (k:Kno) (l:List Iv):zdg k l l.length=l.map (fun s=>zcv k s.1):=by simp[zdg]
theorem z4g (k:Kno) (l:List Iv) {j:Nat} (h:j≤l.length):(zdg k l j).length=l.length:=by simp[zdg];omega
theorem z4h (k:Kno) {l:List Iv} {j:Nat} (h:j<l.length):(yw (zdg k l j)).set j (.int .i64 ((zcv k (zb l j).1:Nat):Int))=yw (zdg k l (j+1)):=by
 unfold zdg;have hl:(((l.take j).map fun s=>zcv k s.1)).length=j:=by simp;omega
 obtain⟨m,hm⟩:∃m,l.length - j=m+1:=⟨l.length - j - 1,by omega⟩;have hm':l.length - (j+1)=m:=by omega
 rw[hm,hm',List.replicate_succ,zjy,zjy,List.set_append_right _ _ (by rw[zmu,hl];exact Nat.le_refl _),zmu,hl,Nat.sub_self,List.take_succ_eq_append_getElem h,List.map_append,zjy,qf h,List.append_assoc]
 rfl
def z4i (k:Kno) (base:Nat) (x:Ending) (w':World):Prop:=∃l' a c gi,x=.returned (.tuple #[.slice a l'.length c,.slice (some ⟨gi,0,none⟩) l'.length l'.length])∧l'.Perm (vt k)∧zfp l'∧Ivs w' a l'.length c l'∧
 w'.ownsRow base 3 1 (.slice (some ⟨gi,0,none⟩) l'.length l'.length) l'.length (yw (l'.map fun s=>zcv k s.1))
set_option maxRecDepth 20000 in
theorem zuc (a:Option Addr) (n cap:Nat) (k:Kno) (w:World) (hE:Frags w a n cap k) (hG:∀f∈k,Good f.1) (hS:yf k≤10000):
 Calls Tryz.prog 70 #[.slice a n cap] w fun x w'=>z4i k w.heap.size x w'∧Below w.heap.size w w':=by
 have HE:=hid hE;have Hl:=hid hE.len;have hm:n≤9223372036854775807:=Nat.le_trans hE.room hE.most;have HS:=hid (fun d=>Nat.le_trans (z13 k d) hS)
 have Hlt:=hid (show ∀s∈vt k,s.1<18446744073709551616∧s.2<18446744073709551616 from fun s hs=>by
  obtain⟨f,hf,h⟩:=zk0.1 hs;exact(hE.all f hf).1 s h)
 have Hin:=hid (show ∀s∈vt k,∃f∈k,mem f.1 s.1=true from fun s hs=>by
  obtain⟨f,hf,h⟩:=zk0.1 hs;exact⟨f,hf,(zhu (hG f hf) h).1⟩)
 have HGL:=hid (show ∀f∈k,Good f.1∧f.1.length≤1000000 from fun f hf=>⟨hG f hf,by have:=zc8 hf;omega⟩);have Hall:=hid (show vt (k.take n)=vt k from by rw[←hE.len,List.take_length]);have Hone:=hid (fun f (hf:f∈k)=>Nat.le_trans (zc8 hf) hS);clear hE hG hS;go_enter Tryz.func70,Tryz.ntmps70;go_wp2;go_loopw [4,6,12] (fun v _ i wr=>∃d:Nat,d≤n∧i=.int .i64 d∧Below w.heap.size w wr∧Hid (wr.ownsRow w.heap.size 99 2 v (vt (k.take d)).length (ivC (vt (k.take d))))) (fun _ _ i _=>n - (intOf i).toNat)
 case atStart=>exact⟨0,by omega,rfl,Below.refl _ _,World.ownsRow_nil _ _ _ _⟩
 case round=>
  obtain⟨d,hd,rfl,hb,ho⟩:=hrel;have Hb:=hid hb;clear hb;by_cases hdn:d<n
  · have hdk:d<k.length:=by rw[Hl.out];exact hdn
    obtain⟨bb,oo,rfl⟩:=HE.out.some (by omega);obtain⟨x,m,c,y,m',c',hq⟩:=HE.out.fix hdn;obtain⟨q1,q2,q3,q4⟩:=hq wr Hb.out;have Hst:=hid (zn2 hdk);have HSd:=hid (HS.out d);have Hfl:=hid (Hone.out _ (yb hdk));have Hlen:=hid (show (vt (k.take (d+1))).length=(vt (k.take d)).length+m from by rw[zn2 hdk,List.length_append,q2.len]);have hal:Below wr.heap.size wr (wr.alloc (.cells #[.slice x m c,.slice y m' c'] 85)):=(Below.refl _ _).alloc (Nat.le_refl _) _;have HIa:=hid (q2.below hal).rd;have Hml:=hid q2.len;have HoA:=hid (zm ho.out hal);have Hal:=hid hal;have h0:(0:Int)≤d:=by omega
    have h04:(d:Int)<(n:Int):=by omega
    clear hq q2 q4 hal;generalize vt (k.take d)=F at*;generalize (za k d).1=fi at*;go_wp2_with (at_builtin;refine zgn rfl (.tmp 16) (.tmp 18) rfl rfl w.heap.size _ F.length F rfl HoA.out x m c fi rfl HIa.out (by have:=HSd.out;have:=Hfl.out;have:=Hml.out;omega) (by have:=Hb.out.size;have:=Hal.out.size;omega) ?_;intro v' w7 ho7 hg7);have Hb7:=hid (Below.grown (Hb.out.trans (Hal.out.mono Hb.out.size)) hg7 (by have:=Hb.out.size;have:=Hal.out.size;omega) (fun j hj=>(HoA.out.lt j hj).1));go_roundw
    case rel=>exact⟨d+1,by omega,by go_num,Hb7.out,by rw[Hlen.out,Hst.out];exact ho7⟩
    case measure=>simp[intOf];omega
  · obtain rfl:d=n:=by omega
    have hoF:=ho.out;clear ho;rw[Hall.out] at hoF;have HC:=hid (z4d w.heap.size _ (vt k) wr hoF Hlt.out (by have:=HS.out d;rw[Hall.out] at this;omega) Hb.out.size);have HN:=hid (show (vt k).length≤10000 from by have:=HS.out d;rwa [Hall.out] at this);clear hoF;go_wp2_with fail;refine HC.out.mono ?_;rintro e w3 ⟨rfl,⟨l',a',c',rfl,hpm,hasc,hI3,ha3⟩,hb3⟩;have Hb3:=hid (Hb.out.trans hb3);have Hpm:=hid hpm;have Hasc:=hid hasc;obtain⟨N,hN⟩:∃N,N=(vt k).length:=⟨_,rfl⟩;have hlN:l'.length=N:=by rw[hN];exact hpm.length_eq
    rw[←hN] at hI3 HN ⊢;have hN2:N≤10000:=HN.out;obtain⟨w4,hr4,ho4,hb4⟩:=z1z w3 w.heap.size N (by omega) Hb3.out.size;obtain⟨gi,hgi⟩:∃gi,gi=w3.heap.size:=⟨_,rfl⟩;rw[←hgi] at hr4 ho4;have Hb4:=hid (Hb3.out.trans (hb4.mono Hb3.out.size));have HI4:=hid (hI3.below hb4);have Ho4:=hid (show w4.ownsRow w.heap.size 3 1 (.slice (some ⟨gi,0,none⟩) N N) N (yw (zdg k l' 0)) from by rw[z4e,hlN];exact ho4);have HNl:=hid hlN;have hgi0:w.heap.size≤gi:=by rw[hgi];exact Hb3.out.size
    have Ha3:=hid (show ∀p,a'=some p→p.off=0∧p.block<gi from by rw[hgi];exact ha3);clear hpm hasc hI3 hN hlN ho4 hb4 hgi hb3 HC ha3;go_wp2;clear hr4;go_loopw [8,9,28] (fun _ _ i wq=>∃j:Nat,j≤N∧i=.int .i64 j∧Kept (fun b=>b≠gi) w4 wq∧Hid (wq.ownsRow w.heap.size 3 1 (.slice (some ⟨gi,0,none⟩) N N) N (yw (zdg k l' j)))) (fun _ _ i _=>N - (intOf i).toNat)
    case atStart=>exact⟨0,by omega,rfl,Kept.refl _ _,Ho4⟩
    case round=>
     obtain⟨j,hj,rfl,hk,ho⟩:=hrel;have Hk:=hid hk;clear hk;by_cases hjN:j<N
     · obtain⟨bS,oS,rfl,hcS⟩:=HI4.out.cells (by omega);obtain⟨rfl,hbg⟩:=Ha3.out _ rfl;have HIr:=zs0 HI4.out Hk.out (by simp only at hbg ⊢;omega);obtain⟨_,_,e,hcS⟩:=HIr.cells (by omega);cases e;obtain⟨q1,q2⟩:=hcS j hjN;have hjl:j<l'.length:=by rw[HNl.out];exact hjN
       have hmem:=Hpm.out.mem_iff.1 (zaa hjl);have hpos:=z14 (Hin.out _ hmem);have Hset:=hid (z4h k hjl);have Hlj:=hid (z4g k l' (Nat.le_of_lt hjl));have hbw:Below w.heap.size w wr:=Hb4.out.trans (Hk.out.toBelow (fun b hb=>by omega) Hb4.out.size);have Hbw:=hid hbw;have hal:Below wr.heap.size wr (wr.alloc (.cells #[.int .u64 ((zb l' j).1:Nat),.int .u64 ((zb l' j).2:Nat)] 99)):=(Below.refl _ _).alloc (Nat.le_refl _) _;have hF:=z38 a d cap (zb l' j).1 k _ (HE.out.below (hbw.trans (hal.mono hbw.size))) HGL.out;rw[hpos] at hF;have HF:=hid hF;have Hal:=hid hal;have h0:(0:Int)≤j:=by omega
       have h04:(j:Int)<(N:Int):=by omega
       generalize zcv k (zb l' j).1=P at*;generalize zb l' j=s at*;obtain⟨sx,sy⟩:=s;simp only at q1 q2 HF Hal;rw[Nat.zero_add] at q1 q2;clear hcS HIr hmem hpos hbw hal hF;go_wp2_with fail;refine HF.out.mono ?_;rintro e w6 ⟨rfl,hb6⟩;have Hb6:=hid (Hal.out.trans (hb6.mono Hal.out.size));have Ho6:=hid (zm ho.out Hb6.out);have z1:=kj Ho6.out j;have z2:=Ho6.out.cells (g:=gi) rfl j _ (zgg _ j (by rw[Hlj.out];exact hjl));rw[yp,Nat.zero_add] at z2;clear hb6 q1 q2 hjl;go_wp2;go_roundw
       case rel=>exact⟨j+1,by omega,by go_num,(Hk.out.below Hb6.out).setCell (fun _ h=>h rfl) _,by rw[←Hset.out];exact(Ho6.out.stored j _).1⟩
       case measure=>simp[intOf];omega
     · obtain rfl:j=N:=by omega
       have HoE:=hid (show wr.ownsRow w.heap.size 3 1 (.slice (some ⟨gi,0,none⟩) l'.length l'.length) l'.length (yw (l'.map fun s=>zcv k s.1)) from by rw[←z4f,HNl.out];exact ho.out);have HbE:=hid (Hb4.out.trans (Hk.out.toBelow (fun b hb=>by omega) Hb4.out.size))
       have HIE:=hid (show Ivs wr a' l'.length c' l' from by
        rw[HNl.out];rcases Nat.eq_zero_or_pos j with h | h
        · exact⟨HI4.out.len,HI4.out.lt,HI4.out.room,HI4.out.most,HI4.out.nilc,fun h'=>by omega⟩
        · obtain⟨bS,oS,rfl,-⟩:=HI4.out.cells h;obtain⟨rfl,hbg⟩:=Ha3.out _ rfl;exact zs0 HI4.out Hk.out (by simp only at hbg ⊢;omega))
       have HNE:=hid HNl.out.symm;go_wp2;go_ret2;exact⟨⟨l',a',c',gi,by rw[HNl.out];rfl,Hpm.out,Hasc.out,HIE.out,HoE.out⟩,HbE.out⟩
end
end Go.Proofs.YtdnjfnofjaoajaaGreatDoor
