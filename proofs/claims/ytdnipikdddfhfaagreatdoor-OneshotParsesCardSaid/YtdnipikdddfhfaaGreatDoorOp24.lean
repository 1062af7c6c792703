/- Part 24. -/
import Derived.Test.YtdnipikdddfhfaaGreatDoorOp23
import Derived.Test.YtdnipikdddfhfaaGreatDoorOp12
set_option linter.unusedVariables false
set_option maxHeartbeats 16000000
namespace Go.Proofs.YtdnipikdddfhfaaGreatDoor
open Lib (hid)
section
open Go.RowKit
set_option maxRecDepth 20000 in
theorem zw1 (a d:Option Addr) (n c n' c':Nat) (v u:Vec) (w:World) (hE:Ents w a n c v) (hF:Ents w d n' c' u) (hN:(zi v).length≤1000000000000) (hM:(zi u).length≤1000000000000)
 (hpl:∀x∈zi v,x<18446744073709551616) (hql:∀x∈zi u,x<18446744073709551616):
 Calls Tryz.prog 97 #[.slice a n c,.slice d n' c'] w fun x w'=>x=.returned (.int .i64 (jm v u))∧Below w.heap.size w w':=by
 have HF:=hid hF;have HN:=hid hN;have HM:=hid hM;have Hpl:=hid hpl;have Hql:=hid hql;have hC:=hid (zns a n c v w hE hN);have hD:=hid (fun w' (h:Below w.heap.size w w')=>zns d n' c' u w' (hF.below h) hM);have Hcv:=hid (show jm v u=qn (zi v) (zi u) from rfl);clear hE hF hN hM hpl hql;generalize zi v=P at*;generalize zi u=R at*;generalize jm v u=z at*;go_enter Tryz.func97,Tryz.ntmps97;go_wp2_with fail;refine hC.out.mono ?_;rintro e w1 ⟨⟨y,rfl,ho1⟩,hb1⟩;have Hb1:=hid hb1;obtain⟨aP,cP,rfl,hU1⟩:=ze5 ho1 Hpl.out;clear hb1 ho1;have HU1:=hid hU1;clear hU1;go_wp2_with fail;refine(hD.out _ Hb1.out).mono ?_;rintro e w2 ⟨⟨y,rfl,ho2⟩,hb2⟩;have Hb2:=hid (Hb1.out.trans (hb2.mono Hb1.out.size));obtain⟨aR,cR,rfl,hU2⟩:=ze5 ho2 Hql.out;have HUp:=hid (HU1.out.below hb2);clear hb2 ho2;have HUr:=hid hU2;clear hU2 HU1 hC hD;obtain⟨N,hN⟩:∃N,N=P.length:=⟨_,rfl⟩;obtain⟨M,hM⟩:∃M,M=R.length:=⟨_,rfl⟩;rw[←hN] at HN HUp ⊢;rw[←hM] at HM HUr ⊢;have HNl:=hid hN;have HMl:=hid hM;have hNm:N≤9223372036854775807:=Nat.le_trans HUp.out.room HUp.out.most;clear hN hM;go_wp2;go_loopw [7] (fun i wr=>∃k:Nat,k≤N∧k≤M∧i=.int .i64 k∧Below w2.heap.size w2 wr∧Hid (z=qn (P.drop k) (R.drop k))) (fun i _=>N - (intOf i).toNat)
 case atStart=>exact⟨0,by omega,by omega,rfl,Below.refl _ _,(by simpa using Hcv.out:z=qn (P.drop 0) (R.drop 0))⟩
 case round=>
  obtain⟨k,hkN,hkM,rfl,hb,ht⟩:=hrel;have Hb:=hid hb;clear hb;have Hbw:=hid (Hb2.out.trans (Hb.out.mono Hb2.out.size));have h0:(0:Int)≤k:=by omega
  by_cases h1:k<N
  · by_cases h2:k<M
    · have hst:=zj3 (p:=P) (q:=R) (k:=k) (by rw[←HNl.out];exact h1) (by rw[←HMl.out];exact h2);have Hst:=hid (ht.out.trans hst);obtain⟨b1,o1,rfl,hc1⟩:=(HUp.out.below Hb.out).cells (by omega);obtain⟨b2,o2,rfl,hc2⟩:=(HUr.out.below Hb.out).cells (by omega);have q1:=hc1 k h1;have q2:=hc2 k h2;clear hst hc1 hc2;generalize nth P k=x at*;generalize nth R k=y at*;have h01:(k:Int)<(N:Int):=by omega
      have h02:(k:Int)<(M:Int):=by omega
      have hcP:=HUp.out.room;have hcR:=HUr.out.room;by_cases hxy:x<y
      · have hd1:decide ((x:Int)<(y:Int))=true:=by rw[decide_eq_true_iff];omega
        have hd2:decide (x<y)=true:=by rw[decide_eq_true_iff];omega
        rw[if_pos hxy] at Hst;clear hxy;go_wp2;go_quiet (fail);go_wp2;go_ret;exact⟨by rw[Hst.out];rfl,by first | exact Hbw.out | exact zq Hbw.out _⟩
      · have hd1:decide ((x:Int)<(y:Int))=false:=by rw[decide_eq_false_iff_not];omega
        have hd2:decide (x<y)=false:=by rw[decide_eq_false_iff_not];omega
        rw[if_neg hxy] at Hst;by_cases hyx:y<x
        · have hd3:decide ((y:Int)<(x:Int))=true:=by rw[decide_eq_true_iff];omega
          have hd4:decide (y<x)=true:=by rw[decide_eq_true_iff];omega
          rw[if_pos hyx] at Hst;clear hxy hyx;go_wp2;go_quiet (fail);go_wp2;go_quiet (fail);go_wp2;go_ret;exact⟨by rw[Hst.out];rfl,by first | exact Hbw.out | exact zq Hbw.out _ | exact zq (zq Hbw.out _) _⟩
        · have hd3:decide ((y:Int)<(x:Int))=false:=by rw[decide_eq_false_iff_not];omega
          have hd4:decide (y<x)=false:=by rw[decide_eq_false_iff_not];omega
          rw[if_neg hyx] at Hst;clear hxy hyx;go_wp2;go_quiet (fail);go_wp2;go_quiet (fail);go_wp2;go_roundw
          case rel=>exact⟨k+1,by omega,by omega,by go_num,by first | exact Hb.out | exact zq Hb.out _ | exact zq (zq Hb.out _) _,Hst.out⟩
          case measure=>simp[intOf];omega
    · obtain rfl:k=M:=by omega
      have Hz:=hid (ht.out.trans (zg1 (by rw[←HNl.out];omega) (by rw[←HMl.out];omega) (.inr HMl.out)));rw[←HNl.out,←HMl.out,if_neg (by omega),if_pos h1] at Hz;have hd1:decide ((N:Int)<(k:Int))=false:=by rw[decide_eq_false_iff_not];omega
      have hd2:decide ((k:Int)<(N:Int))=true:=by rw[decide_eq_true_iff];omega
      go_wp2;go_ret;exact⟨by rw[Hz.out];rfl,Hbw.out⟩
  · obtain rfl:k=N:=by omega
    have Hz:=hid (ht.out.trans (zg1 (by rw[←HNl.out];omega) (by rw[←HMl.out];omega) (.inl HNl.out)));rw[←HNl.out,←HMl.out] at Hz;by_cases h2:k<M
    · rw[if_pos h2] at Hz;have hd1:decide ((k:Int)<(M:Int))=true:=by rw[decide_eq_true_iff];omega
      go_wp2;go_ret;exact⟨by rw[Hz.out];rfl,Hbw.out⟩
    · rw[if_neg h2,if_neg (by omega)] at Hz;have hd1:decide ((k:Int)<(M:Int))=false:=by rw[decide_eq_false_iff_not];omega
      have hd2:decide ((M:Int)<(k:Int))=false:=by rw[decide_eq_false_iff_not];omega
      go_wp2;go_ret;exact⟨by rw[Hz.out];rfl,Hbw.out⟩
set_option maxRecDepth 100000 in
theorem zw2 (a:Option Addr) (n cap p:Nat) (most:Int) (l:List Nat) (w:World) (hB:Byts w a n cap l) (hp:p≤n) (hn:n≤1000000000000) (hm0: -9223372036854775808≤most) (hm1:most≤9223372036854775807):
 Calls Tryz.prog 73 #[.slice a n cap,.int .i64 p,.int .i64 most] w fun e w'=>
  e=.returned (.tuple #[.int .i64 ((yr l p most).1:Nat),.int .i64 ((yr l p most).2.1:Nat),.int .i64 (kw (yr l p most).2.2),.int .i64 (zdr (yr l p most).2.2)])∧Below w.heap.size w w':=by
 have HB:=hid hB;have Hm:=hid (And.intro hm0 hm1);clear hm0 hm1;obtain⟨hl,hlt,hnc,hcm,hnil,hc⟩:=hB;clear hnil hcm;have Hl:=hid hl;clear hl;have Hlt:=hid hlt;clear hlt;have Hc:=hid hc;clear hc
 have HS:=hid (fun (w:World) (k:Nat) (hk:k<5)=>show (w.alloc (.cells (u8s qh).toArray 5)).cell? ⟨w.heap.size,k,none⟩=some (.int .u8 ((nth qh k:Nat):Int)) from by
  rw[World.cell?_alloc_new];have:=zeq qh k hk;simpa using this)
 go_enter Tryz.func73,Tryz.ntmps73;go_wp2_with fail;refine(zwz _).mono ?_;rintro e w' ⟨rfl,rfl⟩;have Hb0:=hid ((Below.refl w.heap.size w).alloc (Nat.le_refl _) (.cells (u8s qh).toArray 5));have HSw:=hid (HS.out w);clear HS;generalize w.alloc (.cells (u8s qh).toArray 5)=w0 at*;go_wp2_with fail;go_loopw [11] (fun i wr=>∃k q:Nat,k≤5∧i=.int .i64 k∧wr=w0.drewN q∧Hid (∀j,j<k→jd l p j=none)) (fun i _=>5 - (intOf i).toNat)
 case atStart=>exact⟨0,0,by omega,rfl,rfl,fun j h=>by omega⟩
 case round=>
  obtain⟨k,q,hk,rfl,rfl,hH⟩:=hrel;by_cases hk5:k<5
  · by_cases hkn:p+k<n
    · have t1:decide ((n:Int)≤(p:Int)+(k:Int))=false:=by rw[decide_eq_false_iff_not];omega
      have hBr:=HB.out.below Hb0.out;obtain⟨b,o,rfl,hcell⟩:=hBr.cells (by omega);have hc:=hcell (p+k) hkn;have hs:=HSw.out k hk5;clear hcell hBr;have h0:(0:Int)≤(p:Int)+(k:Int):=by omega
      by_cases he:nth l (p+k)=nth qh k
      · have Hnext:=hid (show ∀j,j<k+1→jd l p j=none from fun j hj=>by
         by_cases hjk:j<k
         · exact hH.out j hjk
         · obtain rfl:j=k:=by omega
           exact zcd (by rw[Hl.out];exact hkn) he)
        rw[he] at hc;generalize nth qh k=c at*;clear he;go_wp2_with fail;go_quiet (fail);go_wp2_with fail;go_roundw
        case rel=>exact⟨k+1,_,by omega,by go_num,rfl,Hnext.out⟩
        case measure=>simp[intOf];omega
      · have Hbad:=hid (zce (most:=most) (zba hk5 hH.out (ze0 (by rw[Hl.out];exact hkn) he)));have hne:(((nth l (p+k):Nat):Int) != ((nth qh k:Nat):Int))=true:=by rw[bne_iff_ne];omega
        generalize nth qh k=c at*;generalize nth l (p+k)=d at*;clear he;by_cases hk4:k=4
        · have t2:((k:Int) == 4)=true:=by rw[beq_iff_eq];omega
          rw[if_pos hk4] at Hbad;clear hk4;go_wp2_with fail;go_quiet (fail);go_wp2_with fail;refine bodyPost_ret (v:=.tuple #[.int .i64 0,.int .i64 0,.int .i64 13,.int .i64 ((p:Int)+(k:Int))]) (by simp[results,Tryz.results73,go_sem]) rfl ?_;refine⟨?_,below_drewN Hb0.out _⟩;rw[Hbad.out]
          rfl
        · have t2:((k:Int) == 4)=false:=by rw[beq_eq_false_iff_ne];omega
          rw[if_neg hk4] at Hbad;clear hk4;go_wp2_with fail;go_quiet (fail);go_wp2_with fail;refine bodyPost_ret (v:=.tuple #[.int .i64 0,.int .i64 0,.int .i64 12,.int .i64 ((p:Int)+(k:Int))]) (by simp[results,Tryz.results73,go_sem]) rfl ?_;refine⟨?_,below_drewN Hb0.out _⟩;rw[Hbad.out]
          rfl
    · have t1:decide ((n:Int)≤(p:Int)+(k:Int))=true:=by rw[decide_eq_true_iff];omega
      have Hbad:=hid (zce (most:=most) (zba hk5 hH.out (zcy (by rw[Hl.out];omega))));go_wp2_with fail;refine bodyPost_ret (v:=.tuple #[.int .i64 0,.int .i64 0,.int .i64 5,.int .i64 (p:Int)]) (by simp[results,Tryz.results73,go_sem]) rfl ?_;refine⟨?_,below_drewN Hb0.out _⟩;rw[Hbad.out]
      rfl
  · obtain rfl:k=5:=by omega
    rw[show ((5:Nat):Int)=5 from rfl];have hnone:=zgm hH.out
    have hp5:p+5≤n:=by
     have:=hH.out 4 (by omega);unfold jd at this;by_cases h:l.length≤p+4
     · rw[if_pos h] at this;cases this
     · rw[Hl.out] at h;omega
    have HR:=hid (zj1 l p most hnone _ _ _ rfl);have hst:=zgy (l.drop (p+5)) 0 0;have hxl:=zgz (l.drop (p+5)) 0 0 (by omega);have hjl:=zg0 (l.drop (p+5)) 0 0;rw[List.length_drop,Hl.out] at hjl;have HSc:=hid (zw0 a n cap (p+5) (n+100) l (w0.drewN q) (HB.out.below (below_drewN Hb0.out q)) hp5 (by omega) (by omega) (by omega));generalize zh (l.drop (p+5)) 0 0=r at*;obtain⟨st,x,j⟩:=r;have Hxl:=hid hxl;clear hxl hnone hH;go_wp2_with fail;refine HSc.out.mono ?_;rintro e w' ⟨rfl,rfl⟩;have hst':st=0∨st=1∨st=2:=hst;clear hst;have hjl':j≤0+(n - (p+5)):=hjl;clear hjl;rcases hst' with rfl | rfl | rfl
    · have Hbad:=hid (show yr l p most=(0,0,some (5,some (p:Int))) from HR.out);go_wp2_with fail;refine bodyPost_ret (v:=.tuple #[.int .i64 0,.int .i64 0,.int .i64 5,.int .i64 (p:Int)]) (by simp[results,Tryz.results73,go_sem]) rfl ?_;refine⟨?_,below_drewN Hb0.out _⟩;rw[Hbad.out]
      rfl
    · have Hx:=hid (show x<18446744073709551616 from Hxl.out);by_cases hneg:most<0
      · have hmax:max most 0=0:=by omega
        have Hmax:=hid hmax;clear hmax;by_cases hlim:0<x
        · have Hbad:=hid (show yr l p most=(0,0,some (7,some ((p+5:Nat):Int))) from by rw[HR.out];exact if_pos (by rw[Hmax.out];omega));go_wp2_with fail;refine bodyPost_ret (v:=.tuple #[.int .i64 0,.int .i64 0,.int .i64 7,.int .i64 ((p:Int)+5)]) (by simp[results,Tryz.results73,go_sem]) rfl ?_;refine⟨?_,below_drewN Hb0.out _⟩;rw[Hbad.out]
          rfl
        · obtain rfl:x=0:=by omega
          have Hgood:=hid (show yr l p most=(p+5+j,0,none) from by rw[HR.out];exact if_neg (by rw[Hmax.out];omega));go_wp2_with fail;refine bodyPost_ret (v:=.tuple #[.int .i64 ((p:Int)+5+(j:Int)),.int .i64 0,.int .i64 0,.int .i64 (-1)]) (by simp[results,Tryz.results73,go_sem]) rfl ?_;refine⟨?_,below_drewN Hb0.out _⟩;rw[Hgood.out]
          rfl
      · obtain⟨m,rfl⟩:=Int.eq_ofNat_of_zero_le (show 0≤most by omega);have hm63:m<9223372036854775808:=by have:=Hm.out.2;omega
        have hmax:max (m:Int) 0=(m:Int):=by omega
        have Hmax:=hid hmax;clear hmax;by_cases hlim:m<x
        · have Hbad:=hid (show yr l p m=(0,0,some (7,some ((p+5:Nat):Int))) from by rw[HR.out];exact if_pos (by rw[Hmax.out];omega));go_wp2_with fail;refine bodyPost_ret (v:=.tuple #[.int .i64 0,.int .i64 0,.int .i64 7,.int .i64 ((p:Int)+5)]) (by simp[results,Tryz.results73,go_sem]) rfl ?_;refine⟨?_,below_drewN Hb0.out _⟩;rw[Hbad.out]
          rfl
        · have Hgood:=hid (show yr l p m=(p+5+j,x,none) from by rw[HR.out];exact if_neg (by rw[Hmax.out];omega));have hx63:x<9223372036854775808:=by omega
          go_wp2_with fail;refine bodyPost_ret (v:=.tuple #[.int .i64 ((p:Int)+5+(j:Int)),.int .i64 (x:Int),.int .i64 0,.int .i64 (-1)]) (by simp[results,Tryz.results73,go_sem]) rfl ?_;refine⟨?_,below_drewN Hb0.out _⟩;rw[Hgood.out]
          rfl
    · have Hbad:=hid (show yr l p most=(0,0,some (6,some ((p+5:Nat):Int))) from HR.out);go_wp2_with fail;refine bodyPost_ret (v:=.tuple #[.int .i64 0,.int .i64 0,.int .i64 6,.int .i64 ((p:Int)+5)]) (by simp[results,Tryz.results73,go_sem]) rfl ?_;refine⟨?_,below_drewN Hb0.out _⟩;rw[Hbad.out]
      rfl
theorem I64s.zs {w:World} {a:Option Addr} {n cap:Nat} {l:List Nat} (h:I64s w a n cap l) (hl:∀x∈l,x≤9223372036854775807):Zs w a n cap (l.map fun x:Nat=>(x:Int)):=by
 refine⟨by rw[List.length_map];exact h.len,h.room,h.most,h.nilc,fun x hx=>?_,fun hn=>?_⟩
 · obtain⟨y,hy,rfl⟩:=List.mem_map.1 hx;have:=hl y hy;omega
 · obtain⟨b,o,ha,hc⟩:=h.cells hn;refine⟨b,o,ha,fun i hi=>?_⟩
   have e:zas (l.map fun x:Nat=>(x:Int)) i=((nth l i:Nat):Int):=by
    have hi':i<l.length:=by rw[h.len];exact hi
    rw[zfk (by simpa using hi')];simp[nth,hi']
   rw[e];exact hc i hi
theorem zw3 (l:List Nat):∀k,(l.take k).sum≤l.sum:=fun k=>by
 have:=List.take_append_drop k l;have h:l.sum=(l.take k).sum+(l.drop k).sum:=by rw[←List.sum_append,this]
 omega
set_option maxRecDepth 20000 in
theorem zw4 (A:Option Addr) (n cp:Nat) (l:List Nat) (w:World) (hR:Rd w 1 A n (z7 l)) (hl:l.length=n) (h64:∀x∈l,x<18446744073709551616) (hn:n≤10):
 Calls Tryz.prog 137 #[.slice A n cp] w fun e w'=>e=.returned (qk l.sum)∧Below w.heap.size w w':=by
 have HR:=hid (fun W (h:Below w.heap.size w W)=>hR.below h);have Hl:=hid hl;have H64:=hid h64;have HMx:=hid (fun W=>show Calls Tryz.prog 182 #[] W fun e w'=>e=.returned (.int .u64 18446744073709551615)∧Below W.heap.size W w' from(zwa W).mono fun e w' ⟨h1,h2⟩=>⟨h1,by subst h2;exact Below.refl _ _⟩);clear hR hl h64;go_enter Tryz.func137,Tryz.ntmps137;go_wp2_with fail;go_loopw [4,5] (fun y i wr=>∃k s:Nat,k≤n∧i=.int .i64 k∧y=.int .u64 s∧Below w.heap.size w wr∧Hid (s<18446744073709551616∧s=(l.take k).sum)) (fun _ i _=>n - (intOf i).toNat)
 case atStart=>exact⟨0,0,by omega,rfl,rfl,Below.refl _ _,by decide,rfl⟩
 case round=>
  obtain⟨k,s,hk,rfl,rfl,hb,hs⟩:=hrel;have Hb:=hid hb;clear hb;by_cases hkn:k<n
  · obtain⟨bb,oo,rfl,hc⟩:=(HR.out _ Hb.out).2 (by omega);have qx:=hc k _ (zdw l k (by rw[Hl.out];exact hkn));have hxl:=H64.out _ (zim (show k<l.length by rw[Hl.out];exact hkn));have Hst:=hid (zkf l k (by rw[Hl.out];exact hkn));have Hle:=hid (zw3 l (k+1));have Hqx:=hid (fun w' (h:Below wr.heap.size wr w')=>(h.cell (p:=⟨bb,oo+k,none⟩) (ze (by simpa using qx))).trans (by simpa using qx:wr.cell? ⟨bb,oo+k,none⟩=_));clear hc qx;generalize nth l k=x at*;obtain⟨md,hmd⟩:∃md,md=18446744073709551615 - s:=⟨_,rfl⟩;have hs1:=hs.out.1;have hw2:IntKind.u64.wrap (18446744073709551615 - (s:Int))=(md:Int):=by have:=hs.out.1;rw[IntKind.wrap_u64];omega
    have h0:(0:Int)≤k:=by omega
    have h04:(k:Int)<(n:Int):=by omega
    by_cases hlo:s+x<18446744073709551616
    · have hd:decide ((md:Int)<(x:Int))=false:=by rw[decide_eq_false_iff_not];omega
      have hd':decide (md<x)=false:=by rw[decide_eq_false_iff_not];omega
      have hw3:IntKind.u64.wrap ((s:Int)+(x:Int))=((s+x:Nat):Int):=by rw[IntKind.wrap_u64];omega
      have Hn:=hid (show s+x<18446744073709551616∧s+x=(l.take (k+1)).sum from⟨hlo,by rw[Hst.out,hs.out.2]⟩);clear hlo hmd hxl hs1;go_wp2_with fail;refine vv (by kernel_rfl) (by kernel_rfl) ?_
      repeat (go_big_quiet_step ((intro hw;first
       | rfl
       | (go_at_call 182;exact vu hw (HMx.out _))
       | (have q1:=Hqx.out _ hw
          go_simp;first | rfl | exact⟨rfl,hw⟩ | (trace_state;fail)))))
      refine wpQuiet_nil ?_;intro w3 hb3;have q3:=Hqx.out _ hb3;have Hb3:=hid (Hb.out.trans (hb3.mono Hb.out.size));clear hb3;go_wp2_with fail;go_roundw
      case rel=>exact⟨k+1,s+x,by omega,by go_num,rfl,Hb3.out,Hn.out⟩
      case measure=>simp[intOf];omega
    · have hd:decide ((md:Int)<(x:Int))=true:=by rw[decide_eq_true_iff];omega
      have hd':decide (md<x)=true:=by rw[decide_eq_true_iff];omega
      have Hs:=hid (show qk l.sum=.tuple #[.int .u64 0,.bool false] from by
       unfold qk;have:=Hle.out;have:=Hst.out;have:=hs.out.2;rw[if_neg (by omega)])
      clear hlo hmd hxl hs1;go_wp2_with fail;refine vv (by kernel_rfl) (by kernel_rfl) ?_
      repeat (go_big_quiet_step ((intro hw;first
       | rfl
       | (go_at_call 182;exact vu hw (HMx.out _))
       | (have q1:=Hqx.out _ hw
          go_simp;first | rfl | exact⟨rfl,hw⟩ | (trace_state;fail)))))
      refine wpQuiet_nil ?_;intro w3 hb3;have Hb3:=hid (Hb.out.trans (hb3.mono Hb.out.size));clear hb3;go_wp2_with fail;go_ret2;exact⟨by rw[Hs.out];rfl,Hb3.out⟩
  · obtain rfl:k=n:=by omega
    have Hs:=hid (show qk l.sum=.tuple #[.int .u64 ((s:Nat):Int),.bool true] from by
     have h1:=hs.out;rw[List.take_of_length_le (by rw[Hl.out];exact Nat.le_refl _)] at h1;unfold qk;rw[←h1.2,if_pos h1.1])
    go_wp2_with fail;go_ret2;exact⟨by rw[Hs.out];rfl,Hb.out⟩
theorem zh8 (l:List Nat) (W:World) (g n:Nat) (h:W.heap[g]?=some (.cells (z7 l).toArray 43)) (hn:l.length=n) (h64:∀x∈l,x<18446744073709551616) (hl:n≤10) {v:Value} (hv:qk l.sum=v):
 Calls Tryz.prog 137 #[.slice (some ⟨g,0,none⟩) n n] W fun e w'=>e=.returned v∧Below W.heap.size W w':=
 (zw4 _ n n l W (kx h rfl (by rw[zcz,hn];omega)) hn h64 hl).mono fun e w' ⟨h1,h2⟩=>⟨by rw[h1,hv],h2⟩
def loV:Option Nat→Value
 | some lo=>.tuple #[.int .u64 (lo:Int),.bool true]
 | none=>.tuple #[.int .u64 0,.bool false]
theorem zw5 (prev:Option Nat) (h ap x:Nat) (w:World) (hp:∀y,prev=some y→y=h) (h1:h<18446744073709551616) (h2:ap≤1) (h3:x<18446744073709551616):
 Calls Tryz.prog 136 #[.bool prev.isNone,.int .u64 h,.int .u64 ap,.int .u64 x] w fun e w'=>e=.returned (loV (loP prev ap x))∧Below w.heap.size w w':=by
 cases prev with
 | none=>
  clear hp h1 h2 h3;show Calls Tryz.prog 136 #[.bool true,.int .u64 h,.int .u64 ap,.int .u64 x] w fun e w'=>e=.returned (.tuple #[.int .u64 (x:Int),.bool true])∧Below w.heap.size w w'
  go_enter Tryz.func136,Tryz.ntmps136;go_wp2_with fail;go_ret2
  exact⟨rfl,Below.refl _ _⟩
 | some y=>
  obtain rfl:=hp y rfl
  have h64:∀z∈[y,1,ap,x],z<18446744073709551616:=fun z hz=>by
   simp only[List.mem_cons,List.not_mem_nil,or_false] at hz;rcases hz with rfl | rfl | rfl | rfl <;> omega
  have e:qk [y,1,ap,x].sum=loV (loP (some y) ap x):=by
   have e0:loP (some y) ap x=if y+1+ap+x<18446744073709551616 then some (y+1+ap+x) else none:=rfl;rw[e0];unfold qk;rw[show [y,1,ap,x].sum=y+1+ap+x by simp;omega];by_cases hh:y+1+ap+x<18446744073709551616
   · rw[if_pos hh,if_pos hh];rfl
   · rw[if_neg hh,if_neg hh];rfl
  have HS:=hid (fun W hW=>zh8 [y,1,ap,x] W w.heap.size 4 hW rfl h64 (by omega) e);generalize loP (some y) ap x=r at*;clear e hp h1 h2 h3 h64
  cases r with
  | none=>
   unfold loV at HS ⊢;go_enter Tryz.func136,Tryz.ntmps136;go_wp2_with fail;refine(HS.out _ (by exact qi w _ _ rfl)).mono ?_;rintro e w1 ⟨rfl,hb1⟩;have hal:Below w.heap.size w (w.alloc (.cells #[.int .u64 y,.int .u64 1,.int .u64 ap,.int .u64 x] 43)):=(Below.refl _ _).alloc (Nat.le_refl _) _;have Hb1:=hid (hal.trans (hb1.mono hal.size));clear hb1 hal;go_wp2_with fail;go_ret2
   exact⟨rfl,Hb1.out⟩
  | some lo=>
   unfold loV at HS ⊢;go_enter Tryz.func136,Tryz.ntmps136;go_wp2_with fail;refine(HS.out _ (by exact qi w _ _ rfl)).mono ?_;rintro e w1 ⟨rfl,hb1⟩;have hal:Below w.heap.size w (w.alloc (.cells #[.int .u64 y,.int .u64 1,.int .u64 ap,.int .u64 x] 43)):=(Below.refl _ _).alloc (Nat.le_refl _) _;have Hb1:=hid (hal.trans (hb1.mono hal.size));clear hb1 hal;go_wp2_with fail;go_ret2;exact⟨rfl,Hb1.out⟩
theorem jz {w:World} {g:Nat} {B:Value} {E q:Nat} (h:CurM w g B E (.ok q)):Calls Tryz.prog 95 #[.pointer (some ⟨g,0,none⟩)] w fun e w'=>e=.returned (.bool false)∧w=w':=by
 have c3:=Row.cell h 3 rfl;have c5:=Row.cell h 5 rfl;clear h;go_enter Tryz.func95,Tryz.ntmps95;go_wp2_with fail;go_ret;exact⟨rfl,rfl⟩
theorem jh {w:World} {g:Nat} {B:Value} {E:Nat} {x:Nat×Nat} (h:CurM w g B E (.error x)):Calls Tryz.prog 95 #[.pointer (some ⟨g,0,none⟩)] w fun e w'=>e=.returned (.bool true)∧w=w':=by
 obtain⟨q,h⟩:=h;obtain⟨c,p⟩:=x;have c3:=h.cell 3 rfl;have c5:=h.cell 5 rfl;simp only at c3 c5;clear h;by_cases hc:c=0
 · subst hc;rw[decide_eq_true rfl] at c5;rw[show ((0:Nat):Int)=0 from rfl] at c3;go_enter Tryz.func95,Tryz.ntmps95;go_wp2_with fail;go_ret;exact⟨rfl,rfl⟩
 · have hd:((c:Int) != 0)=true:=by rw[bne_iff_ne];omega
   rw[decide_eq_false hc] at c5;clear hc;go_enter Tryz.func95,Tryz.ntmps95;go_wp2_with fail;go_ret;exact⟨rfl,rfl⟩
theorem k9 {w:World} {g:Nat} {B:Value} {E q c p:Nat} (h:CurM w g B E (.ok q)) (hc:c≠0):Calls Tryz.prog 98 #[.pointer (some ⟨g,0,none⟩),.int .i64 c,.int .i64 p] w fun e w'=>e=.returned (.tuple #[])∧w.grownBy w' (some g)∧CurM w' g B E (.error (c,p)):=by
 have HS:=hid (jz h);have f3:=Row.fz h 3;have f4:=Row.fz h 4
 have H:=hid (show CurM ((w.setCell ⟨g,3,none⟩ (.int .i64 c)).setCell ⟨g,4,none⟩ (.int .i64 p)) g B E (.error (c,p)) from⟨q,by
  have h1:=(Row.set h 3 (.int .i64 c)).set 4 (.int .i64 p);rw[if_neg hc,decide_eq_false hc];exact h1⟩)
 have c3:=Row.cell h 3 rfl;have c4:=Row.cell h 4 rfl;clear h hc;go_enter Tryz.func98,Tryz.ntmps98;go_wp2_with fail;refine HS.out.mono ?_;rintro e w1 ⟨rfl,rfl⟩;go_wp2_with fail;refine bodyPost_end (results_none rfl _ _ _) rfl ?_;exact⟨rfl,zp (jk w g 3 _) (jk _ g 4 _),H.out⟩
theorem zf8 {w:World} {g:Nat} {B:Value} {E:Nat} {x:Nat×Nat} {c p:Int} (h:CurM w g B E (.error x)):Calls Tryz.prog 98 #[.pointer (some ⟨g,0,none⟩),.int .i64 c,.int .i64 p] w fun e w'=>e=.returned (.tuple #[])∧w=w':=by
 have HS:=hid (jh h);clear h;go_enter Tryz.func98,Tryz.ntmps98;go_wp2_with fail;refine HS.out.mono ?_;rintro e w1 ⟨rfl,rfl⟩;go_wp2_with fail;refine bodyPost_end (results_none rfl _ _ _) rfl ?_;exact⟨rfl,rfl⟩
theorem znt:∀(l:List Nat) (j x:Nat),(zh l j x).1≤2
 | [],j,x=>by simp[zh]
 | c :: l,j,x=>by
   rw[zh];split
   · simp
   · split
     · simp
     · exact znt l _ _
theorem znu:∀(l:List Nat) (j x:Nat),(zh l j x).1≠1→(zh l j x).2.1=0
 | [],j,x=>fun _=>rfl
 | c :: l,j,x=>by
   rw[zh];split
   · exact fun _=>rfl
   · split
     · exact fun h=>absurd rfl h
     · exact znu l _ _
theorem zw6 (l:List Nat) (E n q:Nat) (hn:l.length=n) {st x j:Nat} (hs:zh ((l.take E).drop q) 0 0=(st,x,j)):
 (stG E n st=1∧za l E q=.ok (x,q+j))∨(stG E n st=2∧x=0∧za l E q=.error 6)∨(stG E n st=3∧x=0∧za l E q=.error 5)∨(stG E n st=0∧x=0∧za l E q=.error 0):=by
 have h1:=znt ((l.take E).drop q) 0 0;have h2:=znu ((l.take E).drop q) 0 0;rw[hs] at h1 h2;simp only at h1 h2;unfold za;rw[hs];rcases(by omega:st=0∨st=1∨st=2) with rfl | rfl | rfl
 · have hx:=h2 (by omega);by_cases hE:E≤n
   · exact .inr (.inr (.inl ⟨if_pos ⟨rfl,hE⟩,hx,by simp only;rw[if_pos (by omega)]⟩))
   · exact .inr (.inr (.inr ⟨if_neg (fun h=>hE h.2),hx,by simp only;rw[if_neg (by omega)]⟩))
 · exact .inl ⟨if_neg (fun h=>by have:=h.1;omega),rfl⟩
 · exact .inr (.inl ⟨if_neg (fun h=>by have:=h.1;omega),h2 (by omega),rfl⟩)
def znv (w:World) (g:Nat) (B:Value) (E q:Nat) (T:Except Nat (Nat×Nat)) (e:Ending) (w':World):Prop:=
 w.grownBy w' (some g)∧∃x:Nat,e=.returned (.tuple #[.int .u64 x,.int .i64 q])∧(∀y,T=.ok y→x=y.1∧CurM w' g B E (.ok y.2))∧(∀c,T=.error c→x=0∧CurM w' g B E (.error (c,q)))
set_option maxRecDepth 20000 in
theorem zdh {w:World} {g n cap E q:Nat} {a:Option Addr} {l:List Nat} (hB:Rf w a n cap E l) (h:CurM w g (.slice a n cap) E (.ok q)) (hq:q≤n) (hqE:q≤E):
 Calls Tryz.prog 100 #[.pointer (some ⟨g,0,none⟩)] w (znv w g (.slice a n cap) E q (za l E q)):=by
 obtain⟨st,x,j,hs⟩:∃st x j,zh ((l.take E).drop q) 0 0=(st,x,j):=⟨_,_,_,rfl⟩;have HK:=hid (zw6 l E n q hB.b.len hs);have hSc:=fun W (hb:Below w.heap.size w W)=>znr a n cap q E l W (hB.b.below hb) hq hqE hB.n hB.E
 rw[hs] at hSc;have HSc:=hid (fun W hb=>(hSc W hb).mono fun e w' ⟨h1,h2⟩=>(⟨h1,by subst h2;exact Below.refl _ _⟩:e=_∧Below W.heap.size W w'));have HS:=hid (jz h);have HC:=hid (fun W (hb:Below w.heap.size w W)=>CurM.later h hb);have HR0:=hid (fun W (hb:Below w.heap.size w W)=>Row.cell (Row.later h hb) 0 rfl);have HR2:=hid (fun W (hb:Below w.heap.size w W)=>Row.cell (Row.later h hb) 2 rfl);have c1:=Row.cell h 1 rfl;generalize stG E n st=S at*;clear hs hSc h hB;go_enter Tryz.func100,Tryz.ntmps100;go_wp2_with fail;refine HS.out.mono ?_;rintro e w1 ⟨rfl,rfl⟩;go_wp2_with fail;clear c1;refine vv (by kernel_rfl) (by kernel_rfl) ?_
 repeat (go_big_quiet_step ((intro hw;first
  | rfl
  | (go_at_call 76;exact vu hw (HSc.out _ hw))
  | (have q0:=HR0.out _ hw
     have q2:=HR2.out _ hw;go_simp;first | rfl | exact⟨rfl,hw⟩ | (trace_state;fail)))))
 refine wpQuiet_nil ?_;intro w2 hb2;have hC:=HC.out _ hb2;have c1:=Row.cell hC 1 rfl;have c5:=Row.cell hC 5 rfl;have f1:=Row.fz hC 1;have f5:=Row.fz hC 5;have Hg:=hid (yp (qf w (some g)) hb2);clear hb2;rcases HK.out with ⟨rfl,hT⟩ | ⟨rfl,rfl,hT⟩ | ⟨rfl,rfl,hT⟩ | ⟨rfl,rfl,hT⟩
 · have HCf:=hid (show CurM (w2.setCell ⟨g,1,none⟩ (.int .i64 ((q+j:Nat):Int))) g (.slice a n cap) E (.ok (q+j)) from Row.set hC 1 _);have HT:=hid hT;clear hC hT;go_wp2_with fail;go_ret2;show znv _ _ _ _ _ _ _ _;refine⟨zp Hg.out (jk w2 g 1 _),x,rfl,fun y hy=>?_,fun c hc=>?_⟩
   · rw[HT.out] at hy;cases hy;exact⟨rfl,HCf.out⟩
   · rw[HT.out] at hc;cases hc
 · have HF:=hid (k9 (c:=6) (p:=q) hC (by decide));have HT:=hid hT;clear hC hT;go_wp2_with fail;refine HF.out.mono ?_;rintro e w3 ⟨rfl,hg3,hC3⟩;have HC3:=hid hC3;have Hg3:=hid (zp Hg.out hg3);clear hC3 hg3 c1 c5 f1 f5;go_wp2_with fail;go_ret2;refine⟨Hg3.out,0,rfl,fun y hy=>?_,fun c hc=>?_⟩
   · rw[HT.out] at hy;cases hy
   · rw[HT.out] at hc;cases hc;exact⟨rfl,HC3.out⟩
 · have HF:=hid (k9 (c:=5) (p:=q) hC (by decide));have HT:=hid hT;clear hC hT;go_wp2_with fail;refine HF.out.mono ?_;rintro e w3 ⟨rfl,hg3,hC3⟩;have HC3:=hid hC3;have Hg3:=hid (zp Hg.out hg3);clear hC3 hg3 c1 c5 f1 f5;go_wp2_with fail;go_ret2;refine⟨Hg3.out,0,rfl,fun y hy=>?_,fun c hc=>?_⟩
   · rw[HT.out] at hy;cases hy
   · rw[HT.out] at hc;cases hc;exact⟨rfl,HC3.out⟩
 · have HCf:=hid (show CurM (w2.setCell ⟨g,5,none⟩ (.bool true)) g (.slice a n cap) E (.error (0,q)) from⟨q,Row.set hC 5 _⟩);have HT:=hid hT;clear hC hT;go_wp2_with fail;go_ret2;refine⟨zp Hg.out (jk w2 g 5 _),0,rfl,fun y hy=>?_,fun c hc=>?_⟩
   · rw[HT.out] at hy;cases hy
   · rw[HT.out] at hc;cases hc;exact⟨rfl,HCf.out⟩
theorem zbi {w:World} {g E:Nat} {B:Value} {x:Nat×Nat} (h:CurM w g B E (.error x)):Calls Tryz.prog 100 #[.pointer (some ⟨g,0,none⟩)] w fun e w'=>e=.returned (.tuple #[.int .u64 0,.int .i64 0])∧w=w':=by
 have HS:=hid (jh h);clear h;go_enter Tryz.func100,Tryz.ntmps100;go_wp2_with fail;refine HS.out.mono ?_;rintro e w1 ⟨rfl,rfl⟩;go_wp2_with fail;go_ret2;exact⟨rfl,rfl⟩
end
section
open Go.ChangeShapes Go.WideShapes Go.RowKit Go.ChangeAt
theorem zw7 {H:Type} {enc:TypeId×Value→H} {W:World} {fuel n cap:Nat} {a:Option Addr} {x:DataW H×List MemPlace} (h:DataW.trod enc Tryz.prog W 0 (fun _=>true) true fuel 22 (Value.slice a n cap).cells.toList=some x):∃l,Byts W a n cap l:=by
 rcases open_ints Tryz.underlying22 Tryz.underlying5 (by kernel_rfl) h with ⟨hcs,_⟩ | ⟨x,l,c,zs,hcs,_,hl,hm,hz,_,hcell,hwz⟩
 · simp[Value.cells] at hcs;obtain⟨rfl,rfl,rfl⟩:=hcs;exact⟨_,zno (.inl ⟨rfl,rfl,rfl,rfl⟩)⟩
 · simp[Value.cells] at hcs;obtain⟨rfl,rfl,rfl⟩:=hcs;exact⟨_,zno (.inr ⟨_,rfl,hl,hm,by simpa using hz,hcell,hwz⟩)⟩
set_option maxRecDepth 100000 in
theorem zw8 {H:Type} {enc:TypeId×Value→H} {W:World} {fuel:Nat} {v:Value} {x:DataW H×List MemPlace} (hv:∃cs,v=.agg cs∧cs.size=Tryz.prog.cellsOf 24)
 (h:DataW.trod enc Tryz.prog W 0 (fun _=>true) true fuel 24 v.cells.toList=some x):∃l:zb,v=lmV l∧LimsI l:=by
 obtain⟨cs,rfl,hs⟩:=hv;have h5:Tryz.prog.cellsOf 24=5:=by kernel_rfl
 have h1:Tryz.prog.cellsOf 3=1:=by kernel_rfl
 rw[h5] at hs;obtain⟨l⟩:=cs;have hs':l.length=5:=hs;have h':DataW.trod enc Tryz.prog W 0 (fun _=>true) true fuel 24 l=some x:=h;obtain⟨xs,n,-,-,-,hxl,hf⟩:=DataW.trod_struct Tryz.underlying24 h'
 match xs,hxl,l,hs' with
 | [y0,y1,y2,y3,y4],_,[v0,v1,v2,v3,v4],_=>
  have g0:=hf 0 _ rfl;have g1:=hf 1 _ rfl;have g2:=hf 2 _ rfl;have g3:=hf 3 _ rfl;have g4:=hf 4 _ rfl;simp[h1] at g0 g1 g2 g3 g4;obtain⟨z0,e0,_,w0⟩:=DataW.trod_int Tryz.underlying3 g0;obtain⟨z1,e1,_,w1⟩:=DataW.trod_int Tryz.underlying3 g1;obtain⟨z2,e2,_,w2⟩:=DataW.trod_int Tryz.underlying3 g2;obtain⟨z3,e3,_,w3⟩:=DataW.trod_int Tryz.underlying3 g3;obtain⟨z4,e4,_,w4⟩:=DataW.trod_int Tryz.underlying3 g4;simp only[List.cons.injEq,and_true] at e0 e1 e2 e3 e4;subst e0 e1 e2 e3 e4;exact⟨(z0,z1,z2,z3,z4),rfl,⟨bounds_i64 w0,bounds_i64 w1,bounds_i64 w2,bounds_i64 w3,bounds_i64 w4⟩⟩
end
section
open Go.RowKit
def zr {α:Type} (r:RR α) (e:Ending) (w w':World) (g:Nat) (B:Value) (E:Nat) (ok:α→Prop) (bad:Prop):Prop:=
 w.grownBy w' (some g)∧match r with | .ok y=>CurM w' g B E (.ok y.2)∧ok y.1 | .error x=>CurM w' g B E (.error x)∧bad
set_option maxRecDepth 20000 in
theorem zf9 {w:World} {g n cap E q:Nat} {a:Option Addr} {l:List Nat} {lim:Int} (hB:Rf w a n cap E l) (h:CurM w g (.slice a n cap) E (.ok q)) (hq:q≤n) (hqE:q≤E) (hI:I64 lim):
 Calls Tryz.prog 94 #[.pointer (some ⟨g,0,none⟩),.int .i64 lim] w fun e w'=>zr (zv (za l E) E lim q) e w w' g (.slice a n cap) E (fun x=>e=.returned (.int .i64 x)) (e=.returned (.int .i64 0)):=by
 have HN:=hid (zdh hB h hq hqE);have Hl:=hid hB.b.lt;have HE:=hid hB.E
 cases hT:za l E q with
 | error c=>
  have Hc:=hid (show zv (za l E) E lim q=.error (c,q) from by unfold zv nmP;rw[hT];rfl);clear hB h hI;go_enter Tryz.func94,Tryz.ntmps94;go_wp2_with fail;refine HN.out.mono ?_;rintro e w1 ⟨hg1,x,rfl,-,h2⟩;obtain⟨rfl,hC1⟩:=h2 c hT;have Hg1:=hid hg1;have HC1:=hid hC1;clear hg1 h2 hC1;go_wp2_with fail;refine(jh HC1.out).mono ?_;rintro e w2 ⟨rfl,rfl⟩;go_wp2_with fail;go_ret;unfold zr;rw[Hc.out]
  exact⟨Hg1.out,HC1.out,rfl⟩
 | ok y=>
  obtain⟨x,q'⟩:=y;obtain⟨t1,t2,t3,t4,-⟩:=jw Hl.out hT;have hc0:zv (za l E) E lim q=if zm x lim (E - q')=0 then .ok (x,q') else .error (zm x lim (E - q'),q):=by unfold zv nmP;rw[hT];rfl
  obtain⟨i1,i2⟩:=hI
  have hkind:(lim<0∧x=0∧zm x lim (E - q')=0)∨(lim<0∧x≠0∧zm x lim (E - q')=7)∨(0≤lim∧lim<(x:Int)∧zm x lim (E - q')=7)∨(0≤lim∧¬lim<(x:Int)∧E - q'<x∧zm x lim (E - q')=5)∨(0≤lim∧¬lim<(x:Int)∧¬E - q'<x∧zm x lim (E - q')=0):=by
   unfold zm;by_cases hl:lim<0
   · by_cases hx:x=0
     · exact .inl ⟨hl,hx,by rw[if_neg (fun h=>h.2 hx),if_neg (by omega)]⟩
     · exact .inr (.inl ⟨hl,hx,by rw[if_pos ⟨by omega,hx⟩]⟩)
   · by_cases hx:lim<(x:Int)
     · exact .inr (.inr (.inl ⟨by omega,hx,by rw[if_pos ⟨hx,by omega⟩]⟩))
     · by_cases hr:E - q'<x
       · exact .inr (.inr (.inr (.inl ⟨by omega,hx,hr,by rw[if_neg (fun h=>hx h.1),if_pos hr]⟩)))
       · exact .inr (.inr (.inr (.inr ⟨by omega,hx,hr,by rw[if_neg (fun h=>hx h.1),if_neg hr]⟩)))
  have Hc0:=hid hc0;have HT:=hid hT;clear hB h hc0 hT;rcases hkind with ⟨hl,rfl,hk⟩ | ⟨hl,hx,hk⟩ | ⟨hl,hx,hk⟩ | ⟨hl,hx,hr,hk⟩ | ⟨hl,hx,hr,hk⟩
  · have d1:decide (lim<0)=true:=decide_eq_true hl;have Hc:=hid (show zv (za l E) E lim q=.ok (0,q') from by rw[Hc0.out,if_pos hk]);clear Hc0 hk hl t4 i1 i2;go_enter Tryz.func94,Tryz.ntmps94;go_wp2_with fail;refine HN.out.mono ?_;rintro e w1 ⟨hg1,x,rfl,h1,-⟩;obtain⟨rfl,hC1⟩:=h1 _ HT.out;have Hg1:=hid hg1;have HC1:=hid hC1;clear hg1 h1 hC1;go_wp2_with fail;refine(jz HC1.out).mono ?_;rintro e w2 ⟨rfl,rfl⟩;go_wp2_with fail;go_ret;unfold zr;rw[Hc.out];exact⟨Hg1.out,HC1.out,rfl⟩
  · have d1:decide (lim<0)=true:=decide_eq_true hl;have d2:((x:Int) == 0)=false:=by rw[beq_eq_false_iff_ne];omega
    have Hc:=hid (show zv (za l E) E lim q=.error (7,q) from by rw[Hc0.out,if_neg (by omega),hk]);clear Hc0 hk hl hx t4 i1 i2;go_enter Tryz.func94,Tryz.ntmps94;go_wp2_with fail;refine HN.out.mono ?_;rintro e w1 ⟨hg1,x',rfl,h1,-⟩;obtain⟨e1,hC1⟩:=h1 _ HT.out;obtain rfl:x'=x:=e1;have Hg1:=hid hg1;have HC1:=hid hC1;clear hg1 h1 hC1;go_wp2_with fail;refine(jz HC1.out).mono ?_;rintro e w2 ⟨rfl,rfl⟩;go_wp2_with fail;refine(k9 (c:=7) (p:=q) HC1.out (by decide)).mono ?_;rintro e w2 ⟨rfl,hg2,hC2⟩;have Hg2:=hid (zp Hg1.out hg2);have HC2:=hid hC2;clear hg2 hC2;go_wp2_with fail;go_ret;unfold zr;rw[Hc.out];exact⟨Hg2.out,HC2.out,rfl⟩
  · have d1:decide (lim<0)=false:=decide_eq_false (by omega);have d2:IntKind.u64.wrap lim=lim:=by rw[IntKind.wrap_u64];omega
    have d3:decide (lim<(x:Int))=true:=decide_eq_true hx;have Hc:=hid (show zv (za l E) E lim q=.error (7,q) from by rw[Hc0.out,if_neg (by omega),hk]);clear Hc0 hk hl hx t4 i1 i2;go_enter Tryz.func94,Tryz.ntmps94;go_wp2_with fail;refine HN.out.mono ?_;rintro e w1 ⟨hg1,x',rfl,h1,-⟩;obtain⟨e1,hC1⟩:=h1 _ HT.out;obtain rfl:x'=x:=e1;have Hg1:=hid hg1;have HC1:=hid hC1;clear hg1 h1 hC1;go_wp2_with fail;refine(jz HC1.out).mono ?_;rintro e w2 ⟨rfl,rfl⟩;go_wp2_with fail;refine(k9 (c:=7) (p:=q) HC1.out (by decide)).mono ?_;rintro e w2 ⟨rfl,hg2,hC2⟩;have Hg2:=hid (zp Hg1.out hg2);have HC2:=hid hC2;clear hg2 hC2;go_wp2_with fail;go_ret;unfold zr;rw[Hc.out];exact⟨Hg2.out,HC2.out,rfl⟩
  · have d1:decide (lim<0)=false:=decide_eq_false (by omega);have d2:IntKind.u64.wrap lim=lim:=by rw[IntKind.wrap_u64];omega
    have d3:decide (lim<(x:Int))=false:=decide_eq_false hx;have hE:=HE.out;have d4:IntKind.i64.wrap ((E:Int) - (q':Int))=((E - q':Nat):Int):=by rw[IntKind.wrap_i64];omega
    have d5:IntKind.u64.wrap ((E - q':Nat):Int)=((E - q':Nat):Int):=by rw[IntKind.wrap_u64];omega
    have d6:decide (((E - q':Nat):Int)<(x:Int))=true:=by rw[decide_eq_true_iff];omega
    have d7:decide (E - q'<x)=true:=by rw[decide_eq_true_iff];omega
    have Hc:=hid (show zv (za l E) E lim q=.error (5,q) from by rw[Hc0.out,if_neg (by omega),hk]);clear Hc0 hk hl hx t4 i1 i2 hr hE;generalize E - q'=R at*;go_enter Tryz.func94,Tryz.ntmps94;go_wp2_with fail;refine HN.out.mono ?_;rintro e w1 ⟨hg1,x',rfl,h1,-⟩;obtain⟨e1,hC1⟩:=h1 _ HT.out;obtain rfl:x'=x:=e1;have Hg1:=hid hg1;have HC1:=hid hC1;clear hg1 h1 hC1;go_wp2_with fail;refine(jz HC1.out).mono ?_;rintro e w2 ⟨rfl,rfl⟩;go_wp2_with fail;refine vv (by kernel_rfl) (by kernel_rfl) ?_
    repeat (go_big_quiet_step ((intro hw;first
     | rfl
     | (have c1:=Row.cell (Row.later HC1.out hw) 1 rfl
        have c2:=Row.cell (Row.later HC1.out hw) 2 rfl;go_simp;first | rfl | exact⟨rfl,hw⟩ | (trace_state;fail)))))
    refine wpQuiet_nil ?_;intro w2 hb2;have HC2:=hid (CurM.later HC1.out hb2);have Hg2:=hid (yp Hg1.out hb2);clear hb2;go_wp2_with fail;refine(k9 (c:=5) (p:=q) HC2.out (by decide)).mono ?_;rintro e w3 ⟨rfl,hg3,hC3⟩;have Hg3:=hid (zp Hg2.out hg3);have HC3:=hid hC3;clear hg3 hC3;go_wp2_with fail;go_ret;unfold zr;rw[Hc.out];exact⟨Hg3.out,HC3.out,rfl⟩
  · have d1:decide (lim<0)=false:=decide_eq_false (by omega);have d2:IntKind.u64.wrap lim=lim:=by rw[IntKind.wrap_u64];omega
    have d3:decide (lim<(x:Int))=false:=decide_eq_false hx;have hE:=HE.out;have d4:IntKind.i64.wrap ((E:Int) - (q':Int))=((E - q':Nat):Int):=by rw[IntKind.wrap_i64];omega
    have d5:IntKind.u64.wrap ((E - q':Nat):Int)=((E - q':Nat):Int):=by rw[IntKind.wrap_u64];omega
    have d6:decide (((E - q':Nat):Int)<(x:Int))=false:=by rw[decide_eq_false_iff_not];omega
    have d7:decide (E - q'<x)=false:=by rw[decide_eq_false_iff_not];omega
    have d8:IntKind.i64.wrap (x:Int)=(x:Int):=by rw[IntKind.wrap_i64];omega
    have Hc:=hid (show zv (za l E) E lim q=.ok (x,q') from by rw[Hc0.out,if_pos hk]);clear Hc0 hk hl hx t4 i1 i2 hr hE;generalize E - q'=R at*;go_enter Tryz.func94,Tryz.ntmps94;go_wp2_with fail;refine HN.out.mono ?_;rintro e w1 ⟨hg1,x',rfl,h1,-⟩;obtain⟨e1,hC1⟩:=h1 _ HT.out;obtain rfl:x'=x:=e1;have Hg1:=hid hg1;have HC1:=hid hC1;clear hg1 h1 hC1;go_wp2_with fail;refine(jz HC1.out).mono ?_;rintro e w2 ⟨rfl,rfl⟩;go_wp2_with fail;refine vv (by kernel_rfl) (by kernel_rfl) ?_
    repeat (go_big_quiet_step ((intro hw;first
     | rfl
     | (have c1:=Row.cell (Row.later HC1.out hw) 1 rfl
        have c2:=Row.cell (Row.later HC1.out hw) 2 rfl;go_simp;first | rfl | exact⟨rfl,hw⟩ | (trace_state;fail)))))
    refine wpQuiet_nil ?_;intro w2 hb2;have HC2:=hid (CurM.later HC1.out hb2);have Hg2:=hid (yp Hg1.out hb2);clear hb2;go_wp2_with fail;go_ret;unfold zr;rw[Hc.out];exact⟨Hg2.out,HC2.out,rfl⟩
theorem zb5 {w:World} {g E:Nat} {B:Value} {lim:Int} {x:Nat×Nat} (h:CurM w g B E (.error x)):Calls Tryz.prog 94 #[.pointer (some ⟨g,0,none⟩),.int .i64 lim] w fun e w'=>e=.returned (.int .i64 0)∧w=w':=by
 have HS:=hid h;clear h;go_enter Tryz.func94,Tryz.ntmps94;go_wp2_with fail;refine(zbi HS.out).mono ?_;rintro e w1 ⟨rfl,rfl⟩;go_wp2_with fail;refine(jh HS.out).mono ?_;rintro e w1 ⟨rfl,rfl⟩;go_wp2_with fail;go_ret;exact⟨rfl,rfl⟩
