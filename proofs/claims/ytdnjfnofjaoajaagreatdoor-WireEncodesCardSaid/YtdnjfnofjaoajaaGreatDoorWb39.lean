/- Walks and laws, joined: Wb39. -/
import Derived.Test.YtdnjfnofjaoajaaGreatDoorWb38
set_option linter.unusedVariables false
set_option maxHeartbeats 16000000
namespace Go.Proofs.YtdnjfnofjaoajaaGreatDoor
open Lib (hid)
section
open Go.RowKit
theorem z81 {v:Vec} {k:Nat}:(k8 v k).length≤(qa v).length:=by
 unfold k8 qa;rw[List.length_cons,List.length_cons];have h:v.flatMap kx=(v.take k).flatMap kx++(v.drop k).flatMap kx:=by rw[←List.flatMap_append,List.take_append_drop]
 rw[h,List.length_append];omega
set_option maxRecDepth 20000 in
theorem zxg (a:Option Addr) (n cap:Nat) (v:Vec) (w:World) (hE:Ents w a n cap v) (hN:(qa v).length≤900000):
 Calls Tryz.prog 140 #[.slice a n cap] w fun x w'=>(∃y,x=.returned y∧w'.ownsRow w.heap.size 52 1 y (qa v).length (zi (qa v)))∧Below w.heap.size w w':=by
 have HE:=hid hE;have HN:=hid hN;have Hl:=hid hE.len;have hm:n≤9223372036854775807:=Nat.le_trans hE.room hE.most;have hw:IntKind.u64.wrap (n:Int)=(n:Int):=by rw[IntKind.wrap_u64];omega
 have ho0:=World.ownsRow_lit (e:=52) (size:=1) (base:=w.heap.size) w (zi [n]).toArray 1 (Nat.le_refl _) (by unfold maxLen;omega) rfl;have Ho0:=hid ho0;have hb0:Below w.heap.size w (w.alloc (.cells (zi [n]).toArray 52)):=(Below.refl _ _).alloc (Nat.le_refl _) _;clear hE hN ho0;go_enter Tryz.func140,Tryz.ntmps140;go_wp2;go_loopw [3,4,5] (fun y i _ wr=>∃k:Nat,k≤n∧i=.int .i64 k∧Below w.heap.size w wr∧Hid (wr.ownsRow w.heap.size 52 1 y (k8 v k).length (zi (k8 v k)))) (fun _ i _ _=>n - (intOf i).toNat)
 case atStart=>exact⟨0,by omega,rfl,hb0,by
  have:=Ho0.out;rw[show k8 v 0=[n] from by unfold k8;rw[Hl.out];rfl];exact this⟩
 case round=>
  obtain⟨k,hk,rfl,hb,ho⟩:=hrel;have Hb:=hid hb;clear hb;by_cases hkn:k<n
  · have hkv:k<v.length:=by rw[Hl.out];exact hkn
    obtain⟨bb,oo,rfl⟩:=HE.out.some (by omega);obtain⟨x,m,c,hq⟩:=HE.out.fix hkn;have Hst:=hid (zsd hkv);have Hpl:=hid (z81 (v:=v) (k:=k+1));obtain⟨-,-,-,hIv⟩:=hq _ (Below.refl _ _);have HIv:=hid hIv;obtain⟨P1,hP1⟩:∃P1,k8 v (k+1)=P1:=⟨_,rfl⟩;rw[hP1] at Hst Hpl;have HP1:=hid hP1;clear hP1;generalize k8 v k=P at*;generalize zc v k=e at*;obtain⟨er,em,eh⟩:=e;simp only at hq HIv hIv;have Hel:=hid hIv.len;have hcm:m≤9223372036854775807:=Nat.le_trans hIv.room hIv.most;have hwm:IntKind.u64.wrap (m:Int)=(m:Int):=by rw[IntKind.wrap_u64];omega
    have Hlen:=hid (show P.length+3+2*m≤900000 from by
     have h1:=Hpl.out;have h2:=HN.out;rw[Hst.out,List.length_append] at h1;simp only[kx,List.length_cons,znv,Hel.out] at h1;omega)
    have hbr:Below w.heap.size w wr:=Hb.out;have r1:∀w',Below w.heap.size wr w'→w'.cell? ⟨bb,oo+k*3,none⟩=some (.int .u64 er):=fun w' h=>(hq w' (hbr.trans h)).1
    have r2:∀w',Below w.heap.size wr w'→w'.cell? ⟨bb,oo+k*3+1,none⟩=some (.int .u64 em):=fun w' h=>(hq w' (hbr.trans h)).2.1
    have r3:∀w',Below w.heap.size wr w'→w'.cell? ⟨bb,oo+k*3+2,none⟩=some (.slice x m c):=fun w' h=>(hq w' (hbr.trans h)).2.2.1
    have h0:(0:Int)≤k:=by omega
    have h04:(k:Int)<(n:Int):=by omega
    have HoW:=hid (fun W (h:Below wr.heap.size wr W)=>zm ho.out h);clear hIv;go_wp2_with fail;have hz:w.heap.size≤wr.heap.size:=Hb.out.size;have R3:=hid (fun w' (h:Below w.heap.size w w')=>(hq w' h).2.2.1);clear hq
    go_region_held3 (fun w'=>Below w.heap.size wr w') (first | assumption | exact(Below.refl _ _).drew | exact Below.alloc (by assumption) (Nat.le_trans hz (Below.size (by assumption))) _) (first
     | (refine zbd rfl (.tmp 16) (.tmp 34) rfl rfl w.heap.size _ P.length P rfl (HoW.out _ (by first | exact((Below.refl _ _).alloc (Nat.le_refl _) _).drew | exact((Below.refl _ _).drew).alloc (by simp) _)) _ 3 _ [er,em,m] rfl (yg (by first | exact zg _ _ _ (by simp) | exact yy _ _ _ _ (zg _ _ _ (by simp))) rfl rfl) (by have:=Hlen.out;omega) (by simp <;> omega) ?_
        intro v1 w1 ho1 hg1
        have hS1:Below w.heap.size wr w1:=by
         refine Below.grown (B:=w.heap.size) (by assumption) hg1 (by simp <;> omega) ?_;intro j hj;exact((HoW.out wr (Below.refl _ _)).lt j hj).1))
    all_goals
     have Hb1:=hid (hbr.trans hS1);have Ho1:=hid ho1;clear hS1 hg1 ho1;go_wp2;go_loopw [3,5] (fun y j wi=>∃d:Nat,d≤m∧j=.int .i64 d∧Below w.heap.size w wi∧Hid (wi.ownsRow w.heap.size 52 1 y (P++[er,em,m]++qs (eh.take d)).length (zi (P++[er,em,m]++qs (eh.take d))))) (fun _ j _=>m - (intOf j).toNat)
     case atStart=>exact⟨0,by omega,rfl,Hb1.out,by
      have:=Ho1.out;rw[show (P++[er,em,m]++qs (eh.take 0))=P++[er,em,m] from by simp[qs]];rw[List.length_append];exact this⟩
     case round=>
      obtain⟨d,hd,rfl,hbi,hoi⟩:=hrel;have Hbi:=hid hbi;clear hbi;have s3:=R3.out wr Hbi.out;have Hel2:=hid (show d<m→qs (eh.take (d+1))=qs (eh.take d)++[(zb eh d).1,(zb eh d).2] from fun h=>zsf eh d (by rw[Hel.out];exact h))
      have Hnl:=hid (show (P++[er,em,m]++qs (eh.take d)).length≤P.length+3+2*d from by
       rw[List.length_append,List.length_append,znv,List.length_take];simp only[List.length_cons,List.length_nil];omega)
      by_cases hdm:d<m
      · obtain⟨hb,ho,rfl,hc⟩:=HIv.out.cells (by omega);obtain⟨c1,c2⟩:=hc d hdm;clear hc;have Hel2:=hid (Hel2.out hdm);generalize qs (eh.take d)=N at*;generalize zb eh d=p at*;obtain⟨px,py⟩:=p;simp only at c1 c2 Hel2;have h0d:(0:Int)≤d:=by omega
        have h04d:(d:Int)<(m:Int):=by omega
        obtain⟨wz,hwz⟩:∃wz:World,wz=wr:=⟨_,rfl⟩;have hz2:w.heap.size≤wr.heap.size:=Hbi.out.size;have s1:∀w',Below w.heap.size wr w'→w'.cell? ⟨bb,oo+k*3+2,none⟩=some (.slice (some ⟨hb,ho,none⟩) m c):=fun w' h=>R3.out w' (Hbi.out.trans h)
        have s4:∀w',Below w.heap.size wr w'→w'.cell? ⟨hb,ho+d*2,none⟩=some (.int .u64 px):=fun w' h=>((Hbi.out.trans h).cell (p:=⟨hb,ho+d*2,none⟩) (ze c1)).trans c1
        have s5:∀w',Below w.heap.size wr w'→w'.cell? ⟨hb,ho+d*2+1,none⟩=some (.int .u64 py):=fun w' h=>((Hbi.out.trans h).cell (p:=⟨hb,ho+d*2+1,none⟩) (ze c2)).trans c2
        have HoI:=hid (fun W (h:Below wr.heap.size wr W)=>zm hoi.out h);clear c1 c2 hwz;go_wp2_with fail;clear s3
        go_region_held3 (fun w'=>Below w.heap.size wr w') (first | assumption | exact(Below.refl _ _).drew | exact Below.alloc (by assumption) (Nat.le_trans hz2 (Below.size (by assumption))) _) (first
         | (refine zbd rfl (.tmp 46) (.tmp 65) rfl rfl w.heap.size _ _ (P++[er,em,m]++N) rfl (HoI.out _ (by first | exact((Below.refl _ _).alloc (Nat.le_refl _) _).drew | exact((Below.refl _ _).drew).alloc (by simp) _)) _ 2 _ [px,py] rfl (yg (by first | exact zg _ _ _ (by simp) | exact yy _ _ _ _ (zg _ _ _ (by simp))) rfl rfl) (by have:=Hlen.out;have:=Hnl.out;omega) (by simp <;> omega) ?_
            intro v2 w2 ho2 hg2
            have hS2:Below w.heap.size wr w2:=by
             refine Below.grown (B:=w.heap.size) (by assumption) hg2 (by simp <;> omega) ?_;intro j hj;exact((HoI.out wr (Below.refl _ _)).lt j hj).1))
        all_goals
         go_wp2;go_roundw
         case rel=>exact⟨d+1,by omega,by go_num,Hbi.out.trans hS2,by
          rw[Hel2.out,←List.append_assoc];rw[List.length_append (bs:=[px,py])];exact ho2⟩
         case measure=>simp[intOf];omega
      · obtain rfl:d=m:=by omega
        have Hoi:=hid hoi.out
        have hall:P++[er,em,d]++qs (eh.take d)=P1:=by
         rw[Hst.out,List.take_of_length_le (by rw[Hel.out];exact Nat.le_refl _),List.append_assoc];simp only[kx,Hel.out]
         rfl
        rw[hall] at Hoi;clear hall;go_wp2;go_roundw
        case rel=>exact⟨k+1,by omega,by go_num,Hbi.out,by rw[HP1.out];exact Hoi.out⟩
        case measure=>simp[intOf];omega
  · obtain rfl:k=n:=by omega
    have Ho:=hid ho.out;rw[←Hl.out,zse] at Ho;go_wp2;go_ret;exact⟨⟨_,rfl,Ho.out⟩,Hb.out⟩
set_option maxRecDepth 20000 in
theorem zxh (a d:Option Addr) (n c n' c':Nat) (v u:Vec) (w:World) (hE:Ents w a n c v) (hF:Ents w d n' c' u) (hN:(qa v).length≤900000) (hM:(qa u).length≤900000)
 (hpl:∀x∈qa v,x<18446744073709551616) (hql:∀x∈qa u,x<18446744073709551616):
 Calls Tryz.prog 104 #[.slice a n c,.slice d n' c'] w fun x w'=>x=.returned (.int .i64 (yk v u))∧Below w.heap.size w w':=by
 have HF:=hid hF;have HN:=hid hN;have HM:=hid hM;have Hpl:=hid hpl;have Hql:=hid hql;have hC:=hid (zxg a n c v w hE hN);have hD:=hid (fun w' (h:Below w.heap.size w w')=>zxg d n' c' u w' (hF.below h) hM);have Hcv:=hid (show yk v u=qw (qa v) (qa u) from rfl);clear hE hF hN hM hpl hql;generalize qa v=P at*;generalize qa u=R at*;generalize yk v u=z at*;go_enter Tryz.func104,Tryz.ntmps104;go_wp2_with fail;refine hC.out.mono ?_;rintro e w1 ⟨⟨y,rfl,ho1⟩,hb1⟩;have Hb1:=hid hb1;obtain⟨aP,cP,rfl,hU1⟩:=zbf ho1 Hpl.out;clear hb1 ho1;have HU1:=hid hU1;clear hU1;go_wp2_with fail;refine(hD.out _ Hb1.out).mono ?_;rintro e w2 ⟨⟨y,rfl,ho2⟩,hb2⟩;have Hb2:=hid (Hb1.out.trans (hb2.mono Hb1.out.size));obtain⟨aR,cR,rfl,hU2⟩:=zbf ho2 Hql.out;have HUp:=hid (HU1.out.below hb2);clear hb2 ho2;have HUr:=hid hU2;clear hU2 HU1 hC hD;obtain⟨N,hN⟩:∃N,N=P.length:=⟨_,rfl⟩;obtain⟨M,hM⟩:∃M,M=R.length:=⟨_,rfl⟩;rw[←hN] at HN HUp ⊢;rw[←hM] at HM HUr ⊢;have HNl:=hid hN;have HMl:=hid hM;have hNm:N≤9223372036854775807:=Nat.le_trans HUp.out.room HUp.out.most;clear hN hM;go_wp2;go_loopw [7] (fun i wr=>∃k:Nat,k≤N∧k≤M∧i=.int .i64 k∧Below w2.heap.size w2 wr∧Hid (z=qw (P.drop k) (R.drop k))) (fun i _=>N - (intOf i).toNat)
 case atStart=>exact⟨0,by omega,by omega,rfl,Below.refl _ _,(by simpa using Hcv.out:z=qw (P.drop 0) (R.drop 0))⟩
 case round=>
  obtain⟨k,hkN,hkM,rfl,hb,ht⟩:=hrel;have Hb:=hid hb;clear hb;have Hbw:=hid (Hb2.out.trans (Hb.out.mono Hb2.out.size));have h0:(0:Int)≤k:=by omega
  by_cases h1:k<N
  · by_cases h2:k<M
    · have hst:=zsq (p:=P) (q:=R) (k:=k) (by rw[←HNl.out];exact h1) (by rw[←HMl.out];exact h2);have Hst:=hid (ht.out.trans hst);obtain⟨b1,o1,rfl,hc1⟩:=(HUp.out.below Hb.out).cells (by omega);obtain⟨b2,o2,rfl,hc2⟩:=(HUr.out.below Hb.out).cells (by omega);have q1:=hc1 k h1;have q2:=hc2 k h2;clear hst hc1 hc2;generalize nth P k=x at*;generalize nth R k=y at*;have h01:(k:Int)<(N:Int):=by omega
      have h02:(k:Int)<(M:Int):=by omega
      have hcP:=HUp.out.room;have hcR:=HUr.out.room;by_cases hxy:x<y
      · have hd1:decide ((x:Int)<(y:Int))=true:=by rw[decide_eq_true_iff];omega
        have hd2:decide (x<y)=true:=by rw[decide_eq_true_iff];omega
        rw[if_pos hxy] at Hst;clear hxy;go_wp2;go_quiet (fail);go_wp2;go_ret;exact⟨by rw[Hst.out];rfl,by first | exact Hbw.out | exact ye Hbw.out _⟩
      · have hd1:decide ((x:Int)<(y:Int))=false:=by rw[decide_eq_false_iff_not];omega
        have hd2:decide (x<y)=false:=by rw[decide_eq_false_iff_not];omega
        rw[if_neg hxy] at Hst;by_cases hyx:y<x
        · have hd3:decide ((y:Int)<(x:Int))=true:=by rw[decide_eq_true_iff];omega
          have hd4:decide (y<x)=true:=by rw[decide_eq_true_iff];omega
          rw[if_pos hyx] at Hst;clear hxy hyx;go_wp2;go_quiet (fail);go_wp2;go_quiet (fail);go_wp2;go_ret;exact⟨by rw[Hst.out];rfl,by first | exact Hbw.out | exact ye Hbw.out _ | exact ye (ye Hbw.out _) _⟩
        · have hd3:decide ((y:Int)<(x:Int))=false:=by rw[decide_eq_false_iff_not];omega
          have hd4:decide (y<x)=false:=by rw[decide_eq_false_iff_not];omega
          rw[if_neg hyx] at Hst;clear hxy hyx;go_wp2;go_quiet (fail);go_wp2;go_quiet (fail);go_wp2;go_roundw
          case rel=>exact⟨k+1,by omega,by omega,by go_num,by first | exact Hb.out | exact ye Hb.out _ | exact ye (ye Hb.out _) _,Hst.out⟩
          case measure=>simp[intOf];omega
    · obtain rfl:k=M:=by omega
      have Hz:=hid (ht.out.trans (zn0 (by rw[←HNl.out];omega) (by rw[←HMl.out];omega) (.inr HMl.out)));rw[←HNl.out,←HMl.out,if_neg (by omega),if_pos h1] at Hz;have hd1:decide ((N:Int)<(k:Int))=false:=by rw[decide_eq_false_iff_not];omega
      have hd2:decide ((k:Int)<(N:Int))=true:=by rw[decide_eq_true_iff];omega
      go_wp2;go_ret;exact⟨by rw[Hz.out];rfl,Hbw.out⟩
  · obtain rfl:k=N:=by omega
    have Hz:=hid (ht.out.trans (zn0 (by rw[←HNl.out];omega) (by rw[←HMl.out];omega) (.inl HNl.out)));rw[←HNl.out,←HMl.out] at Hz;by_cases h2:k<M
    · rw[if_pos h2] at Hz;have hd1:decide ((k:Int)<(M:Int))=true:=by rw[decide_eq_true_iff];omega
      go_wp2;go_ret;exact⟨by rw[Hz.out];rfl,Hbw.out⟩
    · rw[if_neg h2,if_neg (by omega)] at Hz;have hd1:decide ((k:Int)<(M:Int))=false:=by rw[decide_eq_false_iff_not];omega
      have hd2:decide ((M:Int)<(k:Int))=false:=by rw[decide_eq_false_iff_not];omega
      go_wp2;go_ret;exact⟨by rw[Hz.out];rfl,Hbw.out⟩
end
end Go.Proofs.YtdnjfnofjaoajaaGreatDoor
