/- Part 27. -/
import Derived.Test.YtmfhggnlainmiaaGreatDoorPk23
import Derived.Test.YtmfhggnlainmiaaGreatDoorPk05
set_option linter.unusedVariables false
set_option maxHeartbeats 16000000
namespace Go.Proofs.YtmfhggnlainmiaaGreatDoor
open Lib (hid)
section
open Go.RowKit
theorem zo7 (w:World):Calls Tryz.prog 257 #[] w fun e w'=>e=.returned (.int .u64 18446744073709551615)∧w=w':=by
 go_enter Tryz.func257,Tryz.ntmps257;go_wp2;go_ret;exact⟨rfl,rfl⟩
theorem zs2:∀(k x:Nat) (w:World),x<2 ^ (7*k+7)→x<18446744073709551616→k≤9→
 Calls Tryz.prog 85 #[.int .u64 x] w fun e w'=>∃v',e=.returned v'∧w'.ownsRow w.heap.size 5 1 v' (vbF k x).length (u8s (vbF k x))∧Below w.heap.size w w':=by
 intro k
 induction k with
 | zero=>
  intro x w hx h64 _;have h128:x<128:=by simpa using hx
  have ho:=World.ownsRow_lit (e:=5) (size:=1) (base:=w.heap.size) w #[.int .u8 (x:Int)] 1 (Nat.le_refl _) (by unfold maxLen;omega) rfl;have Ho:=hid ho;clear ho hx h64;have hlt:decide ((x:Int)<128)=true:=by rw[decide_eq_true_iff];omega
  have hm:((x:Int) % 256)=(x:Int):=by omega
  have He:=hid (show vbF 0 x=[x] from by simp[vbF];omega);go_enter Tryz.func85,Tryz.ntmps85;go_wp2_with fail;go_ret
  exact⟨_,rfl,by rw[He.out];exact Ho.out,(Below.refl _ _).alloc (Nat.le_refl _) _⟩
 | succ k ih=>
  intro x w hx h64 hk;by_cases h128:x<128
  · have ho:=World.ownsRow_lit (e:=5) (size:=1) (base:=w.heap.size) w #[.int .u8 (x:Int)] 1 (Nat.le_refl _) (by unfold maxLen;omega) rfl;have Ho:=hid ho;clear ho hx h64;have hlt:decide ((x:Int)<128)=true:=by rw[decide_eq_true_iff];omega
    have hm:((x:Int) % 256)=(x:Int):=by omega
    have He:=hid (show vbF (k+1) x=[x] from by rw[zej,if_pos h128]);have Ih:=hid ih;clear ih;go_enter Tryz.func85,Tryz.ntmps85;go_wp2_with fail;go_ret;exact⟨_,rfl,by rw[He.out];exact Ho.out,(Below.refl _ _).alloc (Nat.le_refl _) _⟩
  · have hge:decide ((x:Int)<128)=false:=by rw[decide_eq_false_iff_not];omega
    have hd:x / 128<2 ^ (7*k+7):=by
     rw[show 7*(k+1)+7=(7*k+7)+7 from by omega,Nat.pow_add] at hx;generalize 2 ^ (7*k+7)=P at*;exact Nat.div_lt_of_lt_mul (by omega)
    have hq256:x % 128+128<256:=by omega
    have Hxd:=hid (show ((x:Int) / 128)=((x / 128:Nat):Int) from by omega);have He:=hid (show vbF (k+1) x=(x % 128+128) :: vbF k (x / 128) from by rw[zej,if_neg h128]);have hl:=zdc k (x / 128);have Hl:=hid (zk3 k (x / 128));have Ih:=hid (fun w=>ih (x / 128) w hd (by have:=Nat.div_le_self x 128;omega) (by omega));clear ih;have ho1:=World.ownsRow_lit (e:=5) (size:=1) (base:=w.heap.size) w #[.int .u8 ((x:Int) % 128+128)] 1 (Nat.le_refl _) (by unfold maxLen;omega) rfl;have Ho1:=hid ho1;clear ho1;clear hx hd;go_enter Tryz.func85,Tryz.ntmps85;go_wp2_with fail;rw[Hxd.out];refine(Ih.out _).mono ?_;rintro e w2 ⟨v2,rfl,ho2,hb2⟩;obtain⟨a2,c2,rfl,hB2⟩:=zbk ho2 Hl.out;have h1':=zm Ho1.out hb2;have hbb:Below w.heap.size w w2:=((Below.refl _ _).alloc (Nat.le_refl _) _).trans (hb2.mono (by simp only[World.size_alloc];omega));obtain⟨v3,w3,hr3,ho3,hg3⟩:=zdd w.heap.size _ 1 _ h1' a2 _ c2 _ hB2 (by omega) hbb.size;have Ho3:=hid ho3;have hb3:=hbb.grown hg3 hbb.size (by intro k hk;simp[Value.ownBlock] at hk;omega);clear hg3 hb2 ho2 hB2 h1' ho3 hbb;go_wp2_with (at_builtin;refine qf _ _ 22 rfl rfl _ _ rfl rfl _ _ hr3 ?_);go_ret;refine⟨_,rfl,?_,hb3⟩;have h4:=Ho3.out;rw[show ((x:Int) % 128+128)=((x % 128+128:Nat):Int) from by omega] at h4;rw[He.out,List.length_cons,Nat.add_comm];exact h4
theorem zcr {w:World} {ops:Array Oper} {o:Oper} {a:Act} {K:Act→World→Prop} {Q:Exit→Act→World→Prop} {E:Prop} (hgd:o.guard=none) (s x:Operand)
 (ho:o.op=.call { callee:=.builtin .append,args:= #[s,x],argTypes:= #[62,62] }) (hty:o.type=62)
 (base:Nat) (v:Value) (n:Nat) (xs:List Nat) (hs:a.eval s=v) (hown:w.ownsRow base 64 1 v n (zi xs)) (A:Option Addr) (m c:Nat) (l:List Nat) (hx:a.eval x=.slice A m c) (hr:Rd w 1 A m (zi l)) (hb:n+m≤1000000000000) (hbase:base≤w.heap.size)
 (h:∀v' w',w'.ownsRow base 64 1 v' (n+m) (zi (xs++l))→w.grownBy w' v.ownBlock→K (a.put o.dst v') w'):
 if Region.wanted o (yielded ops a.tmps)=true then Oper.wp Tryz.prog o a w K Q else E:=by
 obtain⟨v',w',hrun,h1,h2⟩:=zhf base v n xs hown A m c l hr hb hbase;exact zft hgd s x _ ho _ _ hs hx v' w' (by rw[hty];exact hrun) (h v' w' h1 h2)
theorem ydb {v:Vec} {k:Nat}:(zbp v k).length≤(yj v).length:=by
 unfold zbp yj;rw[List.length_cons,List.length_cons];have h:v.flatMap ko=(v.take k).flatMap ko++(v.drop k).flatMap ko:=by rw[←List.flatMap_append,List.take_append_drop]
 rw[h,List.length_append];omega
set_option maxRecDepth 20000 in
theorem z01 (a:Option Addr) (n cap:Nat) (v:Vec) (w:World) (hE:Ents w a n cap v) (hN:(yj v).length≤1000000000000):
 Calls Tryz.prog 203 #[.slice a n cap] w fun x w'=>(∃y,x=.returned y∧w'.ownsRow w.heap.size 64 1 y (yj v).length (zi (yj v)))∧Below w.heap.size w w':=by
 have HE:=hid hE;have HN:=hid hN;have Hl:=hid hE.len;have hm:n≤9223372036854775807:=Nat.le_trans hE.room hE.most;have hw:IntKind.u64.wrap (n:Int)=(n:Int):=by rw[IntKind.wrap_u64];omega
 have ho0:=World.ownsRow_lit (e:=64) (size:=1) (base:=w.heap.size) w (zi [n]).toArray 1 (Nat.le_refl _) (by unfold maxLen;omega) rfl;have Ho0:=hid ho0;have hb0:Below w.heap.size w (w.alloc (.cells (zi [n]).toArray 64)):=(Below.refl _ _).alloc (Nat.le_refl _) _;clear hE hN ho0;go_enter Tryz.func203,Tryz.ntmps203;go_wp2;go_loopw [3,4,5] (fun y i _ wr=>∃k:Nat,k≤n∧i=.int .i64 k∧Below w.heap.size w wr∧Hid (wr.ownsRow w.heap.size 64 1 y (zbp v k).length (zi (zbp v k)))) (fun _ i _ _=>n - (intOf i).toNat)
 case atStart=>exact⟨0,by omega,rfl,hb0,by
  have:=Ho0.out;rw[show zbp v 0=[n] from by unfold zbp;rw[Hl.out];rfl];exact this⟩
 case round=>
  obtain⟨k,hk,rfl,hb,ho⟩:=hrel;have Hb:=hid hb;clear hb;by_cases hkn:k<n
  · have hkv:k<v.length:=by rw[Hl.out];exact hkn
    obtain⟨bb,oo,rfl⟩:=HE.out.some (by omega);obtain⟨x,m,c,hq⟩:=HE.out.fix hkn;have Hst:=hid (zw3 hkv);have Hpl:=hid (ydb (v:=v) (k:=k+1));obtain⟨-,-,-,hIv⟩:=hq _ (Below.refl _ _);have HIv:=hid hIv;obtain⟨P1,hP1⟩:∃P1,zbp v (k+1)=P1:=⟨_,rfl⟩;rw[hP1] at Hst Hpl;have HP1:=hid hP1;clear hP1;generalize zbp v k=P at*;generalize zg v k=e at*;obtain⟨er,em,eh⟩:=e;simp only at hq HIv hIv;have Hel:=hid hIv.len;have hcm:m≤9223372036854775807:=Nat.le_trans hIv.room hIv.most;have hwm:IntKind.u64.wrap (m:Int)=(m:Int):=by rw[IntKind.wrap_u64];omega
    have Hlen:=hid (show P.length+3+2*m≤1000000000000 from by
     have h1:=Hpl.out;have h2:=HN.out;rw[Hst.out,List.length_append] at h1;simp only[ko,List.length_cons,zle,Hel.out] at h1;omega)
    have hbr:Below w.heap.size w wr:=Hb.out;have r1:∀w',Below w.heap.size wr w'→w'.cell? ⟨bb,oo+k*3,none⟩=some (.int .u64 er):=fun w' h=>(hq w' (hbr.trans h)).1
    have r2:∀w',Below w.heap.size wr w'→w'.cell? ⟨bb,oo+k*3+1,none⟩=some (.int .u64 em):=fun w' h=>(hq w' (hbr.trans h)).2.1
    have r3:∀w',Below w.heap.size wr w'→w'.cell? ⟨bb,oo+k*3+2,none⟩=some (.slice x m c):=fun w' h=>(hq w' (hbr.trans h)).2.2.1
    have h0:(0:Int)≤k:=by omega
    have h04:(k:Int)<(n:Int):=by omega
    have HoW:=hid (fun W (h:Below wr.heap.size wr W)=>zm ho.out h);clear hIv;go_wp2_with fail;have hz:w.heap.size≤wr.heap.size:=Hb.out.size;have R3:=hid (fun w' (h:Below w.heap.size w w')=>(hq w' h).2.2.1);clear hq
    go_region_held3 (fun w'=>Below w.heap.size wr w') (first | assumption | exact(Below.refl _ _).drew | exact Below.alloc (by assumption) (Nat.le_trans hz (Below.size (by assumption))) _) (first
     | (refine zcr rfl (.tmp 16) (.tmp 34) rfl rfl w.heap.size _ P.length P rfl (HoW.out _ (by first | exact((Below.refl _ _).alloc (Nat.le_refl _) _).drew | exact((Below.refl _ _).drew).alloc (by simp) _)) _ 3 _ [er,em,m] rfl (yq (by first | exact zh _ _ _ (by simp) | exact jp _ _ _ _ (zh _ _ _ (by simp))) rfl rfl) (by have:=Hlen.out;omega) (by simp <;> omega) ?_
        intro v1 w1 ho1 hg1
        have hS1:Below w.heap.size wr w1:=by
         refine Below.grown (B:=w.heap.size) (by assumption) hg1 (by simp <;> omega) ?_;intro j hj;exact((HoW.out wr (Below.refl _ _)).lt j hj).1))
    all_goals
     have Hb1:=hid (hbr.trans hS1);have Ho1:=hid ho1;clear hS1 hg1 ho1;go_wp2;go_loopw [3,5] (fun y j wi=>∃d:Nat,d≤m∧j=.int .i64 d∧Below w.heap.size w wi∧Hid (wi.ownsRow w.heap.size 64 1 y (P++[er,em,m]++ve (eh.take d)).length (zi (P++[er,em,m]++ve (eh.take d))))) (fun _ j _=>m - (intOf j).toNat)
     case atStart=>exact⟨0,by omega,rfl,Hb1.out,by
      have:=Ho1.out;rw[show (P++[er,em,m]++ve (eh.take 0))=P++[er,em,m] from by simp[ve]];rw[List.length_append];exact this⟩
     case round=>
      obtain⟨d,hd,rfl,hbi,hoi⟩:=hrel;have Hbi:=hid hbi;clear hbi;have s3:=R3.out wr Hbi.out;have Hel2:=hid (show d<m→ve (eh.take (d+1))=ve (eh.take d)++[(zb eh d).1,(zb eh d).2] from fun h=>zw5 eh d (by rw[Hel.out];exact h))
      have Hnl:=hid (show (P++[er,em,m]++ve (eh.take d)).length≤P.length+3+2*d from by
       rw[List.length_append,List.length_append,zle,List.length_take];simp only[List.length_cons,List.length_nil];omega)
      by_cases hdm:d<m
      · obtain⟨hb,ho,rfl,hc⟩:=HIv.out.cells (by omega);obtain⟨c1,c2⟩:=hc d hdm;clear hc;have Hel2:=hid (Hel2.out hdm);generalize ve (eh.take d)=N at*;generalize zb eh d=p at*;obtain⟨px,py⟩:=p;simp only at c1 c2 Hel2;have h0d:(0:Int)≤d:=by omega
        have h04d:(d:Int)<(m:Int):=by omega
        obtain⟨wz,hwz⟩:∃wz:World,wz=wr:=⟨_,rfl⟩;have hz2:w.heap.size≤wr.heap.size:=Hbi.out.size;have s1:∀w',Below w.heap.size wr w'→w'.cell? ⟨bb,oo+k*3+2,none⟩=some (.slice (some ⟨hb,ho,none⟩) m c):=fun w' h=>R3.out w' (Hbi.out.trans h)
        have s4:∀w',Below w.heap.size wr w'→w'.cell? ⟨hb,ho+d*2,none⟩=some (.int .u64 px):=fun w' h=>((Hbi.out.trans h).cell (p:=⟨hb,ho+d*2,none⟩) (zf c1)).trans c1
        have s5:∀w',Below w.heap.size wr w'→w'.cell? ⟨hb,ho+d*2+1,none⟩=some (.int .u64 py):=fun w' h=>((Hbi.out.trans h).cell (p:=⟨hb,ho+d*2+1,none⟩) (zf c2)).trans c2
        have HoI:=hid (fun W (h:Below wr.heap.size wr W)=>zm hoi.out h);clear c1 c2 hwz;go_wp2_with fail;clear s3
        go_region_held3 (fun w'=>Below w.heap.size wr w') (first | assumption | exact(Below.refl _ _).drew | exact Below.alloc (by assumption) (Nat.le_trans hz2 (Below.size (by assumption))) _) (first
         | (refine zcr rfl (.tmp 46) (.tmp 65) rfl rfl w.heap.size _ _ (P++[er,em,m]++N) rfl (HoI.out _ (by first | exact((Below.refl _ _).alloc (Nat.le_refl _) _).drew | exact((Below.refl _ _).drew).alloc (by simp) _)) _ 2 _ [px,py] rfl (yq (by first | exact zh _ _ _ (by simp) | exact jp _ _ _ _ (zh _ _ _ (by simp))) rfl rfl) (by have:=Hlen.out;have:=Hnl.out;omega) (by simp <;> omega) ?_
            intro v2 w2 ho2 hg2
            have hS2:Below w.heap.size wr w2:=by
             refine Below.grown (B:=w.heap.size) (by assumption) hg2 (by simp <;> omega) ?_;intro j hj;exact((HoI.out wr (Below.refl _ _)).lt j hj).1))
        all_goals
         go_wp2;go_roundw
         case rel=>exact⟨d+1,by omega,by go_num,Hbi.out.trans hS2,by
          rw[Hel2.out,←List.append_assoc];rw[List.length_append (bs:=[px,py])];exact ho2⟩
         case measure=>simp[intOf];omega
      · obtain rfl:d=m:=by omega
        have Hoi:=hid hoi.out
        have hall:P++[er,em,d]++ve (eh.take d)=P1:=by
         rw[Hst.out,List.take_of_length_le (by rw[Hel.out];exact Nat.le_refl _),List.append_assoc];simp only[ko,Hel.out]
         rfl
        rw[hall] at Hoi;clear hall;go_wp2;go_roundw
        case rel=>exact⟨k+1,by omega,by go_num,Hbi.out,by rw[HP1.out];exact Hoi.out⟩
        case measure=>simp[intOf];omega
  · obtain rfl:k=n:=by omega
    have Ho:=hid ho.out;rw[←Hl.out,zw4] at Ho;go_wp2;go_ret;exact⟨⟨_,rfl,Ho.out⟩,Hb.out⟩
set_option maxRecDepth 20000 in
theorem zs3 (a d:Option Addr) (n c n' c':Nat) (v u:Vec) (w:World) (hE:Ents w a n c v) (hF:Ents w d n' c' u) (hN:(yj v).length≤1000000000000) (hM:(yj u).length≤1000000000000)
 (hpl:∀x∈yj v,x<18446744073709551616) (hql:∀x∈yj u,x<18446744073709551616):
 Calls Tryz.prog 141 #[.slice a n c,.slice d n' c'] w fun x w'=>x=.returned (.int .i64 (yx v u))∧Below w.heap.size w w':=by
 have HF:=hid hF;have HN:=hid hN;have HM:=hid hM;have Hpl:=hid hpl;have Hql:=hid hql;have hC:=hid (z01 a n c v w hE hN);have hD:=hid (fun w' (h:Below w.heap.size w w')=>z01 d n' c' u w' (hF.below h) hM);have Hcv:=hid (show yx v u=vm (yj v) (yj u) from rfl);clear hE hF hN hM hpl hql;generalize yj v=P at*;generalize yj u=R at*;generalize yx v u=z at*;go_enter Tryz.func141,Tryz.ntmps141;go_wp2_with fail;refine hC.out.mono ?_;rintro e w1 ⟨⟨y,rfl,ho1⟩,hb1⟩;have Hb1:=hid hb1;obtain⟨aP,cP,rfl,hU1⟩:=zcx ho1 Hpl.out;clear hb1 ho1;have HU1:=hid hU1;clear hU1;go_wp2_with fail;refine(hD.out _ Hb1.out).mono ?_;rintro e w2 ⟨⟨y,rfl,ho2⟩,hb2⟩;have Hb2:=hid (Hb1.out.trans (hb2.mono Hb1.out.size));obtain⟨aR,cR,rfl,hU2⟩:=zcx ho2 Hql.out;have HUp:=hid (HU1.out.below hb2);clear hb2 ho2;have HUr:=hid hU2;clear hU2 HU1 hC hD;obtain⟨N,hN⟩:∃N,N=P.length:=⟨_,rfl⟩;obtain⟨M,hM⟩:∃M,M=R.length:=⟨_,rfl⟩;rw[←hN] at HN HUp ⊢;rw[←hM] at HM HUr ⊢;have HNl:=hid hN;have HMl:=hid hM;have hNm:N≤9223372036854775807:=Nat.le_trans HUp.out.room HUp.out.most;clear hN hM;go_wp2;go_loopw [7] (fun i wr=>∃k:Nat,k≤N∧k≤M∧i=.int .i64 k∧Below w2.heap.size w2 wr∧Hid (z=vm (P.drop k) (R.drop k))) (fun i _=>N - (intOf i).toNat)
 case atStart=>exact⟨0,by omega,by omega,rfl,Below.refl _ _,(by simpa using Hcv.out:z=vm (P.drop 0) (R.drop 0))⟩
 case round=>
  obtain⟨k,hkN,hkM,rfl,hb,ht⟩:=hrel;have Hb:=hid hb;clear hb;have Hbw:=hid (Hb2.out.trans (Hb.out.mono Hb2.out.size));have h0:(0:Int)≤k:=by omega
  by_cases h1:k<N
  · by_cases h2:k<M
    · have hst:=zw9 (p:=P) (q:=R) (k:=k) (by rw[←HNl.out];exact h1) (by rw[←HMl.out];exact h2);have Hst:=hid (ht.out.trans hst);obtain⟨b1,o1,rfl,hc1⟩:=(HUp.out.below Hb.out).cells (by omega);obtain⟨b2,o2,rfl,hc2⟩:=(HUr.out.below Hb.out).cells (by omega);have q1:=hc1 k h1;have q2:=hc2 k h2;clear hst hc1 hc2;generalize nth P k=x at*;generalize nth R k=y at*;have h01:(k:Int)<(N:Int):=by omega
      have h02:(k:Int)<(M:Int):=by omega
      have hcP:=HUp.out.room;have hcR:=HUr.out.room;by_cases hxy:x<y
      · have hd1:decide ((x:Int)<(y:Int))=true:=by rw[decide_eq_true_iff];omega
        have hd2:decide (x<y)=true:=by rw[decide_eq_true_iff];omega
        rw[if_pos hxy] at Hst;clear hxy;go_wp2;go_quiet (fail);go_wp2;go_ret;exact⟨by rw[Hst.out];rfl,by first | exact Hbw.out | exact z7 Hbw.out _⟩
      · have hd1:decide ((x:Int)<(y:Int))=false:=by rw[decide_eq_false_iff_not];omega
        have hd2:decide (x<y)=false:=by rw[decide_eq_false_iff_not];omega
        rw[if_neg hxy] at Hst;by_cases hyx:y<x
        · have hd3:decide ((y:Int)<(x:Int))=true:=by rw[decide_eq_true_iff];omega
          have hd4:decide (y<x)=true:=by rw[decide_eq_true_iff];omega
          rw[if_pos hyx] at Hst;clear hxy hyx;go_wp2;go_quiet (fail);go_wp2;go_quiet (fail);go_wp2;go_ret;exact⟨by rw[Hst.out];rfl,by first | exact Hbw.out | exact z7 Hbw.out _ | exact z7 (z7 Hbw.out _) _⟩
        · have hd3:decide ((y:Int)<(x:Int))=false:=by rw[decide_eq_false_iff_not];omega
          have hd4:decide (y<x)=false:=by rw[decide_eq_false_iff_not];omega
          rw[if_neg hyx] at Hst;clear hxy hyx;go_wp2;go_quiet (fail);go_wp2;go_quiet (fail);go_wp2;go_roundw
          case rel=>exact⟨k+1,by omega,by omega,by go_num,by first | exact Hb.out | exact z7 Hb.out _ | exact z7 (z7 Hb.out _) _,Hst.out⟩
          case measure=>simp[intOf];omega
    · obtain rfl:k=M:=by omega
      have Hz:=hid (ht.out.trans (zrr (by rw[←HNl.out];omega) (by rw[←HMl.out];omega) (.inr HMl.out)));rw[←HNl.out,←HMl.out,if_neg (by omega),if_pos h1] at Hz;have hd1:decide ((N:Int)<(k:Int))=false:=by rw[decide_eq_false_iff_not];omega
      have hd2:decide ((k:Int)<(N:Int))=true:=by rw[decide_eq_true_iff];omega
      go_wp2;go_ret;exact⟨by rw[Hz.out];rfl,Hbw.out⟩
  · obtain rfl:k=N:=by omega
    have Hz:=hid (ht.out.trans (zrr (by rw[←HNl.out];omega) (by rw[←HMl.out];omega) (.inl HNl.out)));rw[←HNl.out,←HMl.out] at Hz;by_cases h2:k<M
    · rw[if_pos h2] at Hz;have hd1:decide ((k:Int)<(M:Int))=true:=by rw[decide_eq_true_iff];omega
      go_wp2;go_ret;exact⟨by rw[Hz.out];rfl,Hbw.out⟩
    · rw[if_neg h2,if_neg (by omega)] at Hz;have hd1:decide ((k:Int)<(M:Int))=false:=by rw[decide_eq_false_iff_not];omega
      have hd2:decide ((M:Int)<(k:Int))=false:=by rw[decide_eq_false_iff_not];omega
      go_wp2;go_ret;exact⟨by rw[Hz.out];rfl,Hbw.out⟩
