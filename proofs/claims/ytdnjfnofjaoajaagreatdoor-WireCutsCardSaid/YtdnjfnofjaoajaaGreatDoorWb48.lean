/- Walks and laws, joined: Wb48. -/
import Derived.Test.YtdnjfnofjaoajaaGreatDoorWb47
import Derived.Test.YtdnjfnofjaoajaaGreatDoorWb39
import Derived.Test.YtdnjfnofjaoajaaGreatDoorWb46
set_option linter.unusedVariables false
set_option maxHeartbeats 16000000
namespace Go.Proofs.YtdnjfnofjaoajaaGreatDoor
open Lib (hid)
section
open Go.ChangeShapes Go.WideShapes Go.RowKit Go.ChangeAt
theorem yaf {z:Int} (h:(Lit.int .u16 z).wf=true):∃n:Nat,z=n∧n<65536:=by
 have h':=bounds_u16 h;exact⟨z.toNat,by omega,by omega⟩
end
section
open Go.RowKit
theorem zx3 {w:World} (a:Option Addr) (m c:Nat) (l:List Nat) (hB:Byts w a m c l) (hbytes:m≤140737488355328):
 ∃v' w',(Builtin.append_ #[27,27] 27 #[.slice (some ⟨w.heap.size,0,none⟩) 0 0,.slice a m c]).run Tryz.prog (w.alloc (.cells #[] 5))=.ok v' w'∧
  w'.ownsRow w.heap.size 5 1 v' m (u8s l)∧Below w.heap.size w w':=by
 have h0:=World.ownsRow_lit (e:=5) (size:=1) (base:=w.heap.size) w #[] 0 (Nat.le_refl _) (by unfold maxLen;omega) rfl;obtain⟨v',w',hr,ho,hg⟩:=zge w.heap.size _ 0 [] h0 a m c l (hB.below ((Below.refl _ _).alloc (Nat.le_refl _) _)) (by omega) (by simp);refine⟨v',w',hr,by simpa using ho,?_⟩;exact((Below.refl _ _).alloc (Nat.le_refl _) _).grown hg (by simp) (by intro k hk;simp[Value.ownBlock] at hk;omega)
theorem yag (e:Ent) (a:Option Addr) (n c:Nat) (w:World) (hI:Ivs w a n c e.2.2) (hm:e.2.1<18446744073709551616):
 Calls Tryz.prog 232 #[ky e (.slice a n c)] w fun x w'=>x=.returned (.bool (decide (ckE e=none)))∧Below w.heap.size w w':=by
 have hC:=hid (fun w' (h:Below w.heap.size w w')=>zwx e a n c w' (hI.below h) hm);obtain⟨r,m,hs⟩:=e;clear hI hm;have Hal:=hid ((Below.refl w.heap.size w).alloc (Nat.le_refl _) (.cells #[.int .u64 r,.int .u64 m,.slice a n c] 101))
 cases h:ckE (r,m,hs) with
 | none=>
  rw[h] at hC;simp only[yj,qo,js] at hC;clear h;go_enter Tryz.func232,Tryz.ntmps232;go_wp2_with fail;refine(hC.out _ Hal.out).mono ?_;rintro e w1 ⟨rfl,hb1⟩;have Hb1:=hid hb1;clear hb1;go_wp2;go_ret
  exact⟨by simp,Hal.out.trans (Hb1.out.mono Hal.out.size)⟩
 | some x=>
  have hc0:=zkf h;obtain⟨cd,i⟩:=x;rw[h] at hC;simp only[yj,qo,js] at hC;have hne:((cd:Int) == 0)=false:=by rw[beq_eq_false_iff_ne];simp at hc0;omega
  clear h hc0;go_enter Tryz.func232,Tryz.ntmps232;go_wp2_with fail;refine(hC.out _ Hal.out).mono ?_;rintro e w1 ⟨rfl,hb1⟩;have Hb1:=hid hb1;clear hb1;go_wp2;go_ret;exact⟨by simp,Hal.out.trans (Hb1.out.mono Hal.out.size)⟩
theorem yah (e:Ent) (a:Option Addr) (n c:Nat) (w:World) (hI:Ivs w a n c e.2.2) (hm:e.2.1<18446744073709551616):
 Calls Tryz.prog 188 #[ky e (.slice a n c)] w fun x w'=>x=.returned (.bool (ve e))∧Below w.heap.size w w':=by
 obtain⟨r,m,hs⟩:=e;simp only at hI hm;have hal:Below w.heap.size w (w.alloc (.cells #[.int .u64 r,.int .u64 m,.slice a n c] 101)):=(Below.refl _ _).alloc (Nat.le_refl _) _;have HX:=hid (zcc w (.int .u64 r) (.int .u64 m) (.slice a n c) 101);have HI:=hid (hI.below hal);have hC:=hid (yag (r,m,hs) a n c _ (hI.below hal) hm);have Hal:=hid hal;have Hcan:=hid (show ve (r,m,hs)=(decide (ckE (r,m,hs)=none) && !mem hs m) from rfl);have hH:=hid (fun w' (h:Below (w.alloc (.cells #[.int .u64 r,.int .u64 m,.slice a n c] 101)).heap.size (w.alloc (.cells #[.int .u64 r,.int .u64 m,.slice a n c] 101)) w')=>zf5 a n c m hs w' (HI.out.below h));obtain⟨q0,q1,q2⟩:=HX.out _ (Below.refl _ _);clear hI hm hal;generalize mem hs m=b at*;generalize decide (ckE (r,m,hs)=none)=y at*
 cases y with
 | false=>
  go_enter Tryz.func188,Tryz.ntmps188;go_wp2_with fail;refine hC.out.mono ?_;rintro e w1 ⟨rfl,hb1⟩;have Hb1:=hid hb1;clear hb1;go_wp2;go_ret
  exact⟨by rw[Hcan.out];rfl,Hal.out.trans (Hb1.out.mono Hal.out.size)⟩
 | true=>
  go_enter Tryz.func188,Tryz.ntmps188;go_wp2_with fail;refine hC.out.mono ?_;rintro e w1 ⟨rfl,hb1⟩;have Hb1:=hid hb1;clear hb1 q0 q1 q2;obtain⟨q0,q1,q2⟩:=HX.out _ Hb1.out;go_wp2_with fail;refine(hH.out _ Hb1.out).mono ?_;rintro e w2 ⟨rfl,hb2⟩;have Hb2:=hid hb2;clear hb2;go_wp2;go_ret;exact⟨by rw[Hcan.out];rfl,(Hal.out.trans (Hb1.out.mono Hal.out.size)).trans (Hb2.out.mono (Nat.le_trans Hal.out.size Hb1.out.size))⟩
theorem yai (a:Option Addr) (n cap:Nat) (v:Vec) (w:World) (hE:Ents w a n cap v):
 Calls Tryz.prog 189 #[.slice a n cap] w fun x w'=>x=.returned (.bool (decide (ckV v=none)))∧Below w.heap.size w w':=by
 have hC:=hid (zwy a n cap v w hE);clear hE
 cases h:ckV v with
 | none=>
  rw[h] at hC;simp only[yj,qo,js] at hC;clear h;go_enter Tryz.func189,Tryz.ntmps189;go_wp2_with fail;refine hC.out.mono ?_;rintro e w1 ⟨rfl,hb1⟩;have Hb1:=hid hb1;clear hb1;go_wp2;go_ret
  exact⟨by simp,Hb1.out⟩
 | some x=>
  have hc0:=zkg h;obtain⟨cd,i⟩:=x;rw[h] at hC;simp only[yj,qo,js] at hC;have hne:((cd:Int) == 0)=false:=by rw[beq_eq_false_iff_ne];simp at hc0;omega
  clear h hc0;go_enter Tryz.func189,Tryz.ntmps189;go_wp2_with fail;refine hC.out.mono ?_;rintro e w1 ⟨rfl,hb1⟩;have Hb1:=hid hb1;clear hb1;go_wp2;go_ret;exact⟨by simp,Hb1.out⟩
set_option maxRecDepth 20000 in
theorem yaj (a:Option Addr) (n cap:Nat) (v:Vec) (w:World) (hE:Ents w a n cap v):
 Calls Tryz.prog 144 #[.slice a n cap] w fun x w'=>x=.returned (.bool (za9 v))∧Below w.heap.size w w':=by
 have HE:=hid hE;have Hl:=hid hE.len;have hm:n≤9223372036854775807:=Nat.le_trans hE.room hE.most;have Hcv:=hid (show za9 v=(decide (ckV v=none) && v.all ve) from rfl);clear hE;go_enter Tryz.func144,Tryz.ntmps144;go_wp2;go_loopw [3] (fun i wr=>∃k:Nat,k≤n∧i=.int .i64 k∧Below w.heap.size w wr∧Hid (∀j,j<k→ve (zc v j)=true)) (fun i _=>n - (intOf i).toNat)
 case atStart=>exact⟨0,by omega,rfl,Below.refl _ _,fun j h=>by omega⟩
 case round=>
  obtain⟨k,hk,rfl,hb,ht⟩:=hrel;have Hb:=hid hb;clear hb;by_cases hkn:k<n
  · have hkv:k<v.length:=by rw[Hl.out];exact hkn
    have HEr:=hid (HE.out.below Hb.out);obtain⟨bb,oo,rfl⟩:=HEr.out.some (by omega);have Hlt:=hid (HE.out.lt (zc v k) (jb hkv));have Hmem:=hid (jb hkv);obtain⟨x,m,c,hq⟩:=HEr.out.fix hkn;obtain⟨q1,q2,q3,q4⟩:=hq _ (Below.refl _ _);have hC:=hid (yah (zc v k) x m c wr q4 Hlt.out.max)
    have Hst:=hid (show ve (zc v k)=true→∀j,j<k+1→ve (zc v j)=true from fun h j hj=>by
     by_cases e:j=k
     · rw[e];exact h
     · exact ht.out j (by omega))
    generalize zc v k=e at*;have h0:(0:Int)≤k:=by omega
    have h04:(k:Int)<(n:Int):=by omega
    obtain⟨er,em,eh⟩:=e;simp only at q1 q2 q3;clear q4 hq
    cases h:ve (er,em,eh) with
    | false=>
     rw[h] at hC;have Hf:=hid (show v.all ve=false from by rw[Bool.eq_false_iff];intro h2;rw[List.all_eq_true] at h2;rw[h2 _ Hmem.out] at h;cases h);clear h;go_wp2_with fail;refine hC.out.mono ?_;rintro z w1 ⟨rfl,hb1⟩;have Hb1:=hid hb1;clear hb1;go_wp2;go_ret
     exact⟨by rw[Hcv.out,Hf.out,Bool.and_false];rfl,Hb.out.trans (Hb1.out.mono Hb.out.size)⟩
    | true=>
     rw[h] at hC;have Hs:=hid (Hst.out h);clear h;go_wp2_with fail;refine hC.out.mono ?_;rintro z w1 ⟨rfl,hb1⟩;have Hb1:=hid hb1;clear hb1;go_wp2;go_roundw
     case rel=>exact⟨k+1,by omega,by go_num,Hb.out.trans (Hb1.out.mono Hb.out.size),Hs.out⟩
     case measure=>simp[intOf];omega
  · obtain rfl:k=n:=by omega
    have Hr:=hid (show v.all ve=true from by
     rw[List.all_eq_true];intro e he;obtain⟨i,hi,rfl⟩:=List.getElem_of_mem he;have:=ht.out i (by rw[←Hl.out];exact hi);rwa [qn hi] at this)
    have hC:=hid (yai a k cap v wr (HE.out.below Hb.out));go_wp2_with fail;refine hC.out.mono ?_;rintro z w1 ⟨rfl,hb1⟩;have Hb1:=hid hb1;clear hb1;go_wp2;go_ret;exact⟨by rw[Hcv.out,Hr.out,Bool.and_true];rfl,Hb.out.trans (Hb1.out.mono Hb.out.size)⟩
theorem yak (aa ab:Option Addr) (na ca nb cb:Nat) (a b:List Iv) (w:World) (hIa:Ivs w aa na ca a) (hIb:Ivs w ab nb cb b) (hn:2*a.length+2*b.length+1≤100000):
 Calls Tryz.prog 145 #[.slice aa na ca,.slice ab nb cb] w fun e w'=>zcb w.heap.size (opL kq a b) e w'∧Below w.heap.size w w':=by
 have hC:=hid (zl5 aa ab na ca nb cb 1 a b w hIa hIb (by omega) hn);clear hIa hIb hn;rw[show ((1:Nat):Int)=1 from rfl] at hC;go_enter Tryz.func145,Tryz.ntmps145;go_wp2_with fail;refine hC.out.mono ?_;rintro e w1 ⟨⟨v,rfl,ho⟩,hb⟩;have Ho:=hid ho;have Hb:=hid hb;clear ho hb;go_wp2;go_ret;exact⟨⟨v,rfl,Ho.out⟩,Hb.out⟩
theorem yal {i:Nat} {p:Nat→Bool} (h:∀j,j<i→p j=false):(List.range i).any p=false:=by
 rw[Bool.eq_false_iff];intro h2;obtain⟨j,hj,h3⟩:=List.any_eq_true.1 h2;rw[h j (by simpa using hj)] at h3;cases h3
theorem yam {i j:Nat} {p:Nat→Bool} (hj:j<i) (h:p j=true):(List.range i).any p=true:=List.any_eq_true.2 ⟨j,by simpa using hj,h⟩
set_option maxRecDepth 100000 in
theorem yan (a:Option Addr) (n cap i:Nat) (k:Kno) (w:World) (hE:Frags w a n cap k) (hi:i<n) (hv:∀f∈k,VecFits f.2) (hI:∀f∈k,f.1.length≤500):
 Calls Tryz.prog 109 #[.slice a n cap,.int .i64 i] w fun x w'=>x=.returned (.int .i64 (zbl k i))∧Below w.heap.size w w':=by
 have HE:=hid hE;have Hl:=hid hE.len;have hm:n≤9223372036854775807:=Nat.le_trans hE.room hE.most;have Hv:=hid hv;have HI:=hid hI;have hik:i<k.length:=by rw[Hl.out];exact hi
 obtain⟨bb,oo,rfl⟩:=hE.some (by omega);obtain⟨x,m,c,y,m',c',hq⟩:=hE.fix hi;have Hq:=hid hq;have HIl:=hid (hq w (Below.refl _ _)).2.1.len;have HVl:=hid (hq w (Below.refl _ _)).2.2.2.len;have Hwr:=hid (show zbl k i=if (za k i).1=[]∨(za k i).2=[] then 9 else if za9 (za k i).2=false then 10 else if ((List.range i).any fun j=>decide (opL kq (za k i).1 (za k j).1≠[]))=true then 10 else if 0<i∧yk (za k (i - 1)).2 (za k i).2≠ -1 then 3 else 0 from rfl);have hCan:=hid (yaj y m' c' (za k i).2 w (hq w (Below.refl _ _)).2.2.2);have Hfi:=hid (HI.out _ (yb hik));have Hfv:=hid (Hv.out _ (yb hik));have h0:(0:Int)≤i:=by omega
 have h04:(i:Int)<(n:Int):=by omega
 have him:i≤9223372036854775807:=by omega
 have q1:=(hq w (Below.refl _ _)).1;have q2:=(hq w (Below.refl _ _)).2.2.1;clear hE hv hI hq;obtain⟨P,hP⟩:∃P:Nat→Bool,P=fun j=>decide (opL kq (za k i).1 (za k j).1≠[]):=⟨_,rfl⟩
 rw[←hP] at Hwr;have HP:=hid (show ∀j,P j=decide (opL kq (za k i).1 (za k j).1≠[]) from fun j=>by rw[hP]);clear hP;by_cases hemp:(za k i).1=[]∨(za k i).2=[]
 · rw[if_pos hemp] at Hwr;by_cases hm0:m=0
   · have hz:((m:Int) == 0)=true:=by rw[hm0];rfl
     clear hemp hm0;go_enter Tryz.func109,Tryz.ntmps109;go_wp2;go_ret;exact⟨by rw[Hwr.out];rfl,Below.refl _ _⟩
   · have hz:((m:Int) == 0)=false:=by rw[beq_eq_false_iff_ne];omega
     have hz2:((m':Int) == 0)=true:=by
      rcases hemp with h | h
      · exact absurd (by rw[←HIl.out,h];rfl) hm0
      · have:m'=0:=by rw[←HVl.out,h];rfl
        rw[this];rfl
     clear hemp hm0;go_enter Tryz.func109,Tryz.ntmps109;go_wp2;go_ret;exact⟨by rw[Hwr.out];rfl,Below.refl _ _⟩
 · rw[if_neg hemp] at Hwr
   have hz:((m:Int) == 0)=false:=by
    rw[beq_eq_false_iff_ne];intro h;exact hemp (.inl (List.length_eq_zero_iff.1 (by have:=HIl.out;omega)))
   have hz2:((m':Int) == 0)=false:=by
    rw[beq_eq_false_iff_ne];intro h;exact hemp (.inr (List.length_eq_zero_iff.1 (by have:=HVl.out;omega)))
   clear hemp;generalize hbc:za9 (za k i).2=bc at*
   cases bc with
   | false=>
    rw[if_pos rfl] at Hwr;clear hbc;go_enter Tryz.func109,Tryz.ntmps109;go_wp2_with fail;refine hCan.out.mono ?_;rintro e w1 ⟨rfl,hb1⟩;have Hb1:=hid hb1;clear hb1;go_wp2;go_ret
    exact⟨by rw[Hwr.out];rfl,Hb1.out⟩
   | true=>
    rw[if_neg (by simp)] at Hwr;clear hbc;go_enter Tryz.func109,Tryz.ntmps109;go_wp2_with fail;refine hCan.out.mono ?_;rintro e w1 ⟨rfl,hb1⟩;have Hb1:=hid hb1;clear hb1 q1 q2;go_wp2;go_loopw [5] (fun j wr=>∃d:Nat,d≤i∧j=.int .i64 d∧Below w1.heap.size w1 wr∧Hid (∀j,j<d→P j=false)) (fun j _=>i - (intOf j).toNat)
    case atStart=>exact⟨0,by omega,rfl,Below.refl _ _,fun j h=>by omega⟩
    case round=>
     obtain⟨d,hd,rfl,hb,ht⟩:=hrel;have Hb:=hid hb;clear hb;have Hbw:=hid (Hb1.out.trans (Hb.out.mono Hb1.out.size));by_cases hdi:d<i
     · have hdn:d<n:=by omega
       have hdk:d<k.length:=by rw[Hl.out];exact hdn
       obtain⟨x1,m1,c1,y1,m1',c1',hq2⟩:=HE.out.fix hdn;have Hq1:=hid (fun w' (h:Below wr.heap.size wr w')=>(Hq.out w' (Hbw.out.trans (h.mono Hbw.out.size))).1);have Hq2:=hid (fun w' (h:Below wr.heap.size wr w')=>(hq2 w' (Hbw.out.trans (h.mono Hbw.out.size))).1);have Hfd:=hid (HI.out _ (yb hdk));have hM:=hid (fun w' (h:Below wr.heap.size wr w')=>yak x x1 m c m1 c1 (za k i).1 (za k d).1 w' ((Hq.out w' (Hbw.out.trans (h.mono Hbw.out.size))).2.1) ((hq2 w' (Hbw.out.trans (h.mono Hbw.out.size))).2.1) (by have:=Hfd.out;have:=Hfi.out;omega));have Hat:=hid (HP.out d);have Hno:=hid (fun h=>zi4 (p:=fun j=>P j=false) ht.out h);have Hyes:=hid (yam (i:=i) (p:=P) hdi);have hd0:(0:Int)≤d:=by omega
       have hd04:(d:Int)<(n:Int):=by omega
       have hdi2:(d:Int)<(i:Int):=by omega
       clear hq2;generalize opL kq (za k i).1 (za k d).1=M at*;have HM:=hid (show decide (0<M.length)=decide (M≠[]) from decide_eq_decide.2 List.length_pos_iff);go_wp2_with fail;go_cut [46] (fun t wc=>t=.bool (P d)∧Hid (Below wr.heap.size wr wc))
       case first=>
        have q1:=Hq1.out _ (Below.refl _ _);have q3:=Hq2.out _ (Below.refl _ _)
        go_region_with (first
         | (go_at_call 145
            refine(hM.out _ (by first | exact Below.refl _ _ | exact(Below.refl _ _).drew)).mono ?_;rintro e w4 ⟨⟨v4,rfl,ho4⟩,hb4⟩;obtain⟨a4,c4,rfl⟩:=ks ho4;have hB4:Below wr.heap.size wr w4:=⟨hb4.os,hb4.tape,hb4.output,hb4.size,hb4.block⟩;clear hb4 ho4))
        all_goals go_wp2
        all_goals go_meet
        all_goals exact⟨by rw[Hat.out,←HM.out],by first | exact hB4 | exact hB4.drew⟩
       case rest=>
        obtain⟨rfl,hb2⟩:=hcut;have Hb2:=hid (Hb.out.trans (hb2.out.mono Hb.out.size));clear hb2
        cases hPd:P d with
        | true=>
         have Hy:=hid (Hyes.out hPd);rw[Hy.out,if_pos rfl] at Hwr;clear Hyes Hno hPd;go_wp2;go_ret
         exact⟨by rw[Hwr.out];rfl,Hb1.out.trans (Hb2.out.mono Hb1.out.size)⟩
        | false=>
         have Hy:=hid (Hno.out hPd);clear Hyes Hno hPd;go_wp2;go_roundw
         case rel=>exact⟨d+1,by omega,by go_num,Hb2.out,Hy.out⟩
         case measure=>simp[intOf];omega
     · obtain rfl:d=i:=by omega
       have hPn:=yal ht.out;rw[hPn,if_neg (by simp)] at Hwr;clear hPn;by_cases hd0:0<d
       · have hdn:d - 1<n:=by omega
         have hdk:d - 1<k.length:=by rw[Hl.out];exact hdn
         obtain⟨x1,m1,c1,y1,m1',c1',hq2⟩:=HE.out.fix hdn;have hlv:=(hq2 w (Below.refl _ _)).2.2.2.lt;have hlv2:=(Hq.out w (Below.refl _ _)).2.2.2.lt;have hfd:=Hv.out _ (yb hdk);have Hq1:=hid (fun w' (h:Below wr.heap.size wr w')=>(Hq.out w' (Hbw.out.trans (h.mono Hbw.out.size))).2.2.1);have Hq2:=hid (fun w' (h:Below wr.heap.size wr w')=>(hq2 w' (Hbw.out.trans (h.mono Hbw.out.size))).2.2.1);have hC:=hid (fun w' (h:Below wr.heap.size wr w')=>zxh y1 y m1' c1' m' c' (za k (d - 1)).2 (za k d).2 w' ((hq2 w' (Hbw.out.trans (h.mono Hbw.out.size))).2.2.2) ((Hq.out w' (Hbw.out.trans (h.mono Hbw.out.size))).2.2.2) (zgo hfd) (zgo Hfv.out) (zgp hlv hfd) (zgp hlv2 Hfv.out));have hcr:=zet (za k (d - 1)).2 (za k d).2;have hg:decide (0<(d:Int))=true:=by rw[decide_eq_true_iff];omega
         have hsub:IntKind.i64.wrap ((d:Int) - 1)=((d - 1:Nat):Int):=by rw[IntKind.wrap_i64];omega
         have h01:(0:Int)≤((d - 1:Nat):Int):=by omega
         have h03:((d - 1:Nat):Int)<(n:Int):=by omega
         clear hq2 hlv hlv2 hfd;generalize yk (za k (d - 1)).2 (za k d).2=z at*;generalize d - 1=d1 at*;obtain⟨bz,hbz⟩:∃bz:Bool,bz=decide (0≤z):=⟨_,rfl⟩;have Hbz:=hid hbz;clear hbz;go_wp2_with fail;go_cut [63] (fun t wc=>t=.bool bz∧Hid (Below wr.heap.size wr wc))
         case first=>
          refine qi (by kernel_rfl) (by kernel_rfl) ?_
          repeat (go_big_quiet_step ((intro hw;first
           | rfl
           | (have q0:=Hq1.out _ hw
              have q3:=Hq2.out _ hw
              first
              | (go_at_call 104;exact kp hw (hC.out _ hw))
              | (go_simp
                 first | rfl | exact⟨rfl,hw⟩ | (trace_state;fail))))))
          refine wpQuiet_nil ?_;intro w3 hb3;go_wp2;go_meet
          exact⟨by rw[Hbz.out];try rfl,hb3⟩
         case rest=>
          obtain⟨rfl,hb2⟩:=hcut;have Hb2:=hid (Hbw.out.trans (hb2.out.mono Hbw.out.size));clear hb2;by_cases hz1:z= -1
          · have hb0:bz=false:=by rw[Hbz.out,hz1];rfl
            rw[if_neg (fun h=>h.2 hz1)] at Hwr;rw[hb0];clear hz1 hb0 hcr;go_wp2;go_ret;exact⟨by rw[Hwr.out];rfl,Hb2.out⟩
          · have hb0:bz=true:=by
             rw[Hbz.out,decide_eq_true_iff];rcases hcr with h | h | h
             · exact absurd h hz1
             · omega
             · omega
            rw[if_pos ⟨hd0,hz1⟩] at Hwr;rw[hb0];clear hz1 hb0 hcr;go_wp2;go_ret;exact⟨by rw[Hwr.out];rfl,Hb2.out⟩
       · have hg:decide (0<(d:Int))=false:=by rw[decide_eq_false_iff_not];omega
         rw[if_neg (fun h=>hd0 h.1)] at Hwr;have hgn:decide (0<d)=false:=by rw[decide_eq_false_iff_not];exact hd0
         clear hd0;go_wp2;go_quiet (fail);go_wp2;go_ret;exact⟨by rw[Hwr.out];rfl,by first | exact Hbw.out | exact ye Hbw.out _⟩
theorem yao {k:Kno} {x:Nat×Nat} (h:ckC k=some x):x.1≠0:=by
 unfold ckC at h;split at h
 · rename_i y hy;cases h;exact zlz hy
 · obtain⟨i,-,-,h3⟩:=zd6 h;unfold zdy at h3;split at h3
   · cases h3
   · rename_i h4;cases h3;exact h4
set_option maxRecDepth 20000 in
theorem yap (a:Option Addr) (n cap:Nat) (k:Kno) (w:World) (hE:Frags w a n cap k) (hv:∀f∈k,VecFits f.2) (hI:∀f∈k,f.1.length≤500):
 Calls Tryz.prog 59 #[.slice a n cap] w fun x w'=>x=.returned (.tuple #[.int .i64 (qo (yj (ckC k))),.int .i64 (js (yj (ckC k)))])∧Below w.heap.size w w':=by
 have HE:=hid hE;have Hl:=hid hE.len;have hm:n≤9223372036854775807:=Nat.le_trans hE.room hE.most;have hC:=hid (zo4 a n cap k w hE);have hW:=hid (fun i w' (hi:i<n) (h:Below w.heap.size w w')=>yan a n cap i k w' (hE.below h) hi hv hI);have Hck:=hid (show ckC k=match ckF k with | some x=>some x | none=>qj (zdy k) k.length from rfl);clear hE hv hI
 cases h:ckF k with
 | some x=>
  have hc0:=zlz h;obtain⟨cd,ci⟩:=x;rw[h] at hC Hck;simp only[yj,qo,js] at hC Hck;have hne:((cd:Int) != 0)=true:=by rw[bne_iff_ne];simp at hc0;omega
  clear h hc0;go_enter Tryz.func59,Tryz.ntmps59;go_wp2_with fail;refine hC.out.mono ?_;rintro e w1 ⟨rfl,hb1⟩;have Hb1:=hid hb1;clear hb1;go_wp2;go_ret2
  exact⟨by rw[Hck.out];rfl,Hb1.out⟩
 | none=>
  rw[h] at hC Hck;simp only[yj,qo,js] at hC Hck;clear h;go_enter Tryz.func59,Tryz.ntmps59;go_wp2_with fail;refine hC.out.mono ?_;rintro e w1 ⟨rfl,hb1⟩;have Hb1:=hid hb1;clear hb1;go_wp2;go_loopw [4,6] (fun _ i wr=>∃d:Nat,d≤n∧i=.int .i64 d∧Below w1.heap.size w1 wr∧Hid (∀j,j<d→zdy k j=none)) (fun _ i _=>n - (intOf i).toNat)
  case atStart=>exact⟨0,by omega,rfl,Below.refl _ _,fun j h=>by omega⟩
  case round=>
   obtain⟨d,hd,rfl,hb,ht⟩:=hrel;have Hb:=hid hb;clear hb;have Hbw:=hid (Hb1.out.trans (Hb.out.mono Hb1.out.size));by_cases hdn:d<n
   · have hdk:d<k.length:=by rw[Hl.out];exact hdn
     have hD:=hid (hW.out d wr hdn Hbw.out);have Hat:=hid (show zdy k d=if zbl k d=0 then none else some (zbl k d,d) from rfl);have h0:(0:Int)≤d:=by omega
     have h04:(d:Int)<(n:Int):=by omega
     generalize zbl k d=z at*;by_cases hz:z=0
     · rw[if_pos hz] at Hat;have Hr:=hid (ko ht.out Hat.out);have hn0:((z:Int) != 0)=false:=by rw[hz];rfl
       clear hz;go_wp2_with fail;refine hD.out.mono ?_;rintro e w2 ⟨rfl,hb2⟩;have Hb2:=hid (Hb.out.trans (hb2.mono Hb.out.size));clear hb2;go_wp2;go_roundw
       case rel=>exact⟨d+1,by omega,by go_num,Hb2.out,Hr.out⟩
       case measure=>simp[intOf];omega
     · rw[if_neg hz] at Hat;have Hr:=hid (jg hdk ht.out Hat.out);have hn0:((z:Int) != 0)=true:=by rw[bne_iff_ne];omega
       clear hz;go_wp2_with fail;refine hD.out.mono ?_;rintro e w2 ⟨rfl,hb2⟩;have Hb2:=hid (Hbw.out.trans (hb2.mono Hbw.out.size));clear hb2;go_wp2;go_ret2;exact⟨by rw[Hck.out,Hr.out];rfl,Hb2.out⟩
   · obtain rfl:d=n:=by omega
     have Hr:=hid (k7 (n:=k.length) (fun j hj=>ht.out j (by rw[←Hl.out];exact hj)));go_wp2;go_ret2;exact⟨by rw[Hck.out,Hr.out];rfl,Hbw.out⟩
theorem yaq (a:Option Addr) (n cap:Nat) (k:Kno) (w:World) (hE:Frags w a n cap k) (hv:∀f∈k,VecFits f.2) (hI:∀f∈k,f.1.length≤500):
 Calls Tryz.prog 25 #[.slice a n cap] w fun x w'=>x=.returned (.bool (decide (ckC k=none)))∧Below w.heap.size w w':=by
 have hC:=hid (yap a n cap k w hE hv hI);clear hE hv hI
 cases h:ckC k with
 | none=>
  rw[h] at hC;simp only[yj,qo,js] at hC;clear h;go_enter Tryz.func25,Tryz.ntmps25;go_wp2_with fail;refine hC.out.mono ?_;rintro e w1 ⟨rfl,hb1⟩;have Hb1:=hid hb1;clear hb1;go_wp2;go_ret
  exact⟨by simp,Hb1.out⟩
 | some x=>
  have hc0:=yao h;obtain⟨cd,i⟩:=x;rw[h] at hC;simp only[yj,qo,js] at hC;have hne:((cd:Int) == 0)=false:=by rw[beq_eq_false_iff_ne];simp at hc0;omega
  clear h hc0;go_enter Tryz.func25,Tryz.ntmps25;go_wp2_with fail;refine hC.out.mono ?_;rintro e w1 ⟨rfl,hb1⟩;have Hb1:=hid hb1;clear hb1;go_wp2;go_ret;exact⟨by simp,Hb1.out⟩
end
section
theorem yar {k:Kno} (h:∀i j,i<j→j<k.length→jy (za k i) (za k j)):k.Pairwise jy:=by
 rw[List.pairwise_iff_getElem];intro i j hi hj hij;have:=h i j hij hj;rwa [ym hi,ym hj] at this
theorem yas {k:Kno} (hl:∀f∈k,zq f.1∧LtV f.2) (h:ckC k=none):LtK k∧CanK k:=by
 have h1:ckF k=none:=by
  unfold ckC at h;split at h
  · cases h
  · assumption
 have hk:=zli hl h1;unfold ckC at h;rw[h1] at h
 have hw:∀i,i<k.length→zbl k i=0:=fun i hi=>by
  have:=zd5 h i hi;unfold zdy at this;split at this
  · assumption
  · cases this
 have hz:=fun i hi=>zx1.1 (hw i hi)
 have hstep:∀i,i+1<k.length→jy (za k i) (za k (i+1)):=fun i hi=>(hz (i+1) hi).2.2.2 (by omega)
 have hlt:∀j i,i<j→j<k.length→jy (za k i) (za k j):=fun j=>by
  induction j with
  | zero=>intro i h;omega
  | succ j ih=>
   intro i hij hj;rcases Nat.lt_or_ge i j with h | h
   · exact zgj (ih i h (by omega)) (hstep j hj)
   · rw[show i=j by omega];exact hstep j hj
 refine⟨hk,⟨fun f hf=>?_,fun f hf=>?_,fun f hf g hg x hx hy=>?_,yar fun i j hij hj=>hlt j i hij hj⟩⟩
 · obtain⟨i,hi,rfl⟩:=List.getElem_of_mem hf;rw[←ym hi];exact⟨((zez.1 h1) _ (yb hi)).1,(hz i hi).1.1⟩
 · obtain⟨i,hi,rfl⟩:=List.getElem_of_mem hf;rw[←ym hi];exact⟨znj.1 (hz i hi).2.1,(hz i hi).1.2⟩
 · obtain⟨i,hi,rfl⟩:=List.getElem_of_mem hf;obtain⟨j,hj,rfl⟩:=List.getElem_of_mem hg;rw[←ym hi,←ym hj] at*;rcases Nat.lt_trichotomy i j with h2 | h2 | h2
   · exact absurd ((hz j hj).2.2.1 i h2) ((zpn (hk _ (yb hj)).items (hk _ (yb hi)).items).2 ⟨x,hy,hx⟩)
   · rw[h2]
   · exact absurd ((hz i hi).2.2.1 j h2) ((zpn (hk _ (yb hi)).items (hk _ (yb hj)).items).2 ⟨x,hx,hy⟩)
end
section
open Go.RowKit
theorem yat {l:List Nat} (n p:Nat) (y y':Nat×Nat) (h:yr (l.take n) p=.ok y) (h':yr l p=.ok y'):y=y':=by
 rcases zo1 l n p with e | e
 · exact zi1 p y y' (e.symm.trans h) h'
 · rw[e] at h;cases h
theorem Byts.front {w:World} {a:Option Addr} {n cap:Nat} {l:List Nat} (h:Byts w a n cap l) {m:Nat} (hm:m≤n):Byts w a m cap (l.take m):=by
 refine⟨by rw[List.length_take,h.len];omega,fun x hx=>h.lt x (List.mem_of_mem_take hx),by have:=h.room;omega,h.most,h.nilc,fun hn=>?_⟩;obtain⟨b,o,e,hc⟩:=h.cells (by omega);refine⟨b,o,e,fun i hi=>?_⟩;have:=hc i (by omega);rwa [show nth (l.take m) i=nth l i by unfold nth;rw[List.getD_eq_getElem?_getD,List.getD_eq_getElem?_getD,List.getElem?_take_of_lt hi]]
theorem yau (c:Kno):0<(zo (zk c)).length:=by
 have h0:=zpo (zk c);have h1:=(zpq c c.length).1;have e:(zk c).length=(y8 c c.length).length+(1+3*(zj c).length):=by unfold zk;rw[List.length_append,zeb]
 omega
theorem yav {k:Kno} (hall:∀f∈k,zq f.1∧LtV f.2) (hf:zcy k=true) (hc:ckC k=none):EncK k:=by
 obtain⟨hs,h12,h240⟩:=zo5 hf;obtain⟨hk,hcan⟩:=yas hall hc;exact⟨hcan,hk,fun f hf=>⟨by have:=hs.vec f hf;omega,fun e he=>by have:=hs.holes f hf e he;omega⟩,by omega,by omega⟩
set_option maxRecDepth 100000 in
theorem yaw (a:Option Addr) (n cap:Nat) (k:Kno) (x:Nat) (am:Option Addr) (m cm:Nat) (t:List Nat) (w:World) (hE:Frags w a n cap k) (hx:x<65536) (hM:Byts w am m cm t) (hD:Door w):
 Calls Tryz.prog 6 #[.slice a n cap,.int .u16 x,.slice am m cm] w fun e w'=>e=.returned (.bool true)∧Below w.heap.size w w':=by
 have HD:=hid (fun W (h:Below w.heap.size w W)=>hD.below (Nat.le_refl _) h);have HA:=hid (fun W (h:Below w.heap.size w W)=>zl2 W (HD.out W h));have hF:=fun W (h:Below w.heap.size w W)=>zhe a n cap k W (hE.below h)
 have HE:=hid (fun W (h:Below w.heap.size w W)=>hE.below h);have HM:=hid (fun W (h:Below w.heap.size w W)=>hM.below h);have hall:=hE.all;have Hml:=hid hM.len;have Hmlt:=hid hM.lt;have hmm:m≤9223372036854775807:=Nat.le_trans hM.room hM.most;clear hE hM hD
 cases hf:zcy k with
 | false=>
  rw[hf] at hF;have HF:=hid hF;clear hF hf hall;go_enter Tryz.func6,Tryz.ntmps6;go_wp2_with fail;refine(HF.out _ (Below.refl _ _)).mono ?_;rintro e w1 ⟨rfl,hb1⟩;have Hb1:=hid hb1;clear hb1;go_wp2_with fail;refine(HA.out _ Hb1.out).mono ?_;rintro e w2 ⟨rfl,hb2⟩;have Hb2:=hid (Hb1.out.trans (hb2.mono Hb1.out.size));clear hb2;go_wp2_with fail;go_ret
  exact⟨rfl,Hb2.out⟩
 | true=>
 rw[hf] at hF;have HF:=hid hF;clear hF;obtain⟨hs,h12,h240⟩:=zo5 hf;have hv:∀f∈k,VecFits f.2:=fun f hf=>⟨by have:=hs.vec f hf;omega,fun e he=>by have:=hs.holes f hf e he;omega⟩
 have hRt:=fun W (h:Below w.heap.size w W)=>yaq a n cap k W (HE.out W h) hv (fun f hf=>by have:=hs.items f hf;omega)
 clear hs h12 h240 hv
 cases hc:decide (ckC k=none) with
 | false=>
  rw[hc] at hRt;have HR:=hid hRt;clear hRt hf hall hc;go_enter Tryz.func6,Tryz.ntmps6;go_wp2_with fail;refine(HF.out _ (Below.refl _ _)).mono ?_;rintro e w1 ⟨rfl,hb1⟩;have Hb1:=hid hb1;clear hb1;go_wp2_with fail;refine(HR.out _ Hb1.out).mono ?_;rintro e w2 ⟨rfl,hb2⟩;have Hb2:=hid (Hb1.out.trans (hb2.mono Hb1.out.size));clear hb2;go_wp2_with fail;refine(HA.out _ Hb2.out).mono ?_;rintro e w3 ⟨rfl,hb3⟩;have Hb3:=hid (Hb2.out.trans (hb3.mono Hb2.out.size));clear hb3;go_wp2_with fail;go_ret
  exact⟨rfl,Hb3.out⟩
 | true=>
 rw[hc] at hRt;have HR:=hid hRt;clear hRt;rw[decide_eq_true_eq] at hc;have hK:=yav hall hf hc;clear hf hall hc;by_cases h100:100<m
 · have hd:decide (100<(m:Int))=true:=by rw[decide_eq_true_iff];omega
   clear hK;go_enter Tryz.func6,Tryz.ntmps6;go_wp2_with fail;refine(HF.out _ (Below.refl _ _)).mono ?_;rintro e w1 ⟨rfl,hb1⟩;have Hb1:=hid hb1;clear hb1;go_wp2_with fail;refine(HR.out _ Hb1.out).mono ?_;rintro e w2 ⟨rfl,hb2⟩;have Hb2:=hid (Hb1.out.trans (hb2.mono Hb1.out.size));clear hb2;go_wp2_with fail;refine(HA.out _ Hb2.out).mono ?_;rintro e w3 ⟨rfl,hb3⟩;have Hb3:=hid (Hb2.out.trans (hb3.mono Hb2.out.size));clear hb3;go_wp2_with fail;go_ret;exact⟨rfl,Hb3.out⟩
 have hd:decide (100<(m:Int))=false:=by rw[decide_eq_false_iff_not];omega
 have hBy:=fun W (h:Below w.heap.size w W)=>zxy a n cap k W (HE.out W h) hK
 have hpos:=yau k;have hlen:=zjb hK;have hlen2:(zo (zk k)).length≤9000000000:=by have:=zih (zk k);have:=zpj hK;omega
 have hlt:=zhb (zk k);obtain⟨cw,hcut⟩:=z7p hlt (zed hK (zec hK)) (n:=x % (zo (zk k)).length) (Nat.mod_lt _ hpos);have hmore:=(zlv (L:=unl) hK.can hK t Hmlt.out).1 (zec hK);have hD1:=fun W b c (h:Byts W b (zo (zk k)).length c (zo (zk k))) (hd:Door W)=>zi8 b (x % (zo (zk k)).length) c _ k W (h.front (Nat.le_of_lt (Nat.mod_lt x hpos))) hd hK (Nat.lt_trans (Nat.mod_lt x hpos) hlen) (yat _)
 have hD2:=fun W b N c (h:Byts W b N c (zo (zk k)++t)) (hN:N=(zo (zk k)).length+m) (hd:Door W)=>zi8 b N c _ k W h hd hK (by have:=hlen2;omega) zw3
 have hmod:x % (zo (zk k)).length<(zo (zk k)).length:=Nat.mod_lt _ hpos
 have hJ:∀y W base,OwnB W base y (zk k)→∃b c,y=.slice b (zo (zk k)).length c∧Byts W b (zo (zk k)).length c (zo (zk k)):=fun y W base h=>by
  obtain⟨b,c,rfl,hB⟩:=zek h hlt;exact⟨b,c,rfl,hB⟩
 rw[hcut] at hD1;rw[hmore] at hD2;clear hcut hmore;have HBy:=hid hBy;have HJ:=hid hJ;have Hlt:=hid hlt;generalize zo (zk k)=L at*;obtain⟨M,hMe⟩:∃M,M=L.length:=⟨_,rfl⟩;rw[←hMe] at hD1 hD2 hpos hlen hmod HJ;clear hlen2;have HMe:=hid hMe;have hrem:(x:Int) % (M:Int)=((x % M:Nat):Int):=rfl;have hz:((M:Int) == 0)=false:=by rw[beq_eq_false_iff_ne];omega
 have hcx:IntKind.i64.wrap (x:Int)=(x:Int):=by rw[IntKind.wrap_i64];omega
 have Hrem:=hid hrem;clear hBy hJ hlt hMe hrem;generalize hre:x % M=r at*;have HRe:=hid hre;have HD1:=hid hD1;clear hD1 hre;by_cases hm0:m=0
 · have hdr:∀e W,zdv (if 0<t.length then .error (11,M) else .ok (k,M)) e W→∃aa cc,e=.returned (.tuple #[.slice aa k.length cc,.nilIface])∧Frags W aa k.length cc k:=fun e W h=>by
    rw[if_neg (by rw[Hml.out];omega)] at h;exact h
   have HD2:=hid (fun W b N c h hN hd=>(hD2 W b N c h hN hd).mono fun e w' ⟨h1,h2⟩=>(⟨h1,hdr e w' h2⟩:Below W.heap.size W w'∧_));have hm0':((m:Int) == 0)=true:=by rw[beq_iff_eq];omega
   clear hD2 hdr hm0;go_enter Tryz.func6,Tryz.ntmps6;go_wp2_with fail;refine(HF.out _ (Below.refl _ _)).mono ?_;rintro e w1 ⟨rfl,hb1⟩;have Hb1:=hid hb1;clear hb1;go_wp2_with fail;refine(HR.out _ Hb1.out).mono ?_;rintro e w2 ⟨rfl,hb2⟩;have Hb2:=hid (Hb1.out.trans (hb2.mono Hb1.out.size));clear hb2;go_wp2_with fail;refine(HBy.out _ Hb2.out).mono ?_;rintro e w3 ⟨⟨y,rfl,hy⟩,hb3⟩;obtain⟨b,c,rfl,hB⟩:=HJ.out _ _ _ hy;have HB:=hid (fun V (h:Below w3.heap.size w3 V)=>hB.below h);have hroom:=hB.room;have hmost:=hB.most;have hba:b=none→c=0:=hB.nilc;have Hb3:=hid (Hb2.out.trans (hb3.mono Hb2.out.size));clear hb3 hy hB
   obtain⟨bb,rfl⟩:∃bb,b=some bb:=by
    cases b with
    | none=>have:=hba rfl;omega
    | some bb=>exact⟨bb,rfl⟩
   clear hba;have hr0:(0:Int)≤(x:Int) % (M:Int):=by rw[Hrem.out];omega
   have hrc:(x:Int) % (M:Int)≤(c:Int):=by rw[Hrem.out];omega
   have hrn:x % M≤c:=by rw[HRe.out];omega
   go_wp2_with fail;rw[HRe.out];refine(HD1.out w3 _ _ (HB.out _ (Below.refl _ _)) (HD.out _ Hb3.out)).mono ?_;rintro e w4 ⟨hb4,rfl⟩;have HB4:=hid (fun V (h:Below w4.heap.size w4 V)=>HB.out V (hb4.trans (h.mono hb4.size)));have Hb4:=hid (Hb3.out.trans (hb4.mono Hb3.out.size));clear hb4;obtain⟨v5,w5,hr5,ho5,hb5⟩:=zx3 (some bb) M c L (HB4.out _ (Below.refl _ _)) (by omega);obtain⟨v6,w6,hr6,ho6,hg6⟩:=zge w4.heap.size v5 M _ ho5 am m cm t (HM.out w5 (Hb4.out.trans (hb5.mono Hb4.out.size))) (by omega) hb5.size;have hb6:Below w4.heap.size w4 w6:=hb5.grown hg6 hb5.size (fun k hk=>(ho5.lt k hk).1);rw[←zf8] at ho6;obtain⟨a6,c6,rfl,hB6⟩:=zek ho6 (fun z hz=>(List.mem_append.1 hz).elim (Hlt.out z) (Hmlt.out z));have HB6:=hid hB6;have Hb6:=hid (Hb4.out.trans (hb6.mono Hb4.out.size));have HB46:=hid (fun V (h:Below w6.heap.size w6 V)=>HB4.out V (hb6.trans (h.mono hb6.size)));clear hB6 ho6 hg6 ho5 hb5 hb6;go_wp2_with (first | (at_builtin;refine jf _ _ 27 rfl rfl _ _ rfl rfl _ _ hr5 ?_) | (at_builtin;refine jf _ _ 27 rfl rfl _ _ rfl rfl _ _ hr6 ?_));clear hr5 hr6;refine(HD2.out w6 _ _ _ HB6.out rfl (HD.out _ Hb6.out)).mono ?_;rintro e w7 ⟨hb7,a7,c7,rfl,hK7⟩;have HK7:=hid (fun V (h:Below w7.heap.size w7 V)=>hK7.below h);have Hb7:=hid (Hb6.out.trans (hb7.mono Hb6.out.size));clear hb7 hK7;unfold za0;go_wp2_with fail;refine(HA.out _ Hb7.out).mono ?_;rintro e w8 ⟨rfl,hb8⟩;have HK8:=hid (fun V (h:Below w8.heap.size w8 V)=>HK7.out V (hb8.trans (h.mono hb8.size)));have Hb8:=hid (Hb7.out.trans (hb8.mono Hb7.out.size));clear hb8;go_wp2_with fail;refine(zci (some (5,some (cw:Int))) _ (HD.out _ Hb8.out)).mono ?_;rintro e w9 ⟨rfl,hb9⟩;have HK9:=hid (HK8.out _ hb9);have Hb9:=hid (Hb8.out.trans (hb9.mono Hb8.out.size));clear hb9;simp only[qo];go_wp2_with fail;have hS:=zl0 a7 a k.length c7 n cap k k w9 HK9.out (HE.out _ Hb9.out);rw[decide_eq_true rfl] at hS;refine hS.mono ?_;clear hS;rintro e w10 ⟨rfl,hb10⟩;have Hb10:=hid (Hb9.out.trans (hb10.mono Hb9.out.size));clear hb10;go_wp2_with fail;go_ret;exact⟨rfl,Hb10.out⟩
 · have hdr:∀e W,zdv (if 0<t.length then .error (11,M) else .ok (k,M)) e W→e=.returned (.tuple #[.slice none 0 0,za0 11 M]):=fun e W h=>by
    rw[if_pos (by rw[Hml.out];omega)] at h;exact h
   have HD2:=hid (fun W b N c h hN hd=>(hD2 W b N c h hN hd).mono fun e w' ⟨h1,h2⟩=>(⟨h1,hdr e w' h2⟩:Below W.heap.size W w'∧_));have hm0':((m:Int) == 0)=false:=by rw[beq_eq_false_iff_ne];omega
   clear hD2 hdr;go_enter Tryz.func6,Tryz.ntmps6;go_wp2_with fail;refine(HF.out _ (Below.refl _ _)).mono ?_;rintro e w1 ⟨rfl,hb1⟩;have Hb1:=hid hb1;clear hb1;go_wp2_with fail;refine(HR.out _ Hb1.out).mono ?_;rintro e w2 ⟨rfl,hb2⟩;have Hb2:=hid (Hb1.out.trans (hb2.mono Hb1.out.size));clear hb2;go_wp2_with fail;refine(HBy.out _ Hb2.out).mono ?_;rintro e w3 ⟨⟨y,rfl,hy⟩,hb3⟩;obtain⟨b,c,rfl,hB⟩:=HJ.out _ _ _ hy;have HB:=hid (fun V (h:Below w3.heap.size w3 V)=>hB.below h);have hroom:=hB.room;have hmost:=hB.most;have hba:b=none→c=0:=hB.nilc;have Hb3:=hid (Hb2.out.trans (hb3.mono Hb2.out.size));clear hb3 hy hB
   obtain⟨bb,rfl⟩:∃bb,b=some bb:=by
    cases b with
    | none=>have:=hba rfl;omega
    | some bb=>exact⟨bb,rfl⟩
   clear hba;have hr0:(0:Int)≤(x:Int) % (M:Int):=by rw[Hrem.out];omega
   have hrc:(x:Int) % (M:Int)≤(c:Int):=by rw[Hrem.out];omega
   have hrn:x % M≤c:=by rw[HRe.out];omega
   go_wp2_with fail;rw[HRe.out];refine(HD1.out w3 _ _ (HB.out _ (Below.refl _ _)) (HD.out _ Hb3.out)).mono ?_;rintro e w4 ⟨hb4,rfl⟩;have HB4:=hid (fun V (h:Below w4.heap.size w4 V)=>HB.out V (hb4.trans (h.mono hb4.size)));have Hb4:=hid (Hb3.out.trans (hb4.mono Hb3.out.size));clear hb4;obtain⟨v5,w5,hr5,ho5,hb5⟩:=zx3 (some bb) M c L (HB4.out _ (Below.refl _ _)) (by omega);obtain⟨v6,w6,hr6,ho6,hg6⟩:=zge w4.heap.size v5 M _ ho5 am m cm t (HM.out w5 (Hb4.out.trans (hb5.mono Hb4.out.size))) (by omega) hb5.size;have hb6:Below w4.heap.size w4 w6:=hb5.grown hg6 hb5.size (fun k hk=>(ho5.lt k hk).1);rw[←zf8] at ho6;obtain⟨a6,c6,rfl,hB6⟩:=zek ho6 (fun z hz=>(List.mem_append.1 hz).elim (Hlt.out z) (Hmlt.out z));have HB6:=hid hB6;have Hb6:=hid (Hb4.out.trans (hb6.mono Hb4.out.size));have HB46:=hid (fun V (h:Below w6.heap.size w6 V)=>HB4.out V (hb6.trans (h.mono hb6.size)));clear hB6 ho6 hg6 ho5 hb5 hb6;go_wp2_with (first | (at_builtin;refine jf _ _ 27 rfl rfl _ _ rfl rfl _ _ hr5 ?_) | (at_builtin;refine jf _ _ 27 rfl rfl _ _ rfl rfl _ _ hr6 ?_));clear hr5 hr6;refine(HD2.out w6 _ _ _ HB6.out rfl (HD.out _ Hb6.out)).mono ?_;rintro e w7 ⟨hb7,rfl⟩;have Hb7:=hid (Hb6.out.trans (hb7.mono Hb6.out.size));clear hb7;unfold za0;go_wp2_with fail;refine(HA.out _ Hb7.out).mono ?_;rintro e w8 ⟨rfl,hb8⟩;have Hb8:=hid (Hb7.out.trans (hb8.mono Hb7.out.size));clear hb8;go_wp2_with fail;refine(zci (some (5,some (cw:Int))) _ (HD.out _ Hb8.out)).mono ?_;rintro e w9 ⟨rfl,hb9⟩;have Hb9:=hid (Hb8.out.trans (hb9.mono Hb8.out.size));clear hb9;simp only[qo];go_wp2_with fail;refine(zci (some (11,some (M:Int))) _ (HD.out _ Hb9.out)).mono ?_;rintro e w10 ⟨rfl,hb10⟩;have Hb10:=hid (Hb9.out.trans (hb10.mono Hb9.out.size));clear hb10;simp only[qo];go_wp2_with fail;refine(zio (some (11,some (M:Int))) _ (HD.out _ Hb10.out)).mono ?_;rintro e w11 ⟨rfl,hb11⟩;have Hb11:=hid (Hb10.out.trans (hb11.mono Hb10.out.size));clear hb11;simp only[js];go_wp2_with fail;go_ret;exact⟨rfl,Hb11.out⟩
end
end Go.Proofs.YtdnjfnofjaoajaaGreatDoor
