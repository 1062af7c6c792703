/- Part 40. -/
import Derived.Test.YtmfhggnlainmiaaGreatDoorPk05
set_option linter.unusedVariables false
set_option maxHeartbeats 16000000
namespace Go.Proofs.YtmfhggnlainmiaaGreatDoor
open Lib (hid)
section
open Go.RowKit
theorem yex (x y z u:Nat) (w:World):(Op.equalIn 10000 135 (.agg #[.int .u64 (x:Int),.int .u64 (y:Int)]) (.agg #[.int .u64 (z:Int),.int .u64 (u:Int)])).run Tryz.prog w=.ok (decide (x=z) && decide (y=u)) w:=by
 have u3:=Tryz.underlying64;have a3:∀w,(isAgg 64).run Tryz.prog w=.ok false w:=fun w=>by simp[isAgg,run_underlying u3]
 have z3:∀w,(sizeOf 64).run Tryz.prog w=.ok 1 w:=fun w=>by kernel_rfl
 have hS:Tryz.prog.underlying 135=some (.struct (Tryz.prog.fieldsOf 135)):=by kernel_rfl
 have hp:Tryz.prog.stoodInHeld 135=false:=by kernel_rfl
 rw[show (10000:Nat)=9999+1 from rfl,run_equalIn_agg w 9999 135 _ _ hS hp];simp only[Program.fieldsOf,Tryz.underlying135];go_simp;by_cases h1:x=z <;> by_cases h2:y=u <;> simp[h1,h2] <;> omega
theorem yey {l l':List Iv} {k:Nat} (h:l.take k=l'.take k) (hk:k<l.length) (hk':k<l'.length) (e:zb l k=zb l' k):l.take (k+1)=l'.take (k+1):=by
 rw[List.take_succ_eq_append_getElem hk,List.take_succ_eq_append_getElem hk',h,←jg hk,←jg hk',e]
theorem yez {l l':List Iv} {k:Nat} (e:zb l k≠zb l' k):l≠l':=fun h=>e (by rw[h])
theorem z1r (a a':Option Addr) (n cap n' cap':Nat) (l l':List Iv) (w:World) (hI:Ivs w a n cap l) (hI':Ivs w a' n' cap' l'):
 Calls Tryz.prog 90 #[.slice a n cap,.slice a' n' cap'] w fun e w'=>e=.returned (.bool (decide (l=l')))∧Below w.heap.size w w':=by
 have HI:=hid hI;have HI':=hid hI';have Hl:=hid hI.len;have Hl':=hid hI'.len;have hm:n≤9223372036854775807:=Nat.le_trans hI.room hI.most;by_cases hnn:n=n'
 · subst hnn;clear hI hI';have hnb:((n:Int) != (n:Int))=false:=by simp
   go_enter Tryz.func90,Tryz.ntmps90;go_wp2;go_loopw [5] (fun i wr=>∃k q:Nat,k≤n∧i=.int .i64 k∧wr=w.drewN q∧Hid (l.take k=l'.take k)) (fun i _=>n - (intOf i).toNat)
   case atStart=>exact⟨0,0,by omega,rfl,rfl,rfl⟩
   case round=>
    obtain⟨k,q,hk,rfl,rfl,ht⟩:=hrel;by_cases hkn:k<n
    · obtain⟨cb,co,rfl,hcell⟩:=HI.out.cells (by omega);obtain⟨cb',co',rfl,hcell'⟩:=HI'.out.cells (by omega);obtain⟨c1,c2⟩:=hcell k hkn;obtain⟨c1',c2'⟩:=hcell' k hkn;clear hcell hcell';have h0:(0:Int)≤k:=by omega
      have h04:(k:Int)<(n:Int):=by omega
      have hkl:k<l.length:=by rw[Hl.out];exact hkn
      have hkl':k<l'.length:=by rw[Hl'.out];exact hkn
      have He:=hid (fun e=>yey ht.out hkl hkl' e);have Hn:=hid (fun e=>yez (l:=l) (l':=l') (k:=k) e);clear hkl hkl';generalize zb l k=s at*;generalize zb l' k=t at*;obtain⟨x,y⟩:=s;obtain⟨z,u⟩:=t;have heq:=yex x y z u;simp only at c1 c2 c1' c2';by_cases e:x=z∧y=u
      · obtain⟨rfl,rfl⟩:=e;have Ht:=hid (He.out rfl);simp only[decide_true,Bool.and_self] at heq;clear He Hn;go_wp2;go_quiet (fail);go_wp2;go_roundw
        case rel=>exact⟨k+1,_,by omega,by go_num,rfl,Ht.out⟩
        case measure=>simp[intOf];omega
      · have Hne:=hid (Hn.out (by intro h;cases h;exact e ⟨rfl,rfl⟩))
        have eb:(decide (x=z) && decide (y=u))=false:=by
         rw[Bool.eq_false_iff];intro h;rw[Bool.and_eq_true,decide_eq_true_iff,decide_eq_true_iff] at h;exact e h
        simp only[eb] at heq;clear He Hn eb e;go_wp2;go_quiet (fail);go_wp2;go_ret;exact⟨zd5 (by rw[decide_eq_false Hne.out]),by first | exact z7 (Below.refl _ _) _ | exact z7 (z7 (Below.refl _ _) _) _⟩
    · obtain rfl:k=n:=by omega
      have h1:=ht.out;rw[List.take_of_length_le (by rw[Hl.out];omega),List.take_of_length_le (by rw[Hl'.out];omega)] at h1;have H1:=hid h1;clear h1;go_wp2;go_ret;exact⟨zd5 (by rw[decide_eq_true H1.out]),z7 (Below.refl _ _) _⟩
 · have hnb:((n:Int) != (n':Int))=true:=by rw[bne_iff_ne];omega
   have hne:=hid (show l≠l' from fun h=>hnn (by rw[←hI.len,←hI'.len,h]));clear hI hI' HI HI' Hl Hl';go_enter Tryz.func90,Tryz.ntmps90;go_wp2;go_ret;exact⟨zd5 (by rw[decide_eq_false hne.out]),Below.refl _ _⟩
theorem ye0 (e f:Ent) (a d:Option Addr) (n c m k:Nat) (w:World) (hI:Ivs w a n c e.2.2) (hJ:Ivs w d m k f.2.2):
 Calls Tryz.prog 150 #[zbm e (.slice a n c),zbm f (.slice d m k)] w fun x w'=>x=.returned (.bool (decide (e=f)))∧Below w.heap.size w w':=by
 obtain⟨r,x,hs⟩:=e;obtain⟨r',x',hs'⟩:=f;simp only at hI hJ;obtain⟨W1,hW1⟩:∃W1,W1=w.alloc (.cells #[.int .u64 r,.int .u64 x,.slice a n c] 137):=⟨_,rfl⟩;have hal:Below w.heap.size w W1:=by rw[hW1];exact(Below.refl _ _).alloc (Nat.le_refl _) _
 have hsz:W1.heap.size=w.heap.size+1:=by rw[hW1];simp
 have hal2:Below W1.heap.size W1 (W1.alloc (.cells #[.int .u64 r',.int .u64 x',.slice d m k] 137)):=(Below.refl _ _).alloc (Nat.le_refl _) _;obtain⟨q0,q1,q2⟩:=zd7 w (.int .u64 r) (.int .u64 x) (.slice a n c) 137 (W1.alloc (.cells #[.int .u64 r',.int .u64 x',.slice d m k] 137)) (hW1 ▸ hal2);obtain⟨q3,q4,q5⟩:=zd7 W1 (.int .u64 r') (.int .u64 x') (.slice d m k) 137 _ (Below.refl _ _);have HA:=hid (hal.trans (hal2.mono hal.size));have hC:=hid (z1r a d n c m k hs hs' _ (hI.below HA.out) (hJ.below HA.out));rw[hW1] at q0 q1 q2 q3 q4 q5 HA hC;simp only[World.size_alloc] at q3 q4 q5
 have hdec:decide (((r,x,hs):Ent)=(r',x',hs'))=((decide (r=r') && decide (x=x')) && decide (hs=hs')):=by
  rw[Bool.eq_iff_iff];simp[and_assoc]
 rw[hdec];clear hI hJ hal hal2 hsz hdec hW1;generalize decide (hs=hs')=b at*;by_cases h1:r=r'
 · subst h1;by_cases h2:x=x'
   · subst h2;have d1:True:=trivial;have d2:True:=trivial;go_enter Tryz.func150,Tryz.ntmps150;go_wp2_with fail;refine hC.out.mono ?_;rintro e w1 ⟨rfl,hb1⟩;have Hb1:=hid hb1;clear hb1;go_wp2;go_ret;exact⟨by simp,HA.out.trans (Hb1.out.mono HA.out.size)⟩
   · have d1:True:=trivial;have d2:decide (x=x')=false:=by simpa using h2
     have t2:(((x:Nat):Int) == ((x':Nat):Int))=false:=by rw[beq_eq_false_iff_ne];omega
     clear h2;go_enter Tryz.func150,Tryz.ntmps150;go_wp2;go_ret;exact⟨by simp[d2],HA.out⟩
 · have d1:decide (r=r')=false:=by simpa using h1
   have t1:(((r:Nat):Int) == ((r':Nat):Int))=false:=by rw[beq_eq_false_iff_ne];omega
   clear h1;go_enter Tryz.func150,Tryz.ntmps150;go_wp2;go_ret;exact⟨by simp[d1],HA.out⟩
set_option maxRecDepth 20000 in
theorem ye1 (a d:Option Addr) (n c n' c':Nat) (v u:Vec) (w:World) (hE:Ents w a n c v) (hF:Ents w d n' c' u):
 Calls Tryz.prog 91 #[.slice a n c,.slice d n' c'] w fun x w'=>x=.returned (.bool (decide (v=u)))∧Below w.heap.size w w':=by
 have HE:=hid hE;have HF:=hid hF;have Hl:=hid hE.len;have Hl':=hid hF.len;have hm:n≤9223372036854775807:=Nat.le_trans hE.room hE.most;have hm':n'≤9223372036854775807:=Nat.le_trans hF.room hF.most;clear hE hF;by_cases hne:n=n'
 · subst hne;have hz:((n:Int) != (n:Int))=false:=by simp
   go_enter Tryz.func91,Tryz.ntmps91;go_wp2;go_loopw [5] (fun i wr=>∃k:Nat,k≤n∧i=.int .i64 k∧Below w.heap.size w wr∧Hid (∀j,j<k→zg v j=zg u j)) (fun i _=>n - (intOf i).toNat)
   case atStart=>exact⟨0,by omega,rfl,Below.refl _ _,fun j h=>by omega⟩
   case round=>
    obtain⟨k,hk,rfl,hb,ht⟩:=hrel;have Hb:=hid hb;clear hb;by_cases hkn:k<n
    · have HEr:=hid (HE.out.below Hb.out);have HFr:=hid (HF.out.below Hb.out);obtain⟨bb,oo,rfl⟩:=HEr.out.some (by omega);obtain⟨bd,od,rfl⟩:=HFr.out.some (by omega);obtain⟨x,m,e,hq⟩:=HEr.out.fix hkn;obtain⟨y,m',e',hp⟩:=HFr.out.fix hkn;have Hq:=hid hq;have Hp:=hid hp;have hC:=hid (fun w' (h:Below wr.heap.size wr w')=>ye0 (zg v k) (zg u k) x y m e m' e' w' (hq w' h).2.2.2 (hp w' h).2.2.2)
      have Hst:=hid (show decide (zg v k=zg u k)=true→∀j,j<k+1→zg v j=zg u j from fun h j hj=>by
       by_cases e:j=k
       · rw[e];exact of_decide_eq_true h
       · exact ht.out j (by omega))
      have Hno:=hid (show decide (zg v k=zg u k)=false→v≠u from fun h h2=>by rw[h2] at h;simp at h);have h0:(0:Int)≤k:=by omega
      have h04:(k:Int)<(n:Int):=by omega
      clear hq hp;generalize decide (zg v k=zg u k)=dd at*;generalize zg v k=f at*;generalize zg u k=g at*;obtain⟨fr,fm,fh⟩:=f;obtain⟨gr,gm,gh⟩:=g;simp only at Hq Hp;go_wp2_with fail;go_cut [26] (fun t wc=>t=.bool (!dd)∧Hid (Below wr.heap.size wr wc))
      case first=>
       refine jl (by kernel_rfl) (by kernel_rfl) ?_
       repeat (go_big_quiet_step ((intro hw;first
        | rfl
        | (have q0:=Hq.out _ hw
           have q1:=q0.1;have q2:=q0.2.1;have q3:=q0.2.2.1;have p0:=Hp.out _ hw;have p1:=p0.1;have p2:=p0.2.1;have p3:=p0.2.2.1;clear q0 p0
           go_at_call 150;exact jt hw (hC.out _ hw))
        | (have q0:=Hq.out _ hw
           have q1:=q0.1;have q2:=q0.2.1;have q3:=q0.2.2.1;have p0:=Hp.out _ hw;have p1:=p0.1;have p2:=p0.2.1;have p3:=p0.2.2.1;clear q0 p0;go_simp;first | rfl | exact⟨rfl,hw⟩ | (trace_state;fail)))))
       refine wpQuiet_nil ?_;intro w3 hb3;go_wp2;go_meet
       exact⟨rfl,hb3⟩
      case rest=>
       obtain⟨rfl,hb2⟩:=hcut;have Hb2:=hid (Hb.out.trans (hb2.out.mono Hb.out.size));clear hb2
       cases dd with
       | true=>
        have Hs:=hid (Hst.out rfl);rw[Bool.not_true];go_wp2;go_roundw
        case rel=>exact⟨k+1,by omega,by go_num,Hb2.out,Hs.out⟩
        case measure=>simp[intOf];omega
       | false=>
        have Hs:=hid (show decide (v=u)=false from by rw[decide_eq_false_iff_not];exact Hno.out rfl);rw[Bool.not_false];go_wp2;go_ret;exact⟨by rw[Hs.out];rfl,Hb2.out⟩
    · obtain rfl:k=n:=by omega
      have Hs:=hid (show decide (v=u)=true from by
       rw[decide_eq_true_iff];refine List.ext_getElem (by rw[Hl.out,Hl'.out]) fun i h1 h2=>?_
       have:=ht.out i (by rw[←Hl.out];exact h1);rwa [j0 h1,j0 h2] at this)
      go_wp2;go_ret;exact⟨by rw[Hs.out];rfl,Hb.out⟩
 · have hz:((n:Int) != (n':Int))=true:=by rw[bne_iff_ne];omega
   have Hs:=hid (show decide (v=u)=false from by
    rw[decide_eq_false_iff_not];intro h;apply hne;rw[←Hl.out,←Hl'.out,h])
   clear hne;go_enter Tryz.func91,Tryz.ntmps91;go_wp2;go_ret;exact⟨by rw[Hs.out];rfl,Below.refl _ _⟩
set_option maxRecDepth 20000 in
theorem zpi (a d:Option Addr) (n c n' c':Nat) (v u:Kno) (w:World) (hE:Frags w a n c v) (hF:Frags w d n' c' u):
 Calls Tryz.prog 44 #[.slice a n c,.slice d n' c'] w fun x w'=>x=.returned (.bool (decide (v=u)))∧Below w.heap.size w w':=by
 have HE:=hid hE;have HF:=hid hF;have Hl:=hid hE.len;have Hl':=hid hF.len;have hm:n≤9223372036854775807:=Nat.le_trans hE.room hE.most;have hm':n'≤9223372036854775807:=Nat.le_trans hF.room hF.most;clear hE hF;by_cases hne:n=n'
 · subst hne;have hz:((n:Int) != (n:Int))=false:=by simp
   go_enter Tryz.func44,Tryz.ntmps44;go_wp2;go_loopw [5] (fun i wr=>∃k:Nat,k≤n∧i=.int .i64 k∧Below w.heap.size w wr∧Hid (∀j,j<k→za v j=za u j)) (fun i _=>n - (intOf i).toNat)
   case atStart=>exact⟨0,by omega,rfl,Below.refl _ _,fun j h=>by omega⟩
   case round=>
    obtain⟨k,hk,rfl,hb,ht⟩:=hrel;have Hb:=hid hb;clear hb;by_cases hkn:k<n
    · have HEr:=hid (HE.out.below Hb.out);have HFr:=hid (HF.out.below Hb.out);obtain⟨bb,oo,rfl⟩:=HEr.out.some (by omega);obtain⟨bd,od,rfl⟩:=HFr.out.some (by omega);obtain⟨x1,m1,e1,x2,m2,e2,hq⟩:=HEr.out.fix hkn;obtain⟨y1,l1,f1,y2,l2,f2,hp⟩:=HFr.out.fix hkn;have Hq:=hid hq;have Hp:=hid hp;have hC:=hid (fun w' (h:Below wr.heap.size wr w')=>z1r x1 y1 m1 e1 l1 f1 (za v k).1 (za u k).1 w' (hq w' h).2.1 (hp w' h).2.1);have hD:=hid (fun w' (h:Below wr.heap.size wr w')=>ye1 x2 y2 m2 e2 l2 f2 (za v k).2 (za u k).2 w' (hq w' h).2.2.2 (hp w' h).2.2.2)
      have Hst:=hid (show decide ((za v k).1=(za u k).1)=true→decide ((za v k).2=(za u k).2)=true→∀j,j<k+1→za v j=za u j from fun h h2 j hj=>by
       by_cases e:j=k
       · rw[e];exact Prod.ext (of_decide_eq_true h) (of_decide_eq_true h2)
       · exact ht.out j (by omega))
      have Hno1:=hid (show decide ((za v k).1=(za u k).1)=false→v≠u from fun h h2=>by rw[h2] at h;simp at h);have Hno2:=hid (show decide ((za v k).2=(za u k).2)=false→v≠u from fun h h2=>by rw[h2] at h;simp at h);have h0:(0:Int)≤k:=by omega
      have h04:(k:Int)<(n:Int):=by omega
      clear hq hp;generalize decide ((za v k).1=(za u k).1)=d1 at*;generalize decide ((za v k).2=(za u k).2)=d2 at*;generalize za v k=f at*;generalize za u k=g at*;go_wp2_with fail;go_cut [42] (fun t wc=>t=.bool (!d1 || !d2)∧Hid (Below wr.heap.size wr wc))
      case first=>
       refine jl (by kernel_rfl) (by kernel_rfl) ?_;cases d1 <;>
       (repeat (go_big_quiet_step ((intro hw;first
         | rfl
         | (have q0:=Hq.out _ hw
            have q1:=q0.1;have q2:=q0.2.2.1;have p0:=Hp.out _ hw;have p1:=p0.1;have p2:=p0.2.2.1;clear q0 p0
            first
            | (go_at_call 90;exact jt hw (hC.out _ hw))
            | (go_at_call 91;exact jt hw (hD.out _ hw))
            | (go_simp
               first | rfl | exact⟨rfl,hw⟩ | (trace_state;fail)))))))
       all_goals
        refine wpQuiet_nil ?_;intro w3 hb3;go_wp2;go_meet
        exact⟨rfl,hb3⟩
      case rest=>
       obtain⟨rfl,hb2⟩:=hcut;have Hb2:=hid (Hb.out.trans (hb2.out.mono Hb.out.size));clear hb2
       cases d1 with
       | false=>
        have Hs:=hid (show decide (v=u)=false from by rw[decide_eq_false_iff_not];exact Hno1.out rfl);rw[Bool.not_false,Bool.true_or];clear Hno1 Hno2 Hst;go_wp2;go_ret
        exact⟨by rw[Hs.out];rfl,Hb2.out⟩
       | true=>
        cases d2 with
        | true=>
         have Hs:=hid (Hst.out rfl rfl);rw[Bool.not_true,Bool.false_or];clear Hno1 Hno2 Hst;go_wp2;go_roundw
         case rel=>exact⟨k+1,by omega,by go_num,Hb2.out,Hs.out⟩
         case measure=>simp[intOf];omega
        | false=>
         have Hs:=hid (show decide (v=u)=false from by rw[decide_eq_false_iff_not];exact Hno2.out rfl);rw[Bool.not_true,Bool.not_false,Bool.false_or];clear Hno1 Hno2 Hst;go_wp2;go_ret;exact⟨by rw[Hs.out];rfl,Hb2.out⟩
    · obtain rfl:k=n:=by omega
      have Hs:=hid (show decide (v=u)=true from by
       rw[decide_eq_true_iff];refine List.ext_getElem (by rw[Hl.out,Hl'.out]) fun i h1 h2=>?_
       have:=ht.out i (by rw[←Hl.out];exact h1);rwa [qm h1,qm h2] at this)
      go_wp2;go_ret;exact⟨by rw[Hs.out];rfl,Hb.out⟩
 · have hz:((n:Int) != (n':Int))=true:=by rw[bne_iff_ne];omega
   have Hs:=hid (show decide (v=u)=false from by
    rw[decide_eq_false_iff_not];intro h;apply hne;rw[←Hl.out,←Hl'.out,h])
   clear hne;go_enter Tryz.func44,Tryz.ntmps44;go_wp2;go_ret;exact⟨by rw[Hs.out];rfl,Below.refl _ _⟩
