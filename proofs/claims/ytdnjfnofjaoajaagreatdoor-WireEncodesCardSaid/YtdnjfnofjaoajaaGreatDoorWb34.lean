/- Walks and laws, joined: Wb34. -/
import Derived.Test.YtdnjfnofjaoajaaGreatDoorWb31
import Derived.Test.YtdnjfnofjaoajaaGreatDoorWb33
set_option linter.unusedVariables false
set_option maxHeartbeats 16000000
namespace Go.Proofs.YtdnjfnofjaoajaaGreatDoor
open Lib (hid)
section
open Go.RowKit
theorem z79 {l l':List Nat} {k:Nat} (h:l.take k=l'.take k) (hk:k<l.length) (hk':k<l'.length) (e:nth l k=nth l' k):l.take (k+1)=l'.take (k+1):=by
 rw[zmf l k hk,zmf l' k hk',h,e]
theorem z8a {l l':List Nat} {k:Nat} (e:nth l k≠nth l' k):l≠l':=fun h=>e (by rw[h])
theorem zo6 (w:World) (b n:Nat) (C:Array Value) (l:List Nat) (T:TypeId) (fr:Nat×Nat) (hb:b=w.heap.size) (hn:l.length=n) (hC:C=(u8s l).toArray) (hl:∀x∈l,x<256) (hm:n≤9223372036854775807):
 Byts (w.alloc (.cells C T fr)) (some ⟨b,0,none⟩) n n l:=by
 subst hb hC;refine⟨hn,hl,Nat.le_refl _,hm,(by intro h;cases h),fun _=>⟨_,_,rfl,fun i hi=>?_⟩⟩;rw[World.cell?_alloc_mark];have hi':i<l.length:=by omega
 simp[u8s,nth,hi']
theorem zi7 (a a':Option Addr) (n cap n' cap':Nat) (l l':List Nat) (w:World) (hB:Byts w a n cap l) (hB':Byts w a' n' cap' l') (r:Bool) (hr:r=decide (l=l')):
 Calls Tryz.prog 19 #[.slice a n cap,.slice a' n' cap'] w fun e w'=>e=.returned (.bool r)∧∃q,w'=w.drewN q:=by
 obtain⟨hn,hlt,hnc,hcm,hnil,hc⟩:=hB;clear hnil;have hm:n≤9223372036854775807:=by omega
 obtain⟨hn',hlt',hnc',hcm',hnil',hc'⟩:=hB';clear hnil';have hm':n'≤9223372036854775807:=by omega
 by_cases hnn:n=n'
 · subst hnn;have Hn:=hid hn;clear hn;have Hn':=hid hn';clear hn';have Hlt:=hid hlt;clear hlt;have Hlt':=hid hlt';clear hlt';have Hc:=hid hc;clear hc;have Hc':=hid hc';clear hc';have Hr:=hid hr;clear hr;have hnb:((n:Int) != (n:Int))=false:=by simp
   go_enter Tryz.func19,Tryz.ntmps19;go_wp2;go_loopw [4,5,13] (fun _ _ i wr=>∃k q:Nat,k≤n∧i=.int .i64 k∧wr=w.drewN q∧Hid (l.take k=l'.take k)) (fun _ _ i _=>n - (intOf i).toNat)
   case atStart=>exact⟨0,0,by omega,rfl,rfl,rfl⟩
   case round=>
    obtain⟨k,q,hk,rfl,rfl,ht⟩:=hrel;by_cases hkn:k<n
    · obtain⟨cb,co,rfl,hcell⟩:=Hc.out (by omega);obtain⟨cb',co',rfl,hcell'⟩:=Hc'.out (by omega);have hc:=hcell k hkn;have hc':=hcell' k hkn;clear hcell hcell';have h0:(0:Int)≤k:=by omega
      by_cases he:nth l k=nth l' k
      · have Ht:=hid (z79 ht.out (by rw[Hn.out];exact hkn) (by rw[Hn'.out];exact hkn) he);rw[he] at hc;generalize nth l' k=c at*;clear he;go_wp2;go_quiet (fail);go_wp2;go_roundw
        case rel=>exact⟨k+1,_,by omega,by go_num,rfl,Ht.out⟩
        case measure=>simp[intOf];omega
      · have hne:(((nth l k:Nat):Int) != ((nth l' k:Nat):Int))=true:=by rw[bne_iff_ne];omega
        have Hne:=hid (z8a he);generalize nth l k=c at*;generalize nth l' k=c' at*;clear he;go_wp2;go_quiet (fail);go_wp2;go_ret;refine⟨?_,_,World.drewN_drewN _ _ _⟩;have:=Hr.out;rw[decide_eq_false Hne.out] at this;rw[this]
        rfl
    · obtain rfl:k=n:=by omega
      go_wp2;go_ret;refine⟨?_,_,rfl⟩;have h1:=ht.out;rw[List.take_of_length_le (by rw[Hn.out];omega),List.take_of_length_le (by rw[Hn'.out];omega)] at h1;have:=Hr.out;rw[decide_eq_true h1] at this;rw[this]
      rfl
 · have hnb:((n:Int) != (n':Int))=true:=by rw[bne_iff_ne];omega
   have hne:l≠l':=fun h=>hnn (by rw[←hn,←hn',h])
   rw[decide_eq_false hne] at hr;subst hr;clear hn hn' hlt hlt' hc hc' hne;go_enter Tryz.func19,Tryz.ntmps19;go_wp2;go_ret;exact⟨rfl,0,rfl⟩
theorem z8b (x y z u:Nat) (w:World):(Op.equalIn 10000 99 (.agg #[.int .u64 (x:Int),.int .u64 (y:Int)]) (.agg #[.int .u64 (z:Int),.int .u64 (u:Int)])).run Tryz.prog w=.ok (decide (x=z) && decide (y=u)) w:=by
 have u3:=Tryz.underlying52;have a3:∀w,(isAgg 52).run Tryz.prog w=.ok false w:=fun w=>by simp[isAgg,run_underlying u3]
 have z3:∀w,(sizeOf 52).run Tryz.prog w=.ok 1 w:=fun w=>by kernel_rfl
 have hS:Tryz.prog.underlying 99=some (.struct (Tryz.prog.fieldsOf 99)):=by kernel_rfl
 have hp:Tryz.prog.stoodInHeld 99=false:=by kernel_rfl
 rw[show (10000:Nat)=9999+1 from rfl,run_equalIn_agg w 9999 99 _ _ hS hp];simp only[Program.fieldsOf,Tryz.underlying99];go_simp;by_cases h1:x=z <;> by_cases h2:y=u <;> simp[h1,h2] <;> omega
theorem z8c {l l':List Iv} {k:Nat} (h:l.take k=l'.take k) (hk:k<l.length) (hk':k<l'.length) (e:zb l k=zb l' k):l.take (k+1)=l'.take (k+1):=by
 rw[List.take_succ_eq_append_getElem hk,List.take_succ_eq_append_getElem hk',h,←qf hk,←qf hk',e]
theorem z8d {l l':List Iv} {k:Nat} (e:zb l k≠zb l' k):l≠l':=fun h=>e (by rw[h])
theorem zw1 (a a':Option Addr) (n cap n' cap':Nat) (l l':List Iv) (w:World) (hI:Ivs w a n cap l) (hI':Ivs w a' n' cap' l'):
 Calls Tryz.prog 57 #[.slice a n cap,.slice a' n' cap'] w fun e w'=>e=.returned (.bool (decide (l=l')))∧Below w.heap.size w w':=by
 have HI:=hid hI;have HI':=hid hI';have Hl:=hid hI.len;have Hl':=hid hI'.len;have hm:n≤9223372036854775807:=Nat.le_trans hI.room hI.most;by_cases hnn:n=n'
 · subst hnn;clear hI hI';have hnb:((n:Int) != (n:Int))=false:=by simp
   go_enter Tryz.func57,Tryz.ntmps57;go_wp2;go_loopw [5] (fun i wr=>∃k q:Nat,k≤n∧i=.int .i64 k∧wr=w.drewN q∧Hid (l.take k=l'.take k)) (fun i _=>n - (intOf i).toNat)
   case atStart=>exact⟨0,0,by omega,rfl,rfl,rfl⟩
   case round=>
    obtain⟨k,q,hk,rfl,rfl,ht⟩:=hrel;by_cases hkn:k<n
    · obtain⟨cb,co,rfl,hcell⟩:=HI.out.cells (by omega);obtain⟨cb',co',rfl,hcell'⟩:=HI'.out.cells (by omega);obtain⟨c1,c2⟩:=hcell k hkn;obtain⟨c1',c2'⟩:=hcell' k hkn;clear hcell hcell';have h0:(0:Int)≤k:=by omega
      have h04:(k:Int)<(n:Int):=by omega
      have hkl:k<l.length:=by rw[Hl.out];exact hkn
      have hkl':k<l'.length:=by rw[Hl'.out];exact hkn
      have He:=hid (fun e=>z8c ht.out hkl hkl' e);have Hn:=hid (fun e=>z8d (l:=l) (l':=l') (k:=k) e);clear hkl hkl';generalize zb l k=s at*;generalize zb l' k=t at*;obtain⟨x,y⟩:=s;obtain⟨z,u⟩:=t;have heq:=z8b x y z u;simp only at c1 c2 c1' c2';by_cases e:x=z∧y=u
      · obtain⟨rfl,rfl⟩:=e;have Ht:=hid (He.out rfl);simp only[decide_true,Bool.and_self] at heq;clear He Hn;go_wp2;go_quiet (fail);go_wp2;go_roundw
        case rel=>exact⟨k+1,_,by omega,by go_num,rfl,Ht.out⟩
        case measure=>simp[intOf];omega
      · have Hne:=hid (Hn.out (by intro h;cases h;exact e ⟨rfl,rfl⟩))
        have eb:(decide (x=z) && decide (y=u))=false:=by
         rw[Bool.eq_false_iff];intro h;rw[Bool.and_eq_true,decide_eq_true_iff,decide_eq_true_iff] at h;exact e h
        simp only[eb] at heq;clear He Hn eb e;go_wp2;go_quiet (fail);go_wp2;go_ret;exact⟨zb9 (by rw[decide_eq_false Hne.out]),by first | exact ye (Below.refl _ _) _ | exact ye (ye (Below.refl _ _) _) _⟩
    · obtain rfl:k=n:=by omega
      have h1:=ht.out;rw[List.take_of_length_le (by rw[Hl.out];omega),List.take_of_length_le (by rw[Hl'.out];omega)] at h1;have H1:=hid h1;clear h1;go_wp2;go_ret;exact⟨zb9 (by rw[decide_eq_true H1.out]),ye (Below.refl _ _) _⟩
 · have hnb:((n:Int) != (n':Int))=true:=by rw[bne_iff_ne];omega
   have hne:=hid (show l≠l' from fun h=>hnn (by rw[←hI.len,←hI'.len,h]));clear hI hI' HI HI' Hl Hl';go_enter Tryz.func57,Tryz.ntmps57;go_wp2;go_ret;exact⟨zb9 (by rw[decide_eq_false hne.out]),Below.refl _ _⟩
theorem z8e (e f:Ent) (a d:Option Addr) (n c m k:Nat) (w:World) (hI:Ivs w a n c e.2.2) (hJ:Ivs w d m k f.2.2):
 Calls Tryz.prog 108 #[ky e (.slice a n c),ky f (.slice d m k)] w fun x w'=>x=.returned (.bool (decide (e=f)))∧Below w.heap.size w w':=by
 obtain⟨r,x,hs⟩:=e;obtain⟨r',x',hs'⟩:=f;simp only at hI hJ;obtain⟨W1,hW1⟩:∃W1,W1=w.alloc (.cells #[.int .u64 r,.int .u64 x,.slice a n c] 101):=⟨_,rfl⟩;have hal:Below w.heap.size w W1:=by rw[hW1];exact(Below.refl _ _).alloc (Nat.le_refl _) _
 have hsz:W1.heap.size=w.heap.size+1:=by rw[hW1];simp
 have hal2:Below W1.heap.size W1 (W1.alloc (.cells #[.int .u64 r',.int .u64 x',.slice d m k] 101)):=(Below.refl _ _).alloc (Nat.le_refl _) _;obtain⟨q0,q1,q2⟩:=zcc w (.int .u64 r) (.int .u64 x) (.slice a n c) 101 (W1.alloc (.cells #[.int .u64 r',.int .u64 x',.slice d m k] 101)) (hW1 ▸ hal2);obtain⟨q3,q4,q5⟩:=zcc W1 (.int .u64 r') (.int .u64 x') (.slice d m k) 101 _ (Below.refl _ _);have HA:=hid (hal.trans (hal2.mono hal.size));have hC:=hid (zw1 a d n c m k hs hs' _ (hI.below HA.out) (hJ.below HA.out));rw[hW1] at q0 q1 q2 q3 q4 q5 HA hC;simp only[World.size_alloc] at q3 q4 q5
 have hdec:decide (((r,x,hs):Ent)=(r',x',hs'))=((decide (r=r') && decide (x=x')) && decide (hs=hs')):=by
  rw[Bool.eq_iff_iff];simp[and_assoc]
 rw[hdec];clear hI hJ hal hal2 hsz hdec hW1;generalize decide (hs=hs')=b at*;by_cases h1:r=r'
 · subst h1;by_cases h2:x=x'
   · subst h2;have d1:True:=trivial;have d2:True:=trivial;go_enter Tryz.func108,Tryz.ntmps108;go_wp2_with fail;refine hC.out.mono ?_;rintro e w1 ⟨rfl,hb1⟩;have Hb1:=hid hb1;clear hb1;go_wp2;go_ret;exact⟨by simp,HA.out.trans (Hb1.out.mono HA.out.size)⟩
   · have d1:True:=trivial;have d2:decide (x=x')=false:=by simpa using h2
     have t2:(((x:Nat):Int) == ((x':Nat):Int))=false:=by rw[beq_eq_false_iff_ne];omega
     clear h2;go_enter Tryz.func108,Tryz.ntmps108;go_wp2;go_ret;exact⟨by simp[d2],HA.out⟩
 · have d1:decide (r=r')=false:=by simpa using h1
   have t1:(((r:Nat):Int) == ((r':Nat):Int))=false:=by rw[beq_eq_false_iff_ne];omega
   clear h1;go_enter Tryz.func108,Tryz.ntmps108;go_wp2;go_ret;exact⟨by simp[d1],HA.out⟩
set_option maxRecDepth 20000 in
theorem z8f (a d:Option Addr) (n c n' c':Nat) (v u:Vec) (w:World) (hE:Ents w a n c v) (hF:Ents w d n' c' u):
 Calls Tryz.prog 58 #[.slice a n c,.slice d n' c'] w fun x w'=>x=.returned (.bool (decide (v=u)))∧Below w.heap.size w w':=by
 have HE:=hid hE;have HF:=hid hF;have Hl:=hid hE.len;have Hl':=hid hF.len;have hm:n≤9223372036854775807:=Nat.le_trans hE.room hE.most;have hm':n'≤9223372036854775807:=Nat.le_trans hF.room hF.most;clear hE hF;by_cases hne:n=n'
 · subst hne;have hz:((n:Int) != (n:Int))=false:=by simp
   go_enter Tryz.func58,Tryz.ntmps58;go_wp2;go_loopw [5] (fun i wr=>∃k:Nat,k≤n∧i=.int .i64 k∧Below w.heap.size w wr∧Hid (∀j,j<k→zc v j=zc u j)) (fun i _=>n - (intOf i).toNat)
   case atStart=>exact⟨0,by omega,rfl,Below.refl _ _,fun j h=>by omega⟩
   case round=>
    obtain⟨k,hk,rfl,hb,ht⟩:=hrel;have Hb:=hid hb;clear hb;by_cases hkn:k<n
    · have HEr:=hid (HE.out.below Hb.out);have HFr:=hid (HF.out.below Hb.out);obtain⟨bb,oo,rfl⟩:=HEr.out.some (by omega);obtain⟨bd,od,rfl⟩:=HFr.out.some (by omega);obtain⟨x,m,e,hq⟩:=HEr.out.fix hkn;obtain⟨y,m',e',hp⟩:=HFr.out.fix hkn;have Hq:=hid hq;have Hp:=hid hp;have hC:=hid (fun w' (h:Below wr.heap.size wr w')=>z8e (zc v k) (zc u k) x y m e m' e' w' (hq w' h).2.2.2 (hp w' h).2.2.2)
      have Hst:=hid (show decide (zc v k=zc u k)=true→∀j,j<k+1→zc v j=zc u j from fun h j hj=>by
       by_cases e:j=k
       · rw[e];exact of_decide_eq_true h
       · exact ht.out j (by omega))
      have Hno:=hid (show decide (zc v k=zc u k)=false→v≠u from fun h h2=>by rw[h2] at h;simp at h);have h0:(0:Int)≤k:=by omega
      have h04:(k:Int)<(n:Int):=by omega
      clear hq hp;generalize decide (zc v k=zc u k)=dd at*;generalize zc v k=f at*;generalize zc u k=g at*;obtain⟨fr,fm,fh⟩:=f;obtain⟨gr,gm,gh⟩:=g;simp only at Hq Hp;go_wp2_with fail;go_cut [26] (fun t wc=>t=.bool (!dd)∧Hid (Below wr.heap.size wr wc))
      case first=>
       refine qi (by kernel_rfl) (by kernel_rfl) ?_
       repeat (go_big_quiet_step ((intro hw;first
        | rfl
        | (have q0:=Hq.out _ hw
           have q1:=q0.1;have q2:=q0.2.1;have q3:=q0.2.2.1;have p0:=Hp.out _ hw;have p1:=p0.1;have p2:=p0.2.1;have p3:=p0.2.2.1;clear q0 p0
           go_at_call 108;exact kp hw (hC.out _ hw))
        | (have q0:=Hq.out _ hw
           have q1:=q0.1;have q2:=q0.2.1;have q3:=q0.2.2.1;have p0:=Hp.out _ hw;have p1:=p0.1;have p2:=p0.2.1;have p3:=p0.2.2.1;clear q0 p0;go_simp;first | rfl | exact⟨rfl,hw⟩ | (trace_state;fail)))))
       refine wpQuiet_nil ?_;intro w3 hb3;go_wp2;go_meet
       exact⟨rfl,hb3⟩
      case rest=>
       obtain⟨rfl,hb2⟩:=hcut;have Hb2:=hid (Hb.out.trans (hb2.out.mono Hb.out.size));clear hb2
       cases dd with
       | true=>
        have Hs:=hid (Hst.out rfl);rw[Bool.not_true];go_wp2;go_roundw
        case rel=>exact⟨k+1,by omega,by go_num,Hb2.out,Hs.out⟩
        case measure=>simp[intOf];omega
       | false=>
        have Hs:=hid (show decide (v=u)=false from by rw[decide_eq_false_iff_not];exact Hno.out rfl);rw[Bool.not_false];go_wp2;go_ret;exact⟨by rw[Hs.out];rfl,Hb2.out⟩
    · obtain rfl:k=n:=by omega
      have Hs:=hid (show decide (v=u)=true from by
       rw[decide_eq_true_iff];refine List.ext_getElem (by rw[Hl.out,Hl'.out]) fun i h1 h2=>?_
       have:=ht.out i (by rw[←Hl.out];exact h1);rwa [qn h1,qn h2] at this)
      go_wp2;go_ret;exact⟨by rw[Hs.out];rfl,Hb.out⟩
 · have hz:((n:Int) != (n':Int))=true:=by rw[bne_iff_ne];omega
   have Hs:=hid (show decide (v=u)=false from by
    rw[decide_eq_false_iff_not];intro h;apply hne;rw[←Hl.out,←Hl'.out,h])
   clear hne;go_enter Tryz.func58,Tryz.ntmps58;go_wp2;go_ret;exact⟨by rw[Hs.out];rfl,Below.refl _ _⟩
set_option maxRecDepth 20000 in
theorem zl0 (a d:Option Addr) (n c n' c':Nat) (v u:Kno) (w:World) (hE:Frags w a n c v) (hF:Frags w d n' c' u):
 Calls Tryz.prog 24 #[.slice a n c,.slice d n' c'] w fun x w'=>x=.returned (.bool (decide (v=u)))∧Below w.heap.size w w':=by
 have HE:=hid hE;have HF:=hid hF;have Hl:=hid hE.len;have Hl':=hid hF.len;have hm:n≤9223372036854775807:=Nat.le_trans hE.room hE.most;have hm':n'≤9223372036854775807:=Nat.le_trans hF.room hF.most;clear hE hF;by_cases hne:n=n'
 · subst hne;have hz:((n:Int) != (n:Int))=false:=by simp
   go_enter Tryz.func24,Tryz.ntmps24;go_wp2;go_loopw [5] (fun i wr=>∃k:Nat,k≤n∧i=.int .i64 k∧Below w.heap.size w wr∧Hid (∀j,j<k→za v j=za u j)) (fun i _=>n - (intOf i).toNat)
   case atStart=>exact⟨0,by omega,rfl,Below.refl _ _,fun j h=>by omega⟩
   case round=>
    obtain⟨k,hk,rfl,hb,ht⟩:=hrel;have Hb:=hid hb;clear hb;by_cases hkn:k<n
    · have HEr:=hid (HE.out.below Hb.out);have HFr:=hid (HF.out.below Hb.out);obtain⟨bb,oo,rfl⟩:=HEr.out.some (by omega);obtain⟨bd,od,rfl⟩:=HFr.out.some (by omega);obtain⟨x1,m1,e1,x2,m2,e2,hq⟩:=HEr.out.fix hkn;obtain⟨y1,l1,f1,y2,l2,f2,hp⟩:=HFr.out.fix hkn;have Hq:=hid hq;have Hp:=hid hp;have hC:=hid (fun w' (h:Below wr.heap.size wr w')=>zw1 x1 y1 m1 e1 l1 f1 (za v k).1 (za u k).1 w' (hq w' h).2.1 (hp w' h).2.1);have hD:=hid (fun w' (h:Below wr.heap.size wr w')=>z8f x2 y2 m2 e2 l2 f2 (za v k).2 (za u k).2 w' (hq w' h).2.2.2 (hp w' h).2.2.2)
      have Hst:=hid (show decide ((za v k).1=(za u k).1)=true→decide ((za v k).2=(za u k).2)=true→∀j,j<k+1→za v j=za u j from fun h h2 j hj=>by
       by_cases e:j=k
       · rw[e];exact Prod.ext (of_decide_eq_true h) (of_decide_eq_true h2)
       · exact ht.out j (by omega))
      have Hno1:=hid (show decide ((za v k).1=(za u k).1)=false→v≠u from fun h h2=>by rw[h2] at h;simp at h);have Hno2:=hid (show decide ((za v k).2=(za u k).2)=false→v≠u from fun h h2=>by rw[h2] at h;simp at h);have h0:(0:Int)≤k:=by omega
      have h04:(k:Int)<(n:Int):=by omega
      clear hq hp;generalize decide ((za v k).1=(za u k).1)=d1 at*;generalize decide ((za v k).2=(za u k).2)=d2 at*;generalize za v k=f at*;generalize za u k=g at*;go_wp2_with fail;go_cut [42] (fun t wc=>t=.bool (!d1 || !d2)∧Hid (Below wr.heap.size wr wc))
      case first=>
       refine qi (by kernel_rfl) (by kernel_rfl) ?_;cases d1 <;>
       (repeat (go_big_quiet_step ((intro hw;first
         | rfl
         | (have q0:=Hq.out _ hw
            have q1:=q0.1;have q2:=q0.2.2.1;have p0:=Hp.out _ hw;have p1:=p0.1;have p2:=p0.2.2.1;clear q0 p0
            first
            | (go_at_call 57;exact kp hw (hC.out _ hw))
            | (go_at_call 58;exact kp hw (hD.out _ hw))
            | (go_simp
               first | rfl | exact⟨rfl,hw⟩ | (trace_state;fail)))))))
       all_goals
        refine wpQuiet_nil ?_;intro w3 hb3;go_wp2;go_meet
        exact⟨rfl,hb3⟩
      case rest=>
       obtain⟨rfl,hb2⟩:=hcut;have Hb2:=hid (Hb.out.trans (hb2.out.mono Hb.out.size));clear hb2
       cases d1 with
       | false=>
        have Hs:=hid (show decide (v=u)=false from by rw[decide_eq_false_iff_not];exact Hno1.out rfl);rw[Bool.not_false,Bool.true_or];clear Hno1 Hno2 Hst;go_wp2;go_ret
        exact⟨by rw[Hs.out];rfl,Hb2.out⟩
       | true=>
        cases d2 with
        | true=>
         have Hs:=hid (Hst.out rfl rfl);rw[Bool.not_true,Bool.false_or];clear Hno1 Hno2 Hst;go_wp2;go_roundw
         case rel=>exact⟨k+1,by omega,by go_num,Hb2.out,Hs.out⟩
         case measure=>simp[intOf];omega
        | false=>
         have Hs:=hid (show decide (v=u)=false from by rw[decide_eq_false_iff_not];exact Hno2.out rfl);rw[Bool.not_true,Bool.not_false,Bool.false_or];clear Hno1 Hno2 Hst;go_wp2;go_ret;exact⟨by rw[Hs.out];rfl,Hb2.out⟩
    · obtain rfl:k=n:=by omega
      have Hs:=hid (show decide (v=u)=true from by
       rw[decide_eq_true_iff];refine List.ext_getElem (by rw[Hl.out,Hl'.out]) fun i h1 h2=>?_
       have:=ht.out i (by rw[←Hl.out];exact h1);rwa [ym h1,ym h2] at this)
      go_wp2;go_ret;exact⟨by rw[Hs.out];rfl,Hb.out⟩
 · have hz:((n:Int) != (n':Int))=true:=by rw[bne_iff_ne];omega
   have Hs:=hid (show decide (v=u)=false from by
    rw[decide_eq_false_iff_not];intro h;apply hne;rw[←Hl.out,←Hl'.out,h])
   clear hne;go_enter Tryz.func24,Tryz.ntmps24;go_wp2;go_ret;exact⟨by rw[Hs.out];rfl,Below.refl _ _⟩
theorem I64s.zs {w:World} {a:Option Addr} {n cap:Nat} {l:List Nat} (h:I64s w a n cap l) (hl:∀x∈l,x≤9223372036854775807):Zs w a n cap (l.map fun x:Nat=>(x:Int)):=by
 refine⟨by rw[List.length_map];exact h.len,h.room,h.most,h.nilc,fun x hx=>?_,fun hn=>?_⟩
 · obtain⟨y,hy,rfl⟩:=List.mem_map.1 hx;have:=hl y hy;omega
 · obtain⟨b,o,ha,hc⟩:=h.cells hn;refine⟨b,o,ha,fun i hi=>?_⟩
   have e:zda (l.map fun x:Nat=>(x:Int)) i=((nth l i:Nat):Int):=by
    have hi':i<l.length:=by rw[h.len];exact hi
    rw[zk2 (by simpa using hi')];simp[nth,hi']
   rw[e];exact hc i hi
theorem z8g:LimsI unl:=⟨⟨by decide,by decide⟩,⟨by decide,by decide⟩,⟨by decide,by decide⟩,⟨by decide,by decide⟩,⟨by decide,by decide⟩⟩
set_option maxRecDepth 20000 in
theorem zw2 (G:WS→Nat→Prop) (a:Option Addr) (n cap:Nat) (l:List Nat) (w:World) (hB:Byts w a n cap l) (hD:Door w) (hG:GoodG G unl l) (hE:n<900000000000):
 Calls Tryz.prog 33 #[.slice a n cap] w fun e w'=>Below w.heap.size w w'∧zdv (zag unl l) e w':=by
 have HW:=hid (fun W (hb:Below w.heap.size w W)=>zwq G a n cap l unl W (hB.below hb) (hD.keep (ze (p:=⟨0,0,none⟩) hD) hb) z8g hG hE);clear hB hD hG;obtain⟨r,hr⟩:∃r,r=zag unl l:=⟨_,rfl⟩;rw[←hr] at HW ⊢;clear hr;go_enter Tryz.func33,Tryz.ntmps33;go_wp2_with fail;refine(zw0 _).mono ?_;rintro e w1 ⟨rfl,hb1⟩;have Hb1:=hid hb1;clear hb1;go_wp2_with fail;refine(HW.out _ Hb1.out).mono ?_;rintro e w2 ⟨hb2,hr⟩;have Hb2:=hid (Hb1.out.trans (hb2.mono Hb1.out.size));clear hb2
 cases r with
 | error x=>
  obtain rfl:=hr;go_wp2_with fail;go_ret2
  exact⟨Hb2.out,rfl⟩
 | ok y=>
  obtain⟨aa,cc,rfl,hf⟩:=hr;have Hf:=hid hf;clear hf;go_wp2_with fail;go_ret2;exact⟨Hb2.out,aa,cc,rfl,Hf.out⟩
theorem zi8 (a:Option Addr) (n cap:Nat) (l:List Nat) (c:Kno) (w:World) (hB:Byts w a n cap l) (hD:Door w) (hK:EncK c) (hE:n<900000000000) (hag:∀p y y',yr l p=.ok y→yr (zo (zk c)) p=.ok y'→y=y'):
 Calls Tryz.prog 33 #[.slice a n cap] w fun e w'=>Below w.heap.size w w'∧zdv (zag unl l) e w':=
 zw2 _ a n cap l w hB hD (zwu (L0:=unl) (zhb _) (zed hK (zec hK)) hK.vec hag) hE
theorem zw3 {l t:List Nat} (p:Nat) (y y':Nat×Nat) (h:yr (l++t) p=.ok y) (h':yr l p=.ok y'):y=y':=by
 rcases zo1 (l++t) l.length p with e | e
 · rw[List.take_left'] at e
   · exact zi1 p y y' h (e.symm.trans h')
   · rfl
 · rw[List.take_left' rfl] at e;rw[e] at h';cases h'
abbrev exW:Kno:=[([(1,3)],[(7,5,[])])]
theorem z8h {W:World} {b0:Nat} (h0:W.heap[b0]?=some (.cells #[.int .u64 7,.int .u64 5,.slice none 0 0] 101)):Ents W (some ⟨b0,0,none⟩) 1 1 [(7,5,[])]:=by
 refine⟨rfl,?_,Nat.le_refl _,by omega,(by intro h;cases h),fun _=>⟨b0,0,rfl,fun i hi=>?_⟩⟩
 · intro e he;simp at he;subst he;exact⟨by simp,by simp,fun s hs=>by cases hs⟩
 · obtain rfl:i=0:=by omega
   exact⟨zu (i:=0) h0 rfl,zu (i:=1) h0 rfl,none,0,0,zu (i:=2) h0 rfl,zgd _⟩
theorem z8i {W:World} {b0 b1 b3:Nat} (h0:W.heap[b0]?=some (.cells #[.int .u64 7,.int .u64 5,.slice none 0 0] 101)) (h1:W.heap[b1]?=some (.cells #[.int .u64 1,.int .u64 3] 99))
 (h3:W.heap[b3]?=some (.cells #[.slice (some ⟨b1,0,none⟩) 1 1,.slice (some ⟨b0,0,none⟩) 1 1] 85)):Frags W (some ⟨b3,0,none⟩) 1 1 exW:=by
 have hv:=z8h h0;have i1:Ivs W (some ⟨b1,0,none⟩) 1 1 [(1,3)]:=zgk (s:=(1,3)) h1 (by decide);refine⟨rfl,Nat.le_refl _,by omega,(by intro h;cases h),fun _=>⟨b3,0,rfl,fun i hi=>?_⟩⟩;obtain rfl:i=0:=by omega
 exact⟨⟨_,_,_,zu (i:=0) h3 rfl,i1⟩,⟨_,_,_,zu (i:=1) h3 rfl,hv⟩⟩
theorem z8j:ckF exW=none:=by decide +kernel
theorem z8k:zh exW=exW:=by decide +kernel
theorem zo7:zo (zk exW)=[1,1,7,5,0,1,1,2,0]:=by decide +kernel
theorem z8l:zh []=[]:=by decide +kernel
theorem zo8:zo (zk [])=[0,0]:=by decide +kernel
theorem zw4:SmallK exW:=⟨by simp,by simp,by simp,fun f hf e he=>by simp at hf;subst hf;simp at he;subst he;simp⟩
theorem zw5:SmallK []:=⟨by simp,by simp,by simp,fun f hf e he=>by cases hf⟩
theorem zo9:EncK exW:=zly (fun f hf=>by simp at hf;subst hf;exact⟨fun s hs=>by simp at hs;subst hs;decide,fun e he=>by simp at he;subst he;exact⟨by decide,by decide,fun s hs=>by cases hs⟩,by simp⟩) zw4 (by decide)
theorem zl1:EncK []:=zly (fun f hf=>by cases hf) zw5 (by decide)
theorem z8m:zag unl [1,1,7,5,0,1,1,2,0]=.ok (exW,9):=by
 have:=zed zo9 (zec zo9);rw[zo7] at this;exact this
theorem z8n:zag unl [0,0,0]=.error (11,2):=by
 have:=(zlv (L:=unl) zl1.can zl1 [0] (by decide)).1 (zec zl1);rw[zo8] at this;exact this
set_option maxRecDepth 100000 in
theorem zl2 (w:World) (hD:Door w):Calls Tryz.prog 21 #[] w fun e w'=>e=.returned (.bool true)∧Below w.heap.size w w':=by
 obtain⟨W,hW⟩:∃W,W=((w.alloc (.cells #[.int .u64 1,.int .u64 3] 99)).alloc (.cells #[.int .u64 7,.int .u64 5,.slice none 0 0] 101)).alloc (.cells #[.slice (some ⟨w.heap.size,0,none⟩) 1 1,.slice (some ⟨w.heap.size+1,0,none⟩) 1 1] 85):=⟨_,rfl⟩;have hal:Below w.heap.size w W:=by rw[hW];exact(((Below.refl _ _).alloc (Nat.le_refl _) _).alloc (by simp) _).alloc (by simp only[World.size_alloc];omega) _
 have hK:Frags W (some ⟨w.heap.size+2,0,none⟩) 1 1 exW:=by
  rw[hW];exact z8i (b0:=w.heap.size+1) (b1:=w.heap.size) (b3:=w.heap.size+2) (yy _ _ _ _ (zg _ _ _ (by simp))) (yy _ _ _ _ (yy _ _ _ _ (zg _ _ _ rfl))) (zg _ _ _ (by simp))
 have HW:=hid hW;have Hal:=hid hal;have HK:=hid (fun V (h:Below W.heap.size W V)=>hK.below h);have HD:=hid (fun V (h:Below w.heap.size w V)=>hD.below (Nat.le_refl _) h);have hE0:=fun V (hd:Door V)=>zf4 none 0 0 [] V (zkn V) hd rfl zw5 (by decide)
 have hE1:=fun V a n c (h:Frags V a n c exW) (hd:Door V)=>zf4 a n c exW V h hd z8j zw4 (by decide)
 have hD1:=fun V a n c (h:Byts V a n c (zo (zk exW))) (hd:Door V) (hn:n<900000000000)=>zi8 a n c (zo (zk exW)) exW V h hd zo9 hn zi1
 have hD0:=fun V a n c (h:Byts V a n c (zo (zk [])++[0])) (hd:Door V) (hn:n<900000000000)=>zi8 a n c (zo (zk [])++[0]) [] V h hd zl1 hn zw3
 rw[z8l,zo8] at hE0;rw[z8k,zo7] at hE1;rw[zo7,z8m] at hD1;rw[zo8,show ([0,0]++[0]:List Nat)=[0,0,0] from rfl,z8n] at hD0;have HE0:=hid hE0;have HE1:=hid hE1;have HD1:=hid hD1;have HD0:=hid hD0;clear hE0 hE1 hD1 hD0 hW hal hK hD;go_enter Tryz.func21,Tryz.ntmps21;go_wp2_with fail;rw[←HW.out];refine(HE0.out W (HD.out _ Hal.out)).mono ?_;rintro e w1 ⟨⟨a1,c1,rfl,hB1⟩,hb1⟩;have HB1:=hid (fun V (h:Below w1.heap.size w1 V)=>hB1.below h);have HK1:=hid (fun V (h:Below w1.heap.size w1 V)=>HK.out V (hb1.trans (h.mono hb1.size)));have Hb1:=hid (Hal.out.trans (hb1.mono Hal.out.size));clear hb1 hB1;go_wp2_with fail;refine(HE1.out w1 _ _ _ (HK1.out _ (Below.refl _ _)) (HD.out _ Hb1.out)).mono ?_;rintro e w2 ⟨⟨a2,c2,rfl,hB2⟩,hb2⟩;have HB12:=hid (fun V (h:Below w2.heap.size w2 V)=>HB1.out V (hb2.trans (h.mono hb2.size)));have HB2:=hid (fun V (h:Below w2.heap.size w2 V)=>hB2.below h);have HK2:=hid (fun V (h:Below w2.heap.size w2 V)=>HK1.out V (hb2.trans (h.mono hb2.size)));have Hb2:=hid (Hb1.out.trans (hb2.mono Hb1.out.size));clear hb2 hB2;go_wp2_with fail;refine(HD1.out w2 _ _ _ (HB2.out _ (Below.refl _ _)) (HD.out _ Hb2.out) (by simp)).mono ?_;rintro e w3 ⟨hb3,a3,c3,rfl,hK3⟩;have HB13:=hid (fun V (h:Below w3.heap.size w3 V)=>HB12.out V (hb3.trans (h.mono hb3.size)));have HB23:=hid (fun V (h:Below w3.heap.size w3 V)=>HB2.out V (hb3.trans (h.mono hb3.size)));have HK33:=hid (fun V (h:Below w3.heap.size w3 V)=>HK2.out V (hb3.trans (h.mono hb3.size)));have HK3:=hid (fun V (h:Below w3.heap.size w3 V)=>hK3.below h);have Hb3:=hid (Hb2.out.trans (hb3.mono Hb2.out.size));clear hb3 hK3;go_wp2_with fail;have Hb4:=hid (Hb3.out.alloc Hb3.out.size (.cells #[.int .u8 0,.int .u8 0,.int .u8 0] 5));refine(HD0.out _ _ 3 3 (zo6 _ _ _ _ _ _ _ rfl rfl rfl (by decide) (by omega)) (HD.out _ Hb4.out) (by omega)).mono ?_;rintro e w5 ⟨hb5,rfl⟩;have hx:=(Below.refl w3.heap.size w3).alloc (Nat.le_refl _) (.cells #[.int .u8 0,.int .u8 0,.int .u8 0] 5);have hb35:=hx.trans (hb5.mono hx.size);have HB15:=hid (fun V (h:Below w5.heap.size w5 V)=>HB13.out V (hb35.trans (h.mono hb35.size)));have HB25:=hid (fun V (h:Below w5.heap.size w5 V)=>HB23.out V (hb35.trans (h.mono hb35.size)));have HK35:=hid (fun V (h:Below w5.heap.size w5 V)=>HK33.out V (hb35.trans (h.mono hb35.size)));have HK5:=hid (fun V (h:Below w5.heap.size w5 V)=>HK3.out V (hb35.trans (h.mono hb35.size)));have Hb5:=hid (Hb3.out.trans (hb35.mono Hb3.out.size));clear hb5 hx hb35;go_wp2_with fail;have hl6:=(Below.refl w5.heap.size w5).alloc (Nat.le_refl _) (.cells #[.int .u8 0,.int .u8 0] 5);refine(zi7 a1 _ 2 c1 2 2 [0,0] [0,0] _ (HB15.out _ hl6) (zo6 _ _ _ _ _ _ _ rfl rfl rfl (by decide) (by omega)) true (by simp)).mono ?_;rintro e w6 ⟨rfl,q6,rfl⟩;have H56:=hid (ye hl6 q6);clear hl6;generalize World.drewN _ q6=w6 at*;go_wp2_with fail;have hl7:=(Below.refl w6.heap.size w6).alloc (Nat.le_refl _) (.cells #[.int .u8 1,.int .u8 1,.int .u8 7,.int .u8 5,.int .u8 0,.int .u8 1,.int .u8 1,.int .u8 2,.int .u8 0] 5);refine(zi7 a2 _ 9 c2 9 9 [1,1,7,5,0,1,1,2,0] [1,1,7,5,0,1,1,2,0] _ (HB25.out _ (H56.out.trans (hl7.mono H56.out.size))) (zo6 _ _ _ _ _ _ _ rfl rfl rfl (by decide) (by omega)) true (by simp)).mono ?_;rintro e w7 ⟨rfl,q7,rfl⟩;have H57:=hid (H56.out.trans ((ye hl7 q7).mono H56.out.size));clear hl7;generalize World.drewN _ q7=w7 at*;go_wp2_with fail;have hS:=zl0 a3 (some ⟨w.heap.size+2,0,none⟩) 1 c3 1 1 exW exW w7 (HK5.out _ H57.out) (HK35.out _ H57.out);rw[decide_eq_true rfl] at hS;refine hS.mono ?_;clear hS;rintro e w8 ⟨rfl,hb8⟩;have Hb8:=hid (Hb5.out.trans ((H57.out.trans (hb8.mono H57.out.size)).mono Hb5.out.size));clear hb8;go_wp2_with fail;refine(zci (some (11,some 2)) _ (HD.out _ Hb8.out)).mono ?_;rintro e w9 ⟨rfl,hb9⟩;have Hb9:=hid (Hb8.out.trans (hb9.mono Hb8.out.size));clear hb9;simp only[qo];go_wp2_with fail;refine(zio (some (11,some 2)) _ (HD.out _ Hb9.out)).mono ?_;rintro e w10 ⟨rfl,hb10⟩;have Hb10:=hid (Hb9.out.trans (hb10.mono Hb9.out.size));clear hb10;simp only[js];go_wp2_with fail;go_ret;exact⟨rfl,Hb10.out⟩
end
end Go.Proofs.YtdnjfnofjaoajaaGreatDoor
