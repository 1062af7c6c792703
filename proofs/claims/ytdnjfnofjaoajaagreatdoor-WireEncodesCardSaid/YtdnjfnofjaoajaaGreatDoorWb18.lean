/- Walks and laws, joined: Wb18. -/
import Derived.Test.YtdnjfnofjaoajaaGreatDoorWb17
import Derived.Test.YtdnjfnofjaoajaaGreatDoorWb13
set_option linter.unusedVariables false
set_option maxHeartbeats 16000000
namespace Go.Proofs.YtdnjfnofjaoajaaGreatDoor
open Lib (hid)
section
open Go.RowKit Go.Shelf
attribute [local go_sem] Oper.semAt_some zd7
structure KeptT (base:Nat) (T:TypeId→Prop) (A B:World):Prop where
 os:B.os=A.os
 tape:B.tape=A.tape
 output:B.output=A.output
 size:A.heap.size≤B.heap.size
 row:∀k,k<A.heap.size→(k<base∨∃C U fr,T U∧A.heap[k]?=some (.cells C U fr))→B.heap[k]?=A.heap[k]?
theorem KeptT.toBelow {base:Nat} {T:TypeId→Prop} {A B:World} (h:KeptT base T A B) (hb:base≤A.heap.size):Below base A B:=⟨h.os,h.tape,h.output,h.size,fun k hk=>h.row k (by omega) (.inl hk)⟩
theorem KeptT.typed {base:Nat} {T:TypeId→Prop} {A B:World} (h:KeptT base T A B) {k:Nat} {C:Array Value} {U:TypeId} {fr:Nat×Nat} (hT:T U) (hr:A.heap[k]?=some (.cells C U fr)):B.heap[k]?=some (.cells C U fr):=
 (h.row k (Array.getElem?_eq_some_iff.1 hr).1 (.inr ⟨C,U,fr,hT,hr⟩)).trans hr
def zit (T:TypeId):Prop:=T=99∨T=101∨T=83
theorem z31 {P:Program} {w:World} (ty:TypeId) (cs:Array Value) (k len:Nat) (e:TypeId) (ik:IntKind) (v:Value)
 (hu:P.underlying ty=some (.array len e)) (hk:k<len) (he:P.underlying e=some (.int ik)) (hi:(P.info? e).map (·.size)=some 1) (hv:cs[k]?=some v):
 (Instr.index ty (.agg cs) (.int .i64 (k:Int))).run P w=.ok v w:=by
 cases hq:P.info? e with
 | none=>simp[hq] at hi
 | some i=>
  have hsz:i.size=1:=by simpa [hq] using hi
  simp only[Instr.index,asIntOf,Sem.run_bind,Sem.run_pure,Result.andThen_ok,run_underlying hu];have hk':0≤(k:Int)∧(k:Int)<(len:Int):=⟨by omega,by omega⟩;simp[Sem.run_bind,part,isAgg,sizeOf,typeInfo,run_underlying he,hq,hsz,hv,hk']
theorem z32 (a:Option Addr) (n c:Nat) (w:World):Calls Tryz.prog 236 #[.slice a n c] w fun e w'=>
 e=.returned (.func (.func 263) #[] #[.pointer (some ⟨w.heap.size,0,none⟩)])∧w'=w.alloc (.cells #[.slice a n c] 83):=by
 go_enter Tryz.func236,Tryz.ntmps236;go_wp2;go_ret;exact⟨rfl,rfl⟩
set_option maxRecDepth 100000 in
theorem z33 (n:Nat) (w0 w:World) (ba:Nat) (a:Option Addr) (m c:Nat) (v:Vec) (hE:Ents w0 a m c v) (hb0:Below w0.heap.size w0 w)
 (hbx:w.heap[ba]?=some (.cells #[.slice a m c] 83)) (hm:m≤300):
 zqm n Tryz.prog 263 #[.pointer (some ⟨ba,0,none⟩)] (fun x=> #[.int .u64 ((x:Nat):Int)]) (fun pre=>∃rest,qa v=pre++rest) (fun xs=>xs=qa v)
  (fun _=>False) (KeptT w0.heap.size zit) w:=by
 intro l J Jx W hl hW hJ hJx hY h0;have H0:=hid (hb0.trans (hW.mono hb0.size));have Hbx:=hid ((hW.block ba (Array.getElem?_eq_some_iff.1 hbx).1).trans hbx);have HE:=hid hE;have Hlen:=hid hE.len;have HJ:=hid (fun s A B (h:J s A) (hb:Below A.heap.size A B)=>hJ s A B h ((Kept.refl _ A).below hb));have HY:=hid hY;have Hj0:=hid h0;clear hE hb0 hbx hW hJ hJx hY h0 hl;refine callsIn_of_wp Tryz.func263 rfl trivial ?_ rfl;simp only[Tryz.ntmps263,List.size_toArray,List.length_cons,List.length_nil,Nat.reduceAdd,Nat.reduceSub,Array.replicate_succ,Array.replicate_zero,List.push_toArray,List.append_toArray,List.nil_append,List.cons_append];have hwm:IntKind.u64.wrap (m:Int)=(m:Int):=by rw[IntKind.wrap_u64];omega
 have q1:=y7 Hbx.out;have hV0:qa v=[m]++v.flatMap kx:=by unfold qa;rw[Hlen.out];rfl
 obtain⟨fn,tmps,assign,body,hy,hR⟩:=HY.out [] m W ⟨_,hV0⟩ Hj0.out;clear hV0
 gi_wp2
 first | refine hR.mono ?_ | refine⟨fun h=>(by cases h),hR.mono ?_⟩
 rintro e W3 (⟨rfl,hJ3,hk3⟩ | ⟨rfl,hJx3⟩)
 · have H3:=hid (H0.out.trans (hk3.toBelow H0.out.size));have Hbx3:=hid (hk3.typed (.inr (.inr rfl)) Hbx.out)
   have HJ3:=hid (show J (k8 v 0) W3 from by
    have e:k8 v 0=[]++[m]:=by unfold k8;rw[Hlen.out];rfl
    rw[e];exact hJ3)
   clear hk3 hJ3 hy hR q1;have q1:=y7 Hbx3.out
   gi_wp2
   clear q1
   gi_loopw [4,6,8,17,30,41] (fun _ _ _ i _ _ wr=>∃k:Nat,k≤m∧i=.int .i64 k∧Hid (Below w0.heap.size w0 wr∧wr.heap[ba]?=some (.cells #[.slice a m c] 83)∧J (k8 v k) wr)) (fun _ _ _ i _ _ _=>m - (intOf i).toNat)
   case atStart=>exact⟨0,by omega,rfl,H3.out,Hbx3.out,HJ3.out⟩
   case round=>
    obtain⟨k,hk,rfl,hinv⟩:=hrel;by_cases hkm:k<m
    · have hkv:k<v.length:=by rw[Hlen.out];exact hkm
      obtain⟨bb,oo,rfl⟩:=HE.out.some (by omega);obtain⟨x,d,cd,hq⟩:=HE.out.fix hkm;obtain⟨q1,q2,q3,-⟩:=hq wr hinv.out.1;have HIv:=hid (fun w' (h:Below w0.heap.size w0 w')=>(hq w' h).2.2.2);have Hst:=hid (zsd hkv)
      have Hnum:=hid (show qa v=k8 v (k+1)++(v.drop (k+1)).flatMap kx from by
       unfold qa k8;rw[List.cons_append,←List.flatMap_append,List.take_append_drop])
      clear hq;obtain⟨P1,hP1⟩:∃P1,k8 v (k+1)=P1:=⟨_,rfl⟩;rw[hP1] at Hst Hnum;have HP1:=hid hP1;clear hP1;generalize k8 v k=P at*;generalize (v.drop (k+1)).flatMap kx=rest at*;generalize zc v k=e at*;obtain⟨er,em,eh⟩:=e;simp only at q1 q2 q3 HIv Hst;have hlv:=(HIv.out w0 (Below.refl _ _)).len;have hdm:d≤9223372036854775807:=Nat.le_trans (HIv.out w0 (Below.refl _ _)).room (HIv.out w0 (Below.refl _ _)).most;have Hlv:=hid hlv;have hwd:IntKind.u64.wrap (d:Int)=(d:Int):=by rw[IntKind.wrap_u64];omega
      have h0k:(0:Int)≤k:=by omega
      have h04:(k:Int)<(m:Int):=by omega
      obtain⟨b4,hb4⟩:∃b4,b4=wr.heap.size:=⟨_,rfl⟩;have hrow:(wr.alloc (.cells #[.int .u64 er,.int .u64 em,.slice x d cd] 101)).heap[b4]?=some (.cells #[.int .u64 er,.int .u64 em,.slice x d cd] 101):=by rw[hb4];exact z7 rfl
      have hal:Below wr.heap.size wr (wr.alloc (.cells #[.int .u64 er,.int .u64 em,.slice x d cd] 101)):=(Below.refl _ _).alloc (Nat.le_refl _) _
      have Hinv:=hid (show Below w0.heap.size w0 (wr.alloc (.cells #[.int .u64 er,.int .u64 em,.slice x d cd] 101))∧(wr.alloc (.cells #[.int .u64 er,.int .u64 em,.slice x d cd] 101)).heap[ba]?=some (.cells #[.slice (some ⟨bb,oo,none⟩) m c] 83)∧J P (wr.alloc (.cells #[.int .u64 er,.int .u64 em,.slice x d cd] 101)) from
       ⟨hinv.out.1.trans (hal.mono hinv.out.1.size),qk hinv.out.2.1,HJ.out _ _ _ hinv.out.2.2 hal⟩)
      have Hrow:=hid hrow;clear hrow hal hlv hinv
      gi_wp2
      rw[←hb4];have Hb4e:=hid hb4;clear hb4
      gi_loopw [6,30] (fun _ i wr=>∃z:Nat,z≤3∧i=.int .i64 z∧Hid (Below w0.heap.size w0 wr∧wr.heap[ba]?=some (.cells #[.slice (some ⟨bb,oo,none⟩) m c] 83)∧wr.heap[b4]?=some (.cells #[.int .u64 er,.int .u64 em,.slice x d cd] 101)∧J (P++[er,em,d].take z) wr)) (fun _ i _=>3 - (intOf i).toNat)
      case atStart=>exact⟨0,by omega,rfl,Hinv.out.1,Hinv.out.2.1,Hrow.out,by simpa using Hinv.out.2.2⟩
      case round=>
       obtain⟨z,hz,rfl,hinv⟩:=hrel;by_cases hz3:z<3
       · have hV:qa v=P++[er,em,d].take z++[nth [er,em,d] z]++([er,em,d].drop (z+1)++qs eh++rest):=by
          rw[Hnum.out,Hst.out];simp only[kx,Hlv.out];have hcs:z=0∨z=1∨z=2:=by omega
          rcases hcs with rfl | rfl | rfl <;> simp[nth]
         have htk:P++[er,em,d].take z++[nth [er,em,d] z]=P++[er,em,d].take (z+1):=by
          have hcs:z=0∨z=1∨z=2:=by omega
          rcases hcs with rfl | rfl | rfl <;> simp[nth]
         have Htk:=hid htk;obtain⟨fn,tmps,assign,body,hy,hR⟩:=HY.out _ _ wr ⟨_,hV⟩ hinv.out.2.2.2
         have hidx:(#[Value.int .u64 er,.int .u64 em,.int .u64 d]:Array Value)[z]?=some (.int .u64 ((nth [er,em,d] z:Nat):Int)):=by
          have hcs:z=0∨z=1∨z=2:=by omega
          rcases hcs with rfl | rfl | rfl <;> rfl
         have Hv:=hid hV;have hz0:(0:Int)≤z:=by omega
         have hzi:(z:Int)<3:=by omega
         have hix:=fun w'=>z31 (P:=Tryz.prog) (w:=w') 349 #[Value.int .u64 er,.int .u64 em,.int .u64 d] z 3 52 .u64 _ Tryz.underlying349 hz3 Tryz.underlying52 (by kernel_rfl) hidx
         clear hV htk hidx;generalize nth [er,em,d] z=y at*
         gi_wp2
         first | refine hR.mono ?_ | refine⟨fun h=>(by cases h),hR.mono ?_⟩
         rintro e W4 (⟨rfl,hJ4,hk4⟩ | ⟨rfl,hJx4⟩)
         · have H4:=hid (show Below w0.heap.size w0 W4∧W4.heap[ba]?=some (.cells #[.slice (some ⟨bb,oo,none⟩) m c] 83)∧W4.heap[b4]?=some (.cells #[.int .u64 er,.int .u64 em,.slice x d cd] 101)∧J (P++[er,em,d].take (z+1)) W4 from
            ⟨hinv.out.1.trans (hk4.toBelow hinv.out.1.size),hk4.typed (.inr (.inr rfl)) hinv.out.2.1,hk4.typed (.inr (.inl rfl)) hinv.out.2.2.1,by rw[←Htk.out];exact hJ4⟩)
           clear hJ4 hk4 hy hR hix
           gi_wp2
           go_roundw
           case rel=>exact⟨z+1,by omega,by go_num,H4.out⟩
           case measure=>simp[intOf];omega
         · have HX:=hid (show ∃pre,(∃rest,qa v=pre++rest)∧Jx pre W4 from⟨_,⟨_,Hv.out⟩,hJx4⟩);clear hJx4 hy hR hix
           gi_wp2
           go_wp2;refine bodyPost_ret (results_none rfl _ _ _) rfl ?_;exact⟨⟨_,rfl⟩,.inr HX.out⟩
       · obtain rfl:z=3:=by omega
         have e3:[er,em,d].take 3=[er,em,d]:=rfl;rw[e3] at hinv;have hr4:=zaj hinv.out.2.2.1;have z0:=hr4.1;have z1:=hr4.2.1;have z2:=hr4.2.2.1;clear hr4 e3
         gi_wp2
         clear z0 z1 z2
         gi_loopw [8,41] (fun _ i wr=>∃z:Nat,z≤d∧i=.int .i64 z∧Hid (Below w0.heap.size w0 wr∧wr.heap[ba]?=some (.cells #[.slice (some ⟨bb,oo,none⟩) m c] 83)∧J (P++[er,em,d]++qs (eh.take z)) wr)) (fun _ i _=>d - (intOf i).toNat)
         case atStart=>exact⟨0,by omega,rfl,hinv.out.1,hinv.out.2.1,by simpa [qs] using hinv.out.2.2.2⟩
         case round=>
          clear hinv;obtain⟨z,hz,rfl,hinv⟩:=hrel;by_cases hzd:z<d
          · have hzl:z<eh.length:=by rw[Hlv.out];exact hzd
            obtain⟨hb,ho,rfl,hc⟩:=(HIv.out w0 (Below.refl _ _)).cells (by omega);obtain⟨c1,c2⟩:=hc z hzd;have c1:=(hinv.out.1.cell (p:=⟨hb,ho+z*2,none⟩) (ze c1)).trans c1;have c2:=(hinv.out.1.cell (p:=⟨hb,ho+z*2+1,none⟩) (ze c2)).trans c2;clear hc;have hsn:=zsf eh z hzl
            have hall:qs eh=qs (eh.take (z+1))++qs (eh.drop (z+1)):=by
             unfold qs;rw[←List.flatMap_append,List.take_append_drop]
            generalize zb eh z=s at*;obtain⟨sx,sy⟩:=s;simp only at c1 c2 hsn
            have hV1:qa v=P++[er,em,d]++qs (eh.take z)++[sx]++([sy]++qs (eh.drop (z+1))++rest):=by
             rw[Hnum.out,Hst.out];simp only[kx,Hlv.out];rw[hall,hsn];simp
            have hV2:qa v=P++[er,em,d]++qs (eh.take z)++[sx]++[sy]++(qs (eh.drop (z+1))++rest):=by
             rw[hV1];simp
            have Hsn:=hid (show P++[er,em,d]++qs (eh.take z)++[sx]++[sy]=P++[er,em,d]++qs (eh.take (z+1)) from by rw[hsn];simp);have HV1:=hid hV1;have HV2:=hid hV2;obtain⟨b8,hb8⟩:∃b8,b8=wr.heap.size:=⟨_,rfl⟩;have hal:Below wr.heap.size wr (wr.alloc (.cells #[.int .u64 sx,.int .u64 sy] 99)):=(Below.refl _ _).alloc (Nat.le_refl _) _;have hrow8:(wr.alloc (.cells #[.int .u64 sx,.int .u64 sy] 99)).heap[b8]?=some (.cells #[.int .u64 sx,.int .u64 sy] 99):=by rw[hb8];exact z7 rfl
            obtain⟨fn,tmps,assign,body,hy,hR⟩:=HY.out _ _ (wr.alloc (.cells #[.int .u64 sx,.int .u64 sy] 99)) ⟨_,hV1⟩ (HJ.out _ _ _ hinv.out.2.2 hal);have Hinv:=hid (show Below w0.heap.size w0 (wr.alloc (.cells #[.int .u64 sx,.int .u64 sy] 99))∧(wr.alloc (.cells #[.int .u64 sx,.int .u64 sy] 99)).heap[ba]?=some (.cells #[.slice (some ⟨bb,oo,none⟩) m c] 83) from⟨hinv.out.1.trans (hal.mono hinv.out.1.size),qk hinv.out.2.1⟩);have Hrow8:=hid hrow8;have Hb8:=hid hb8;have h0z:(0:Int)≤z:=by omega
            have h0d:(z:Int)<(d:Int):=by omega
            clear hV1 hV2 hsn hall hal hrow8 hb8
            gi_wp2
            first | refine hR.mono ?_ | refine⟨fun h=>(by cases h),hR.mono ?_⟩
            rintro e W4 (⟨rfl,hJ4,hk4⟩ | ⟨rfl,hJx4⟩)
            · have h48:=hk4.typed (.inl rfl) Hrow8.out;have y1:=zu (i:=1) h48 rfl;rw[Hb8.out] at y1;have H4:=hid (show Below w0.heap.size w0 W4∧W4.heap[ba]?=some (.cells #[.slice (some ⟨bb,oo,none⟩) m c] 83) from⟨Hinv.out.1.trans (hk4.toBelow Hinv.out.1.size),hk4.typed (.inr (.inr rfl)) Hinv.out.2⟩);obtain⟨fn2,tmps2,assign2,body2,hy2,hR2⟩:=HY.out _ _ W4 ⟨_,HV2.out⟩ hJ4;clear hk4 h48 hy hR hJ4 c1 c2
              gi_wp2
              first | refine hR2.mono ?_ | refine⟨fun h=>(by cases h),hR2.mono ?_⟩
              rintro e W5 (⟨rfl,hJ5,hk5⟩ | ⟨rfl,hJx5⟩)
              · have H5:=hid (show Below w0.heap.size w0 W5∧W5.heap[ba]?=some (.cells #[.slice (some ⟨bb,oo,none⟩) m c] 83)∧J (P++[er,em,d]++qs (eh.take (z+1))) W5 from⟨H4.out.1.trans (hk5.toBelow H4.out.1.size),hk5.typed (.inr (.inr rfl)) H4.out.2,by rw[←Hsn.out];exact hJ5⟩);clear hk5 hJ5 hy2 hR2 y1
                gi_wp2
                refine⟨⟨_,_,_,_,_,_,_,_,_,_,_,_,_,_,_,_,_,_,⟨z+1,by omega,?_,H5.out⟩,rfl⟩,?_⟩
                · go_num
                · simp[intOf];omega
              · have HX:=hid (show ∃pre,(∃rest,qa v=pre++rest)∧Jx pre W5 from⟨_,⟨_,HV2.out⟩,hJx5⟩);clear hJx5 hy2 hR2 y1
                gi_wp2
                go_wp2;refine bodyPost_ret (results_none rfl _ _ _) rfl ?_;exact⟨⟨_,rfl⟩,.inr HX.out⟩
            · have HX:=hid (show ∃pre,(∃rest,qa v=pre++rest)∧Jx pre W4 from⟨_,⟨_,HV1.out⟩,hJx4⟩);clear hJx4 hy hR c1 c2
              gi_wp2
              go_wp2;refine bodyPost_ret (results_none rfl _ _ _) rfl ?_;exact⟨⟨_,rfl⟩,.inr HX.out⟩
          · obtain rfl:z=d:=by omega
            have H5:=hid (show Below w0.heap.size w0 wr∧wr.heap[ba]?=some (.cells #[.slice (some ⟨bb,oo,none⟩) m c] 83)∧J (k8 v (k+1)) wr from⟨hinv.out.1,hinv.out.2.1,by
             have e:P++[er,em,z]++qs (eh.take z)=P1:=by
              rw[Hst.out,List.take_of_length_le (by rw[Hlv.out];exact Nat.le_refl _),List.append_assoc];simp only[kx,Hlv.out]
              rfl
             rw[HP1.out,←e];exact hinv.out.2.2⟩)
            clear hinv
            gi_wp2
            go_roundw
            case rel=>exact⟨k+1,by omega,by go_num,H5.out⟩
            case measure=>simp[intOf];omega
    · obtain rfl:k=m:=by omega
      have hJk:=hinv.out.2.2;rw[←Hlen.out,zse] at hJk;have HJk:=hid hJk;clear hJk
      gi_wp2
      refine bodyPost_end (results_none rfl _ _ _) rfl ?_;exact⟨⟨_,rfl⟩,.inl ⟨_,rfl,HJk.out⟩⟩
 · have HX:=hid (show ∃pre,(∃rest,qa v=pre++rest)∧Jx pre W3 from⟨[]++[m],⟨v.flatMap kx,by unfold qa;rw[Hlen.out];rfl⟩,hJx3⟩)
   gi_wp2
   refine bodyPost_ret (results_none rfl _ _ _) rfl ?_;exact⟨⟨_,rfl⟩,.inr HX.out⟩
end
section
open Go.RowKit Go.Shelf
attribute [local go_sem] Oper.semAt_some zd7
theorem KeptT.refl (base:Nat) (T:TypeId→Prop) (A:World):KeptT base T A A:=⟨rfl,rfl,rfl,Nat.le_refl _,fun _ _ _=>rfl⟩
theorem KeptT.trans {base:Nat} {T:TypeId→Prop} {A B C:World} (h:KeptT base T A B) (k:KeptT base T B C):KeptT base T A C:=
 ⟨k.os.trans h.os,k.tape.trans h.tape,k.output.trans h.output,Nat.le_trans h.size k.size,fun i hi hp=>(k.row i (Nat.lt_of_lt_of_le hi h.size) (hp.imp id fun ⟨C,U,fr,hT,hr⟩=>⟨C,U,fr,hT,(h.row i hi (.inr ⟨C,U,fr,hT,hr⟩)).trans hr⟩)).trans (h.row i hi hp)⟩
theorem KeptT.of {base:Nat} {T:TypeId→Prop} {q:Nat→Prop} {A B:World} (h:Kept q A B) (s:Steady base T A B):KeptT base T A B:=⟨h.os,h.tape,h.output,h.size,s.row⟩
set_option maxRecDepth 20000 in
theorem zua (a:Option Addr) (n c:Nat) (v:Vec) (w:World) (hE:Ents w a n c v) (hn:n≤300) (hN:(qa v).length≤900000):
 Calls Tryz.prog 192 #[.slice a n c] w fun e w'=>
  (∃y,e=.returned y∧w'.ownsRow w.heap.size 52 1 y (qa v).length (zi (qa v)))∧Below w.heap.size w w':=by
 have HE:=hid hE;have HN:=hid hN;clear hE hN;refine(callsIn_wide (n:=3)).1 ?_;refine callsIn_of_wp_marks Tryz.func192 rfl trivial ?_ rfl;simp only[Tryz.ntmps192,List.size_toArray,List.length_cons,List.length_nil,Nat.reduceAdd,Nat.reduceSub,Array.replicate_succ,Array.replicate_zero,List.push_toArray,List.append_toArray,List.nil_append,List.cons_append];refine wpIn_wide.2 ?_;go_wp2_with (go_at_call 236;refine(z32 _ _ _ _).mono ?_;rintro e w1 ⟨rfl,rfl⟩);refine(wpIn_wide (n:=3)).1 ?_;obtain⟨C0,hC0⟩:∃C0:Obj,C0=.cells #[.slice none 0 0] 50:=⟨_,rfl⟩;obtain⟨C1,hC1⟩:∃C1:Obj,C1=.cells #[.slice a n c] 83:=⟨_,rfl⟩;rw[←hC0,←hC1];have hs1:(w.alloc C0).heap.size=w.heap.size+1:=by simp
 obtain⟨wl,hwl⟩:∃wl:World,wl=(w.alloc C0).alloc C1:=⟨_,rfl⟩;rw[←hwl]
 try rw[hs1]
 have hsz:wl.heap.size=w.heap.size+2:=by rw[hwl];simp
 have hbw:Below w.heap.size w wl:=by
  rw[hwl];exact((Below.refl _ w).alloc (Nat.le_refl _) C0).alloc (by simp) C1
 have e0:wl.heap[w.heap.size]?=some C0:=by rw[hwl];exact qk (z7 rfl)
 have e1:wl.heap[w.heap.size+1]?=some C1:=by rw[hwl];exact z7 (by simp)
 clear hwl
 refine zzw (n:=3) (gf:=263) (lb:= #[.pointer (some ⟨w.heap.size+1,0,none⟩)]) rfl (enters_of Tryz.func263 (by kernel_rfl) rfl)
  (z33 (3 - 1) w wl (w.heap.size+1) a n c v HE.out hbw (by rw[e1,hC1]) hn)
  (fun x=>rfl) (fun k hk=>hk.elim) ?hput
  (fun pre W=>Below w.heap.size w W∧∃v,W.heap[w.heap.size]?=some (.cells #[v] 50)∧W.ownsRow (w.heap.size+4) 52 1 v pre.length (zi pre))
  (fun _ _ _=>False) ?hI (fun _ _ _ _ h _=>h) ⟨hbw,.slice none 0 0,by rw[e0,hC0],World.ownsRow_nil ..⟩ ?round ?done ?stop
 case hput=>
  intro A B r o hA hk;rw[hsz] at hA ⊢;refine⟨hk.os,hk.tape,hk.output,by simpa using hk.size,fun k hk1 hp=>?_⟩;refine(World.putObj_heap_other ?_).trans (hk.row k hk1 hp);rintro rfl;rcases hp with h | ⟨C,U,fr,_,h⟩
  · omega
  · rw[hA] at h;cases h
 case hI=>
  rintro s A B ⟨h4,v,h2,h3⟩ hk;have hs:=h4.size;exact⟨h4.trans (hk.toBelow (fun k hk'=>⟨id,by omega,by omega⟩) (by omega)),v,(hk.row _ (Array.getElem?_eq_some_iff.1 h2).1 ⟨id,by omega,by omega⟩).trans h2,qr h3 (fun k hk1 hk2=>hk.row k hk2 ⟨id,by omega,by omega⟩)⟩
 case round=>
  rintro pre x W ⟨rest,hV⟩ ⟨h4,y,h2,h3⟩ hsW ⟨rl,hrl⟩;rw[hsz] at hsW hrl ⊢
  have hlen:pre.length+1≤900000:=by
   have:=HN.out;rw[hV,List.length_append,List.length_append,List.length_singleton] at this;omega
  clear hsz hbw e0 e1 hC0 hC1 hV
  gi_wp2
  refine⟨Kept.refl _ W,fun W2 hk2 hs2=>?_⟩;have b2:W2.heap[w.heap.size]?=some (.cells #[y] 50):=(hk2.row _ (Array.getElem?_eq_some_iff.1 h2).1 (by omega)).trans h2;have B3:=hid (qr h3 (fun k hk1 hk2'=>hk2.row k hk2' (by omega)));have B4:=hid (h4.trans (hk2.toBelow (n:=w.heap.size) (fun k hk'=>by omega) h4.size))
  have hst:Steady w.heap.size zit W W2:=⟨hk2.size,fun k hk hp=>hk2.row k hk (by
   rintro rfl;rcases hp with h | ⟨C,U,fr,_,h⟩
   · omega
   · rw[hrl] at h;cases h)⟩
  have K2:=hid (And.intro hk2 hst);have hB4:w.heap.size+4≤W2.heap.size:=by omega
  clear hk2 h2 h3 h4 hs2 hst hrl;have hB2:=B4.out.size;obtain⟨ao,co,rfl⟩:=ks B3.out;have q1:=y7 b2;have q2:=zam b2;have Hb2:=hid b2;clear b2;obtain⟨v',w5,hr,ho,hgr⟩:=zeo (w.heap.size+4) (.slice ao pre.length co) pre.length pre (B3.out.alloc (.cells #[.int .u64 x] 52)) (some ⟨W2.heap.size,0,none⟩) 1 1 [x] (yg (zg _ _ _ rfl) rfl rfl) (by omega) (by simp;omega);obtain⟨g',cap',rfl⟩:=ownsRow_succ ho;have hne:some w.heap.size≠(.slice ao pre.length co:Value).ownBlock:=fun e=>by have:=(B3.out.lt _ e.symm).1;omega
  have e5:w5.heap[w.heap.size]?=some (.cells #[.slice ao pre.length co] 50):=(hgr.block _ (by simp;omega) hne).trans (qk Hb2.out);have q5:=y7 e5;have q6:=zam e5;have He5:=hid e5;have Ho:=hid ho;have Hgr:=hid hgr;clear e5 ho hgr hne
  gi_wp2_with (gi_at_builtin;refine zhq rfl _ _ 50 rfl _ _ rfl rfl _ _ hr ?_)
  refine⟨?_,⟨?_,_,zcj He5.out,?_⟩,?_⟩
  · exact(((Kept.refl _ W2).alloc _).grown Hgr.out (fun k hk _=>by have:=(B3.out.lt k hk).1;omega)).setCell (fun _=>by simp only;omega) _
  · exact((B4.out.alloc B4.out.size _).grown Hgr.out (by simp;omega) (fun k hk=>by have:=(B3.out.lt k hk).1;omega)).setCell (by simp only;omega) _
  · have h:=qr Ho.out (w':=w5.setCell ⟨w.heap.size,0,none⟩ (.slice (some ⟨g',0,none⟩) (pre.length+1) cap')) (fun k hk1 hk2=>Below.heap_setCell _ _ _ _ (by simp only;omega));rw[List.length_append];exact h
  · have s1:Steady w.heap.size zit W2 (W2.alloc (.cells #[.int .u64 x] 52)):=.of_below ((Below.refl _ _).alloc (Nat.le_refl _) _);have s2:Steady w.heap.size zit (W2.alloc (.cells #[.int .u64 x] 52)) w5:=Steady.grown (y9 (b:=w.heap.size) (B3.out.alloc _) (by omega)) Hgr.out (by rintro(h | h | h) <;> cases h);have s3:Steady w.heap.size zit w5 (w5.setCell ⟨w.heap.size,0,none⟩ (.slice (some ⟨g',0,none⟩) (pre.length+1) cap')):=Steady.setCell (a:=⟨w.heap.size,0,none⟩) He5.out (Nat.le_refl _) (by rintro(h | h | h) <;> cases h);refine KeptT.of (q:=fun _=>False) (K2.out.1.mono (fun _ _ h=>h.elim) |>.trans ?_) (((K2.out.2.trans s1).trans s2).trans s3);exact(((Kept.refl _ W2).alloc _).grown Hgr.out (fun k hk _ h=>h)).setCell (fun _ h=>h) _
 case done=>
  rintro ps W rfl ⟨h4,y,h2,h3⟩ hK;have q1:=y7 h2;have H3:=hid h3;have H4:=hid h4;clear h2 h3 h4 e0 e1
  gi_wp2
  go_wp2;refine⟨by simp,.inl ⟨_,_,rfl,run_takeDeferred hK,?_⟩⟩;refine⟨_,results_tmp rfl _ _ _,⟨y,rfl,?_⟩,?_⟩
  · refine y9 (qr H3.out (fun k hk1 hk2=>World.putObj_heap_other (by omega))) (by omega)
  · exact(Kept.refl (fun k=>k<w.heap.size) W).putObj (fun _ h=>by have h':wl.heap.size<w.heap.size:=h;omega) _ |>.toBelow (fun _ h=>h) H4.out.size |> H4.out.trans
 case stop=>
  rintro c pre W hV h;exact h.elim
end
section
open Go.RowKit
attribute [local go_sem] vq
def Codes (w:World):Prop:=∀n,n<4→w.cell? ⟨1,n,none⟩=some (.int .i64 (zc4 n))
theorem Codes.below {w w':World} (h:Codes w) (hb:Below w.heap.size w w'):Codes w':=fun n hn=>
 (hb.cell (p:=⟨1,n,none⟩) (ze (h n hn))).trans (h n hn)
end
section
open Go.RowKit Go.Maps
theorem z34 (b1 b2:Nat) (u v:Value) (P Q:List Nat) (w:World) (hp:w.ownsRow b1 3 1 u P.length (yw P)) (hq:w.ownsRow b2 3 1 v Q.length (yw Q)) (lp:P.length≤1000) (lq:Q.length≤1000):
 Calls Tryz.prog 242 #[u,v] w fun e w'=>e=.returned (.bool (decide (P=Q)))∧Below w.heap.size w w':=by
 have hP:=hp;have hQ:=hq;obtain⟨a,c,rfl⟩:=ks hp;obtain⟨a',c',rfl⟩:=ks hq;by_cases hl:P.length=Q.length
 · by_cases h0:P.length=0
   · obtain rfl:P=[]:=List.length_eq_zero_iff.1 h0;obtain rfl:Q=[]:=List.length_eq_zero_iff.1 hl.symm;refine(Tryz.slices_Equal_int_empty a a' c 0 c' w (by omega)).mono ?_;rintro e w' ⟨rfl,rfl⟩;exact⟨rfl,Below.refl _ _⟩
   · rcases hp.2 with ⟨h,h'⟩ | ⟨g,cap,cur,h,_⟩
     · omega
     · cases h;rcases hq.2 with ⟨h,h'⟩ | ⟨g',cap',cur',h,_⟩
       · omega
       · cases h
         have c1:∀j,j<(P.map fun (x:Nat)=>(x:Int)).length→w.cell? ⟨g,0+j,none⟩=some (.int .i64 ((P.map fun (x:Nat)=>(x:Int)).getD j 0)):=fun j hj=>by
          have hj':j<P.length:=by simpa using hj
          have:=hP.cells (g:=g) rfl j _ (zgg P j hj');rw[yp] at this;rw[this];simp[nth,hj']
         have c2:∀j,j<(Q.map fun (x:Nat)=>(x:Int)).length→w.cell? ⟨g',0+j,none⟩=some (.int .i64 ((Q.map fun (x:Nat)=>(x:Int)).getD j 0)):=fun j hj=>by
          have hj':j<Q.length:=by simpa using hj
          have:=hQ.cells (g:=g') rfl j _ (zgg Q j hj');rw[yp] at this;rw[this];simp[nth,hj']
         refine(Tryz.slices_Equal_int g 0 P.length c g' 0 Q.length c' (P.map fun (x:Nat)=>(x:Int)) (Q.map fun (x:Nat)=>(x:Int)) w (by simp) (by simp) (by omega) (by omega) c1 c2).mono ?_;rintro e w' ⟨rfl,q,rfl⟩;refine⟨zb9 ?_,⟨rfl,rfl,rfl,Nat.le_refl _,fun _ _=>rfl⟩⟩;rw[List.take_of_length_le (by simp),List.take_of_length_le (by simp)];by_cases e:P=Q
         · subst e;simp
         · rw[decide_eq_false e,beq_eq_false_iff_ne];intro h;apply e;have:=congrArg (List.map Int.toNat) h;simpa [List.map_map,Function.comp_def] using this
 · refine(Tryz.slices_Equal_int_lens a a' P.length c Q.length c' w hl).mono ?_;rintro e w' ⟨rfl,rfl⟩;exact⟨zb9 (by rw[decide_eq_false (fun e=>hl (by rw[e]))]),Below.refl _ _⟩
theorem zub:∀{L M:List Nat},L.Nodup→(∀x∈L,x∈M)→L.length≤M.length
 | [],_,_,_=>Nat.zero_le _
 | a :: l,M,hn,hs=>by
   obtain⟨h1,h2⟩:=List.nodup_cons.1 hn;have ha:=hs a (by simp);have h3:=zub (M:=M.erase a) h2 (fun x hx=>(List.mem_erase_of_ne (fun e=>h1 (by rw[←e];exact hx))).2 (hs x (by simp[hx])));rw[List.length_erase_of_mem ha] at h3;have:0<M.length:=List.length_pos_of_mem ha;simp;omega
set_option maxRecDepth 100000 in
theorem z35 (a:Option Addr) (n c:Nat) (k:Kno) (w:World) (hE:Frags w a n c k) (hL:LtK k) (hF:KnoFits k) (hG:∀f∈k,Good f.1) (hS:(zx k).length≤10000):
 Calls Tryz.prog 202 #[.slice a n c] w fun e w'=>(∃y,e=.returned y∧w'.ownsRow w.heap.size 52 1 y (zx k).length (zi (zx k)))∧Below w.heap.size w w':=by
 have HE:=hid hE;have HL:=hid hL;have HF:=hid hF;have HG:=hid hG;have HSl:=hid hS;clear hS;have Hl:=hid hE.len;have hn5:n≤500:=by rw[←hE.len];exact hF.len
 have hmm:=@run_makeMap Tryz.prog;obtain⟨B,hBe⟩:∃B,B=w.heap.size:=⟨_,rfl⟩;have HBe:=hid hBe;have Hm0:=hid (show (w.alloc (.map #[] 0)).ownsMap Tryz.prog 52 rB B 0 (.map []) from by rw[hBe];exact World.ownsMap_made _ _ _ _);have Hb0:=hid (show Below B w (w.alloc (.map #[] 0)) from by rw[hBe];exact(Below.refl _ _).alloc (Nat.le_refl _) _);have hkz:keyOf Tryz.prog 52 (.int .u64 0)=some (.int .u64 0):=zfu (x:=0) (by omega);clear hE hL hF hG;go_enter Tryz.func202,Tryz.ntmps202;go_wp2_with (first | (rw[←hBe];refine z1l _ rfl _ _ _ 330 rfl 52 4 zc5 Tryz.underlying330 rB B 0 (.map []) rfl Hm0.out (by unfold maxLen;omega) _ _ _ rfl rfl hkz (.lit (.bool true)) [] rfl ?_;intro w1 ho1 hg1));have Hb1:=hid (Hb0.out.grown hg1 (by have:=Hm0.out.lt;omega) (fun k hk=>by cases hk;exact Nat.le_refl _))
 have HS1:=hid (show SetS w1 B 1 _ (zba k 0 0) from⟨ho1,fun r=>by
  rw[z1h,show Lit.int .u64 (0:Int)=Lit.int .u64 ((0:Nat):Int) from rfl];by_cases e:r=0
  · subst e;rw[has_put_same isMap_empty (show WideAt.IsKeyLit (.int .u64 ((0:Nat):Int)) from trivial)];simp
  · rw[has_put_other (zfv (r:=r) (x:=0) e)];simp[e,Maps.has]⟩)
 clear ho1 hg1 hBe Hm0 Hb0;go_wp2;rw[←HBe.out];go_loopw [5,7,8,9,19,26] (fun _ _ _ _ i _ wr=>∃d:Nat,d≤n∧i=.int .i64 d∧Hid (Below B w wr)∧Hid (∃N D,N≤1+1000*d∧SetS wr B N D (zba k d 0))) (fun _ _ _ _ i _ _=>n - (intOf i).toNat)
 case atStart=>exact⟨0,by omega,rfl,Hb1.out,1,_,by omega,HS1.out⟩
 case round=>
  obtain⟨d,hd,rfl,Hb,hS⟩:=hrel;obtain⟨N,D,hN,hS⟩:=hS.out;have HS:=hid hS;clear hS;by_cases hdn:d<n
  · have hdk:d<k.length:=by rw[Hl.out];exact hdn
    obtain⟨bb,oo,rfl⟩:=HE.out.some (by omega);obtain⟨x,m,cc,y,m',c',hq⟩:=HE.out.fix hdn;rw[←HBe.out] at hq;obtain⟨q1,hI,q2,-⟩:=hq _ Hb.out;have hit:=HF.out.items _ (yb hdk);have Hnx:=hid (z1j hdk);have Hst:=hid (fun e (he:e<(za k d).1.length)=>z1k (k:=k) (d:=d) he);have hBwr:B≤wr.heap.size:=by have:=Hb.out.size;have:=HBe.out;omega
    have hal:Below wr.heap.size wr (wr.alloc (.cells #[.slice x m cc,.slice y m' c'] 85)):=(Below.refl _ _).alloc (Nat.le_refl _) _;obtain⟨x0,x1⟩:=zir wr (.slice x m cc) (.slice y m' c') 85 _ (Below.refl _ _);have Hb2:=hid (Hb.out.trans (hal.mono hBwr));have HS2:=hid (HS.out.kept hal);have HQ:=hid (fun w' (h:Below B w w')=>(hq w' h).2.1);have hlm:=hI.len;have h0:(0:Int)≤d:=by omega
    have h04:(d:Int)<(n:Int):=by omega
    have hm63:m≤500:=by omega
    clear hq hI hal Hb HS;generalize za k d=f at*;go_wp2;clear x0 x1 q1 q2;generalize wr.alloc (.cells #[.slice x m cc,.slice y m' c'] 85)=w2 at*;clear hBwr;go_loopw [7,8,9,26] (fun _ _ _ i wr=>∃e:Nat,e≤m∧i=.int .i64 e∧Hid (Below B w wr)∧Hid (∃N D,N≤1+1000*d+2*e∧SetS wr B N D (zba k d e))) (fun _ _ _ i _=>m - (intOf i).toNat)
    case atStart=>exact⟨0,by omega,rfl,Hb2.out,N,D,by omega,HS2.out⟩
    case round=>
     obtain⟨e,he,rfl,Hb,hS⟩:=hrel;obtain⟨N,D,hN,hS⟩:=hS.out;have HS:=hid hS;clear hS;by_cases hem:e<m
     · have hek:e<f.1.length:=by omega
       obtain⟨bi,oi,rfl,hcell⟩:=(HQ.out _ Hb.out).cells (by omega);obtain⟨c0,c1⟩:=hcell e hem;have hlt:=(HQ.out _ Hb.out).lt _ (zaa hek);have Hse:=hid (Hst.out e hek);have hBwr:B≤wr.heap.size:=by have:=Hb.out.size;have:=HBe.out;omega
       clear hcell;generalize zb f.1 e=s at*;obtain⟨lo,hi⟩:=s;simp only at c0 c1 hlt Hse;have hal:Below wr.heap.size wr (wr.alloc (.cells #[.int .u64 lo,.int .u64 hi] 99)):=(Below.refl _ _).alloc (Nat.le_refl _) _;obtain⟨y0,y1⟩:=zir wr (.int .u64 lo) (.int .u64 hi) 99 _ (Below.refl _ _);have hr1:(wr.alloc (.cells #[.int .u64 lo,.int .u64 hi] 99)).heap[wr.heap.size]?=some (.cells #[.int .u64 lo,.int .u64 hi] 99):=z7 rfl;have HS3:=hid (HS.out.kept hal);have HmB:B<wr.heap.size:=HS.out.own.lt;have Hb3:=hid (Hb.out.trans (hal.mono hBwr));have Hr1:=hid hr1;clear hal hr1;go_wp2_with (at_mapUpdate;refine wpList_mapUpdate_own _ rfl _ _ _ 330 rfl 52 4 zc5 Tryz.underlying330 rB B N D rfl HS3.out.own (by unfold maxLen;omega) _ _ _ rfl rfl (zfu hlt.1) (.lit (.bool true)) [] rfl ?_;intro w4 ho4 hg4;have z1:=(World.cell?_of_block (a:=⟨wr.heap.size,1,none⟩) (hg4.block wr.heap.size (by simp) (by simp;omega))).trans (zu (i:=1) Hr1.out rfl));have HS4:=hid (HS3.out.put (S':=fun x=>zba k d e x∨x=lo) ho4 (fun r=>Iff.rfl));have Hb4:=hid (Hb3.out.grown hg4 (by have:=HS3.out.own.lt;omega) (fun k hk=>by cases hk;exact Nat.le_refl _));clear ho4 hg4 z1 y0 y1 c0 c1;by_cases hmx:hi<18446744073709551615
       · refine(zr5 hi hmx _).mono ?_;rintro e' w5 ⟨rfl,hb5⟩;have HS5:=hid (HS4.out.kept hb5);have Hb5:=hid (Hb4.out.trans (hb5.mono (by have:=HS4.out.own.lt;omega)));have hh64:hi+1<18446744073709551616:=by omega
         clear hb5;go_wp2_with (at_mapUpdate;refine wpList_mapUpdate_own _ rfl _ _ _ 330 rfl 52 4 zc5 Tryz.underlying330 rB B _ _ rfl HS5.out.own (by unfold maxLen;omega) _ _ _ rfl rfl (zfu hh64) (.lit (.bool true)) [] rfl ?_;intro w6 ho6 hg6);have HS6:=hid (HS5.out.put (S':=zba k d (e+1)) ho6 (fun r=>by rw[Hse.out r];simp[hmx]));have Hb6:=hid (Hb5.out.grown hg6 (by have:=HS5.out.own.lt;omega) (fun k hk=>by cases hk;exact Nat.le_refl _));clear ho6 hg6;go_roundw
         case rel=>exact⟨e+1,by omega,by go_num,Hb6.out,_,_,by omega,HS6.out⟩
         case measure=>simp[intOf];omega
       · obtain rfl:hi=18446744073709551615:=by omega
         refine(zr6 _).mono ?_;rintro e' w5 ⟨rfl,hb5⟩;have HS5:=hid ((HS4.out.kept hb5).congr (S':=zba k d (e+1)) (fun r=>by rw[Hse.out r];simp));have Hb5:=hid (Hb4.out.trans (hb5.mono (by have:=HS4.out.own.lt;omega)));clear hb5;go_wp2;go_roundw
         case rel=>exact⟨e+1,by omega,by go_num,Hb5.out,_,_,by omega,HS5.out⟩
         case measure=>simp[intOf];omega
     · obtain rfl:e=m:=by omega
       have HS7:=hid (HS.out.congr (S':=zba k (d+1) 0) (fun r=>by rw[←Hnx.out r,hlm]));clear HS;go_wp2;go_roundw
       case rel=>exact⟨d+1,by omega,by go_num,Hb.out,_,_,by omega,HS7.out⟩
       case measure=>simp[intOf];omega
  · obtain rfl:d=n:=by omega
    have HS1:=hid (HS.out.congr (S':=fun r=>r∈jh k) (fun r=>by rw[←Hl.out];exact z1i k r));clear HS;have hmem:∀f∈k,Good f.1∧f.1.length≤1000000:=fun f hf=>⟨HG.out f hf,by have:=HF.out.items f hf;omega⟩
    have HM:=hid (fun (t:Nat) (w':World) (h:Below B w w')=>zt8 a d c t k w' (HE.out.below (by rw[←HBe.out];exact h)) hmem (by omega))
    have HML:=hid (fun t=>show (zw k t).length≤500 from by
     have:=zkt k t k.length;have h2:zw k t=kz k t k.length:=rfl;rw[h2];have:=Hl.out;omega)
    have hNm:N<maxLen:=by unfold maxLen;omega
    clear hmem hmm;go_wp2_with (at_range;refine wpList_range_own _ rfl _ _ rfl 52 4 zc5 Tryz.underlying330 rB B N D rfl HS1.out.own ?_;intro w3 hrg3 hg3 hs3);go_frame
    obtain⟨R,hR⟩:∃R,R=wr.heap.size:=⟨_,rfl⟩;rw[←hR] at hrg3 ⊢;have HR:=hid hR;have hBR:B<R:=by rw[hR];exact HS1.out.own.lt
    have Hb3:=hid (Hb.out.grown hg3 (by omega) (fun k hk=>by cases hk));have HSf:=hid (Sift.start HS1.out.keys);have Hrg3:=hid hrg3;clear hR hrg3 hg3 hs3 HS1 Hb;go_loopw [10,11,12] (fun _ _ _ wr=>∃(left:Lit→Bool) (cnt:Nat) (D:DataW Value),Hid (wr.ranges Tryz.prog 52 rB B R N D left cnt)∧Hid (Sift k D left)∧Hid (Below B w wr)) (fun _ _ _ wr=>wr.rangeLeft B R)
    case atStart=>exact⟨_,_,D,Hrg3.out,HSf.out,Hb3.out⟩
    case round=>
     obtain⟨left,cnt,D,Hrg,HSi,Hb⟩:=hrel;have Hrg:=hid Hrg.out;go_wp2_with (at_next;refine znq rfl _ rfl rB B R N D left cnt rfl Hrg.out ?_ ?_)
     · intro hl0;have HK:=hid (HSi.out.all hl0);have Hown:=hid Hrg.out.owns;clear hl0 Hrg HSi Hb3 HSf Hrg3 HM HML;go_wp2_with (at_range;refine wpList_range_own _ rfl _ _ rfl 52 4 zc5 Tryz.underlying330 rB B N D rfl Hown.out ?_;intro w3 hrg3 hg3 hs3);go_frame
       obtain⟨R2,hR2⟩:∃R2,R2=wr.heap.size:=⟨_,rfl⟩;rw[←hR2] at hrg3 hs3 ⊢;have hBR2:B<R2:=by rw[hR2];exact Hown.out.lt
       have Hb3:=hid (Hb.out.grown hg3 (by omega) (fun k hk=>by cases hk));have Hrg3:=hid hrg3;have Hs3:=hid hs3;clear hR2 hrg3 hg3 hs3 Hown Hb;go_loopw [13,14] (fun y _ wr=>∃(left:Lit→Bool) (cnt:Nat) (L:List Nat),Hid (wr.ranges Tryz.prog 52 rB B R2 N D left cnt)∧Hid (Coll D left L)∧Hid (wr.ownsRow (R2+1) 52 1 y L.length (zi L))∧Hid (Below B w wr)∧R2+1≤wr.heap.size) (fun _ _ wr=>wr.rangeLeft B R2)
       case atStart=>exact⟨_,_,[],Hrg3.out,Coll.start D,World.ownsRow_nil _ _ _ _,Hb3.out,by rw[Hs3.out];exact Nat.le_refl _⟩
       case round=>
        obtain⟨left,cnt,L,Hrg,HC,Ho,Hb,hsw⟩:=hrel;have Hrg:=hid Hrg.out;have Hlen:=hid (show L.length≤10000 from Nat.le_trans (zub HC.out.nodup (fun x hx=>(HK.out x).1 ((HC.out.mem x).1 hx).1)) HSl.out);go_wp2_with (at_next;refine znq rfl _ rfl rB B R2 N D left cnt rfl Hrg.out ?_ ?_)
        · intro hl0;have h0:0∈L:=(HC.out.mem 0).2 ⟨(HK.out 0).2 (zkd k),hl0 _⟩;have hS:=hid (z3f (R2+1) L.length _ L wr Ho.out (List.length_pos_of_mem h0) (by have:=Hlen.out;omega));have HF2:=hid (fun (M:List Nat) (hp:M.Perm L) (hM:M.Pairwise (· ≤·))=>z1m HC.out hl0 HK.out hp hM);have Holt:=hid Ho.out.lt;obtain⟨ya,yc,rfl⟩:=ks Ho.out;clear h0 hl0 HC Hrg Ho;go_wp2_with fail;refine hS.out.mono ?_;rintro e w5 ⟨rfl,M,hp,hM,ho5,hg5⟩;have hMe:=HF2.out M hp hM;have hlen5:L.length=(zx k).length:=by rw[←hp.length_eq,hMe]
          subst hMe;have Ho5:=hid ho5;have Hb5:=hid (Hb.out.grown hg5 (by omega) (fun k hk=>by have:=(Holt.out k hk).1;omega));clear hp hM ho5 hg5;go_wp2;go_ret;refine⟨⟨_,rfl,?_⟩,by rw[←HBe.out];exact Hb5.out⟩;rw[←hlen5,←HBe.out];exact y9 Ho5.out (by omega)
        · intro x u w4 cnt4 hx hlx hhx hrg4 hlt4 hg4 hs4 hen;have HC4:=hid (HC.out.step hhx hlx);have Hb4:=hid (Hb.out.grown hg4 (by have:=Hrg.out.owns.lt;omega) (fun k hk=>by cases hk;omega));have Ho4:=hid (qr (w':=w4) Ho.out (fun k hk1 hk2=>hg4.block k hk2 (by simp;omega)));have Hrg4:=hid hrg4;have Hlt4:=hid hlt4;have hs4':R2+1≤w4.heap.size:=by omega
          have hal:Below w4.heap.size w4 (w4.alloc (.cells #[.int .u64 x] 52)):=(Below.refl _ _).alloc (Nat.le_refl _) _;have Hal:=hid hal;clear hlx hhx hrg4 hlt4 hg4 hs4 hal;go_wp2_with (at_builtin;refine zsb rfl _ _ rfl rfl (R2+1) _ L.length L rfl (zm Ho4.out Hal.out) _ 1 1 [x] rfl (yg (zg _ _ _ (by simp)) rfl rfl) (by have:=Hlen.out;omega) (by simp;omega) ?_;intro v' w5 ho5 hg5);have hsz5:=hg5.size;simp only[World.size_alloc] at hsz5;have hvr:∀j,j≤R2→some j≠Value.ownBlock _:=fun j hj e=>by have:=(Ho4.out.lt j e.symm).1;omega
          have Hrg5:=hid ((Hrg4.out.kept (zbq Hal.out) (by simp) (by simp)).kept hg5 (hvr B (by omega)) (hvr R2 (Nat.le_refl _)));have Hb5:=hid ((Hb4.out.trans (Hal.out.mono (by omega))).grown hg5 (by simp;omega) (fun k hk=>by have:=(Ho4.out.lt k hk).1;omega));have Ho5:=hid ho5;clear ho5 hg5 hvr;go_roundw
          case rel=>exact⟨_,cnt4,L++[x],Hrg5.out,HC4.out,by rw[List.length_append];exact Ho5.out,Hb5.out,by omega⟩
          case measure=>rw[Hrg5.out.left_eq,Hrg.out.left_eq];exact Hlt4.out
     · intro x u w4 cnt4 hx hlx hhx hrg4 hlt4 hg4 hs4 hen;have Hb4:=hid (Hb.out.grown hg4 (by have:=Hrg.out.owns.lt;omega) (fun k hk=>by cases hk;omega));have Hrg4:=hid hrg4;have Hlt4:=hid hlt4;have Hhx:=hid hhx;have Hlx:=hid hlx;have hall:=((HSi.out.keys x).1 hhx).1;have Hall:=hid hall;clear hlx hhx hrg4 hlt4 hg4 hs4 hall;by_cases hx0:x=0
       · subst hx0;have hst:0∈zx k:=zkd k;have HSt:=hid (HSi.out.stay hst);clear hst;go_wp2_with fail;refine(zr7 0 (by omega) _).mono ?_;rintro e w5 ⟨rfl,hb5⟩;have Hrg5:=hid (Hrg4.out.kept (zbq hb5) (by simp) (by simp));have Hb5:=hid (Hb4.out.trans (hb5.mono (by have:=Hrg4.out.owns.lt;omega)));clear hb5 hen;have hpz:zh7 0=none:=rfl;rw[hpz];simp only[zbh,Option.getD,Option.isSome];go_wp2;go_roundw
         case rel=>exact⟨_,cnt4,D,Hrg5.out,HSt.out,Hb5.out⟩
         case measure=>rw[Hrg5.out.left_eq,Hrg.out.left_eq];exact Hlt4.out
       · have hpz:zh7 x=some (x - 1):=if_neg hx0
         have Hst:=hid (show x∈zx k↔zw k (x - 1)≠zw k x from by
          rw[zh0];constructor
          · rintro⟨-,h | h⟩
            · exact absurd h hx0
            · exact h
          · exact fun h=>⟨Hall.out,.inr h⟩)
         go_wp2_with fail;refine(zr7 x hx _).mono ?_;rintro e w5 ⟨rfl,hb5⟩;have Hrg5:=hid (Hrg4.out.kept (zbq hb5) (by simp) (by simp));have Hb5:=hid (Hb4.out.trans (hb5.mono (by have:=Hrg4.out.owns.lt;omega)));clear hb5 hen;rw[hpz];simp only[zbh,Option.getD,Option.isSome];obtain⟨x',hx'⟩:∃x',x'=x - 1:=⟨_,rfl⟩;rw[←hx'] at Hst ⊢;clear hx' hpz;go_wp2_with fail;refine(HM.out x' w5 Hb5.out).mono ?_;rintro e w6 ⟨⟨y1,rfl,ho1⟩,hb6⟩;have Ho1:=hid ho1;have Hb6:=hid (Hb5.out.trans (hb6.mono (by have:=Hrg5.out.owns.lt;omega)));have Hrg6:=hid (Hrg5.out.kept (zbq hb6) (by simp) (by simp));clear ho1 hb6;go_wp2_with fail;refine(HM.out x w6 Hb6.out).mono ?_;rintro e w7 ⟨⟨y2,rfl,ho2⟩,hb7⟩;have Ho1:=hid (zm Ho1.out hb7);have Ho2:=hid ho2;have Hb7:=hid (Hb6.out.trans (hb7.mono (by have:=Hrg6.out.owns.lt;omega)));have Hrg7:=hid (Hrg6.out.kept (zbq hb7) (by simp) (by simp));clear ho2 hb7;have hC:=hid (z34 _ _ y1 y2 _ _ w7 Ho1.out Ho2.out (by have:=HML.out x';omega) (by have:=HML.out x;omega));go_wp2_with fail;refine hC.out.mono ?_;rintro e w8 ⟨rfl,hb8⟩;have Hb8:=hid (Hb7.out.trans (hb8.mono (by have:=Hrg7.out.owns.lt;omega)));have Hrg8:=hid (Hrg7.out.kept (zbq hb8) (by simp) (by simp));clear hb8 hC;obtain⟨z,hz⟩:∃z,z=decide (zw k x'=zw k x):=⟨_,rfl⟩;rw[←hz];have Hz:=hid hz;clear hz
         cases z with
         | true=>
          have hns:x∉zx k:=fun h=>(Hst.out.1 h) (by simpa using Hz.out.symm)
          have HSd:=hid (HSi.out.drop hns);clear hns;go_wp2_with (at_delete;refine wpList_delete_ranges _ rfl _ _ 330 52 rfl 4 zc5 Tryz.underlying330 rB B R N D _ cnt4 rfl Hrg8.out _ _ rfl (zfu hx) ?_;intro w9 cnt9 hrg9 hle9 hturn9;go_frame);rw[strike_twice] at hrg9;have Hrg9:=hid hrg9;have Hb9:=hid (Hb8.out.grown hturn9.grown (by have:=Hrg8.out.owns.lt;omega) (fun k hk=>by cases hk;exact Nat.le_refl _));clear hrg9 hturn9;go_roundw
          case rel=>exact⟨_,cnt9,_,Hrg9.out,HSd.out,Hb9.out⟩
          case measure=>rw[Hrg9.out.left_eq,Hrg.out.left_eq];have:=Hlt4.out;omega
         | false=>
          have hns:x∈zx k:=Hst.out.2 (by simpa using Hz.out.symm);have HSd:=hid (HSi.out.stay hns);clear hns;go_wp2;go_roundw
          case rel=>exact⟨_,cnt4,_,Hrg8.out,HSd.out,Hb8.out⟩
          case measure=>rw[Hrg8.out.left_eq,Hrg.out.left_eq];exact Hlt4.out
end
end Go.Proofs.YtdnjfnofjaoajaaGreatDoor
