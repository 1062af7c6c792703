/- Part 07. -/
import Derived.Test.YtdnipikdddfhfaaGreatDoorOp06
set_option linter.unusedVariables false
set_option maxHeartbeats 16000000
namespace Go.Proofs.YtdnipikdddfhfaaGreatDoor
open Lib (hid)
section
open Go.RowKit Go.Shelf
attribute [local go_sem] Oper.semAt_some zer
theorem zqz (a:Option Addr) (n c t:Nat) (w:World):Calls Tryz.prog 213 #[.slice a n c,.int .u64 t] w fun e w'=>
 e=.returned (.func (.func 251) #[] #[.pointer (some ⟨w.heap.size,0,none⟩),.pointer (some ⟨w.heap.size+1,0,none⟩)])∧w'=(w.alloc (.cells #[.slice a n c] 27)).alloc (.cells #[.int .u64 t] 43):=by
 go_enter Tryz.func213,Tryz.ntmps213;go_wp2;go_ret;exact⟨by simp,rfl⟩
theorem zq0 (w:World) (x y:Value) (T:TypeId) (w':World) (h:Below (w.alloc (.cells #[x,y] T)).heap.size (w.alloc (.cells #[x,y] T)) w'):
 w'.cell? ⟨w.heap.size,0,none⟩=some x∧w'.cell? ⟨w.heap.size,1,none⟩=some y:=by
 have hrow:(w.alloc (.cells #[x,y] T)).heap[w.heap.size]?=some (.cells #[x,y] T):=zaa rfl
 exact⟨(h.cell (p:=⟨w.heap.size,0,none⟩) (by simp)).trans (kf (i:=0) hrow rfl),
  (h.cell (p:=⟨w.heap.size,1,none⟩) (by simp)).trans (kf (i:=1) hrow rfl)⟩
abbrev WEl:=Nat×Value×Value
def zg4 (x:WEl):Array Value:= #[.int .i64 ((x.1:Nat):Int),.agg #[x.2.1,x.2.2]]
def zbt (w:World) (k:Kno) (x:WEl):Prop:=(∃a n c,x.2.1=.slice a n c∧Ivs w a n c (zd k x.1).1)∧∃a n c,x.2.2=.slice a n c∧Ents w a n c (zd k x.1).2
set_option maxRecDepth 20000 in
theorem zq1 (n:Nat) (w0 w:World) (bk bt:Nat) (a:Option Addr) (m c t:Nat) (k:Kno) (hE:Frags w0 a m c k) (hG:∀f∈k,Good f.1∧f.1.length≤1000000) (hb0:Below w0.heap.size w0 w) (hm:m≤500)
 (hbk:w.heap[bk]?=some (.cells #[.slice a m c] 27)) (hbt:w.heap[bt]?=some (.cells #[.int .u64 t] 43)):
 zjl n Tryz.prog 251 #[.pointer (some ⟨bk,0,none⟩),.pointer (some ⟨bt,0,none⟩)] zg4
  (fun pre=>(∃rest,vm k t=pre.map (·.1)++rest)∧∀x∈pre,zbt w0 k x) (fun xs=>vm k t=xs.map (·.1)∧∀x∈xs,zbt w0 k x)
  (fun _=>False) (fun k=>k<w0.heap.size∨k=bk∨k=bt) w:=by
 intro l J Jx W hl hW hJ hJx hY h0;have H0:=hid (hb0.trans (hW.mono hb0.size));have hrk:=(hW.block bk (Array.getElem?_eq_some_iff.1 hbk).1).trans hbk;have hrt:=(hW.block bt (Array.getElem?_eq_some_iff.1 hbt).1).trans hbt;have Hrt:=hid hrt;have HE:=hid hE;have Hl:=hid hE.len;have HG:=hid hG;have HJ:=hid (fun s A B (h:J s A) (hb:Below A.heap.size A B)=>hJ s A B h ((Kept.refl _ A).below hb));have HY:=hid hY;have Hj0:=hid h0;clear hE hb0 hbk hbt hW hJ hJx hY h0 hl hG hrt;refine callsIn_of_wp Tryz.func251 rfl trivial ?_ rfl;simp only[Tryz.ntmps251,List.size_toArray,List.length_cons,List.length_nil,Nat.reduceAdd,Nat.reduceSub,Array.replicate_succ,Array.replicate_zero,List.push_toArray,List.append_toArray,List.nil_append,List.cons_append];have q1:=zao hrk;clear hrk
 gi_wp2
 clear q1
 gi_loopw [4,5,8] (fun _ _ i wr=>∃d:Nat,d≤m∧i=.int .i64 d∧Hid (Below w0.heap.size w0 wr∧wr.heap[bt]?=some (.cells #[.int .u64 t] 43)∧∃pre,J pre wr∧zac k t d=pre.map (·.1)∧∀x∈pre,zbt w0 k x)) (fun _ _ i _=>m - (intOf i).toNat)
 case atStart=>exact⟨0,by omega,rfl,H0.out,Hrt.out,[],Hj0.out,rfl,fun x hx=>by cases hx⟩
 case round=>
  obtain⟨d,hd,rfl,hinv⟩:=hrel;obtain⟨hb,hrt,pre,hj,hpre,hsl⟩:=hinv.out;by_cases hdm:d<m
  · have hdk:d<k.length:=by rw[Hl.out];exact hdm
    obtain⟨bb,oo,rfl⟩:=HE.out.some (by omega);obtain⟨x,n1,c1,y,n2,c2,hq⟩:=HE.out.fix hdm;obtain⟨q1,hI,q2,hV⟩:=hq wr hb;have Hsl0:=hid (show zbt w0 k (d,.slice x n1 c1,.slice y n2 c2) from⟨⟨_,_,_,rfl,(hq w0 (Below.refl _ _)).2.1⟩,_,_,_,rfl,(hq w0 (Below.refl _ _)).2.2.2⟩);have Hst:=hid (zi5 k t d)
    have Hmem:=hid (show mem (zd k d).1 t=true→∃rest,vm k t=zac k t d++[d]++rest from fun h=>by
     have h1:vm k t=zac k t k.length:=rfl
     have h2:∀e,zac k t (d+1+e)=zac k t (d+1)++((List.range e).map (d+1+·)).filter fun i=>mem (zd k i).1 t:=by
      intro e;unfold zac;rw[List.range_add,List.filter_append]
     obtain⟨e,he⟩:∃e,k.length=d+1+e:=⟨k.length - (d+1),by omega⟩;rw[h1,he,h2,zi5,if_pos h];exact⟨_,rfl⟩)
    have hal:Below wr.heap.size wr (wr.alloc (.cells #[.slice x n1 c1,.slice y n2 c2] 97)):=(Below.refl _ _).alloc (Nat.le_refl _) _;have hg:=HG.out _ (j7 hdk);have hC:=hid (zp5 x n1 c1 t (zd k d).1 _ (hI.below hal) hg.1 (by rw[←hI.len];exact hg.2));have Hal:=hid hal;have hz1:(wr.alloc (.cells #[.slice x n1 c1,.slice y n2 c2] 97)).cell? ⟨bt,0,none⟩=some (.int .u64 t):=zao (zb8 hrt);have Hb:=hid hb;have Hrt:=hid hrt;have Hj:=hid hj;have Hpre:=hid hpre;have Hsl:=hid hsl;have h0d:(0:Int)≤d:=by omega
    have h04:(d:Int)<(m:Int):=by omega
    clear hb hrt hj hpre hsl hq hI hV hinv hal hg;generalize mem (zd k d).1 t=b at*
    gi_wp2_with fail
    refine⟨fun h=>(by cases h),(callsIn_wide.2 hC.out).mono ?_⟩;rintro e w1 ⟨rfl,hb1⟩;have Hb1:=hid hb1;clear hb1 hz1 q1 q2;have Hw1:=hid (Hal.out.trans (Hb1.out.mono Hal.out.size));have Hb1w:=hid (Hb.out.trans (Hw1.out.mono Hb.out.size));have Hrt1:=hid ((Hw1.out.block _ (Array.getElem?_eq_some_iff.1 Hrt.out).1).trans Hrt.out);have Hj1:=hid (HJ.out _ _ _ Hj.out Hw1.out);obtain⟨f0,f1⟩:=zq0 wr (.slice x n1 c1) (.slice y n2 c2) 97 w1 Hb1.out
    cases b with
    | false=>
     rw[if_neg (by simp),List.append_nil] at Hst
     gi_wp2
     go_roundw
     case rel=>exact⟨d+1,by omega,by go_num,Hb1w.out,Hrt1.out,pre,Hj1.out,by rw[Hst.out];exact Hpre.out,Hsl.out⟩
     case measure=>simp[intOf];omega
    | true=>
     rw[if_pos rfl] at Hst;have hmm:=Hmem.out rfl;obtain⟨rest,hrest⟩:=hmm
     have hV:(∃rest,vm k t=(pre++[((d,.slice x n1 c1,.slice y n2 c2):WEl)]).map (·.1)++rest)∧∀x'∈pre++[((d,.slice x n1 c1,.slice y n2 c2):WEl)],zbt w0 k x':=by
      refine⟨⟨rest,by rw[hrest,Hpre.out,List.map_append];rfl⟩,fun x' hx'=>?_⟩;rcases List.mem_append.1 hx' with h | h
      · exact Hsl.out x' h
      · rw[List.mem_singleton] at h;rw[h];exact Hsl0.out
     have HV:=hid hV;obtain⟨fn,tmps,assign,body,hy,hR⟩:=HY.out pre (d,.slice x n1 c1,.slice y n2 c2) w1 hV Hj1.out;simp only[zg4] at hy;clear hV hrest
     gi_wp2
     first | refine hR.mono ?_ | refine⟨fun h=>(by cases h),hR.mono ?_⟩
     rintro e W3 (⟨rfl,hJ3,hk3⟩ | ⟨rfl,hJx3⟩)
     · have H3:=hid (show Below w0.heap.size w0 W3∧W3.heap[bt]?=some (.cells #[.int .u64 t] 43)∧∃pre,J pre W3∧zac k t (d+1)=pre.map (·.1)∧∀x∈pre,zbt w0 k x from
        ⟨Hb1w.out.trans (hk3.toBelow (fun k hk=>.inl hk) Hb1w.out.size),(hk3.row _ (Array.getElem?_eq_some_iff.1 Hrt1.out).1 (.inr (.inr rfl))).trans Hrt1.out,_,hJ3,by rw[Hst.out,Hpre.out,List.map_append];rfl,HV.out.2⟩)
       clear hJ3 hk3 hy hR f0 f1
       gi_wp2
       go_roundw
       case rel=>exact⟨d+1,by omega,by go_num,H3.out⟩
       case measure=>simp[intOf];omega
     · have HX:=hid (show ∃pre,((∃rest,vm k t=pre.map (·.1)++rest)∧∀x∈pre,zbt w0 k x)∧Jx pre W3 from⟨_,HV.out,hJx3⟩);clear hJx3 hy hR f0 f1
       gi_wp2
       go_wp2;refine bodyPost_ret (results_none rfl _ _ _) rfl ?_;exact⟨⟨_,rfl⟩,.inr HX.out⟩
  · obtain rfl:d=m:=by omega
    have HF:=hid (show ∃xs,(vm k t=xs.map (·.1)∧∀x∈xs,zbt w0 k x)∧J xs wr from⟨pre,⟨by rw[←hpre,←Hl.out];rfl,hsl⟩,hj⟩);clear hb hrt hj hpre hsl hinv
    gi_wp2
    refine bodyPost_end (results_none rfl _ _ _) rfl ?_;exact⟨⟨_,rfl⟩,.inl HF.out⟩
end
section
open Go.RowKit Go.Shelf
attribute [local go_sem] Oper.semAt_some zer
structure KeptT (base:Nat) (T:TypeId→Prop) (A B:World):Prop where
 os:B.os=A.os
 tape:B.tape=A.tape
 output:B.output=A.output
 size:A.heap.size≤B.heap.size
 row:∀k,k<A.heap.size→(k<base∨∃C U fr,T U∧A.heap[k]?=some (.cells C U fr))→B.heap[k]?=A.heap[k]?
theorem KeptT.toBelow {base:Nat} {T:TypeId→Prop} {A B:World} (h:KeptT base T A B) (hb:base≤A.heap.size):Below base A B:=⟨h.os,h.tape,h.output,h.size,fun k hk=>h.row k (by omega) (.inl hk)⟩
theorem KeptT.typed {base:Nat} {T:TypeId→Prop} {A B:World} (h:KeptT base T A B) {k:Nat} {C:Array Value} {U:TypeId} {fr:Nat×Nat} (hT:T U) (hr:A.heap[k]?=some (.cells C U fr)):B.heap[k]?=some (.cells C U fr):=
 (h.row k (Array.getElem?_eq_some_iff.1 hr).1 (.inr ⟨C,U,fr,hT,hr⟩)).trans hr
def zd5 (T:TypeId):Prop:=T=89∨T=93∨T=95
theorem zq2 {P:Program} {w:World} (ty:TypeId) (cs:Array Value) (k len:Nat) (e:TypeId) (ik:IntKind) (v:Value)
 (hu:P.underlying ty=some (.array len e)) (hk:k<len) (he:P.underlying e=some (.int ik)) (hi:(P.info? e).map (·.size)=some 1) (hv:cs[k]?=some v):
 (Instr.index ty (.agg cs) (.int .i64 (k:Int))).run P w=.ok v w:=by
 cases hq:P.info? e with
 | none=>simp[hq] at hi
 | some i=>
  have hsz:i.size=1:=by simpa [hq] using hi
  simp only[Instr.index,asIntOf,Sem.run_bind,Sem.run_pure,Result.andThen_ok,run_underlying hu];have hk':0≤(k:Int)∧(k:Int)<(len:Int):=⟨by omega,by omega⟩;simp[Sem.run_bind,part,isAgg,sizeOf,typeInfo,run_underlying he,hq,hsz,hv,hk']
theorem zq3 (a:Option Addr) (n c:Nat) (w:World):Calls Tryz.prog 233 #[.slice a n c] w fun e w'=>
 e=.returned (.func (.func 262) #[] #[.pointer (some ⟨w.heap.size,0,none⟩)])∧w'=w.alloc (.cells #[.slice a n c] 95):=by
 go_enter Tryz.func233,Tryz.ntmps233;go_wp2;go_ret;exact⟨rfl,rfl⟩
set_option maxRecDepth 100000 in
theorem zq4 (n:Nat) (w0 w:World) (ba:Nat) (a:Option Addr) (m c:Nat) (v:Vec) (hE:Ents w0 a m c v) (hb0:Below w0.heap.size w0 w)
 (hbx:w.heap[ba]?=some (.cells #[.slice a m c] 95)) (hm:m≤1000000000000):
 zjm n Tryz.prog 262 #[.pointer (some ⟨ba,0,none⟩)] (fun x=> #[.int .u64 ((x:Nat):Int)]) (fun pre=>∃rest,zi v=pre++rest) (fun xs=>xs=zi v)
  (fun _=>False) (KeptT w0.heap.size zd5) w:=by
 intro l J Jx W hl hW hJ hJx hY h0;have H0:=hid (hb0.trans (hW.mono hb0.size));have Hbx:=hid ((hW.block ba (Array.getElem?_eq_some_iff.1 hbx).1).trans hbx);have HE:=hid hE;have Hlen:=hid hE.len;have HJ:=hid (fun s A B (h:J s A) (hb:Below A.heap.size A B)=>hJ s A B h ((Kept.refl _ A).below hb));have HY:=hid hY;have Hj0:=hid h0;clear hE hb0 hbx hW hJ hJx hY h0 hl;refine callsIn_of_wp Tryz.func262 rfl trivial ?_ rfl;simp only[Tryz.ntmps262,List.size_toArray,List.length_cons,List.length_nil,Nat.reduceAdd,Nat.reduceSub,Array.replicate_succ,Array.replicate_zero,List.push_toArray,List.append_toArray,List.nil_append,List.cons_append];have hwm:IntKind.u64.wrap (m:Int)=(m:Int):=by rw[IntKind.wrap_u64];omega
 have q1:=zao Hbx.out;have hV0:zi v=[m]++v.flatMap qu:=by unfold zi;rw[Hlen.out];rfl
 obtain⟨fn,tmps,assign,body,hy,hR⟩:=HY.out [] m W ⟨_,hV0⟩ Hj0.out;clear hV0
 gi_wp2
 first | refine hR.mono ?_ | refine⟨fun h=>(by cases h),hR.mono ?_⟩
 rintro e W3 (⟨rfl,hJ3,hk3⟩ | ⟨rfl,hJx3⟩)
 · have H3:=hid (H0.out.trans (hk3.toBelow H0.out.size));have Hbx3:=hid (hk3.typed (.inr (.inr rfl)) Hbx.out)
   have HJ3:=hid (show J (jn v 0) W3 from by
    have e:jn v 0=[]++[m]:=by unfold jn;rw[Hlen.out];rfl
    rw[e];exact hJ3)
   clear hk3 hJ3 hy hR q1;have q1:=zao Hbx3.out
   gi_wp2
   clear q1
   gi_loopw [4,6,8,17,30,41] (fun _ _ _ i _ _ wr=>∃k:Nat,k≤m∧i=.int .i64 k∧Hid (Below w0.heap.size w0 wr∧wr.heap[ba]?=some (.cells #[.slice a m c] 95)∧J (jn v k) wr)) (fun _ _ _ i _ _ _=>m - (intOf i).toNat)
   case atStart=>exact⟨0,by omega,rfl,H3.out,Hbx3.out,HJ3.out⟩
   case round=>
    obtain⟨k,hk,rfl,hinv⟩:=hrel;by_cases hkm:k<m
    · have hkv:k<v.length:=by rw[Hlen.out];exact hkm
      obtain⟨bb,oo,rfl⟩:=HE.out.some (by omega);obtain⟨x,d,cd,hq⟩:=HE.out.fix hkm;obtain⟨q1,q2,q3,-⟩:=hq wr hinv.out.1;have HIv:=hid (fun w' (h:Below w0.heap.size w0 w')=>(hq w' h).2.2.2);have Hst:=hid (zjv hkv)
      have Hnum:=hid (show zi v=jn v (k+1)++(v.drop (k+1)).flatMap qu from by
       unfold zi jn;rw[List.cons_append,←List.flatMap_append,List.take_append_drop])
      clear hq;obtain⟨P1,hP1⟩:∃P1,jn v (k+1)=P1:=⟨_,rfl⟩;rw[hP1] at Hst Hnum;have HP1:=hid hP1;clear hP1;generalize jn v k=P at*;generalize (v.drop (k+1)).flatMap qu=rest at*;generalize zg v k=e at*;obtain⟨er,em,eh⟩:=e;simp only at q1 q2 q3 HIv Hst;have hlv:=(HIv.out w0 (Below.refl _ _)).len;have hdm:d≤9223372036854775807:=Nat.le_trans (HIv.out w0 (Below.refl _ _)).room (HIv.out w0 (Below.refl _ _)).most;have Hlv:=hid hlv;have hwd:IntKind.u64.wrap (d:Int)=(d:Int):=by rw[IntKind.wrap_u64];omega
      have h0k:(0:Int)≤k:=by omega
      have h04:(k:Int)<(m:Int):=by omega
      obtain⟨b4,hb4⟩:∃b4,b4=wr.heap.size:=⟨_,rfl⟩;have hrow:(wr.alloc (.cells #[.int .u64 er,.int .u64 em,.slice x d cd] 93)).heap[b4]?=some (.cells #[.int .u64 er,.int .u64 em,.slice x d cd] 93):=by rw[hb4];exact zaa rfl
      have hal:Below wr.heap.size wr (wr.alloc (.cells #[.int .u64 er,.int .u64 em,.slice x d cd] 93)):=(Below.refl _ _).alloc (Nat.le_refl _) _
      have Hinv:=hid (show Below w0.heap.size w0 (wr.alloc (.cells #[.int .u64 er,.int .u64 em,.slice x d cd] 93))∧(wr.alloc (.cells #[.int .u64 er,.int .u64 em,.slice x d cd] 93)).heap[ba]?=some (.cells #[.slice (some ⟨bb,oo,none⟩) m c] 95)∧J P (wr.alloc (.cells #[.int .u64 er,.int .u64 em,.slice x d cd] 93)) from
       ⟨hinv.out.1.trans (hal.mono hinv.out.1.size),zb8 hinv.out.2.1,HJ.out _ _ _ hinv.out.2.2 hal⟩)
      have Hrow:=hid hrow;clear hrow hal hlv hinv
      gi_wp2
      rw[←hb4];have Hb4e:=hid hb4;clear hb4
      gi_loopw [6,30] (fun _ i wr=>∃z:Nat,z≤3∧i=.int .i64 z∧Hid (Below w0.heap.size w0 wr∧wr.heap[ba]?=some (.cells #[.slice (some ⟨bb,oo,none⟩) m c] 95)∧wr.heap[b4]?=some (.cells #[.int .u64 er,.int .u64 em,.slice x d cd] 93)∧J (P++[er,em,d].take z) wr)) (fun _ i _=>3 - (intOf i).toNat)
      case atStart=>exact⟨0,by omega,rfl,Hinv.out.1,Hinv.out.2.1,Hrow.out,by simpa using Hinv.out.2.2⟩
      case round=>
       obtain⟨z,hz,rfl,hinv⟩:=hrel;by_cases hz3:z<3
       · have hV:zi v=P++[er,em,d].take z++[nth [er,em,d] z]++([er,em,d].drop (z+1)++y9 eh++rest):=by
          rw[Hnum.out,Hst.out];simp only[qu,Hlv.out];have hcs:z=0∨z=1∨z=2:=by omega
          rcases hcs with rfl | rfl | rfl <;> simp[nth]
         have htk:P++[er,em,d].take z++[nth [er,em,d] z]=P++[er,em,d].take (z+1):=by
          have hcs:z=0∨z=1∨z=2:=by omega
          rcases hcs with rfl | rfl | rfl <;> simp[nth]
         have Htk:=hid htk;obtain⟨fn,tmps,assign,body,hy,hR⟩:=HY.out _ _ wr ⟨_,hV⟩ hinv.out.2.2.2
         have hidx:(#[Value.int .u64 er,.int .u64 em,.int .u64 d]:Array Value)[z]?=some (.int .u64 ((nth [er,em,d] z:Nat):Int)):=by
          have hcs:z=0∨z=1∨z=2:=by omega
          rcases hcs with rfl | rfl | rfl <;> rfl
         have Hv:=hid hV;have hz0:(0:Int)≤z:=by omega
         have hzi:(z:Int)<3:=by omega
         have hix:=fun w'=>zq2 (P:=Tryz.prog) (w:=w') 354 #[Value.int .u64 er,.int .u64 em,.int .u64 d] z 3 43 .u64 _ Tryz.underlying354 hz3 Tryz.underlying43 (by kernel_rfl) hidx
         clear hV htk hidx;generalize nth [er,em,d] z=y at*
         gi_wp2
         first | refine hR.mono ?_ | refine⟨fun h=>(by cases h),hR.mono ?_⟩
         rintro e W4 (⟨rfl,hJ4,hk4⟩ | ⟨rfl,hJx4⟩)
         · have H4:=hid (show Below w0.heap.size w0 W4∧W4.heap[ba]?=some (.cells #[.slice (some ⟨bb,oo,none⟩) m c] 95)∧W4.heap[b4]?=some (.cells #[.int .u64 er,.int .u64 em,.slice x d cd] 93)∧J (P++[er,em,d].take (z+1)) W4 from
            ⟨hinv.out.1.trans (hk4.toBelow hinv.out.1.size),hk4.typed (.inr (.inr rfl)) hinv.out.2.1,hk4.typed (.inr (.inl rfl)) hinv.out.2.2.1,by rw[←Htk.out];exact hJ4⟩)
           clear hJ4 hk4 hy hR hix
           gi_wp2
           go_roundw
           case rel=>exact⟨z+1,by omega,by go_num,H4.out⟩
           case measure=>simp[intOf];omega
         · have HX:=hid (show ∃pre,(∃rest,zi v=pre++rest)∧Jx pre W4 from⟨_,⟨_,Hv.out⟩,hJx4⟩);clear hJx4 hy hR hix
           gi_wp2
           go_wp2;refine bodyPost_ret (results_none rfl _ _ _) rfl ?_;exact⟨⟨_,rfl⟩,.inr HX.out⟩
       · obtain rfl:z=3:=by omega
         have e3:[er,em,d].take 3=[er,em,d]:=rfl;rw[e3] at hinv;have hr4:=zqb hinv.out.2.2.1;have z0:=hr4.1;have z1:=hr4.2.1;have z2:=hr4.2.2.1;clear hr4 e3
         gi_wp2
         clear z0 z1 z2
         gi_loopw [8,41] (fun _ i wr=>∃z:Nat,z≤d∧i=.int .i64 z∧Hid (Below w0.heap.size w0 wr∧wr.heap[ba]?=some (.cells #[.slice (some ⟨bb,oo,none⟩) m c] 95)∧J (P++[er,em,d]++y9 (eh.take z)) wr)) (fun _ i _=>d - (intOf i).toNat)
         case atStart=>exact⟨0,by omega,rfl,hinv.out.1,hinv.out.2.1,by simpa [y9] using hinv.out.2.2.2⟩
         case round=>
          clear hinv;obtain⟨z,hz,rfl,hinv⟩:=hrel;by_cases hzd:z<d
          · have hzl:z<eh.length:=by rw[Hlv.out];exact hzd
            obtain⟨hb,ho,rfl,hc⟩:=(HIv.out w0 (Below.refl _ _)).cells (by omega);obtain⟨c1,c2⟩:=hc z hzd;have c1:=(hinv.out.1.cell (p:=⟨hb,ho+z*2,none⟩) (ze c1)).trans c1;have c2:=(hinv.out.1.cell (p:=⟨hb,ho+z*2+1,none⟩) (ze c2)).trans c2;clear hc;have hsn:=zjx eh z hzl
            have hall:y9 eh=y9 (eh.take (z+1))++y9 (eh.drop (z+1)):=by
             unfold y9;rw[←List.flatMap_append,List.take_append_drop]
            generalize zc eh z=s at*;obtain⟨sx,sy⟩:=s;simp only at c1 c2 hsn
            have hV1:zi v=P++[er,em,d]++y9 (eh.take z)++[sx]++([sy]++y9 (eh.drop (z+1))++rest):=by
             rw[Hnum.out,Hst.out];simp only[qu,Hlv.out];rw[hall,hsn];simp
            have hV2:zi v=P++[er,em,d]++y9 (eh.take z)++[sx]++[sy]++(y9 (eh.drop (z+1))++rest):=by
             rw[hV1];simp
            have Hsn:=hid (show P++[er,em,d]++y9 (eh.take z)++[sx]++[sy]=P++[er,em,d]++y9 (eh.take (z+1)) from by rw[hsn];simp);have HV1:=hid hV1;have HV2:=hid hV2;obtain⟨b8,hb8⟩:∃b8,b8=wr.heap.size:=⟨_,rfl⟩;have hal:Below wr.heap.size wr (wr.alloc (.cells #[.int .u64 sx,.int .u64 sy] 89)):=(Below.refl _ _).alloc (Nat.le_refl _) _;have hrow8:(wr.alloc (.cells #[.int .u64 sx,.int .u64 sy] 89)).heap[b8]?=some (.cells #[.int .u64 sx,.int .u64 sy] 89):=by rw[hb8];exact zaa rfl
            obtain⟨fn,tmps,assign,body,hy,hR⟩:=HY.out _ _ (wr.alloc (.cells #[.int .u64 sx,.int .u64 sy] 89)) ⟨_,hV1⟩ (HJ.out _ _ _ hinv.out.2.2 hal);have Hinv:=hid (show Below w0.heap.size w0 (wr.alloc (.cells #[.int .u64 sx,.int .u64 sy] 89))∧(wr.alloc (.cells #[.int .u64 sx,.int .u64 sy] 89)).heap[ba]?=some (.cells #[.slice (some ⟨bb,oo,none⟩) m c] 95) from⟨hinv.out.1.trans (hal.mono hinv.out.1.size),zb8 hinv.out.2.1⟩);have Hrow8:=hid hrow8;have Hb8:=hid hb8;have h0z:(0:Int)≤z:=by omega
            have h0d:(z:Int)<(d:Int):=by omega
            clear hV1 hV2 hsn hall hal hrow8 hb8
            gi_wp2
            first | refine hR.mono ?_ | refine⟨fun h=>(by cases h),hR.mono ?_⟩
            rintro e W4 (⟨rfl,hJ4,hk4⟩ | ⟨rfl,hJx4⟩)
            · have h48:=hk4.typed (.inl rfl) Hrow8.out;have y1:=kf (i:=1) h48 rfl;rw[Hb8.out] at y1;have H4:=hid (show Below w0.heap.size w0 W4∧W4.heap[ba]?=some (.cells #[.slice (some ⟨bb,oo,none⟩) m c] 95) from⟨Hinv.out.1.trans (hk4.toBelow Hinv.out.1.size),hk4.typed (.inr (.inr rfl)) Hinv.out.2⟩);obtain⟨fn2,tmps2,assign2,body2,hy2,hR2⟩:=HY.out _ _ W4 ⟨_,HV2.out⟩ hJ4;clear hk4 h48 hy hR hJ4 c1 c2
              gi_wp2
              first | refine hR2.mono ?_ | refine⟨fun h=>(by cases h),hR2.mono ?_⟩
              rintro e W5 (⟨rfl,hJ5,hk5⟩ | ⟨rfl,hJx5⟩)
              · have H5:=hid (show Below w0.heap.size w0 W5∧W5.heap[ba]?=some (.cells #[.slice (some ⟨bb,oo,none⟩) m c] 95)∧J (P++[er,em,d]++y9 (eh.take (z+1))) W5 from⟨H4.out.1.trans (hk5.toBelow H4.out.1.size),hk5.typed (.inr (.inr rfl)) H4.out.2,by rw[←Hsn.out];exact hJ5⟩);clear hk5 hJ5 hy2 hR2 y1
                gi_wp2
                refine⟨⟨_,_,_,_,_,_,_,_,_,_,_,_,_,_,_,_,_,_,⟨z+1,by omega,?_,H5.out⟩,rfl⟩,?_⟩
                · go_num
                · simp[intOf];omega
              · have HX:=hid (show ∃pre,(∃rest,zi v=pre++rest)∧Jx pre W5 from⟨_,⟨_,HV2.out⟩,hJx5⟩);clear hJx5 hy2 hR2 y1
                gi_wp2
                go_wp2;refine bodyPost_ret (results_none rfl _ _ _) rfl ?_;exact⟨⟨_,rfl⟩,.inr HX.out⟩
            · have HX:=hid (show ∃pre,(∃rest,zi v=pre++rest)∧Jx pre W4 from⟨_,⟨_,HV1.out⟩,hJx4⟩);clear hJx4 hy hR c1 c2
              gi_wp2
              go_wp2;refine bodyPost_ret (results_none rfl _ _ _) rfl ?_;exact⟨⟨_,rfl⟩,.inr HX.out⟩
          · obtain rfl:z=d:=by omega
            have H5:=hid (show Below w0.heap.size w0 wr∧wr.heap[ba]?=some (.cells #[.slice (some ⟨bb,oo,none⟩) m c] 95)∧J (jn v (k+1)) wr from⟨hinv.out.1,hinv.out.2.1,by
             have e:P++[er,em,z]++y9 (eh.take z)=P1:=by
              rw[Hst.out,List.take_of_length_le (by rw[Hlv.out];exact Nat.le_refl _),List.append_assoc];simp only[qu,Hlv.out]
              rfl
             rw[HP1.out,←e];exact hinv.out.2.2⟩)
            clear hinv
            gi_wp2
            go_roundw
            case rel=>exact⟨k+1,by omega,by go_num,H5.out⟩
            case measure=>simp[intOf];omega
    · obtain rfl:k=m:=by omega
      have hJk:=hinv.out.2.2;rw[←Hlen.out,zjw] at hJk;have HJk:=hid hJk;clear hJk
      gi_wp2
      refine bodyPost_end (results_none rfl _ _ _) rfl ?_;exact⟨⟨_,rfl⟩,.inl ⟨_,rfl,HJk.out⟩⟩
 · have HX:=hid (show ∃pre,(∃rest,zi v=pre++rest)∧Jx pre W3 from⟨[]++[m],⟨v.flatMap qu,by unfold zi;rw[Hlen.out];rfl⟩,hJx3⟩)
   gi_wp2
   refine bodyPost_ret (results_none rfl _ _ _) rfl ?_;exact⟨⟨_,rfl⟩,.inr HX.out⟩
end
section
open Go.RowKit
theorem zq5 (a:Option Addr) (n c p:Nat) (hs:List Iv) (w:World) (hI:Ivs w a n c hs) (hD:Door w) (hp:w.cell? ⟨p,2,none⟩=some (.slice a n c)):
 Calls Tryz.prog 203 #[.pointer (some ⟨p,0,none⟩)] w fun e w'=>e=.returned (zn (vq (ck hs)))∧Below w.heap.size w w':=by
 have hC:=hid (zj0 a n c hs w hI hD);clear hI hD;go_enter Tryz.func203,Tryz.ntmps203;go_wp2_with fail;refine hC.out.mono ?_;rintro e w1 ⟨rfl,hb1⟩;have Hb1:=hid hb1;clear hb1;go_wp2;go_ret;exact⟨rfl,Hb1.out⟩
set_option maxRecDepth 20000 in
theorem zq6 (a:Option Addr) (n c p r m:Nat) (hs:List Iv) (w:World) (hI:Ivs w a n c hs) (hp:w.cell? ⟨p,2,none⟩=some (.slice a n c)) (hq:w.cell? ⟨p,1,none⟩=some (.int .u64 m)):
 Calls Tryz.prog 202 #[.pointer (some ⟨p,0,none⟩)] w fun e w'=>e=.returned (zn (vq (ju (zbs (r,m,hs)) hs.length)))∧Below w.heap.size w w':=by
 have HI:=hid hI;have Hl:=hid hI.len;have hnm:n≤9223372036854775807:=Nat.le_trans hI.room hI.most;have Hq2:=hid (fun w' (h:Below w.heap.size w w')=>(h.cell (p:=⟨p,1,none⟩) (ze hq)).trans hq);clear hI;go_enter Tryz.func202,Tryz.ntmps202;go_wp2;clear hp hq;go_loopw [2,3,7] (fun _ _ i wr=>∃k:Nat,k≤n∧i=.int .i64 k∧Below w.heap.size w wr∧Hid (∀j,j<k→zbs (r,m,hs) j=none)) (fun _ _ i _=>n - (intOf i).toNat)
 case atStart=>exact⟨0,by omega,rfl,Below.refl _ _,fun j h=>by omega⟩
 case round=>
  obtain⟨k,hk,rfl,hb,ht⟩:=hrel;have Hb:=hid hb;clear hb;by_cases hkn:k<n
  · obtain⟨cb,co,rfl,hcell⟩:=(HI.out.below Hb.out).cells (by omega);obtain⟨c1,c2⟩:=hcell k hkn;have hq:=Hq2.out _ Hb.out;clear hcell;have h0:(0:Int)≤k:=by omega
    have h04:(k:Int)<(n:Int):=by omega
    have Hh:=hid (show zbs (r,m,hs) k=if m<(zc hs k).2 then some (4,k) else none from rfl);have hkl:k<hs.length:=by rw[Hl.out];exact hkn
    generalize zc hs k=s at*;obtain⟨x,u⟩:=s;simp only at c1 c2 Hh;have hal:Below wr.heap.size wr (wr.alloc (.cells #[.int .u64 x,.int .u64 u] 89)):=(Below.refl _ _).alloc (Nat.le_refl _) _;have hq2:=(hal.cell (p:=⟨p,1,none⟩) (ze hq)).trans hq;have Hal:=hid (Hb.out.trans (hal.mono Hb.out.size));clear hal;by_cases hu:m<u
    · have hd1:decide ((m:Int)<(u:Int))=true:=by rw[decide_eq_true_iff];omega
      have hd2:decide (m<u)=true:=by rw[decide_eq_true_iff];omega
      have Hr:=hid (zbr hkl ht.out (Hh.out.trans (if_pos hu)));clear hu;go_wp2_with fail;refine(je 4 k _).mono ?_;rintro e w3 ⟨rfl,rfl⟩;go_wp2;go_ret;exact⟨by rw[Hr.out];rfl,by first | exact Hal.out | exact zq Hal.out _⟩
    · have hd1:decide ((m:Int)<(u:Int))=false:=by rw[decide_eq_false_iff_not];omega
      have hd2:decide (m<u)=false:=by rw[decide_eq_false_iff_not];omega
      have Hr:=hid (zen ht.out (Hh.out.trans (if_neg hu)));clear hu;go_wp2;go_roundw
      case rel=>exact⟨k+1,by omega,by go_num,by first | exact Hal.out | exact zq Hal.out _,Hr.out⟩
      case measure=>simp[intOf];omega
  · obtain rfl:k=n:=by omega
    have Hr:=hid (zfc (n:=hs.length) (fun j hj=>ht.out j (by rw[←Hl.out];exact hj)));go_wp2;go_ret;exact⟨by rw[Hr.out];rfl,Hb.out⟩
set_option maxRecDepth 20000 in
theorem zq7 (e:Ent) (a:Option Addr) (n c:Nat) (w:World) (hI:Ivs w a n c e.2.2) (hD:Door w):
 Calls Tryz.prog 170 #[ze3 e (.slice a n c)] w fun y w'=>y=.returned (zn (vq (ckE e)))∧Below w.heap.size w w':=by
 obtain⟨r,m,hs⟩:=e;simp only at hI;have hal:Below w.heap.size w (w.alloc (.cells #[.int .u64 r,.int .u64 m,.slice a n c] 93)):=(Below.refl w.heap.size w).alloc (Nat.le_refl _) _;have hq:=zdz w (.int .u64 r) (.int .u64 m) (.slice a n c) 93
 have hC2:=hid (fun w' (h:Below (w.alloc (.cells #[.int .u64 r,.int .u64 m,.slice a n c] 93)).heap.size (w.alloc (.cells #[.int .u64 r,.int .u64 m,.slice a n c] 93)) w')=>
  zq5 a n c w.heap.size hs w' (hI.below (hal.trans (h.mono hal.size))) (hD.below (Nat.le_refl _) (hal.trans (h.mono hal.size))) (hq w' h).2.2)
 have hC1:=hid (fun w' (h:Below (w.alloc (.cells #[.int .u64 r,.int .u64 m,.slice a n c] 93)).heap.size (w.alloc (.cells #[.int .u64 r,.int .u64 m,.slice a n c] 93)) w')=>
  zq6 a n c w.heap.size r m hs w' (hI.below (hal.trans (h.mono hal.size))) (hq w' h).2.2 (hq w' h).2.1)
 have Hal:=hid hal;have Hck:=hid (show ckE (r,m,hs)=match ck hs with | some x=>some x | none=>ju (zbs (r,m,hs)) hs.length from rfl);clear hI hD hal hq;go_enter Tryz.func170,Tryz.ntmps170;go_wp2;obtain⟨fs,hfs⟩:∃fs:Obj,fs=.cells #[.func (.func 203) #[] #[.pointer (some ⟨w.heap.size,0,none⟩)],.func (.func 202) #[] #[.pointer (some ⟨w.heap.size,0,none⟩)]] 74:=⟨_,rfl⟩;have hb0:Below (w.alloc (.cells #[.int .u64 r,.int .u64 m,.slice a n c] 93)).heap.size (w.alloc (.cells #[.int .u64 r,.int .u64 m,.slice a n c] 93)) ((w.alloc (.cells #[.int .u64 r,.int .u64 m,.slice a n c] 93)).alloc fs):=(Below.refl _ _).alloc (Nat.le_refl _) _;have hrow:((w.alloc (.cells #[.int .u64 r,.int .u64 m,.slice a n c] 93)).alloc fs).heap[w.heap.size+1]?=some fs:=zaa (by simp);have hsz:((w.alloc (.cells #[.int .u64 r,.int .u64 m,.slice a n c] 93)).alloc fs).heap.size=w.heap.size+2:=by simp
 rw[←hfs];generalize (w.alloc (.cells #[.int .u64 r,.int .u64 m,.slice a n c] 93)).alloc fs=W2 at*;have Hb0:=hid hb0;have Hz:=hid hb0.size
 have Hfn:=hid (show ∀w',Below W2.heap.size W2 w'→w'.cell? ⟨w.heap.size+1,0,none⟩=some (.func (.func 203) #[] #[.pointer (some ⟨w.heap.size,0,none⟩)])∧w'.cell? ⟨w.heap.size+1,1,none⟩=some (.func (.func 202) #[] #[.pointer (some ⟨w.heap.size,0,none⟩)]) from fun w' h=>by
  have hr:w'.heap[w.heap.size+1]?=some fs:=(h.block _ (by omega)).trans hrow;rw[hfs] at hr;exact⟨kf (i:=0) hr rfl,kf (i:=1) hr rfl⟩)
 clear hb0 hrow hsz hfs;go_loopw [5,6,12] (fun _ _ i wr=>Below W2.heap.size W2 wr∧Hid (i=.int .i64 0∨(i=.int .i64 1∧ck hs=none)∨(i=.int .i64 2∧ck hs=none∧ju (zbs (r,m,hs)) hs.length=none))) (fun _ _ i _=>2 - (intOf i).toNat)
 case atStart=>exact⟨Below.refl _ _,.inl rfl⟩
 case round=>
  obtain⟨hb,hi⟩:=hrel;have Hb:=hid hb;clear hb;have Hbw:=hid (Hb0.out.trans (Hb.out.mono Hz.out));have Hbz:=hid (Hal.out.trans (Hbw.out.mono Hal.out.size));obtain⟨f1,f2⟩:=Hfn.out _ Hb.out;rcases hi.out with rfl | ⟨rfl,h1⟩ | ⟨rfl,h1,h2⟩
  · have hC:=hid (hC2.out wr Hbw.out)
    cases h:ck hs with
    | none=>
     rw[h] at hC;simp only[vq,zn] at hC;have Hn:=hid h;clear h hi;go_wp2_with fail;refine hC.out.mono ?_;rintro e w1 ⟨rfl,hb1⟩;have Hb1:=hid (Hb.out.trans (hb1.mono Hb.out.size));clear hb1;go_wp2;go_roundw
     case rel=>exact⟨Hb1.out,.inr (.inl ⟨by go_num,trivial⟩)⟩
     case measure=>simp[intOf]
    | some x=>
     obtain⟨cd,ci⟩:=x;rw[h] at hC Hck;simp only[vq,zn] at hC Hck;clear h hi;go_wp2_with fail;refine hC.out.mono ?_;rintro e w1 ⟨rfl,hb1⟩;have Hb1:=hid (Hbz.out.trans (hb1.mono Hbz.out.size));clear hb1;go_wp2;go_ret;exact⟨by rw[Hck.out];rfl,Hb1.out⟩
  · have hC:=hid (hC1.out wr Hbw.out);rw[h1] at Hck;simp only at Hck
    cases h:ju (zbs (r,m,hs)) hs.length with
    | none=>
     rw[h] at hC;simp only[vq,zn] at hC;have Hn:=hid (And.intro h1 h);clear h hi h1;go_wp2_with fail;refine hC.out.mono ?_;rintro e w1 ⟨rfl,hb1⟩;have Hb1:=hid (Hb.out.trans (hb1.mono Hb.out.size));clear hb1;go_wp2;go_roundw
     case rel=>exact⟨Hb1.out,.inr (.inr ⟨by go_num,Hn.out.1,trivial⟩)⟩
     case measure=>simp[intOf]
    | some x=>
     obtain⟨cd,ci⟩:=x;rw[h] at hC Hck;simp only[vq,zn] at hC;clear h hi h1;go_wp2_with fail;refine hC.out.mono ?_;rintro e w1 ⟨rfl,hb1⟩;have Hb1:=hid (Hbz.out.trans (hb1.mono Hbz.out.size));clear hb1;go_wp2;go_ret;exact⟨by rw[Hck.out];rfl,Hb1.out⟩
  · rw[h1] at Hck;simp only at Hck;rw[h2] at Hck;clear h1 h2 hi;go_wp2;go_ret;exact⟨by rw[Hck.out];rfl,Hbz.out⟩
end
section
open Go.ChangeShapes Go.WideShapes Go.RowKit Go.ChangeAt
abbrev LD:List (String×DataW Unit):=Rows.wireDecodesRow.laid
theorem zq8 {W:World} (h:laidMetH Tryz.prog LD W):laidMet Tryz.prog (LD.filter fun x=>x.2.handleName?.isNone) W∧handlesMet Tryz.prog [("errors.errorType",Rows.laid_errors_errorType)] W:=h
theorem zkb {W:World} (h:laidMetH Tryz.prog LD W):Door W:=zqv (zq8 h).2
theorem zkc (os:Os) (args:Array Value):laidMetH Tryz.prog LD ((zd4 os).forCall (fun _ _=>0) ⟨#[],args,[]⟩).memory:=
 laidMetH_of_parts (laidMet_of_run3 8 (by kernel_rfl) (by kernel_rfl) (by kernel_rfl)) (by kernel_rfl)
end
section
abbrev Seg:=Iv×Nat
def zd6 (L:List Seg) (x:Nat):Nat:=(L.takeWhile fun p=>decide (p.1.1<x)).length
def zad (L:List Seg) (s:Iv) (i:Nat):List Seg:=L.take (zd6 L s.1)++(s,i) :: L.drop (zd6 L s.1)
def zaq (L:List Seg) (l:List Iv) (i:Nat):List Seg:=l.foldl (fun L s=>zad L s i) L
def kh (k:Kno):Nat→List Seg
 | 0=>[]
 | d+1=>zaq (kh k d) (zd k d).1 d
def zf (k:Kno):List Seg:=kh k k.length
theorem zg5 (L:List Seg) (s:Iv) (i:Nat):(zad L s i).Perm ((s,i) :: L):=by
 unfold zad;refine List.perm_middle.trans ?_;rw[List.take_append_drop]
theorem zq9 (L:List Seg) (s:Iv) (i:Nat):(zad L s i).length=L.length+1:=by rw[(zg5 L s i).length_eq,List.length_cons]
theorem zra {L:List Seg} (h:L.Pairwise fun p q=>p.1.1≤q.1.1) (s:Iv) (i:Nat):(zad L s i).Pairwise fun p q=>p.1.1≤q.1.1:=by
 induction L with
 | nil=>simp[zad,zd6]
 | cons p L ih=>
  obtain⟨h1,h2⟩:=List.pairwise_cons.1 h;by_cases hp:p.1.1<s.1
  · have e:zad (p :: L) s i=p :: zad L s i:=by
     unfold zad zd6;rw[List.takeWhile_cons_of_pos (by simpa using hp)];simp
    rw[e];refine List.pairwise_cons.2 ⟨fun q hq=>?_,ih h2⟩;rcases List.mem_cons.1 ((zg5 L s i).mem_iff.1 hq) with rfl | hq
    · exact Nat.le_of_lt hp
    · exact h1 q hq
  · have e:zad (p :: L) s i=(s,i) :: p :: L:=by
     unfold zad zd6;rw[List.takeWhile_cons_of_neg (by simpa using hp)];simp
    rw[e];refine List.pairwise_cons.2 ⟨fun q hq=>?_,h⟩;rcases List.mem_cons.1 hq with rfl | hq
    · simp only;omega
    · have:=h1 q hq;simp only;omega
theorem zg6 {L:List Seg} (h:L.Pairwise fun p q=>p.1.1≤q.1.1) (i:Nat):∀(l:List Iv),(zaq L l i).Pairwise (fun p q=>p.1.1≤q.1.1)∧(zaq L l i).Perm (L++l.map fun s=>(s,i)):=by
 intro l
 induction l generalizing L with
 | nil=>exact⟨h,by simp[zaq]⟩
 | cons s l ih=>
  have e:zaq L (s :: l) i=zaq (zad L s i) l i:=rfl;rw[e];obtain⟨h1,h2⟩:=ih (zra h s i);refine⟨h1,h2.trans ?_⟩;rw[List.map_cons];exact((zg5 L s i).append_right _).trans List.perm_middle.symm
theorem za2 (k:Kno):∀d,d≤k.length→(kh k d).Pairwise (fun p q=>p.1.1≤q.1.1)∧((kh k d).map (·.1)).Perm (zap (k.take d))∧∀p∈kh k d,p.2<d∧p.1∈(zd k p.2).1
 | 0,_=>⟨List.Pairwise.nil,by simp[kh,zap],fun p h=>by cases h⟩
 | d+1,h=>by
   obtain⟨h1,h2,h3⟩:=za2 k d (by omega);obtain⟨g1,g2⟩:=zg6 h1 d (zd k d).1;refine⟨g1,?_,fun p hp=>?_⟩
   · rw[zqr (by omega)];refine(g2.map _).trans ?_;rw[List.map_append,List.map_map];refine(h2.append_right _).trans ?_;simp[Function.comp_def]
   · rcases List.mem_append.1 (g2.mem_iff.1 hp) with h | h
     · have:=h3 p h;exact⟨by omega,this.2⟩
     · obtain⟨s,hs,rfl⟩:=List.mem_map.1 h;exact⟨Nat.lt_succ_self _,hs⟩
theorem zg7 {α:Type} {f:α→Nat}:∀{l m:List α},l.Perm m→l.Pairwise (fun a b=>f a≤f b)→m.Pairwise (fun a b=>f a≤f b)→(∀a∈l,∀b∈l,f a=f b→a=b)→l=m
 | [],m,hp,_,_,_=>hp.nil_eq
 | a :: l,[],hp,_,_,_=>by have:=hp.length_eq;simp at this
 | a :: l,b :: m,hp,hl,hm,hu=>by
   obtain⟨l1,l2⟩:=List.pairwise_cons.1 hl;obtain⟨m1,m2⟩:=List.pairwise_cons.1 hm;have ha:a∈b :: m:=hp.mem_iff.1 List.mem_cons_self;have hb:b∈a :: l:=hp.mem_iff.2 List.mem_cons_self
   have e:a=b:=by
    refine hu a List.mem_cons_self b hb (Nat.le_antisymm ?_ ?_)
    · rcases List.mem_cons.1 hb with rfl | h
      · exact Nat.le_refl _
      · exact l1 b h
    · rcases List.mem_cons.1 ha with rfl | h
      · exact Nat.le_refl _
      · exact m1 a h
   subst e;rw[zg7 hp.cons_inv l2 m2 (fun x hx y hy=>hu x (List.mem_cons_of_mem _ hx) y (List.mem_cons_of_mem _ hy))]
theorem zrb {l:List Iv} (h:zgj l):l.Pairwise fun s t=>s.1≤t.1:=by
 rw[List.pairwise_iff_getElem];intro i j hi hj hij;have:=h i j hij hj;rwa [qg hi,qg hj] at this
theorem zkd {k:Kno} (hc:CanK k) {i:Nat} (hi:i<k.length) {s:Iv} (hs:s∈(zd k i).1):zg2 k s.1=i:=by
 have hmi:=j7 hi;have hx:=(zgq (hc.items _ hmi).1 hs).1;unfold zg2
 have:ju (fun i=>if mem (zd k i).1 s.1=true then some i else none) k.length=some i:=by
  refine zbr hi (fun j hj=>if_neg fun hm=>?_) (if_pos hx);have hmj:=j7 (k:=k) (i:=j) (by omega);have e:=hc.apart _ hmi _ hmj s.1 hx hm;have hl:=List.pairwise_iff_getElem.1 hc.asc j i (by omega) hi hj;rw[←yo (by omega),←yo hi,e] at hl;unfold zdv at hl;rw[zi9] at hl;cases hl
 rw[this];rfl
theorem zke {l:List Iv} (h:Good l) {s t:Iv} (hs:s∈l) (ht:t∈l) (e:s.1=t.1):s=t:=by
 obtain⟨i,hi,rfl⟩:=List.getElem_of_mem hs;obtain⟨j,hj,rfl⟩:=List.getElem_of_mem ht;rw[←qg hi,←qg hj] at*;have hi2:=(zay h i hi).1;have hj2:=(zay h j hj).1;rcases Nat.lt_trichotomy i j with h2 | h2 | h2
 · have:=zc0 h h2 hj;omega
 · rw[h2]
 · have:=zc0 h h2 hi;omega
theorem zrc {k:Kno} (hc:CanK k) {l:List Iv} (hp:l.Perm (zap k)) (ha:zgj l):l=(zf k).map (·.1)∧(l.map fun s=>zg2 k s.1)=(zf k).map (·.2):=by
 obtain⟨h1,h2,h3⟩:=za2 k k.length (Nat.le_refl _);rw[List.take_length] at h2
 have e:l=(zf k).map (·.1):=by
  refine zg7 (f:=(·.1)) (hp.trans h2.symm) (zrb ha) (List.pairwise_map.2 h1) fun s hs t ht e=>?_
  obtain⟨f,hf,hsf⟩:=zj5.1 (hp.mem_iff.1 hs);obtain⟨g,hg,htg⟩:=zj5.1 (hp.mem_iff.1 ht);have x1:=(zgq (hc.items f hf).1 hsf).1;have x2:=(zgq (hc.items g hg).1 htg).1;rw[←e] at x2;have e2:=hc.apart f hf g hg s.1 x1 x2;subst e2;exact zke (hc.items f hf).1 hsf htg e
 refine⟨e,?_⟩;rw[e,List.map_map];refine List.map_congr_left fun p hp'=>?_
 obtain⟨g1,g2⟩:=h3 p hp';exact zkd hc g1 g2
end
section
open Go.RowKit
def yg (L:List Seg):List Iv:=L.map (·.1)
def yq (L:List Seg):List Nat:=L.map (·.2)
structure Own2 (w:World) (base:Nat) (L:List Seg) (v u:Value):Prop where
 ivs:w.ownsRow base 89 2 v L.length (ivC (yg L))
 idx:w.ownsRow base 3 1 u L.length (qa (yq L))
 nil:L=[]→v=.slice none 0 0∧u=.slice none 0 0
theorem Own2.below {w w':World} {base:Nat} {L:List Seg} {v u:Value} (h:Own2 w base L v u) (hb:Below w.heap.size w w'):Own2 w' base L v u:=⟨yf h.ivs hb,yf h.idx hb,h.nil⟩
theorem zrd (L:List Seg) (l:List Iv) (i:Nat):(zaq L l i).length=L.length+l.length:=by
 induction l generalizing L with
 | nil=>rfl
 | cons s l ih=>
  have e:zaq L (s :: l) i=zaq (zad L s i) l i:=rfl;rw[e,ih,zq9,List.length_cons];omega
theorem zg8 (k:Kno):∀d,d≤k.length→(kh k d).length=za1 (k.take d)
 | 0,_=>rfl
 | d+1,h=>by
   rw[kh,zrd,zg8 k d (by omega),List.take_succ_eq_append_getElem (by omega),zjy,yo (by omega)];simp[za1]
theorem zbc {w:World} {base sz n:Nat} {T:TypeId} {v:Value} {xs:List Value} (h:w.ownsRow base T sz v n xs) (hn:0<n):∃g cap,v=.slice (some ⟨g,0,none⟩) n cap∧base≤g∧g<w.heap.size∧n≤cap∧cap≤maxLen:=by
 rcases h.2 with ⟨_,h0⟩ | ⟨g,cap,cur,hv,hg,hh,hnc,hcm,_⟩
 · omega
 · exact⟨g,cap,hv,hg,(Array.getElem?_eq_some_iff.1 hh).1,hnc,hcm⟩
