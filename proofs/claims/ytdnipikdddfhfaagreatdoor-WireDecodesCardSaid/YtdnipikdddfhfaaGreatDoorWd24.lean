/- Part 24. -/
import Derived.Laws.CopyRow
import Derived.Test.YtdnipikdddfhfaaGreatDoorWd23
set_option linter.unusedVariables false
set_option maxHeartbeats 16000000
namespace Go.Proofs.YtdnipikdddfhfaaGreatDoor
open Lib (hid)
section
open Go.RowKit
theorem z1u (l:List Nat) (p k x:Nat) (h:p+k<l.length):
 yg (l.drop (p+k)) k x=if yf k (nth l (p+k))=2 then (2,0,k+1) else if yf k (nth l (p+k))=1 then (1,vp x k (nth l (p+k)),k+1) else yg (l.drop (p+(k+1))) (k+1) (vp x k (nth l (p+k))):=by
 rw[zm6 l (p+k) h]
 rfl
theorem z1v (x k c:Nat) (hx:x<18446744073709551616):bits .or .u64 (x:Int) (IntKind.u64.wrap ((c:Int) % 128*2 ^ (7*k)))=((vp x k c:Nat):Int):=zmm x k c hx
def stG (E n s:Nat):Nat:=if s=0∧E≤n then 3 else s
set_option maxRecDepth 100000 in
theorem z1w (a:Option Addr) (n cap p E:Nat) (l:List Nat) (w:World) (hB:Byts w a n cap l) (hp:p≤n) (hpE:p≤E) (hn0:n≤2000000000000000000) (hE0:E≤4000000000000000000):
 Calls Tryz.prog 76 #[.slice a n cap,.int .i64 p,.int .i64 E] w fun e w'=>e=.returned (.tuple #[.int .i64 (stG E n (yg ((l.take E).drop p) 0 0).1:Nat),.int .u64 ((yg ((l.take E).drop p) 0 0).2.1:Nat),.int .i64 ((p+(yg ((l.take E).drop p) 0 0).2.2:Nat):Int)])∧w=w':=by
 obtain⟨hn,hlt,hnc,hcm,hnil,hc⟩:=hB;clear hnil hcm;obtain⟨t,ht⟩:∃t,t=l.take E:=⟨_,rfl⟩;have Htl:=hid (show t.length=min E n by rw[ht,List.length_take,hn]);have Htn:=hid (fun i (h:i<E)=>show nth t i=nth l i by rw[ht];unfold nth;rw[List.getD_eq_getElem?_getD,List.getD_eq_getElem?_getD,List.getElem?_take_of_lt h]);rw[←ht];clear ht;have Hn:=hid hn;clear hn;have Hlt:=hid hlt;clear hlt;have Hc:=hid hc;clear hc;go_enter Tryz.func76,Tryz.ntmps76;go_wp2_with fail;go_loop [9,10,11] (fun y j _=>∃k x:Nat,p+k≤n∧p+k≤E∧k<10∧j=.int .i64 k∧y=.int .u64 x∧Hid (x<18446744073709551616)∧Hid (yg (t.drop p) 0 0=yg (t.drop (p+k)) k x)) (fun _ j _=>10 - (intOf j).toNat)
 case atStart=>exact⟨0,0,by omega,by omega,by omega,rfl,rfl,by show 0<18446744073709551616;omega,rfl⟩
 case round=>
  obtain⟨k,x,hk,hkE,hk10,rfl,rfl,hx,hS⟩:=hrel;have h10:decide ((k:Int)<10)=true:=by rw[decide_eq_true_iff];omega
  by_cases hkn:p+k<n∧p+k<E
  · obtain⟨hkn,hkE'⟩:=hkn;have hq1:decide ((E:Int)≤(p:Int)+(k:Int))=false:=by rw[decide_eq_false_iff_not];omega
    have hq2:decide ((n:Int)≤(p:Int)+(k:Int))=false:=by rw[decide_eq_false_iff_not];omega
    obtain⟨b,o,rfl,hcell⟩:=Hc.out (by omega);have hc:=hcell (p+k) hkn;clear hcell;have hnc:nth l (p+k)<256:=zl7 Hlt.out (by omega) _;have hd:=z1u t p k x (by rw[Htl.out];omega);rw[Htn.out _ hkE'] at hd;have Hd:=hid hd;clear hd;have Ho:=hid (fun c=>z1v x k c hx.out);have Hol:=hid (fun c=>zl6 k c hx.out);generalize nth l (p+k)=c at*;by_cases hw:(k=9∧1<c)∨(0<k∧c=0)
    · have hns:yf k c=2:=if_pos hw;have Hfin:=hid (show yg (t.drop p) 0 0=(2,0,k+1) from by rw[hS.out,Hd.out,if_pos hns])
      have hb:((((k:Int) == 9) && decide (1<(c:Int))) || (decide (0<k) && ((c:Int) == 0)))=true:=by
       rcases hw with ⟨h1,h2⟩ | ⟨h1,h2⟩
       · have e1:((k:Int) == 9)=true:=by rw[beq_iff_eq];omega
         have e2:decide (1<(c:Int))=true:=by rw[decide_eq_true_iff];omega
         rw[e1,e2];rfl
       · have e1:decide (0<k)=true:=by rw[decide_eq_true_iff];omega
         have e2:((c:Int) == 0)=true:=by rw[beq_iff_eq];omega
         rw[e1,e2];simp
      rcases hw with ⟨h1,h2⟩ | ⟨h1,h2⟩
      · have e1:((k:Int) == 9)=true:=by rw[beq_iff_eq];omega
        have e2:decide (1<(c:Int))=true:=by rw[decide_eq_true_iff];omega
        clear hb h1;go_wp2_with fail;go_ret3
        refine⟨?_,rfl⟩;rw[Hfin.out]
        rfl
      · have e0:((c:Int) == 0)=true:=by rw[beq_iff_eq];omega
        have e1:decide (0<k)=true:=by rw[decide_eq_true_iff];omega
        have e2:decide (1<(c:Int))=false:=by rw[decide_eq_false_iff_not];omega
        clear hb h2;by_cases h9:k=9
        · have e3:((k:Int) == 9)=true:=by rw[beq_iff_eq];omega
          clear h9;go_wp2_with fail;go_ret3
          refine⟨?_,rfl⟩;rw[Hfin.out]
          rfl
        · have e3:((k:Int) == 9)=false:=by rw[beq_eq_false_iff_ne];omega
          go_wp2_with fail;go_ret3
          refine⟨?_,rfl⟩;rw[Hfin.out]
          rfl
    · have hns2:yf k c≠2:=by unfold yf;rw[if_neg hw];split <;> decide
      have hk9:k≠9∨c≤1:=by omega
      have hk0:k=0∨c≠0:=by omega
      clear hw;have HO:=hid (Ho.out c);have HL:=hid (Hol.out c)
      have e90:(((k:Int) == 9)=true∧decide (1<(c:Int))=false∧decide (0<k)=true∧((c:Int) == 0)=false)∨(((k:Int) == 9)=false∧decide (0<k)=true∧((c:Int) == 0)=false)∨(((k:Int) == 9)=false∧decide (0<k)=false):=by
       by_cases h9:k=9
       · left;exact⟨by rw[beq_iff_eq];omega,by rw[decide_eq_false_iff_not];omega,by rw[decide_eq_true_iff];omega,by rw[beq_eq_false_iff_ne];omega⟩
       · right;by_cases h0:k=0
         · right;exact⟨by rw[beq_eq_false_iff_ne];omega,by rw[decide_eq_false_iff_not];omega⟩
         · left;exact⟨by rw[beq_eq_false_iff_ne];omega,by rw[decide_eq_true_iff];omega,by rw[beq_eq_false_iff_ne];omega⟩
      clear hk9 hk0;by_cases h128:c<128
      · have hns:yf k c=1:=by
         rcases zjh k c with h | h | h
         · unfold yf at h;rw[if_neg (fun hh=>hns2 (if_pos hh)),if_pos h128] at h;cases h
         · exact h
         · exact absurd h hns2
        have Hfin:=hid (show yg (t.drop p) 0 0=(1,vp x k c,k+1) from by rw[hS.out,Hd.out,if_neg hns2,if_pos hns]);have e5:decide ((c:Int)<128)=true:=by rw[decide_eq_true_iff];omega
        clear hns hns2;rcases e90 with ⟨e9,e9',e0,e0'⟩ | ⟨e9,e0,e0'⟩ | ⟨e9,e0⟩
        all_goals
         go_wp2_with fail;rw[HO.out];go_ret3
         refine⟨?_,rfl⟩;rw[Hfin.out]
         rfl
      · have hns:yf k c=0:=by
         rcases zjh k c with h | h | h
         · exact h
         · unfold yf at h;rw[if_neg (fun hh=>hns2 (if_pos hh)),if_neg h128] at h;cases h
         · exact absurd h hns2
        have hk9':k≠9:=fun e=>zm7 c (by rw[←e];exact hns)
        have HS2:=hid (show yg (t.drop p) 0 0=yg (t.drop (p+(k+1))) (k+1) (vp x k c) from by rw[hS.out,Hd.out,if_neg hns2,if_neg (by rw[hns];decide)]);have e5:decide ((c:Int)<128)=false:=by rw[decide_eq_false_iff_not];omega
        clear hns hns2;rcases e90 with ⟨e9,e9',e0,e0'⟩ | ⟨e9,e0,e0'⟩ | ⟨e9,e0⟩
        all_goals
         go_wp2_with fail;rw[HO.out];go_round
         case rel=>exact⟨k+1,_,by omega,by omega,by omega,by go_num,rfl,HL,HS2⟩
         case measure=>simp[intOf];omega
  · have Hfin:=hid (show yg (t.drop p) 0 0=(0,0,k) from by rw[hS.out,List.drop_eq_nil_of_le (by rw[Htl.out];omega)];rfl);by_cases hkE':p+k<E
    · have Hst:=hid (show stG E n 0=0 from if_neg (fun h=>by have:=h.2;omega));have hq1:decide ((E:Int)≤(p:Int)+(k:Int))=false:=by rw[decide_eq_false_iff_not];omega
      have hq2:decide ((n:Int)≤(p:Int)+(k:Int))=true:=by rw[decide_eq_true_iff];omega
      clear hkn;go_wp2_with fail;go_ret3
      refine⟨?_,rfl⟩;rw[Hfin.out,Hst.out]
      rfl
    · have Hst:=hid (show stG E n 0=3 from if_pos ⟨rfl,by omega⟩);have hq1:decide ((E:Int)≤(p:Int)+(k:Int))=true:=by rw[decide_eq_true_iff];omega
      clear hkn;go_wp2_with fail;go_ret3
      refine⟨?_,rfl⟩;rw[Hfin.out,Hst.out]
      rfl
def zf (l:List Nat) (E:Nat):zt:=fun p=>match yg ((l.take E).drop p) 0 0 with | (1,x,j)=>.ok (x,p+j) | (2,_,_)=>.error 6 | _=>.error (if E≤l.length then 5 else 0)
theorem z1x (l:List Nat):zf l l.length=qn l:=by
 funext p;unfold zf qn;rw[List.take_length,if_pos (Nat.le_refl _)];generalize yg (l.drop p) 0 0=s;obtain⟨a,b,c⟩:=s;rcases a with _ | _ | _ | a <;> rfl
end
section
structure PFit (s:PS) (n:Nat):Prop where
 v:LtV s.v
 vl:s.v.length≤n
 rep:s.rep<18446744073709551616
 mx:s.mx<18446744073709551616
 lo:s.lo<18446744073709551616
 h:zk s.h
 hl:s.h.length≤n
 ents:s.ents<18446744073709551616
 hls:s.hls<18446744073709551616
theorem PFit.mono {s:PS} {n m:Nat} (h:PFit s n) (hm:n≤m):PFit s m:=⟨h.v,Nat.le_trans h.vl hm,h.rep,h.mx,h.lo,h.h,Nat.le_trans h.hl hm,h.ents,h.hls⟩
theorem zh9 (n:Nat):PFit ps0 n:=⟨fun e h=>(by cases h),Nat.zero_le _,by decide,by decide,by decide,fun t h=>(by cases h),Nat.zero_le _,by decide,by decide⟩
theorem zrd {s:PS} {n k:Nat} {l:List Iv} (hs:PFit s n) (hk:k<18446744073709551616) (hl:zk l) (hn:l.length≤n+1):PFit (jn s k l) (n+1):=by
 have hv:LtV (s.v++[(s.rep,s.mx,l)]):=fun e he=>by
  rcases List.mem_append.1 he with h | h
  · exact hs.v e h
  · rw[List.mem_singleton] at h;subst h;exact⟨hs.rep,hs.mx,hl⟩
 have hvl:(s.v++[(s.rep,s.mx,l)]).length≤n+1:=by have:=hs.vl;simp;omega
 have he:=hs.ents;unfold jn;split
 · exact⟨hs.v,by have:=hs.vl;simp only;omega,hs.rep,hs.mx,hs.lo,hl,hn,hs.ents,by simp only;omega⟩
 · split
   · exact⟨hv,hvl,hs.rep,hs.mx,hs.lo,fun t h=>(by cases h),Nat.zero_le _,by simp only;omega,by simp⟩
   · exact⟨hv,hvl,hs.rep,hs.mx,hs.lo,fun t h=>(by cases h),Nat.zero_le _,by simp only;omega,by simp⟩
theorem zlf {o:Option Nat} {a x lo:Nat} (hx:x<18446744073709551616) (h:loP o a x=some lo):lo<18446744073709551616:=by
 cases o with
 | none=>cases h;exact hx
 | some q=>
  simp only[loP] at h;split at h
  · cases h;assumption
  · cases h
theorem z1y {v:Vec} {x r:Nat} (hx:x<18446744073709551616) (h:ko v x=some r):r<18446744073709551616:=by
 unfold ko at h;split at h
 · cases h;exact hx
 · split at h
   · cases h;assumption
   · cases h
theorem zlg {le lh:Int} {s s':PS} {x rest n:Nat} (hs:PFit s n) (ht:s.tag<6) (hx:x<18446744073709551616) (h:qa le lh s x rest=.ok s'):PFit s' (n+1):=by
 have hm:=hs.mono (Nat.le_succ n);obtain⟨tag,v,rep,mx,hh,ents,hls,lo⟩:=s;simp only at ht;rcases(by omega:tag=0∨tag=1∨tag=2∨tag=3∨tag=4∨tag=5) with rfl | rfl | rfl | rfl | rfl | rfl <;> simp only[qa] at h
 · split at h
   · cases h
   · split at h
     · cases h
     · cases h;exact⟨fun e h=>(by cases h),Nat.zero_le _,hm.rep,hm.mx,hm.lo,hm.h,hm.hl,hx,hm.hls⟩
 · cases hr:ko v x with
   | none=>rw[hr] at h;cases h
   | some r=>rw[hr] at h;cases h;exact⟨hm.v,hm.vl,z1y hx hr,hm.mx,hm.lo,hm.h,hm.hl,hm.ents,hm.hls⟩
 · cases h;exact⟨hm.v,hm.vl,hm.rep,hx,hm.lo,hm.h,hm.hl,hm.ents,hm.hls⟩
 · split at h
   · cases h
   · cases h;exact zrd hs hx (fun t h=>(by cases h)) (Nat.zero_le _)
 · cases hr:loP (z7 hh) 1 x with
   | none=>rw[hr] at h;cases h
   | some r=>rw[hr] at h;cases h;exact⟨hm.v,hm.vl,hm.rep,hm.mx,zlf hx hr,hm.h,hm.hl,hm.ents,hm.hls⟩
 · split at h
   · rename_i hc;cases h;refine zrd hs hs.hls (fun t ht=>?_) (by have:=hs.hl;simp only[List.length_append,List.length_cons,List.length_nil] at this ⊢;omega);rcases List.mem_append.1 ht with h | h
     · exact hs.h t h
     · rw[List.mem_singleton] at h;subst h;exact⟨hs.lo,hc.1⟩
   · cases h
structure WFit (s:WS) (n:Nat):Prop where
 vs:∀v∈s.vs,LtV v
 vsl:s.vs.length≤n
 l:zk s.l
 ll:s.l.length≤n
 li:s.ix.length=s.l.length
 ix:∀i∈s.ix,i<s.vs.length
 left:s.left<18446744073709551616
 lo:s.lo<18446744073709551616
 hi:s.hi<18446744073709551616
 frm:s.frm≤n
 inner:PFit s.inner n
theorem z1z:WFit ws0 0:=⟨fun v h=>(by cases h),Nat.le_refl _,fun t h=>(by cases h),Nat.le_refl _,rfl,fun i h=>(by cases h),by decide,by decide,by decide,Nat.le_refl _,zh9 0⟩
theorem WFit.mono {s:WS} {n m:Nat} (h:WFit s n) (hm:n≤m):WFit s m:=⟨h.vs,Nat.le_trans h.vsl hm,h.l,Nat.le_trans h.ll hm,h.li,h.ix,h.left,h.lo,h.hi,Nat.le_trans h.frm hm,h.inner.mono hm⟩
theorem zre {E:Nat} {L:zg} {s s':WS} {x p q:Nat} (hs:WFit s p) (hI:WInv s) (h4:s.tag<4) (hx:x<18446744073709551616) (hq:p<q) (h:jd E L s x p q=.ok s'):WFit s' q:=by
 have hm:=hs.mono (Nat.le_of_lt hq)
 have fin:∀t:WS,WFit t q→∀t',k8 E t q=.ok t'→WFit t' q:=fun t ht t' h=>by
  unfold k8 at h;split at h
  · cases h
  · split at h
    · cases h
    · cases h;exact⟨ht.vs,ht.vsl,ht.l,ht.ll,ht.li,ht.ix,ht.left,ht.lo,ht.hi,ht.frm,ht.inner⟩
 have h2:=hI.turn;have hin:=hI.inner;obtain⟨tag,vs,l,ix,left,frm,inner,turn,lo,hi,tch⟩:=s;simp only at h2 hin h4
 have hfr:vv ⟨tag,vs,l,ix,left,frm,inner,turn,lo,hi,tch⟩ p≤q:=by
  unfold vv;have:=hs.frm;simp only at this ⊢;split <;> omega
 have g1:=hs.vsl;have g2:=hs.ll;have g3:=hs.left;simp only at g1 g2 g3;rcases(by omega:tag=0∨tag=1∨tag=2∨tag=3) with rfl | rfl | rfl | rfl <;> simp only[jd] at h
 · split at h
   · cases h
   · split at h
     · cases h;exact⟨hm.vs,hm.vsl,hm.l,hm.ll,hm.li,hm.ix,hm.left,hm.lo,hm.hi,hm.frm,hm.inner⟩
     · cases h;exact⟨hm.vs,hm.vsl,hm.l,hm.ll,hm.li,hm.ix,hx,hm.lo,hm.hi,hm.frm,zh9 q⟩
 · obtain⟨i1,i2⟩:=hin rfl
   cases hp:qa L.2.2.1 L.2.2.2.1 inner x (E - q) with
   | error c=>rw[hp] at h;cases h
   | ok i=>
    rw[hp] at h;simp only at h;have hi':=(zlg hs.inner i1 hx hp).mono hq
    have hvs:∀v∈vs++[i.v],LtV v:=fun v hv=>by
     rcases List.mem_append.1 hv with h | h
     · exact hs.vs v h
     · rw[List.mem_singleton] at h;subst h;exact hi'.v
    have hvl:(vs++[i.v]).length≤q:=by simp;omega
    have hix:∀j∈ix,j<(vs++[i.v]).length:=fun j hj=>by have:=hs.ix j hj;simp only[List.length_append] at this ⊢;omega
    split at h
    · split at h
      · cases h
      · split at h
        · cases h;exact⟨hvs,hvl,hm.l,hm.ll,hm.li,hix,by simp,hm.lo,hm.hi,hm.frm,zh9 q⟩
        · cases h;exact⟨hvs,hvl,hm.l,hm.ll,hm.li,hix,by simp only;omega,hm.lo,hm.hi,hm.frm,zh9 q⟩
    · cases h;exact⟨hm.vs,hm.vsl,hm.l,hm.ll,hm.li,hm.ix,hm.left,hm.lo,hm.hi,hfr,hi'⟩
 · split at h
   · cases h
   · split at h
     · exact fin _ hm _ h
     · cases h;exact⟨hm.vs,hm.vsl,hm.l,hm.ll,hm.li,hm.ix,hx,hm.lo,hm.hi,hm.frm,hm.inner⟩
 · rcases(by omega:turn=0∨turn=1∨turn=2) with rfl | rfl | rfl <;> simp only at h
   · cases hq':loP (z7 l) 0 x with
     | none=>rw[hq'] at h;cases h
     | some r=>rw[hq'] at h;cases h;exact⟨hm.vs,hm.vsl,hm.l,hm.ll,hm.li,hm.ix,hm.left,zlf hx hq',hm.hi,hm.frm,hm.inner⟩
   · split at h
     · rename_i hc;cases h;exact⟨hm.vs,hm.vsl,hm.l,hm.ll,hm.li,hm.ix,hm.left,hm.lo,hc,hm.frm,hm.inner⟩
     · cases h
   · split at h
     · cases h
     · rename_i hx8
       have k1:zk (l++[(lo,hi)]):=fun t ht=>by
        rcases List.mem_append.1 ht with h | h
        · exact hs.l t h
        · rw[List.mem_singleton] at h;subst h;exact⟨hs.lo,hs.hi⟩
       have k2:(l++[(lo,hi)]).length≤q:=by simp;omega
       have k3:(ix++[x]).length=(l++[(lo,hi)]).length:=by have:=hs.li;simp only[List.length_append,List.length_cons,List.length_nil] at this ⊢;omega
       have k4:∀j∈ix++[x],j<vs.length:=fun j hj=>by
        rcases List.mem_append.1 hj with h | h
        · exact hs.ix j h
        · rw[List.mem_singleton] at h;subst h;omega
       split at h
       · cases h
       · split at h
         · exact fin ⟨3,vs,l++[(lo,hi)],ix++[x],0,frm,inner,0,lo,hi,tch⟩ ⟨hm.vs,hm.vsl,k1,k2,k3,k4,by simp,hm.lo,hm.hi,hm.frm,hm.inner⟩ _ h
         · cases h;exact⟨hm.vs,hm.vsl,k1,k2,k3,k4,by simp only;omega,hm.lo,hm.hi,hm.frm,hm.inner⟩
def zec (s:WS):Prop:=1≤s.turn→s.tch=true→s.l≠[]
theorem z11:zec ws0:=fun h=>by simp[ws0] at h
theorem z12 {l:List Iv} {z:Nat} (h:zan l z=true):l≠[]:=fun e=>by subst e;cases h
theorem z13 {E:Nat} {L:zg} {s s':WS} {x p q:Nat} (hs:zec s) (hI:WInv s) (h4:s.tag<4) (h:jd E L s x p q=.ok s'):zec s':=by
 have fin:∀t:WS,zec t→∀t',k8 E t q=.ok t'→zec t':=fun t ht t' h=>by
  unfold k8 at h;split at h
  · cases h
  · split at h
    · cases h
    · cases h;exact ht
 have h2:=hI.turn;obtain⟨tag,vs,l,ix,left,frm,inner,turn,lo,hi,tch⟩:=s;simp only at h2 h4;rcases(by omega:tag=0∨tag=1∨tag=2∨tag=3) with rfl | rfl | rfl | rfl <;> simp only[jd] at h
 · split at h
   · cases h
   · split at h
     · cases h;exact hs
     · cases h;exact hs
 · split at h
   · cases h
   · split at h
     · split at h
       · cases h
       · split at h
         · cases h;exact hs
         · cases h;exact hs
     · cases h;exact hs
 · split at h
   · cases h
   · split at h
     · exact fin _ hs _ h
     · cases h;exact fun h=>by simp at h
 · rcases(by omega:turn=0∨turn=1∨turn=2) with rfl | rfl | rfl <;> simp only at h
   · split at h
     · cases h
     · cases h;exact fun _ h=>z12 h
   · split at h
     · cases h;exact fun _ h=>hs (by simp) h
     · cases h
   · split at h
     · cases h
     · split at h
       · cases h
       · split at h
         · exact fin ⟨3,vs,l++[(lo,hi)],ix++[x],0,frm,inner,0,lo,hi,tch⟩ (fun h=>by simp at h) _ h
         · cases h;exact fun h=>by simp at h
end
section
open Go.RowKit
theorem z14 {α:Type} {l:List α} {i:Nat} {x:α} (h:l[i]?=some x):l.set i x=l:=by
 apply List.ext_getElem?;intro j;rw[List.getElem?_set];by_cases e:i=j
 · subst e;rw[if_pos rfl,h];split
   · rfl
   · rename_i hl;rw[List.getElem?_eq_none (by omega)] at h;cases h
 · rw[if_neg e]
theorem z15 {ss:List (Value×Value)} {p:Nat} {q:Value×Value} (h:ss[p]?=some q) (x:Value):(yi ss).set (p*2) x=yi (ss.set p (x,q.2)):=by
 rw[←zpd];refine(z14 ?_).symm;rw[List.getElem?_set_ne (by omega)];exact(zf0 h).2
theorem z16 {w:World} {base inner g n c p:Nat} {k:Kno} {ss:List (Value×Value)} (hn:k.length=n) (hp:p<n) (ho:w.ownsRow base 97 2 (.slice (some ⟨g,0,none⟩) n c) n (yi ss)) (hh:PartsT w inner k ss) (hb:inner≤base) (l:List Iv) (x:Value)
 (hx:IvSl w inner x l):OwnK (w.setCell ⟨g,p*2,none⟩ x) base inner (.slice (some ⟨g,0,none⟩) n c) (k.set p (l,(zb k p).2)):=by
 have hrow:∃C fr,w.heap[g]?=some (.cells C 97 fr)∧base≤g:=by
  rcases ho.2 with ⟨h,_⟩ | ⟨g',cap,cur,h,hg,hr,_⟩
  · cases h
  · cases h;exact⟨_,_,hr,hg⟩
 obtain⟨C,fr,hr,hg⟩:=hrow;obtain⟨q,hq,-,hy⟩:=hh.2 p (by omega);have h1:=(ho.stored (p*2) x).1;rw[z15 hq] at h1;have s:Steady inner zag w (w.setCell ⟨g,p*2,none⟩ x):=Steady.setCell (a:=⟨g,p*2,none⟩) hr (Nat.le_trans hb hg) (by rintro(h | h) <;> cases h);refine⟨ss.set p (x,q.2),by rw[List.length_set,hn];exact h1,?_⟩;exact(hh.steady s (.inl rfl) (.inr rfl)).set (hx.steady s (.inl rfl)) (hy.steady s (.inl rfl) (.inr rfl))
theorem z17 (ss:List (Value×Value)) (p:Nat) (x y:Value):(yi ss).take (p*2)++([x,y]++(yi ss).drop (p*2))=yi (ss.take p++[(x,y)]++ss.drop p):=by
 rw[zpb,zpc,zhq,zhq];simp[yi]
theorem z18 {w:World} {Bl base:Nat} {x y u:Value} {k:Kno} (h:OwnK w base 0 x k) (hb:w.heap[Bl]?=some (.cells #[y] 267 (0,0))) (hl:Bl<base):OwnK (w.setCell ⟨Bl,0,none⟩ u) base 0 x k:=by
 obtain⟨ss',h1,h2⟩:=h;have hs5:Steady 0 zag w (w.setCell ⟨Bl,0,none⟩ u):=Steady.setCell (a:=⟨Bl,0,none⟩) hb (Nat.zero_le _) (by rintro(h | h) <;> cases h);exact⟨ss',qk h1 (fun j hj1 hj2=>Below.heap_setCell _ _ _ _ (by simp only;omega)),h2.steady hs5 (.inl rfl) (.inr rfl)⟩
def z19 (Bl base:Nat) (k:Kno) (w:World) (e:Ending) (w':World):Prop:=
 e=.returned (.tuple #[])∧(∃x',w'.heap[Bl]?=some (.cells #[x'] 267 (0,0))∧OwnK w' base 0 x' k)∧Kept (fun j=>j<base∧j≠Bl) w w'
set_option maxRecDepth 100000 in
theorem z2a (Bl base:Nat) (x:Value) (k:Kno) (f:Frg) (a:Option Addr) (n c:Nat) (b:Option Addr) (m d:Nat) (w:World)
 (hB:w.heap[Bl]?=some (.cells #[x] 267 (0,0))) (hbl:Bl<base) (hbs:base≤w.heap.size) (ho:OwnK w base 0 x k) (hI:Ivs w a n c f.1) (hV:EntsT w 0 b m d f.2)
 (hG:∀g∈k,GrpF g) (hf:GrpF f) (hA:k.Pairwise kk) (fk:∀g∈k,VecFits g.2) (ff:VecFits f.2) (hn:k.length+1≤100000) (hs:zu k+f.1.length≤100000):
 Calls Tryz.prog 172 #[.pointer (some ⟨Bl,0,none⟩),.agg #[.slice a n c,.slice b m d]] w (z19 Bl base (j0 k f) w):=by
 have hal:Below w.heap.size w (w.alloc (.cells #[.slice a n c,.slice b m d] 97)):=(Below.refl _ _).alloc (Nat.le_refl _) _;obtain⟨wB,hwB⟩:∃wB,wB=w.alloc (.cells #[.slice a n c,.slice b m d] 97):=⟨_,rfl⟩;have hrB:wB.heap[w.heap.size]?=some (.cells #[.slice a n c,.slice b m d] 97):=by rw[hwB];exact yh rfl
 have hsB:wB.heap.size=w.heap.size+1:=by rw[hwB];simp
 rw[←hwB] at hal;have hBB:=(hal.block Bl (by omega)).trans hB;have hoB:=ho.below hal;have hIB:=hI.below hal;have hVB:EntsT wB 0 b m d f.2:=hV.steady (P:=fun _=>True) (.of_below hal) trivial trivial;obtain⟨xa,xc,hx,hK⟩:=hoB.frags;subst hx;have hKB:Kept (fun j=>j<base∧j≠Bl) w wB:=(Kept.refl _ w).below hal;have hC:=hid (fun w' (h:Below wB.heap.size wB w')=>z1c xa b k.length xc m d k f.2 w' (hK.below h) (hVB.ents.below h) hA (by omega) fk ff);have HwB:=hid hwB;have HKB:=hid hKB;have HoB:=hid hoB;have HIB:=hid hIB;have HVB:=hid hVB;have HBB:=hid hBB;have HrB:=hid hrB;have HsB:=hid hsB;have HG:=hid hG;have Hf:=hid hf;have Hs:=hid hs;have hnl:=hI.len;have r0:∀w',Below wB.heap.size wB w'→w'.cell? ⟨Bl,0,none⟩=some (.slice xa k.length xc):=fun w' h=>zx ((h.block _ (by omega)).trans hBB) rfl
 have r1:∀w',Below wB.heap.size wB w'→w'.cell? ⟨w.heap.size,0,none⟩=some (.slice a n c):=fun w' h=>zx ((h.block _ (by omega)).trans hrB) rfl
 have r2:∀w',Below wB.heap.size wB w'→w'.cell? ⟨w.heap.size,1,none⟩=some (.slice b m d):=fun w' h=>zx ((h.block _ (by omega)).trans hrB) rfl
 have R0:=hid r0;have R1:=hid r1;have R2:=hid r2;clear hB ho hI hV hG hf hA hs hal hBB hoB hIB hVB hK hKB hrB hwB hsB hnl;go_enter Tryz.func172,Tryz.ntmps172;go_wp2_with fail;rw[←HwB.out]
 go_region_held3 (fun w'=>Below wB.heap.size wB w') (first | assumption | exact Below.refl _ _ | exact(Below.refl _ _).drew | exact Below.alloc (by assumption) (Below.size (by assumption)) _) (first
  | (go_at_call 204
     refine(hC.out _ (by assumption)).mono ?_;rintro e w2 ⟨rfl,hb2⟩;have hS2:Below wB.heap.size wB w2:=Below.trans (by assumption) (hb2.mono (Below.size (by assumption)));clear hb2))
 all_goals
  have Hw2:=hid hS2;clear r0 r1 r2 hC hS2;have hBw:wB.heap.size≤w2.heap.size:=Hw2.out.size;have hK2:=(HKB.out.below Hw2.out);have HK2:=hid hK2;have HBl2:=hid ((Hw2.out.block Bl (by have:=HsB.out;omega)).trans HBB.out);have HoK:=hid (HoB.out.below Hw2.out);have HI2:=hid (HIB.out.below Hw2.out);have HV2:=hid (HVB.out.steady (P:=fun _=>True) (.of_below Hw2.out) trivial trivial);have Hr2:=hid ((Hw2.out.block w.heap.size (by have:=HsB.out;omega)).trans HrB.out);have h0:=R0.out _ Hw2.out;have h1:=R1.out _ Hw2.out;have h2:=R2.out _ Hw2.out;have hb2w:base≤w2.heap.size:=by have:=HsB.out;omega
  have hlw2:w.heap.size<w2.heap.size:=by have:=HsB.out;omega
  clear hK2
  cases hhit:zbe k f.2 with
  | true=>
   have hadd:=zo3 hhit
   have hpl:y8 k f.2<k.length:=by
    rcases Nat.lt_or_ge (y8 k f.2) k.length with h | h
    · exact h
    · have:=zj8 (k:=k) (v:=f.2) (Nat.le_antisymm (zj6 k f.2) h);rw[this] at hhit;cases hhit
   have hcm:=(zj7 hpl).2;rw[hhit] at hcm;have hveq:(zb k (y8 k f.2)).2=f.2:=znm (by simpa using hcm.symm);have hgp:=HG.out _ (yx hpl);rcases HoK.out.form2 with ⟨he,h9,-,-⟩ | ⟨g,ss,he,-,hgb,hgl,hgc,hgm,hro,hpt⟩
   · omega
   · subst he;obtain⟨q,hq,⟨ia,im,ic,hqe,hiI⟩,-⟩:=hpt.2 (y8 k f.2) hpl;have hcell:=hro.cells (g:=g) rfl _ _ (zf0 hq).1;rw[yk,Nat.zero_add,hqe] at hcell;have hsum:(zb k (y8 k f.2)).1.length≤zu k:=zez (yx hpl);have HU:=hid (fun w' (h:Below w2.heap.size w2 w')=>zpl ia a im ic n c (zb k (y8 k f.2)).1 f.1 w' (hiI.ivs.below h) (HI2.out.below h) hgp.good Hf.out.good (by have:=Hs.out;omega));have HUl:=hid ((zbk (g:=gOr) hgp.items Hf.out.items rfl).2.2)
     have Hset:=hid (show ∀(w':World) (y:Value),w'.ownsRow base 97 2 (.slice (some ⟨g,0,none⟩) k.length xc) k.length (yi ss)→PartsT w' 0 k ss→IvSl w' 0 y (opL gOr (zb k (y8 k f.2)).1 f.1)→OwnK (w'.setCell ⟨g,y8 k f.2*2,none⟩ y) base 0 (.slice (some ⟨g,0,none⟩) k.length xc) (j0 k f) from fun w' y h1 h2 h3=>by
      have:=z16 rfl hpl h1 h2 (Nat.zero_le _) _ y h3;rw[hveq] at this;rw[hadd];exact this)
     have Hro:=hid hro;have Hpt:=hid hpt;have hfz:=zkk hro (y8 k f.2*2);have HZ:=hid (fun w' (h:Below w2.heap.size w2 w')=>And.intro ((h.cell (p:=⟨g,y8 k f.2*2,none⟩) (zh hcell)).trans hcell) (zkk (qc hro h) (y8 k f.2*2)));have HR0:=hid (fun w' (h:Below w2.heap.size w2 w')=>show w'.cell? ⟨Bl,0,none⟩=some (.slice (some ⟨g,0,none⟩) k.length xc) from zx (i:=0) ((h.block Bl (by omega)).trans HBl2.out) rfl);have HR1:=hid (fun w' (h:Below w2.heap.size w2 w')=>show w'.cell? ⟨w.heap.size,0,none⟩=some (.slice a n c) from zx (i:=0) ((h.block w.heap.size hlw2).trans Hr2.out) rfl);generalize opL gOr (zb k (y8 k f.2)).1 f.1=U at*;generalize y8 k f.2=p at*;have hk63:(p:Int)<(k.length:Int):=by omega
     clear hro hpt hiI hadd hcm hveq hgp hsum hq;go_wp2_with fail
     go_region_with (first
      | (go_at_call 206
         refine(HU.out _ (by first | exact Below.refl _ _ | exact(Below.refl _ _).drew)).mono ?_;rintro e w4 ⟨⟨yu,rfl,hou⟩,hb4⟩;have hT4:Below w2.heap.size w2 w4:=⟨hb4.os,hb4.tape,hb4.output,hb4.size,hb4.block⟩;obtain⟨ua,uc,rfl,hIu⟩:=zda (base':=0) hou HUl.out;have HIu:=hid hIu;have zz:=HZ.out w4 hT4;have z0:=zz.1;have z1:=zz.2;have z2:=HR0.out w4 hT4;have z3:=HR1.out w4 hT4;clear zz hb4 hou hIu))
     all_goals go_wp2
     all_goals
      refine bodyPost_ret (results_none rfl _ _ _) rfl ?_;have hT:=Hw2.out.trans (hT4.mono hBw);refine⟨rfl,⟨_,(Below.heap_setCell _ _ _ _ (by simp only;omega)).trans ((hT4.block Bl (by omega)).trans HBl2.out),Hset.out w4 _ (qc Hro.out hT4) (Hpt.out.steady (P:=fun _=>True) (.of_below hT4) trivial trivial) ⟨_,_,_,rfl,HIu.out⟩⟩,?_⟩
      exact(HK2.out.below hT4).setCell (fun _ h=>by have h1:=h.1;simp only at h1;omega) _
  | false=>
   have hadd:=zo4 hhit;have hpl:=zj6 k f.2;have HCl:=hid (fun w' (h:Below w2.heap.size w2 w')=>zyv a n c f.1 w' (HI2.out.below h) (by have:=Hs.out;rw[←(HI2.out).len];omega));obtain⟨ss,hro,hpt⟩:=HoK.out;have Hro:=hid hro;have Hpt:=hid hpt;have hssl:=hpt.1;have HFi:=hid Hf.out.items
   have HFr:=hid (show ∀(w':World) (v' cl:Value),w'.ownsRow base 97 2 v' (k.length+1) ((yi ss).take (y8 k f.2*2)++([cl,.slice b m d]++(yi ss).drop (y8 k f.2*2)))→PartsT w' 0 k ss→IvSl w' 0 cl f.1→EnSl w' 0 (.slice b m d) f.2→OwnK w' base 0 v' (j0 k f) from fun w' v' cl h1 h2 h3 h4=>by
    rw[z17] at h1;have hl:(j0 k f).length=k.length+1:=by rw[hadd];simp;omega
    refine⟨_,by rw[hl];exact h1,?_⟩;rw[hadd];have:=((h2.take (y8 k f.2)).append (zo8 (f:=f) h3 h4)).append (h2.drop (y8 k f.2));simpa using this)
   have hone:=hpt.one;have HR0:=hid (fun w' (h:Below w2.heap.size w2 w')=>show w'.heap[Bl]?=some (.cells #[.slice xa k.length xc] 267 (0,0))∧w'.cell? ⟨Bl,0,none⟩=some (.slice xa k.length xc)∧w'.cell? ⟨w.heap.size,1,none⟩=some (.slice b m d) from And.intro ((h.block Bl (by omega)).trans HBl2.out) (And.intro (zx (i:=0) ((h.block Bl (by omega)).trans HBl2.out) rfl) (zx (i:=1) ((h.block w.heap.size hlw2).trans Hr2.out) rfl)));have Hlt:=hid hro.lt;generalize y8 k f.2=p at*;have Hone:=hid hone;clear hro hpt hadd hone;go_wp2_with fail
   go_region_with (first
    | (go_at_call 208
       refine(HCl.out _ (by first | exact Below.refl _ _ | exact(Below.refl _ _).drew)).mono ?_;rintro e w4 ⟨⟨yu,rfl,hou⟩,hb4⟩;have hT4:Below w2.heap.size w2 w4:=⟨hb4.os,hb4.tape,hb4.output,hb4.size,hb4.block⟩;obtain⟨ua,uc,rfl,hIu⟩:=zda (base':=0) hou HFi.out;have HIu:=hid hIu;have zz:=HR0.out w4 hT4;have z2:=zz.2.1;have z3:=zz.2.2;have hBl4:Bl<w4.heap.size:=by have:=hT4.size;omega
       have z4:(w4.alloc (.cells #[.slice ua f.1.length uc,.slice b m d] 97)).cell? ⟨Bl,0,none⟩=some (.slice xa k.length xc):=zx (i:=0) (qg zz.1) rfl
       clear zz hb4 hou hIu)
    | (go_at_call 207
       have hal5:Below w4.heap.size w4 (w4.alloc (.cells #[.slice ua f.1.length uc,.slice b m d] 97)):=(Below.refl _ _).alloc (Nat.le_refl _) _;refine(zyn base (.slice xa k.length xc) k.length p w4.heap.size (yi ss) [.slice ua f.1.length uc,.slice b m d] _ (qc Hro.out (hT4.trans (hal5.mono hT4.size))) (yh rfl) (fun e=>by have:=(Hlt.out _ e).2;have:=hT4.size;omega) rfl Hone.out (by intro u hu;simp at hu;rcases hu with rfl | rfl <;> rfl) hpl (by omega) (by have:=hT4.size;simp;omega)).mono ?_;rintro e w5 ⟨v5,rfl,ho5,hg5⟩;have hBl5:w5.heap[Bl]?=some (.cells #[.slice xa k.length xc] 267 (0,0)):=(hg5.block Bl (by have:=hT4.size;simp;omega) (fun e=>by have:=(Hlt.out _ e.symm).1;omega)).trans (qg (HR0.out w4 hT4).1);have z5:=k9 hBl5;have z6:=yz hBl5;have HBl5:=hid hBl5;have Ho5:=hid ho5;have Hg5:=hid hg5;have Hal5:=hid hal5;obtain⟨v5a,v5c,rfl⟩:=jz ho5;clear hBl5 ho5 hg5 hal5))
   all_goals go_wp2
   all_goals
    go_end0
    have hst:Steady 0 zag w2 w5:=(Steady.of_below (hT4.trans (Hal5.out.mono hT4.size))).trans ((Steady.grown (qc Hro.out (hT4.trans (Hal5.out.mono hT4.size))) Hg5.out (by rintro(h | h) <;> cases h)).lower (Nat.zero_le _));have hst4:Steady 0 zag w4 w5:=(Steady.of_below Hal5.out).trans ((Steady.grown (qc Hro.out (hT4.trans (Hal5.out.mono hT4.size))) Hg5.out (by rintro(h | h) <;> cases h)).lower (Nat.zero_le _));have hOK:=HFr.out w5 _ _ Ho5.out (Hpt.out.steady hst (.inl rfl) (.inr rfl)) ⟨_,_,_,rfl,HIu.out.steady hst4 (.inl rfl)⟩ ⟨_,_,_,rfl,HV2.out.steady hst (.inl rfl) (.inr rfl)⟩;refine⟨rfl,⟨_,zb0 HBl5.out,?_⟩,?_⟩
    · exact z18 hOK HBl5.out hbl
    · exact(((HK2.out.below (hT4.trans (Hal5.out.mono hT4.size)))).grown Hg5.out (fun j hj hjw hjp=>by have:=(Hlt.out j hj).1;have:=hjp.1;omega)).setCell (fun _ h=>h.2 rfl) _
end
section
open Go.RowKit Go.Maps
theorem z2b (b:Bool):plainElem (H:=Value) Tryz.prog 4 (.bool b)=some (.lit (.bool b),[]):=plainElem_bool Tryz.underlying4 b
theorem wfI {x:Nat} (h:x<9223372036854775808):(Lit.int .i64 (x:Int)).wf=true:=by
 simp[Lit.wf,IntKind.min,IntKind.max,IntKind.signed,IntKind.bits];omega
theorem zrf:Maps.Keyed Tryz.prog 3:=int_keyed Tryz.underlying3
theorem z2c {x:Nat} (h:x<9223372036854775808):keyOf Tryz.prog 3 (.int .i64 (x:Int))=some (.int .i64 (x:Int)):=keyOf_int_mk Tryz.underlying3 (wfI h)
theorem z2d {r x:Nat} (h:r≠x):Lit.int .i64 (r:Int)≠Lit.int .i64 (x:Int):=fun e=>h (by cases e;rfl)
def UsedM (w:World) (U:Nat) (ix:List Nat):Prop:=
 ∃n D,w.ownsMap Tryz.prog 3 (plainElem (H:=Value) Tryz.prog 4) U n D∧n≤ix.length∧(∀i:Nat,Maps.has D (.int .i64 (i:Int))=decide (i∈ix))∧∀N,(∀i∈ix,i<N)→Maps.size D=vo ix N
theorem zrg (w:World):UsedM (w.alloc (.map #[] 0)) w.heap.size []:=
 ⟨0,.map [],World.ownsMap_made _ _ _ _,Nat.le_refl _,fun i=>rfl,fun N _=>(zq1 N).symm⟩
theorem UsedM.same {w w':World} {U:Nat} {ix:List Nat} (h:UsedM w U ix) (hk:w'.heap[U]?=w.heap[U]?):UsedM w' U ix:=by
 obtain⟨n,D,⟨es,clock,h1,h2⟩,h3⟩:=h;exact⟨n,D,⟨es,clock,hk.trans h1,h2⟩,h3⟩
theorem UsedM.notT {w:World} {U:Nat} {ix:List Nat} (h:UsedM w U ix):NotT w U:=by
 obtain⟨n,D,⟨es,clock,h1,h2⟩,h3⟩:=h;exact z1r h1
theorem UsedM.lt {w:World} {U:Nat} {ix:List Nat} (h:UsedM w U ix):U<w.heap.size:=by
 obtain⟨n,D,⟨es,clock,h1,h2⟩,h3⟩:=h;exact(Array.getElem?_eq_some_iff.1 h1).1
theorem UsedM.ne {w:World} {U g:Nat} {ix:List Nat} {C:Array Value} {T:TypeId} {fr:Nat×Nat} (h:UsedM w U ix) (hg:w.heap[g]?=some (.cells C T fr)):U≠g:=by
 obtain⟨n,D,⟨es,clock,h1,h2⟩,h3⟩:=h;intro e;subst e;rw[h1] at hg;injection hg with hg;cases hg
theorem UsedM.put {w:World} {U:Nat} {ix:List Nat} (h:UsedM w U ix) {i:Nat} (hi:i<9223372036854775808) (hl:ix.length<9223372036854775807):
 ∃w',(Instr.mapUpdate 124 (.map (some U)) (.int .i64 (i:Int)) (.bool true)).run Tryz.prog w=.ok () w'∧UsedM w' U (ix++[i])∧w.grownBy w' (some U):=by
 obtain⟨n,D,h1,h2,h3,h4⟩:=h;obtain⟨w',hrun,r1,r2⟩:=h1.update zrf Tryz.underlying124 (by unfold maxLen;omega) (z2c hi) (z2b true);have hT:=h1.tidy zrf;refine⟨w',hrun,⟨n+1,_,r1,by simp;omega,fun j=>?_,fun N hN=>?_⟩,r2⟩
 · by_cases e:j=i
   · subst e;rw[has_put_same hT.isMap (show WideAt.IsKeyLit (.int .i64 (j:Int)) from trivial)];simp
   · rw[has_put_other (z2d e),h3 j];simp[e]
 · have hiN:i<N:=hN i (by simp);rw[size_put hT,h3 i,h4 N (fun j hj=>hN j (by simp[hj])),zqz hiN];by_cases e:i∈ix
   · simp[e]
   · simp[e]
theorem UsedM.len {w:World} {U:Nat} {ix:List Nat} (h:UsedM w U ix) (N:Nat) (hN:∀i∈ix,i<N) (ty:TypeId):(Builtin.len_ #[124] ty #[.map (some U)]).run Tryz.prog w=.ok (.int .i64 ((vo ix N:Nat):Int)) w:=by
 obtain⟨n,D,h1,h2,h3,h4⟩:=h;rw[h1.len Tryz.underlying124 ty,h4 N hN]
theorem zrh {w:World} {ops:Array Oper} {rest:List Oper} {o:Oper} {a:Act} {Q:Exit→Act→World→Prop} (hg:o.guard=none) (m x v:Operand) (hop:o.op=Op.mapUpdate 124 m x v)
 (U:Nat) (ix:List Nat) (h:UsedM w U ix) (i:Nat) (hi:i<9223372036854775808) (hl:ix.length<9223372036854775807) (hm:a.eval m=.map (some U)) (hx:a.eval x=.int .i64 (i:Int)) (hv:a.eval v=.bool true)
 (hK:∀w',UsedM w' U (ix++[i])→w.grownBy w' (some U)→wpList Tryz.prog ops Q rest (a.put o.dst undef) w'):wpList Tryz.prog ops Q (o :: rest) a w:=by
 refine wpList_plain hg fun K' hK'=>?_
 obtain⟨w',hrun,r1,r2⟩:=h.put hi hl;unfold Oper.wp;simp[execOp,hop,hm,hx,hv,hrun,Result.andThen];exact hK' _ _ (hK w' r1 r2)
end
section
open Go.RowKit
structure Grw (w w':World) (v v':Value):Prop where
 g:w.grownBy w' v.ownBlock
 b:∀k,v'.ownBlock=some k→v.ownBlock=some k∨w.heap.size≤k
theorem Grw.refl (w:World) (v:Value):Grw w w v v:=⟨World.grownBy.refl _ _,fun k h=>.inl h⟩
theorem Grw.trans {w1 w2 w3:World} {v1 v2 v3:Value} (h:Grw w1 w2 v1 v2) (k:Grw w2 w3 v2 v3):Grw w1 w3 v1 v3:=by
 refine⟨⟨k.g.os.trans h.g.os,k.g.tape.trans h.g.tape,k.g.output.trans h.g.output,Nat.le_trans h.g.size k.g.size,fun i hi hn=>?_⟩,fun i hi=>?_⟩
 · rw[k.g.block i (Nat.lt_of_lt_of_le hi h.g.size) (fun e=>?_),h.g.block i hi hn];rcases h.b i e.symm with h' | h'
   · exact hn h'.symm
   · omega
 · rcases k.b i hi with h' | h'
   · exact h.b i h'
   · exact .inr (Nat.le_trans h.g.size h')
theorem Grw.below {w w1 w2:World} {v v1:Value} (h:Grw w w1 v v1) (hb:Below w1.heap.size w1 w2):Grw w w2 v v1:=
 ⟨⟨hb.os.trans h.g.os,hb.tape.trans h.g.tape,hb.output.trans h.g.output,Nat.le_trans h.g.size hb.size,fun i hi hn=>(hb.block i (Nat.lt_of_lt_of_le hi h.g.size)).trans (h.g.block i hi hn)⟩,h.b⟩
theorem Grw.alloc {w w1:World} {v v1:Value} (h:Grw w w1 v v1) (o:Obj):Grw w (w1.alloc o) v v1:=h.below ((Below.refl _ _).alloc (Nat.le_refl _) o)
theorem Grw.toBelow {w w':World} {v v':Value} {base:Nat} (h:Grw w w' v v') (hb:base≤w.heap.size) (hv:∀k,v.ownBlock=some k→base≤k):Below base w w':=(Below.refl _ _).grown h.g hb hv
theorem Grw.row {w w':World} {v v':Value} (h:Grw w w' v v') {base sz n:Nat} {e:TypeId} {u:Value} {xs:List Value} (ho:w.ownsRow base e sz u n xs) (hn:∀k,u.ownBlock=some k→v.ownBlock≠some k):w'.ownsRow base e sz u n xs:=
 qs ho fun k hk=>h.g.block k (ho.lt k hk).2 (fun e=>hn k hk e.symm)
theorem zri {w:World} (base:Nat) (v:Value) (n:Nat) (xs:List Value) (hown:w.ownsRow base 5 1 v n xs) (p c q:Nat) (hc:w.cell? ⟨p,0,none⟩=some (.int .u8 (q:Int))) (hq:q<256) (h1c:1≤c) (h2c:c≤9223372036854775807) (hb:n+1≤140737488355328) (hbase:base≤w.heap.size):
 ∃v' w',(Builtin.append_ #[22,22] 22 #[v,.slice (some ⟨p,0,none⟩) 1 c]).run Tryz.prog w=.ok v' w'∧w'.ownsRow base 5 1 v' (n+1) (xs++u8s [q])∧Grw w w' v v':=by
 have hB:Byts w (some ⟨p,0,none⟩) 1 c [q]:=by
  refine⟨rfl,?_,h1c,h2c,(by intro h;cases h),fun _=>⟨p,0,rfl,fun i hi=>?_⟩⟩
  · intro x hx;simp at hx;omega
  · obtain rfl:i=0:=by omega
    exact hc
 rcases hown.2 with ⟨rfl,h0⟩ | ⟨g,cap,cur,rfl,hg,hrow,hnc,hcm,hcs,htake⟩
 · have hx:xs=[]:=by
    have:=hown.1;rw[h0] at this;exact List.length_eq_zero_iff.1 (by omega)
   subst h0 hx;obtain⟨v',w',h1,h2,h3⟩:=zmk (w:=w) w.heap.size (.slice none 0 0) 0 [] (World.ownsRow_nil _ _ _ _) (some ⟨p,0,none⟩) 1 c [q] hB (by omega) (Nat.le_refl _);exact⟨v',w',h1,vz h2 hbase,h3,fun k e=>.inr (h2.lt _ e).1⟩
 · obtain⟨i,hi,hz,hs,hby⟩:=info_parts Tryz.info_u8;have hnews:∀j u,(u8s [q])[j]?=some u→w.cell? ((⟨p,0,none⟩:Addr).add j)=some u:=hB.news;have hone:∀u∈u8s [q],u.oneCell'=true:=by intro u hu;simp[u8s] at hu;subst hu;rfl
   by_cases hf:n+1≤cap
   · obtain⟨w',r1,r2,r3⟩:=run_append_fits (P:=Tryz.prog) w base 22 22 5 i 1 Tryz.underlying22 hi hs g n cap _ hown ⟨p,0,none⟩ 1 c (u8s [q]) rfl hnews hone hf;exact⟨_,w',r1,r2,r3,fun k e=>.inl e⟩
   · obtain⟨v',w',r1,r2,r3⟩:=run_append_arg_grows (P:=Tryz.prog) w 22 22 5 i _ 1 1 Tryz.underlying22 hi hz hs hby rfl (by omega) ⟨g,0,none⟩ n cap xs hown.1 (fun j u hu=>hown.cells (g:=g) rfl j u hu) ⟨p,0,none⟩ 1 c (u8s [q]) rfl hnews (by omega) (by unfold maxLen;omega) (by omega);exact⟨v',w',r1,vz r2 hbase,⟨r3.os,r3.tape,r3.output,r3.size,fun k hk _=>r3.block k hk (by simp)⟩,fun k e=>.inr (r2.lt _ e).1⟩
theorem z2e (v:Value) (n base:Nat) (xs:List Value) (x:Nat) (w:World) (hx:x<18446744073709551616) (hown:w.ownsRow base 5 1 v n xs) (hbase:base≤w.heap.size) (hn:n≤140737488355000):
 Calls Tryz.prog 87 #[v,.int .u64 x] w fun e w'=>∃v',e=.returned v'∧w'.ownsRow base 5 1 v' (n+(je x).length) (xs++u8s (je x))∧Grw w w' v v':=by
 have hlen:=zgp 9 x;have hpos:=zfh 9 x;have Ho:=hid hown;clear hown;have Hx:=hid hx;clear hx;go_enter Tryz.func87,Tryz.ntmps87;go_wp2_with fail;refine(zi9 x w Hx.out).mono ?_;rintro e w' ⟨rfl,rfl⟩;rw[zgo];generalize hL:(vbF 9 x).length=L at*;have HL:=hid hL;clear hL;go_wp2_with fail
 go_loopw [0,1,8] (fun u y i wr=>∃j m k:Nat,j+1≤L∧i=.int .i64 j∧y=.int .u64 m∧Hid (m<18446744073709551616)∧Hid (Grw w wr v u)∧base≤wr.heap.size∧j+(vbF k m).length=L∧
  Hid (∃p:List Nat,p.length=j∧vbF 9 x=p++vbF k m∧wr.ownsRow base 5 1 u (n+j) (xs++u8s p))) (fun _ _ i _=>L - (intOf i).toNat)
 case atStart=>exact⟨0,x,9,by omega,rfl,rfl,Hx.out,Grw.refl _ _,hbase,by rw[HL.out];omega,[],rfl,rfl,by have:=Ho.out;simpa [u8s] using this⟩
 case round=>
  obtain⟨j,m,k,hj,rfl,rfl,hm,hb,hbs,hjl,hp⟩:=hrel;by_cases hjL:j<L - 1
  · have hlt:decide ((j:Int)<(L:Int) - 1)=true:=by rw[decide_eq_true_iff];omega
    obtain⟨k',rfl,h128,hcons⟩:=ztu (k:=k) (x:=m) (by omega);obtain⟨p,hpl,hpx,hpo⟩:=hp.out;have Hpo:=hid hpo;clear hpo;have Hcons:=hid hcons;clear hcons;have Hjl:=hid hjl;clear hjl;have Hpl:=hid hpl;clear hpl;have Hpx:=hid hpx;clear hpx;have hbit:=zup m hm.out;have hq256:m % 128+128<256:=by omega
    generalize m % 128+128=q at*;obtain⟨v',w1,hr,ho1,hg1⟩:=zri base _ (n+j) _ (Hpo.out.alloc (.cells #[.int .u8 (q:Int)] 5)) wr.heap.size 1 q (by rw[World.cell?_alloc_mark];rfl) hq256 (Nat.le_refl _) (by omega) (by omega) (by simp only[World.size_alloc];omega);have Ho1:=hid ho1;clear ho1;have Hg:=hid ((hb.out.alloc _).trans hg1);have hs1:base≤w1.heap.size:=by have:=hg1.g.size;simp only[World.size_alloc] at this;omega
    clear hg1 Hpo hb;go_wp2_with (at_builtin;refine jh _ _ 22 rfl rfl _ _ rfl rfl _ _ hr ?_);clear hr;go_roundw
    case rel=>
     refine⟨j+1,m / 128,k',by omega,by go_num,by go_num,(by have:=hm.out;show m / 128<_;omega),Hg.out,hs1,?_,p++[q],?_,?_,?_⟩
     · have:=Hjl.out;rw[Hcons.out] at this;simp at this;omega
     · have:=Hpl.out;simp[this]
     · rw[Hpx.out,Hcons.out];simp
     · have:=Ho1.out;rw[List.append_assoc,←zi1] at this;exact this
    case measure=>simp[intOf];omega
  · have hge:decide ((j:Int)<(L:Int) - 1)=false:=by rw[decide_eq_false_iff_not];omega
    obtain⟨p,hpl,hpx,hpo⟩:=hp.out;have Hpo:=hid hpo;clear hpo;have h1:(vbF k m).length=1:=by have:=zfh k m;omega
    have e1:=ztv h1;have Hfin:=hid (show je x=p++[m % 256] from by rw[zgo,hpx,e1]);have Hpl:=hid hpl;clear hpl hpx h1 e1;have Hjl:=hid hjl;clear hjl;have hq256:m % 256<256:=by omega
    have hmq:((m:Int) % 256)=((m % 256:Nat):Int):=by omega
    generalize m % 256=q at*;obtain⟨v',w1,hr,ho1,hg1⟩:=zri base _ (n+j) _ (Hpo.out.alloc (.cells #[.int .u8 (q:Int)] 5)) wr.heap.size 1 q (by rw[World.cell?_alloc_mark];rfl) hq256 (Nat.le_refl _) (by omega) (by omega) (by simp only[World.size_alloc];omega);have Ho1:=hid ho1;clear ho1;have Hg:=hid ((hb.out.alloc _).trans hg1);clear hg1 Hpo hb;go_wp2_with (at_builtin;refine jh _ _ 22 rfl rfl _ _ rfl rfl _ _ hr ?_);go_ret;refine⟨v',rfl,?_,Hg.out⟩;have h2:=Ho1.out;rw[List.append_assoc,←zi1] at h2;rw[Hfin.out];have h3:n+(p++[q]).length=n+j+1:=by have:=Hpl.out;simp[this];omega
    rw[h3];exact h2
theorem zde (base:Nat) (v:Value) (l:List Nat) (x:Nat) (w:World) (hx:x<18446744073709551616) (ho:OwnB w base v l) (hbase:base≤w.heap.size) (hn:l.length≤1000000000000):
 Calls Tryz.prog 87 #[v,.int .u64 x] w fun e w'=>∃v',e=.returned v'∧OwnB w' base v' (l++[x])∧Grw w w' v v':=by
 have h1:=zqe l;refine(z2e v _ base _ x w hx ho hbase (by omega)).mono ?_;rintro e w' ⟨v',rfl,h2,h3⟩;refine⟨v',rfl,?_,h3⟩;unfold OwnB;rw[zz5,zz6,List.length_append,zi1];exact h2
