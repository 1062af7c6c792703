/- Part 42. -/
import Derived.Test.YtmfhggnlainmiaaGreatDoorPk18
import Derived.Test.YtmfhggnlainmiaaGreatDoorPk27
import Derived.Test.YtmfhggnlainmiaaGreatDoorPk21
set_option linter.unusedVariables false
set_option maxHeartbeats 16000000
namespace Go.Proofs.YtmfhggnlainmiaaGreatDoor
open Lib (hid)
section
open Go.RowKit
theorem ye4 {w w':World} {r:Option Nat} (h:w.grownBy w' r) (o:Obj):w.grownBy (w'.alloc o) r:=
 ⟨h.os,h.tape,h.output,by have:=h.size;simp;omega,fun k hk hne=>(Below.heap_alloc _ _ _ (Nat.lt_of_lt_of_le hk h.size)).trans (h.block k hk hne)⟩
theorem ye5 (l:List Nat) (p k x:Nat) (h:p+k<l.length):
 yf (l.drop (p+k)) k x=if yr k (nth l (p+k))=2 then (2,0,k+1) else if yr k (nth l (p+k))=1 then (1,y8 x k (nth l (p+k)),k+1) else yf (l.drop (p+(k+1))) (k+1) (y8 x k (nth l (p+k))):=by
 rw[zfb l (p+k) h]
 rfl
theorem ye6 (x k c:Nat) (hx:x<18446744073709551616):bits .or .u64 (x:Int) (IntKind.u64.wrap ((c:Int) % 128*2 ^ (7*k)))=((y8 x k c:Nat):Int):=zwh x k c hx
def stG (E n s:Nat):Nat:=if s=0∧E≤n then 3 else s
set_option maxRecDepth 100000 in
theorem ztl (a:Option Addr) (n cap p E:Nat) (l:List Nat) (w:World) (hB:Byts w a n cap l) (hp:p≤n) (hpE:p≤E) (hn0:n≤2000000000000000000) (hE0:E≤4000000000000000000):
 Calls Tryz.prog 95 #[.slice a n cap,.int .i64 p,.int .i64 E] w fun e w'=>e=.returned (.tuple #[.int .i64 (stG E n (yf ((l.take E).drop p) 0 0).1:Nat),.int .u64 ((yf ((l.take E).drop p) 0 0).2.1:Nat),.int .i64 ((p+(yf ((l.take E).drop p) 0 0).2.2:Nat):Int)])∧w=w':=by
 obtain⟨hn,hlt,hnc,hcm,hnil,hc⟩:=hB;clear hnil hcm;obtain⟨t,ht⟩:∃t,t=l.take E:=⟨_,rfl⟩;have Htl:=hid (show t.length=min E n by rw[ht,List.length_take,hn]);have Htn:=hid (fun i (h:i<E)=>show nth t i=nth l i by rw[ht];unfold nth;rw[List.getD_eq_getElem?_getD,List.getD_eq_getElem?_getD,List.getElem?_take_of_lt h]);rw[←ht];clear ht;have Hn:=hid hn;clear hn;have Hlt:=hid hlt;clear hlt;have Hc:=hid hc;clear hc;go_enter Tryz.func95,Tryz.ntmps95;go_wp2_with fail;go_loop [9,10,11] (fun y j _=>∃k x:Nat,p+k≤n∧p+k≤E∧k<10∧j=.int .i64 k∧y=.int .u64 x∧Hid (x<18446744073709551616)∧Hid (yf (t.drop p) 0 0=yf (t.drop (p+k)) k x)) (fun _ j _=>10 - (intOf j).toNat)
 case atStart=>exact⟨0,0,by omega,by omega,by omega,rfl,rfl,by show 0<18446744073709551616;omega,rfl⟩
 case round=>
  obtain⟨k,x,hk,hkE,hk10,rfl,rfl,hx,hS⟩:=hrel;have h10:decide ((k:Int)<10)=true:=by rw[decide_eq_true_iff];omega
  by_cases hkn:p+k<n∧p+k<E
  · obtain⟨hkn,hkE'⟩:=hkn;have hq1:decide ((E:Int)≤(p:Int)+(k:Int))=false:=by rw[decide_eq_false_iff_not];omega
    have hq2:decide ((n:Int)≤(p:Int)+(k:Int))=false:=by rw[decide_eq_false_iff_not];omega
    obtain⟨b,o,rfl,hcell⟩:=Hc.out (by omega);have hc:=hcell (p+k) hkn;clear hcell;have hnc:nth l (p+k)<256:=zfo Hlt.out (by omega) _;have hd:=ye5 t p k x (by rw[Htl.out];omega);rw[Htn.out _ hkE'] at hd;have Hd:=hid hd;clear hd;have Ho:=hid (fun c=>ye6 x k c hx.out);have Hol:=hid (fun c=>zir k c hx.out);generalize nth l (p+k)=c at*;by_cases hw:(k=9∧1<c)∨(0<k∧c=0)
    · have hns:yr k c=2:=if_pos hw;have Hfin:=hid (show yf (t.drop p) 0 0=(2,0,k+1) from by rw[hS.out,Hd.out,if_pos hns])
      have hb:((((k:Int) == 9) && decide (1<(c:Int))) || (decide (0<k) && ((c:Int) == 0)))=true:=by
       rcases hw with ⟨h1,h2⟩ | ⟨h1,h2⟩
       · have e1:((k:Int) == 9)=true:=by rw[beq_iff_eq];omega
         have e2:decide (1<(c:Int))=true:=by rw[decide_eq_true_iff];omega
         rw[e1,e2];rfl
       · have e1:decide (0<k)=true:=by rw[decide_eq_true_iff];omega
         have e2:((c:Int) == 0)=true:=by rw[beq_iff_eq];omega
         rw[e1,e2];simp
      rcases hw with ⟨h1,h2⟩ | ⟨h1,h2⟩
      · have e1:((k:Int) == 9)=true:=by rw[beq_iff_eq];omega
        have e2:decide (1<(c:Int))=true:=by rw[decide_eq_true_iff];omega
        clear hb h1;go_wp2_with fail;go_ret3
        refine⟨?_,rfl⟩;rw[Hfin.out]
        rfl
      · have e0:((c:Int) == 0)=true:=by rw[beq_iff_eq];omega
        have e1:decide (0<k)=true:=by rw[decide_eq_true_iff];omega
        have e2:decide (1<(c:Int))=false:=by rw[decide_eq_false_iff_not];omega
        clear hb h2;by_cases h9:k=9
        · have e3:((k:Int) == 9)=true:=by rw[beq_iff_eq];omega
          clear h9;go_wp2_with fail;go_ret3
          refine⟨?_,rfl⟩;rw[Hfin.out]
          rfl
        · have e3:((k:Int) == 9)=false:=by rw[beq_eq_false_iff_ne];omega
          go_wp2_with fail;go_ret3
          refine⟨?_,rfl⟩;rw[Hfin.out]
          rfl
    · have hns2:yr k c≠2:=by unfold yr;rw[if_neg hw];split <;> decide
      have hk9:k≠9∨c≤1:=by omega
      have hk0:k=0∨c≠0:=by omega
      clear hw;have HO:=hid (Ho.out c);have HL:=hid (Hol.out c)
      have e90:(((k:Int) == 9)=true∧decide (1<(c:Int))=false∧decide (0<k)=true∧((c:Int) == 0)=false)∨(((k:Int) == 9)=false∧decide (0<k)=true∧((c:Int) == 0)=false)∨(((k:Int) == 9)=false∧decide (0<k)=false):=by
       by_cases h9:k=9
       · left;exact⟨by rw[beq_iff_eq];omega,by rw[decide_eq_false_iff_not];omega,by rw[decide_eq_true_iff];omega,by rw[beq_eq_false_iff_ne];omega⟩
       · right;by_cases h0:k=0
         · right;exact⟨by rw[beq_eq_false_iff_ne];omega,by rw[decide_eq_false_iff_not];omega⟩
         · left;exact⟨by rw[beq_eq_false_iff_ne];omega,by rw[decide_eq_true_iff];omega,by rw[beq_eq_false_iff_ne];omega⟩
      clear hk9 hk0;by_cases h128:c<128
      · have hns:yr k c=1:=by
         rcases zge k c with h | h | h
         · unfold yr at h;rw[if_neg (fun hh=>hns2 (if_pos hh)),if_pos h128] at h;cases h
         · exact h
         · exact absurd h hns2
        have Hfin:=hid (show yf (t.drop p) 0 0=(1,y8 x k c,k+1) from by rw[hS.out,Hd.out,if_neg hns2,if_pos hns]);have e5:decide ((c:Int)<128)=true:=by rw[decide_eq_true_iff];omega
        clear hns hns2;rcases e90 with ⟨e9,e9',e0,e0'⟩ | ⟨e9,e0,e0'⟩ | ⟨e9,e0⟩
        all_goals
         go_wp2_with fail;rw[HO.out];go_ret3
         refine⟨?_,rfl⟩;rw[Hfin.out]
         rfl
      · have hns:yr k c=0:=by
         rcases zge k c with h | h | h
         · exact h
         · unfold yr at h;rw[if_neg (fun hh=>hns2 (if_pos hh)),if_neg h128] at h;cases h
         · exact absurd h hns2
        have hk9':k≠9:=fun e=>zrg c (by rw[←e];exact hns)
        have HS2:=hid (show yf (t.drop p) 0 0=yf (t.drop (p+(k+1))) (k+1) (y8 x k c) from by rw[hS.out,Hd.out,if_neg hns2,if_neg (by rw[hns];decide)]);have e5:decide ((c:Int)<128)=false:=by rw[decide_eq_false_iff_not];omega
        clear hns hns2;rcases e90 with ⟨e9,e9',e0,e0'⟩ | ⟨e9,e0,e0'⟩ | ⟨e9,e0⟩
        all_goals
         go_wp2_with fail;rw[HO.out];go_round
         case rel=>exact⟨k+1,_,by omega,by omega,by omega,by go_num,rfl,HL,HS2⟩
         case measure=>simp[intOf];omega
  · have Hfin:=hid (show yf (t.drop p) 0 0=(0,0,k) from by rw[hS.out,List.drop_eq_nil_of_le (by rw[Htl.out];omega)];rfl);by_cases hkE':p+k<E
    · have Hst:=hid (show stG E n 0=0 from if_neg (fun h=>by have:=h.2;omega));have hq1:decide ((E:Int)≤(p:Int)+(k:Int))=false:=by rw[decide_eq_false_iff_not];omega
      have hq2:decide ((n:Int)≤(p:Int)+(k:Int))=true:=by rw[decide_eq_true_iff];omega
      clear hkn;go_wp2_with fail;go_ret3
      refine⟨?_,rfl⟩;rw[Hfin.out,Hst.out]
      rfl
    · have Hst:=hid (show stG E n 0=3 from if_pos ⟨rfl,by omega⟩);have hq1:decide ((E:Int)≤(p:Int)+(k:Int))=true:=by rw[decide_eq_true_iff];omega
      clear hkn;go_wp2_with fail;go_ret3
      refine⟨?_,rfl⟩;rw[Hfin.out,Hst.out]
      rfl
theorem ye7 (l:List Nat):∀k,(l.take k).sum≤l.sum:=fun k=>by
 have:=List.take_append_drop k l;have h:l.sum=(l.take k).sum+(l.drop k).sum:=by rw[←List.sum_append,this]
 omega
set_option maxRecDepth 20000 in
theorem ye8 (A:Option Addr) (n cp:Nat) (l:List Nat) (w:World) (hR:Rd w 1 A n (zi l)) (hl:l.length=n) (h64:∀x∈l,x<18446744073709551616) (hn:n≤10):
 Calls Tryz.prog 205 #[.slice A n cp] w fun e w'=>e=.returned (zag l.sum)∧Below w.heap.size w w':=by
 have HR:=hid (fun W (h:Below w.heap.size w W)=>hR.below h);have Hl:=hid hl;have H64:=hid h64;have HMx:=hid (fun W=>show Calls Tryz.prog 257 #[] W fun e w'=>e=.returned (.int .u64 18446744073709551615)∧Below W.heap.size W w' from(zo7 W).mono fun e w' ⟨h1,h2⟩=>⟨h1,by subst h2;exact Below.refl _ _⟩);clear hR hl h64;go_enter Tryz.func205,Tryz.ntmps205;go_wp2_with fail;go_loopw [4,5] (fun y i wr=>∃k s:Nat,k≤n∧i=.int .i64 k∧y=.int .u64 s∧Below w.heap.size w wr∧Hid (s<18446744073709551616∧s=(l.take k).sum)) (fun _ i _=>n - (intOf i).toNat)
 case atStart=>exact⟨0,0,by omega,rfl,rfl,Below.refl _ _,by decide,rfl⟩
 case round=>
  obtain⟨k,s,hk,rfl,rfl,hb,hs⟩:=hrel;have Hb:=hid hb;clear hb;by_cases hkn:k<n
  · obtain⟨bb,oo,rfl,hc⟩:=(HR.out _ Hb.out).2 (by omega);have qx:=hc k _ (ze2 l k (by rw[Hl.out];exact hkn));have hxl:=H64.out _ (zce (show k<l.length by rw[Hl.out];exact hkn));have Hst:=hid (zxm l k (by rw[Hl.out];exact hkn));have Hle:=hid (ye7 l (k+1));have Hqx:=hid (fun w' (h:Below wr.heap.size wr w')=>(h.cell (p:=⟨bb,oo+k,none⟩) (zf (by simpa using qx))).trans (by simpa using qx:wr.cell? ⟨bb,oo+k,none⟩=_));clear hc qx;generalize nth l k=x at*;obtain⟨md,hmd⟩:∃md,md=18446744073709551615 - s:=⟨_,rfl⟩;have hs1:=hs.out.1;have hw2:IntKind.u64.wrap (18446744073709551615 - (s:Int))=(md:Int):=by have:=hs.out.1;rw[IntKind.wrap_u64];omega
    have h0:(0:Int)≤k:=by omega
    have h04:(k:Int)<(n:Int):=by omega
    by_cases hlo:s+x<18446744073709551616
    · have hd:decide ((md:Int)<(x:Int))=false:=by rw[decide_eq_false_iff_not];omega
      have hd':decide (md<x)=false:=by rw[decide_eq_false_iff_not];omega
      have hw3:IntKind.u64.wrap ((s:Int)+(x:Int))=((s+x:Nat):Int):=by rw[IntKind.wrap_u64];omega
      have Hn:=hid (show s+x<18446744073709551616∧s+x=(l.take (k+1)).sum from⟨hlo,by rw[Hst.out,hs.out.2]⟩);clear hlo hmd hxl hs1;go_wp2_with fail;refine jl (by kernel_rfl) (by kernel_rfl) ?_
      repeat (go_big_quiet_step ((intro hw;first
       | rfl
       | (go_at_call 257;exact jt hw (HMx.out _))
       | (have q1:=Hqx.out _ hw
          go_simp;first | rfl | exact⟨rfl,hw⟩ | (trace_state;fail)))))
      refine wpQuiet_nil ?_;intro w3 hb3;have q3:=Hqx.out _ hb3;have Hb3:=hid (Hb.out.trans (hb3.mono Hb.out.size));clear hb3;go_wp2_with fail;go_roundw
      case rel=>exact⟨k+1,s+x,by omega,by go_num,rfl,Hb3.out,Hn.out⟩
      case measure=>simp[intOf];omega
    · have hd:decide ((md:Int)<(x:Int))=true:=by rw[decide_eq_true_iff];omega
      have hd':decide (md<x)=true:=by rw[decide_eq_true_iff];omega
      have Hs:=hid (show zag l.sum=.tuple #[.int .u64 0,.bool false] from by
       unfold zag;have:=Hle.out;have:=Hst.out;have:=hs.out.2;rw[if_neg (by omega)])
      clear hlo hmd hxl hs1;go_wp2_with fail;refine jl (by kernel_rfl) (by kernel_rfl) ?_
      repeat (go_big_quiet_step ((intro hw;first
       | rfl
       | (go_at_call 257;exact jt hw (HMx.out _))
       | (have q1:=Hqx.out _ hw
          go_simp;first | rfl | exact⟨rfl,hw⟩ | (trace_state;fail)))))
      refine wpQuiet_nil ?_;intro w3 hb3;have Hb3:=hid (Hb.out.trans (hb3.mono Hb.out.size));clear hb3;go_wp2_with fail;go_ret2;exact⟨by rw[Hs.out];rfl,Hb3.out⟩
  · obtain rfl:k=n:=by omega
    have Hs:=hid (show zag l.sum=.tuple #[.int .u64 ((s:Nat):Int),.bool true] from by
     have h1:=hs.out;rw[List.take_of_length_le (by rw[Hl.out];exact Nat.le_refl _)] at h1;unfold zag;rw[←h1.2,if_pos h1.1])
    go_wp2_with fail;go_ret2;exact⟨by rw[Hs.out];rfl,Hb.out⟩
theorem ztm (l:List Nat) (W:World) (g n:Nat) (h:W.heap[g]?=some (.cells (zi l).toArray 64)) (hn:l.length=n) (h64:∀x∈l,x<18446744073709551616) (hl:n≤10) {v:Value} (hv:zag l.sum=v):
 Calls Tryz.prog 205 #[.slice (some ⟨g,0,none⟩) n n] W fun e w'=>e=.returned v∧Below W.heap.size W w':=
 (ye8 _ n n l W (yq h rfl (by rw[zfu,hn];omega)) hn h64 hl).mono fun e w' ⟨h1,h2⟩=>⟨by rw[h1,hv],h2⟩
def loV:Option Nat→Value
 | some lo=>.tuple #[.int .u64 (lo:Int),.bool true]
 | none=>.tuple #[.int .u64 0,.bool false]
theorem ye9 (prev:Option Nat) (h ap x:Nat) (w:World) (hp:∀y,prev=some y→y=h) (h1:h<18446744073709551616) (h2:ap≤1) (h3:x<18446744073709551616):
 Calls Tryz.prog 204 #[.bool prev.isNone,.int .u64 h,.int .u64 ap,.int .u64 x] w fun e w'=>e=.returned (loV (loP prev ap x))∧Below w.heap.size w w':=by
 cases prev with
 | none=>
  clear hp h1 h2 h3;show Calls Tryz.prog 204 #[.bool true,.int .u64 h,.int .u64 ap,.int .u64 x] w fun e w'=>e=.returned (.tuple #[.int .u64 (x:Int),.bool true])∧Below w.heap.size w w'
  go_enter Tryz.func204,Tryz.ntmps204;go_wp2_with fail;go_ret2
  exact⟨rfl,Below.refl _ _⟩
 | some y=>
  obtain rfl:=hp y rfl
  have h64:∀z∈[y,1,ap,x],z<18446744073709551616:=fun z hz=>by
   simp only[List.mem_cons,List.not_mem_nil,or_false] at hz;rcases hz with rfl | rfl | rfl | rfl <;> omega
  have e:zag [y,1,ap,x].sum=loV (loP (some y) ap x):=by
   have e0:loP (some y) ap x=if y+1+ap+x<18446744073709551616 then some (y+1+ap+x) else none:=rfl;rw[e0];unfold zag;rw[show [y,1,ap,x].sum=y+1+ap+x by simp;omega];by_cases hh:y+1+ap+x<18446744073709551616
   · rw[if_pos hh,if_pos hh];rfl
   · rw[if_neg hh,if_neg hh];rfl
  have HS:=hid (fun W hW=>ztm [y,1,ap,x] W w.heap.size 4 hW rfl h64 (by omega) e);generalize loP (some y) ap x=r at*;clear e hp h1 h2 h3 h64
  cases r with
  | none=>
   unfold loV at HS ⊢;go_enter Tryz.func204,Tryz.ntmps204;go_wp2_with fail;refine(HS.out _ (by exact zh w _ _ rfl)).mono ?_;rintro e w1 ⟨rfl,hb1⟩;have hal:Below w.heap.size w (w.alloc (.cells #[.int .u64 y,.int .u64 1,.int .u64 ap,.int .u64 x] 64)):=(Below.refl _ _).alloc (Nat.le_refl _) _;have Hb1:=hid (hal.trans (hb1.mono hal.size));clear hb1 hal;go_wp2_with fail;go_ret2
   exact⟨rfl,Hb1.out⟩
  | some lo=>
   unfold loV at HS ⊢;go_enter Tryz.func204,Tryz.ntmps204;go_wp2_with fail;refine(HS.out _ (by exact zh w _ _ rfl)).mono ?_;rintro e w1 ⟨rfl,hb1⟩;have hal:Below w.heap.size w (w.alloc (.cells #[.int .u64 y,.int .u64 1,.int .u64 ap,.int .u64 x] 64)):=(Below.refl _ _).alloc (Nat.le_refl _) _;have Hb1:=hid (hal.trans (hb1.mono hal.size));clear hb1 hal;go_wp2_with fail;go_ret2;exact⟨rfl,Hb1.out⟩
theorem zb3 {w:World} {g:Nat} {B:Value} {E q:Nat} (h:CurM w g B E (.ok q)):Calls Tryz.prog 139 #[.pointer (some ⟨g,0,none⟩)] w fun e w'=>e=.returned (.bool false)∧w=w':=by
 have c3:=Row.cell h 3 rfl;have c5:=Row.cell h 5 rfl;clear h;go_enter Tryz.func139,Tryz.ntmps139;go_wp2_with fail;go_ret;exact⟨rfl,rfl⟩
theorem zbg {w:World} {g:Nat} {B:Value} {E:Nat} {x:Nat×Nat} (h:CurM w g B E (.error x)):Calls Tryz.prog 139 #[.pointer (some ⟨g,0,none⟩)] w fun e w'=>e=.returned (.bool true)∧w=w':=by
 obtain⟨q,h⟩:=h;obtain⟨c,p⟩:=x;have c3:=h.cell 3 rfl;have c5:=h.cell 5 rfl;simp only at c3 c5;clear h;by_cases hc:c=0
 · subst hc;rw[decide_eq_true rfl] at c5;rw[show ((0:Nat):Int)=0 from rfl] at c3;go_enter Tryz.func139,Tryz.ntmps139;go_wp2_with fail;go_ret;exact⟨rfl,rfl⟩
 · have hd:((c:Int) != 0)=true:=by rw[bne_iff_ne];omega
   rw[decide_eq_false hc] at c5;clear hc;go_enter Tryz.func139,Tryz.ntmps139;go_wp2_with fail;go_ret;exact⟨rfl,rfl⟩
theorem zdy {w:World} {g:Nat} {B:Value} {E q c p:Nat} (h:CurM w g B E (.ok q)) (hc:c≠0):Calls Tryz.prog 142 #[.pointer (some ⟨g,0,none⟩),.int .i64 c,.int .i64 p] w fun e w'=>e=.returned (.tuple #[])∧w.grownBy w' (some g)∧CurM w' g B E (.error (c,p)):=by
 have HS:=hid (zb3 h);have f3:=Row.fz h 3;have f4:=Row.fz h 4
 have H:=hid (show CurM ((w.setCell ⟨g,3,none⟩ (.int .i64 c)).setCell ⟨g,4,none⟩ (.int .i64 p)) g B E (.error (c,p)) from⟨q,by
  have h1:=(Row.set h 3 (.int .i64 c)).set 4 (.int .i64 p);rw[if_neg hc,decide_eq_false hc];exact h1⟩)
 have c3:=Row.cell h 3 rfl;have c4:=Row.cell h 4 rfl;clear h hc;go_enter Tryz.func142,Tryz.ntmps142;go_wp2_with fail;refine HS.out.mono ?_;rintro e w1 ⟨rfl,rfl⟩;go_wp2_with fail;refine bodyPost_end (results_none rfl _ _ _) rfl ?_;exact⟨rfl,zw (qh w g 3 _) (qh _ g 4 _),H.out⟩
theorem zpj {w:World} {g:Nat} {B:Value} {E:Nat} {x:Nat×Nat} {c p:Int} (h:CurM w g B E (.error x)):Calls Tryz.prog 142 #[.pointer (some ⟨g,0,none⟩),.int .i64 c,.int .i64 p] w fun e w'=>e=.returned (.tuple #[])∧w=w':=by
 have HS:=hid (zbg h);clear h;go_enter Tryz.func142,Tryz.ntmps142;go_wp2_with fail;refine HS.out.mono ?_;rintro e w1 ⟨rfl,rfl⟩;go_wp2_with fail;refine bodyPost_end (results_none rfl _ _ _) rfl ?_;exact⟨rfl,rfl⟩
theorem z1t:∀(l:List Nat) (j x:Nat),(yf l j x).1≤2
 | [],j,x=>by simp[yf]
 | c :: l,j,x=>by
   rw[yf];split
   · simp
   · split
     · simp
     · exact z1t l _ _
theorem z1u:∀(l:List Nat) (j x:Nat),(yf l j x).1≠1→(yf l j x).2.1=0
 | [],j,x=>fun _=>rfl
 | c :: l,j,x=>by
   rw[yf];split
   · exact fun _=>rfl
   · split
     · exact fun h=>absurd rfl h
     · exact z1u l _ _
theorem yfa (l:List Nat) (E n q:Nat) (hn:l.length=n) {st x j:Nat} (hs:yf ((l.take E).drop q) 0 0=(st,x,j)):
 (stG E n st=1∧ze l E q=.ok (x,q+j))∨(stG E n st=2∧x=0∧ze l E q=.error 6)∨(stG E n st=3∧x=0∧ze l E q=.error 5)∨(stG E n st=0∧x=0∧ze l E q=.error 0):=by
 have h1:=z1t ((l.take E).drop q) 0 0;have h2:=z1u ((l.take E).drop q) 0 0;rw[hs] at h1 h2;simp only at h1 h2;unfold ze;rw[hs];rcases(by omega:st=0∨st=1∨st=2) with rfl | rfl | rfl
 · have hx:=h2 (by omega);by_cases hE:E≤n
   · exact .inr (.inr (.inl ⟨if_pos ⟨rfl,hE⟩,hx,by simp only;rw[if_pos (by omega)]⟩))
   · exact .inr (.inr (.inr ⟨if_neg (fun h=>hE h.2),hx,by simp only;rw[if_neg (by omega)]⟩))
 · exact .inl ⟨if_neg (fun h=>by have:=h.1;omega),rfl⟩
 · exact .inr (.inl ⟨if_neg (fun h=>by have:=h.1;omega),h2 (by omega),rfl⟩)
def z1v (w:World) (g:Nat) (B:Value) (E q:Nat) (T:Except Nat (Nat×Nat)) (e:Ending) (w':World):Prop:=
 w.grownBy w' (some g)∧∃x:Nat,e=.returned (.tuple #[.int .u64 x,.int .i64 q])∧(∀y,T=.ok y→x=y.1∧CurM w' g B E (.ok y.2))∧(∀c,T=.error c→x=0∧CurM w' g B E (.error (c,q)))
set_option maxRecDepth 20000 in
theorem zkj {w:World} {g n cap E q:Nat} {a:Option Addr} {l:List Nat} (hB:Rf w a n cap E l) (h:CurM w g (.slice a n cap) E (.ok q)) (hq:q≤n) (hqE:q≤E):
 Calls Tryz.prog 144 #[.pointer (some ⟨g,0,none⟩)] w (z1v w g (.slice a n cap) E q (ze l E q)):=by
 obtain⟨st,x,j,hs⟩:∃st x j,yf ((l.take E).drop q) 0 0=(st,x,j):=⟨_,_,_,rfl⟩;have HK:=hid (yfa l E n q hB.b.len hs);have hSc:=fun W (hb:Below w.heap.size w W)=>ztl a n cap q E l W (hB.b.below hb) hq hqE hB.n hB.E
 rw[hs] at hSc;have HSc:=hid (fun W hb=>(hSc W hb).mono fun e w' ⟨h1,h2⟩=>(⟨h1,by subst h2;exact Below.refl _ _⟩:e=_∧Below W.heap.size W w'));have HS:=hid (zb3 h);have HC:=hid (fun W (hb:Below w.heap.size w W)=>CurM.later h hb);have HR0:=hid (fun W (hb:Below w.heap.size w W)=>Row.cell (Row.later h hb) 0 rfl);have HR2:=hid (fun W (hb:Below w.heap.size w W)=>Row.cell (Row.later h hb) 2 rfl);have c1:=Row.cell h 1 rfl;generalize stG E n st=S at*;clear hs hSc h hB;go_enter Tryz.func144,Tryz.ntmps144;go_wp2_with fail;refine HS.out.mono ?_;rintro e w1 ⟨rfl,rfl⟩;go_wp2_with fail;clear c1;refine jl (by kernel_rfl) (by kernel_rfl) ?_
 repeat (go_big_quiet_step ((intro hw;first
  | rfl
  | (go_at_call 95;exact jt hw (HSc.out _ hw))
  | (have q0:=HR0.out _ hw
     have q2:=HR2.out _ hw;go_simp;first | rfl | exact⟨rfl,hw⟩ | (trace_state;fail)))))
 refine wpQuiet_nil ?_;intro w2 hb2;have hC:=HC.out _ hb2;have c1:=Row.cell hC 1 rfl;have c5:=Row.cell hC 5 rfl;have f1:=Row.fz hC 1;have f5:=Row.fz hC 5;have Hg:=hid (vg (vy w (some g)) hb2);clear hb2;rcases HK.out with ⟨rfl,hT⟩ | ⟨rfl,rfl,hT⟩ | ⟨rfl,rfl,hT⟩ | ⟨rfl,rfl,hT⟩
 · have HCf:=hid (show CurM (w2.setCell ⟨g,1,none⟩ (.int .i64 ((q+j:Nat):Int))) g (.slice a n cap) E (.ok (q+j)) from Row.set hC 1 _);have HT:=hid hT;clear hC hT;go_wp2_with fail;go_ret2;show z1v _ _ _ _ _ _ _ _;refine⟨zw Hg.out (qh w2 g 1 _),x,rfl,fun y hy=>?_,fun c hc=>?_⟩
   · rw[HT.out] at hy;cases hy;exact⟨rfl,HCf.out⟩
   · rw[HT.out] at hc;cases hc
 · have HF:=hid (zdy (c:=6) (p:=q) hC (by decide));have HT:=hid hT;clear hC hT;go_wp2_with fail;refine HF.out.mono ?_;rintro e w3 ⟨rfl,hg3,hC3⟩;have HC3:=hid hC3;have Hg3:=hid (zw Hg.out hg3);clear hC3 hg3 c1 c5 f1 f5;go_wp2_with fail;go_ret2;refine⟨Hg3.out,0,rfl,fun y hy=>?_,fun c hc=>?_⟩
   · rw[HT.out] at hy;cases hy
   · rw[HT.out] at hc;cases hc;exact⟨rfl,HC3.out⟩
 · have HF:=hid (zdy (c:=5) (p:=q) hC (by decide));have HT:=hid hT;clear hC hT;go_wp2_with fail;refine HF.out.mono ?_;rintro e w3 ⟨rfl,hg3,hC3⟩;have HC3:=hid hC3;have Hg3:=hid (zw Hg.out hg3);clear hC3 hg3 c1 c5 f1 f5;go_wp2_with fail;go_ret2;refine⟨Hg3.out,0,rfl,fun y hy=>?_,fun c hc=>?_⟩
   · rw[HT.out] at hy;cases hy
   · rw[HT.out] at hc;cases hc;exact⟨rfl,HC3.out⟩
 · have HCf:=hid (show CurM (w2.setCell ⟨g,5,none⟩ (.bool true)) g (.slice a n cap) E (.error (0,q)) from⟨q,Row.set hC 5 _⟩);have HT:=hid hT;clear hC hT;go_wp2_with fail;go_ret2;refine⟨zw Hg.out (qh w2 g 5 _),0,rfl,fun y hy=>?_,fun c hc=>?_⟩
   · rw[HT.out] at hy;cases hy
   · rw[HT.out] at hc;cases hc;exact⟨rfl,HCf.out⟩
theorem zg4 {w:World} {g E:Nat} {B:Value} {x:Nat×Nat} (h:CurM w g B E (.error x)):Calls Tryz.prog 144 #[.pointer (some ⟨g,0,none⟩)] w fun e w'=>e=.returned (.tuple #[.int .u64 0,.int .i64 0])∧w=w':=by
 have HS:=hid (zbg h);clear h;go_enter Tryz.func144,Tryz.ntmps144;go_wp2_with fail;refine HS.out.mono ?_;rintro e w1 ⟨rfl,rfl⟩;go_wp2_with fail;go_ret2;exact⟨rfl,rfl⟩
def qu {α:Type} (r:RR α) (e:Ending) (w w':World) (g:Nat) (B:Value) (E:Nat) (ok:α→Prop) (bad:Prop):Prop:=
 w.grownBy w' (some g)∧match r with | .ok y=>CurM w' g B E (.ok y.2)∧ok y.1 | .error x=>CurM w' g B E (.error x)∧bad
set_option maxRecDepth 20000 in
theorem zpk {w:World} {g n cap E q:Nat} {a:Option Addr} {l:List Nat} {lim:Int} (hB:Rf w a n cap E l) (h:CurM w g (.slice a n cap) E (.ok q)) (hq:q≤n) (hqE:q≤E) (hI:I64 lim):
 Calls Tryz.prog 138 #[.pointer (some ⟨g,0,none⟩),.int .i64 lim] w fun e w'=>qu (jf (ze l E) E lim q) e w w' g (.slice a n cap) E (fun x=>e=.returned (.int .i64 x)) (e=.returned (.int .i64 0)):=by
 have HN:=hid (zkj hB h hq hqE);have Hl:=hid hB.b.lt;have HE:=hid hB.E
 cases hT:ze l E q with
 | error c=>
  have Hc:=hid (show jf (ze l E) E lim q=.error (c,q) from by unfold jf nmP;rw[hT];rfl);clear hB h hI;go_enter Tryz.func138,Tryz.ntmps138;go_wp2_with fail;refine HN.out.mono ?_;rintro e w1 ⟨hg1,x,rfl,-,h2⟩;obtain⟨rfl,hC1⟩:=h2 c hT;have Hg1:=hid hg1;have HC1:=hid hC1;clear hg1 h2 hC1;go_wp2_with fail;refine(zbg HC1.out).mono ?_;rintro e w2 ⟨rfl,rfl⟩;go_wp2_with fail;go_ret;unfold qu;rw[Hc.out]
  exact⟨Hg1.out,HC1.out,rfl⟩
 | ok y=>
  obtain⟨x,q'⟩:=y;obtain⟨t1,t2,t3,t4,-⟩:=zap Hl.out hT;have hc0:jf (ze l E) E lim q=if ql x lim (E - q')=0 then .ok (x,q') else .error (ql x lim (E - q'),q):=by unfold jf nmP;rw[hT];rfl
  obtain⟨i1,i2⟩:=hI
  have hkind:(lim<0∧x=0∧ql x lim (E - q')=0)∨(lim<0∧x≠0∧ql x lim (E - q')=7)∨(0≤lim∧lim<(x:Int)∧ql x lim (E - q')=7)∨(0≤lim∧¬lim<(x:Int)∧E - q'<x∧ql x lim (E - q')=5)∨(0≤lim∧¬lim<(x:Int)∧¬E - q'<x∧ql x lim (E - q')=0):=by
   unfold ql;by_cases hl:lim<0
   · by_cases hx:x=0
     · exact .inl ⟨hl,hx,by rw[if_neg (fun h=>h.2 hx),if_neg (by omega)]⟩
     · exact .inr (.inl ⟨hl,hx,by rw[if_pos ⟨by omega,hx⟩]⟩)
   · by_cases hx:lim<(x:Int)
     · exact .inr (.inr (.inl ⟨by omega,hx,by rw[if_pos ⟨hx,by omega⟩]⟩))
     · by_cases hr:E - q'<x
       · exact .inr (.inr (.inr (.inl ⟨by omega,hx,hr,by rw[if_neg (fun h=>hx h.1),if_pos hr]⟩)))
       · exact .inr (.inr (.inr (.inr ⟨by omega,hx,hr,by rw[if_neg (fun h=>hx h.1),if_neg hr]⟩)))
  have Hc0:=hid hc0;have HT:=hid hT;clear hB h hc0 hT;rcases hkind with ⟨hl,rfl,hk⟩ | ⟨hl,hx,hk⟩ | ⟨hl,hx,hk⟩ | ⟨hl,hx,hr,hk⟩ | ⟨hl,hx,hr,hk⟩
  · have d1:decide (lim<0)=true:=decide_eq_true hl;have Hc:=hid (show jf (ze l E) E lim q=.ok (0,q') from by rw[Hc0.out,if_pos hk]);clear Hc0 hk hl t4 i1 i2;go_enter Tryz.func138,Tryz.ntmps138;go_wp2_with fail;refine HN.out.mono ?_;rintro e w1 ⟨hg1,x,rfl,h1,-⟩;obtain⟨rfl,hC1⟩:=h1 _ HT.out;have Hg1:=hid hg1;have HC1:=hid hC1;clear hg1 h1 hC1;go_wp2_with fail;refine(zb3 HC1.out).mono ?_;rintro e w2 ⟨rfl,rfl⟩;go_wp2_with fail;go_ret;unfold qu;rw[Hc.out];exact⟨Hg1.out,HC1.out,rfl⟩
  · have d1:decide (lim<0)=true:=decide_eq_true hl;have d2:((x:Int) == 0)=false:=by rw[beq_eq_false_iff_ne];omega
    have Hc:=hid (show jf (ze l E) E lim q=.error (7,q) from by rw[Hc0.out,if_neg (by omega),hk]);clear Hc0 hk hl hx t4 i1 i2;go_enter Tryz.func138,Tryz.ntmps138;go_wp2_with fail;refine HN.out.mono ?_;rintro e w1 ⟨hg1,x',rfl,h1,-⟩;obtain⟨e1,hC1⟩:=h1 _ HT.out;obtain rfl:x'=x:=e1;have Hg1:=hid hg1;have HC1:=hid hC1;clear hg1 h1 hC1;go_wp2_with fail;refine(zb3 HC1.out).mono ?_;rintro e w2 ⟨rfl,rfl⟩;go_wp2_with fail;refine(zdy (c:=7) (p:=q) HC1.out (by decide)).mono ?_;rintro e w2 ⟨rfl,hg2,hC2⟩;have Hg2:=hid (zw Hg1.out hg2);have HC2:=hid hC2;clear hg2 hC2;go_wp2_with fail;go_ret;unfold qu;rw[Hc.out];exact⟨Hg2.out,HC2.out,rfl⟩
  · have d1:decide (lim<0)=false:=decide_eq_false (by omega);have d2:IntKind.u64.wrap lim=lim:=by rw[IntKind.wrap_u64];omega
    have d3:decide (lim<(x:Int))=true:=decide_eq_true hx;have Hc:=hid (show jf (ze l E) E lim q=.error (7,q) from by rw[Hc0.out,if_neg (by omega),hk]);clear Hc0 hk hl hx t4 i1 i2;go_enter Tryz.func138,Tryz.ntmps138;go_wp2_with fail;refine HN.out.mono ?_;rintro e w1 ⟨hg1,x',rfl,h1,-⟩;obtain⟨e1,hC1⟩:=h1 _ HT.out;obtain rfl:x'=x:=e1;have Hg1:=hid hg1;have HC1:=hid hC1;clear hg1 h1 hC1;go_wp2_with fail;refine(zb3 HC1.out).mono ?_;rintro e w2 ⟨rfl,rfl⟩;go_wp2_with fail;refine(zdy (c:=7) (p:=q) HC1.out (by decide)).mono ?_;rintro e w2 ⟨rfl,hg2,hC2⟩;have Hg2:=hid (zw Hg1.out hg2);have HC2:=hid hC2;clear hg2 hC2;go_wp2_with fail;go_ret;unfold qu;rw[Hc.out];exact⟨Hg2.out,HC2.out,rfl⟩
  · have d1:decide (lim<0)=false:=decide_eq_false (by omega);have d2:IntKind.u64.wrap lim=lim:=by rw[IntKind.wrap_u64];omega
    have d3:decide (lim<(x:Int))=false:=decide_eq_false hx;have hE:=HE.out;have d4:IntKind.i64.wrap ((E:Int) - (q':Int))=((E - q':Nat):Int):=by rw[IntKind.wrap_i64];omega
    have d5:IntKind.u64.wrap ((E - q':Nat):Int)=((E - q':Nat):Int):=by rw[IntKind.wrap_u64];omega
    have d6:decide (((E - q':Nat):Int)<(x:Int))=true:=by rw[decide_eq_true_iff];omega
    have d7:decide (E - q'<x)=true:=by rw[decide_eq_true_iff];omega
    have Hc:=hid (show jf (ze l E) E lim q=.error (5,q) from by rw[Hc0.out,if_neg (by omega),hk]);clear Hc0 hk hl hx t4 i1 i2 hr hE;generalize E - q'=R at*;go_enter Tryz.func138,Tryz.ntmps138;go_wp2_with fail;refine HN.out.mono ?_;rintro e w1 ⟨hg1,x',rfl,h1,-⟩;obtain⟨e1,hC1⟩:=h1 _ HT.out;obtain rfl:x'=x:=e1;have Hg1:=hid hg1;have HC1:=hid hC1;clear hg1 h1 hC1;go_wp2_with fail;refine(zb3 HC1.out).mono ?_;rintro e w2 ⟨rfl,rfl⟩;go_wp2_with fail;refine jl (by kernel_rfl) (by kernel_rfl) ?_
    repeat (go_big_quiet_step ((intro hw;first
     | rfl
     | (have c1:=Row.cell (Row.later HC1.out hw) 1 rfl
        have c2:=Row.cell (Row.later HC1.out hw) 2 rfl;go_simp;first | rfl | exact⟨rfl,hw⟩ | (trace_state;fail)))))
    refine wpQuiet_nil ?_;intro w2 hb2;have HC2:=hid (CurM.later HC1.out hb2);have Hg2:=hid (vg Hg1.out hb2);clear hb2;go_wp2_with fail;refine(zdy (c:=5) (p:=q) HC2.out (by decide)).mono ?_;rintro e w3 ⟨rfl,hg3,hC3⟩;have Hg3:=hid (zw Hg2.out hg3);have HC3:=hid hC3;clear hg3 hC3;go_wp2_with fail;go_ret;unfold qu;rw[Hc.out];exact⟨Hg3.out,HC3.out,rfl⟩
  · have d1:decide (lim<0)=false:=decide_eq_false (by omega);have d2:IntKind.u64.wrap lim=lim:=by rw[IntKind.wrap_u64];omega
    have d3:decide (lim<(x:Int))=false:=decide_eq_false hx;have hE:=HE.out;have d4:IntKind.i64.wrap ((E:Int) - (q':Int))=((E - q':Nat):Int):=by rw[IntKind.wrap_i64];omega
    have d5:IntKind.u64.wrap ((E - q':Nat):Int)=((E - q':Nat):Int):=by rw[IntKind.wrap_u64];omega
    have d6:decide (((E - q':Nat):Int)<(x:Int))=false:=by rw[decide_eq_false_iff_not];omega
    have d7:decide (E - q'<x)=false:=by rw[decide_eq_false_iff_not];omega
    have d8:IntKind.i64.wrap (x:Int)=(x:Int):=by rw[IntKind.wrap_i64];omega
    have Hc:=hid (show jf (ze l E) E lim q=.ok (x,q') from by rw[Hc0.out,if_pos hk]);clear Hc0 hk hl hx t4 i1 i2 hr hE;generalize E - q'=R at*;go_enter Tryz.func138,Tryz.ntmps138;go_wp2_with fail;refine HN.out.mono ?_;rintro e w1 ⟨hg1,x',rfl,h1,-⟩;obtain⟨e1,hC1⟩:=h1 _ HT.out;obtain rfl:x'=x:=e1;have Hg1:=hid hg1;have HC1:=hid hC1;clear hg1 h1 hC1;go_wp2_with fail;refine(zb3 HC1.out).mono ?_;rintro e w2 ⟨rfl,rfl⟩;go_wp2_with fail;refine jl (by kernel_rfl) (by kernel_rfl) ?_
    repeat (go_big_quiet_step ((intro hw;first
     | rfl
     | (have c1:=Row.cell (Row.later HC1.out hw) 1 rfl
        have c2:=Row.cell (Row.later HC1.out hw) 2 rfl;go_simp;first | rfl | exact⟨rfl,hw⟩ | (trace_state;fail)))))
    refine wpQuiet_nil ?_;intro w2 hb2;have HC2:=hid (CurM.later HC1.out hb2);have Hg2:=hid (vg Hg1.out hb2);clear hb2;go_wp2_with fail;go_ret;unfold qu;rw[Hc.out];exact⟨Hg2.out,HC2.out,rfl⟩
theorem zh3 {w:World} {g E:Nat} {B:Value} {lim:Int} {x:Nat×Nat} (h:CurM w g B E (.error x)):Calls Tryz.prog 138 #[.pointer (some ⟨g,0,none⟩),.int .i64 lim] w fun e w'=>e=.returned (.int .i64 0)∧w=w':=by
 have HS:=hid h;clear h;go_enter Tryz.func138,Tryz.ntmps138;go_wp2_with fail;refine(zg4 HS.out).mono ?_;rintro e w1 ⟨rfl,rfl⟩;go_wp2_with fail;refine(zbg HS.out).mono ?_;rintro e w1 ⟨rfl,rfl⟩;go_wp2_with fail;go_ret;exact⟨rfl,rfl⟩
theorem yfb (w:World):EnSl w 0 (.slice none 0 0) []:=⟨none,0,0,rfl,zw1 w 0⟩
theorem ztn {w wi:World} {g E:Nat} {B K V:Value} {L:zc} {cs:Except (Nat×Nat) Nat} {vs:List Vec} {v:Vec} (hM:RdM w wi g B E L cs) (hK:KV wi w.heap.size K vs) (hV:EnSl wi 0 V v) (hb:vs.length+1≤1000000000000):
 ∃K' w4,(Builtin.append_ #[48,48] 48 #[K,.slice (some ⟨wi.heap.size,0,none⟩) 1 1]).run Tryz.prog (wi.alloc (.cells #[.slice none 0 0,V] 127))=.ok K' w4∧RdM w w4 g B E L cs∧KV w4 w.heap.size K' (vs++[v]):=by
 have hal:=(Below.refl wi.heap.size wi).alloc (Nat.le_refl _) (.cells #[.slice none 0 0,V] 127);have hK2:=hK.later hal;have hV2:EnSl (wi.alloc (.cells #[.slice none 0 0,V] 127)) 0 V v:=hV.steady (P:=jw) (.of_below hal) (.inl rfl) (.inr (.inl rfl));obtain⟨K',w4,h1,h2,h3,h4⟩:=hK2.snoc hV2 (some ⟨wi.heap.size,0,none⟩) 1 (zf1 _ _ _ 1 _ rfl rfl) hb (by have:=hM.grown.size;simp only[World.size_alloc];omega);obtain⟨Y,ho,-⟩:=hK2;exact⟨K',w4,h1,(hM.below hal).own ho (Nat.le_refl _) (by decide) h3,h2⟩
theorem yfc {w wi wz:World} {g E b:Nat} {B K all:Value} {L:zc} {cs:Except (Nat×Nat) Nat} {vs:List Vec} {l la:List Iv} {ix:List Nat} {C:List Value} (hM:RdM w wi g B E L cs) (hS:SegB wz wi w.heap.size K vs l ix all la) (s:Iv) (hb:la.length+1≤1000000000000) (hx:Row wi b 135 C) (hne:all.ownBlock≠some b):
 ∃all' w4,(Builtin.append_ #[123,123] 123 #[all,.slice (some ⟨wi.heap.size,0,none⟩) 1 1]).run Tryz.prog (wi.alloc (.cells #[.int .u64 (s.1:Nat),.int .u64 (s.2:Nat)] 135))=.ok all' w4∧RdM w w4 g B E L cs∧SegB wz w4 w.heap.size K vs l ix all' (la++[s])∧Row w4 b 135 C:=by
 have hal:=(Below.refl wi.heap.size wi).alloc (Nat.le_refl _) (.cells #[.int .u64 (s.1:Nat),.int .u64 (s.2:Nat)] 135);have hS2:=hS.later hal;obtain⟨all',w4,h1,h2,h3,h4⟩:=hS2.more s (some ⟨wi.heap.size,0,none⟩) 1 (zf1 _ _ _ 1 _ rfl rfl) hb;exact⟨all',w4,h1,(hM.below hal).own hS2.own (Nat.le_refl _) (by decide) h2,h4,(hx.later hal).grown h2 fun e=>hne e.symm⟩
theorem yfd {w wi W:World} {ops:Array Oper} {o:Oper} {a:Act} {K:Act→World→Prop} {Q:Exit→Act→World→Prop} {X:Prop} (hgd:o.guard=none) (s x:Operand)
 (ho:o.op=.call { callee:=.builtin .append,args:= #[s,x],argTypes:= #[123,123] }) (hty:o.type=123)
 {wz:World} {g cu n cap E:Nat} {B all:Value} {L:zc} {cs:Except (Nat×Nat) Nat} {vs:List Vec} {l la:List Iv} {ix:List Nat} (hR:RdM w wi cu B E L cs) (hM:SegB wz wi w.heap.size (.slice (some ⟨g,0,none⟩) n cap) vs l ix all la) (hn:n=vs.length) (hli:ix.length=l.length) {i:Nat} (hi:i<n) {S:Value} (hS:wi.cell? ⟨g,i*2,none⟩=some S) (t:Iv) (hW:Below wi.heap.size wi W)
 (hs:a.eval s=S) (A:Option Addr) (c:Nat) (hx:a.eval x=.slice A 1 c) (hr:Rd W 2 A 1 (ivC [t])) (hb:l.length+1≤1000000000000)
 (hK:∀gS m cS w',ItemB wz w g cu i n cap E B L cs vs (l++[t]) (ix++[i]) all la w' gS m cS S→K (a.put o.dst (.slice (some ⟨gS,0,none⟩) m cS)) w'):
 if Region.wanted o (yielded ops a.tmps)=true then Oper.wp Tryz.prog o a W K Q else X:=by
 subst hn;obtain⟨S',w',hrun,⟨gS,m,cS,rfl⟩,h5,h6,h3,h4,h7⟩:=hM.put hli hi hS t W hW A c hr hb;refine zft hgd s x _ ho _ _ hs hx _ w' (by rw[hty];exact hrun) ?_;obtain⟨X',Y',k1,k2,k3,k4,-⟩:=hM;have hg:=k4.lt g rfl;have hR2:=hR.below hW
 have row:∀{T C g'},Row W g' T C→T≠135→Row w' g' T C:=fun hr hT=>hr.grown h5 fun e=>by
  obtain⟨-,C',fr,hk⟩:=h6 _ e.symm;unfold Row at hr;rw[hk] at hr;injection hr with hr;injection hr with _ hr _;exact hT hr.symm
 refine hK gS m cS w' ⟨⟨zfw hR2.grown h5 fun k hk=>(h6 k hk).1,row hR2.lim (by decide),?_⟩,hg.1,h3,h4,h7 w' (vy _ _),?_,?_⟩
 · cases cs with
   | ok q=>exact row hR2.cur (by decide)
   | error e=>obtain⟨q,h⟩:=hR2.cur;exact⟨q,row h (by decide)⟩
 · exact hR.lim.ne_own k4 (by decide) g rfl
 · exact CurM.ne_own hR.cur k4 (by decide) g rfl
theorem yfe {wz wi:World} {base g:Nat} {K all:Value} {vs:List Vec} {l la:List Iv} {ix:List Nat} (hS:SegB wz wi base K vs l ix all la) (hN:NotT wi g) (hl:zo la):∃a c,all=.slice a la.length c∧∀W,wi.grownBy W (some g)→Ivs W a la.length c la:=by
 obtain⟨a,c,e,h⟩:=za2 hS.own hl;refine⟨a,c,e,fun W hW=>?_⟩;obtain⟨a',c',e',h'⟩:=za2 (hS.grown hN hW).own hl;rw[e] at e';injection e' with e1 _ e3;subst e1 e3;exact h'
theorem z1w {wz wi:World} {base i:Nat} {K all:Value} {vs:List Vec} {l la:List Iv} {ix:List Nat} (hS:SegB wz wi base K vs l ix all la) (hi:i<vs.length):∃gk ck a c,K=.slice (some ⟨gk,0,none⟩) vs.length ck∧wi.cell? ⟨gk,i*2,none⟩=some (.slice a (itN l ix i).length c):=by
 obtain⟨X,Y,h1,h2,h3,h4,h5,-⟩:=hS;obtain⟨g,cap,rfl,-⟩:=zcz h4 (by omega);have c1:=h4.cells (g:=g) rfl _ _ (zgp hi X Y).1;rw[qg,Nat.zero_add] at c1;obtain⟨a,c,e⟩:=jh (h5 i hi);rw[e] at c1;exact⟨g,cap,a,c,rfl,c1⟩
theorem z1x {vs:List Vec} {l:List Iv} {ix:List Nat} {i:Nat} (hi:i<vs.length):za (qj vs l ix) i=(itN l ix i,kd vs i):=by
 rw[qm (by rw[zgr];simpa using hi)];simp[zgr]
theorem z1y (vs:List Vec) (l:List Iv) (ix:List Nat):(qj vs l ix).length=vs.length:=by rw[zgr];simp
theorem yff {E q i:Nat} {vs:List Vec} {l:List Iv} {ix:List Nat} (hi:i<vs.length) (h:(itN l ix i).length=0):zbq E (qj vs l ix) q=.error (10,q):=by
 unfold zbq;refine if_pos ⟨za (qj vs l ix) i,yh (by rw[z1y];exact hi),?_⟩;rw[z1x hi];exact List.length_eq_zero_iff.1 h
theorem yfg {E q:Nat} {vs:List Vec} {l:List Iv} {ix:List Nat} (h:∀i,i<vs.length→(itN l ix i).length≠0):zbq E (qj vs l ix) q=if q<E then .error (11,q) else .ok (qj vs l ix,q):=by
 unfold zbq;refine if_neg ?_;rintro⟨f,hf,h0⟩;obtain⟨i,hi,rfl⟩:=List.getElem_of_mem hf;have hi':i<vs.length:=by rw[z1y] at hi;exact hi
 rw[←qm hi,z1x hi'] at h0;exact h i hi' (by rw[show itN l ix i=[] from h0];rfl)
theorem yfh {l:List Iv} {lo:Nat} (h:0<l.length):zc1 l lo=decide (lo=(zb l (l.length - 1)).2+1):=by
 unfold zc1 qr;rw[List.getLast?_eq_getElem?,List.getElem?_eq_getElem (by omega)];simp only[Option.map_some];rw[jg (by omega)]
theorem z1z {α β:Type} {a:RR α} {f:α→Nat→RR β} {y:β×Nat} (h:thn a f=.ok y):∃x q,a=.ok (x,q)∧f x q=.ok y:=by
 cases a with
 | error e=>cases h
 | ok z=>exact⟨z.1,z.2,rfl,h⟩
theorem yfi {T:ye} {h ap p q wh:Nat} {s:Iv} (e:ivP T (some h) ap p=.ok ((s,wh),q)):h+1≤s.1:=by
 unfold ivP at e;obtain⟨x,q1,h1,h2⟩:=z1z e;simp only[loP] at h2;split at h2
 · cases h2
 · rename_i lo hlo;split at hlo
   · injection hlo with hlo;unfold hiP at h2;obtain⟨y,q2,h3,h4⟩:=z1z h2;split at h4
     · cases h4;simp only;omega
     · cases h4
   · cases hlo
