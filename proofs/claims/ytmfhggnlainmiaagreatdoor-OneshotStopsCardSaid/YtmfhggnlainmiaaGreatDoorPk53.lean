/- Part 53. -/
import Derived.Test.YtmfhggnlainmiaaGreatDoorPk18
import Derived.Test.YtmfhggnlainmiaaGreatDoorPk03
set_option linter.unusedVariables false
set_option maxHeartbeats 16000000
namespace Go.Proofs.YtmfhggnlainmiaaGreatDoor
open Lib (hid)
section
open Go.RowKit
theorem ygf {l l':List Nat} {k:Nat} (h:l.take k=l'.take k) (hk:k<l.length) (hk':k<l'.length) (e:nth l k=nth l' k):l.take (k+1)=l'.take (k+1):=by
 rw[znk l k hk,znk l' k hk',h,e]
theorem ygg {l l':List Nat} {k:Nat} (e:nth l k≠nth l' k):l≠l':=fun h=>e (by rw[h])
theorem zi9 (a a':Option Addr) (n cap n' cap':Nat) (l l':List Nat) (w:World) (hB:Byts w a n cap l) (hB':Byts w a' n' cap' l') (r:Bool) (hr:r=decide (l=l')):
 Calls Tryz.prog 33 #[.slice a n cap,.slice a' n' cap'] w fun e w'=>e=.returned (.bool r)∧∃q,w'=w.drewN q:=by
 obtain⟨hn,hlt,hnc,hcm,hnil,hc⟩:=hB;clear hnil;have hm:n≤9223372036854775807:=by omega
 obtain⟨hn',hlt',hnc',hcm',hnil',hc'⟩:=hB';clear hnil';have hm':n'≤9223372036854775807:=by omega
 by_cases hnn:n=n'
 · subst hnn;have Hn:=hid hn;clear hn;have Hn':=hid hn';clear hn';have Hlt:=hid hlt;clear hlt;have Hlt':=hid hlt';clear hlt';have Hc:=hid hc;clear hc;have Hc':=hid hc';clear hc';have Hr:=hid hr;clear hr;have hnb:((n:Int) != (n:Int))=false:=by simp
   go_enter Tryz.func33,Tryz.ntmps33;go_wp2;go_loopw [4,5,13] (fun _ _ i wr=>∃k q:Nat,k≤n∧i=.int .i64 k∧wr=w.drewN q∧Hid (l.take k=l'.take k)) (fun _ _ i _=>n - (intOf i).toNat)
   case atStart=>exact⟨0,0,by omega,rfl,rfl,rfl⟩
   case round=>
    obtain⟨k,q,hk,rfl,rfl,ht⟩:=hrel;by_cases hkn:k<n
    · obtain⟨cb,co,rfl,hcell⟩:=Hc.out (by omega);obtain⟨cb',co',rfl,hcell'⟩:=Hc'.out (by omega);have hc:=hcell k hkn;have hc':=hcell' k hkn;clear hcell hcell';have h0:(0:Int)≤k:=by omega
      by_cases he:nth l k=nth l' k
      · have Ht:=hid (ygf ht.out (by rw[Hn.out];exact hkn) (by rw[Hn'.out];exact hkn) he);rw[he] at hc;generalize nth l' k=c at*;clear he;go_wp2;go_quiet (fail);go_wp2;go_roundw
        case rel=>exact⟨k+1,_,by omega,by go_num,rfl,Ht.out⟩
        case measure=>simp[intOf];omega
      · have hne:(((nth l k:Nat):Int) != ((nth l' k:Nat):Int))=true:=by rw[bne_iff_ne];omega
        have Hne:=hid (ygg he);generalize nth l k=c at*;generalize nth l' k=c' at*;clear he;go_wp2;go_quiet (fail);go_wp2;go_ret;refine⟨?_,_,World.drewN_drewN _ _ _⟩;have:=Hr.out;rw[decide_eq_false Hne.out] at this;rw[this]
        rfl
    · obtain rfl:k=n:=by omega
      go_wp2;go_ret;refine⟨?_,_,rfl⟩;have h1:=ht.out;rw[List.take_of_length_le (by rw[Hn.out];omega),List.take_of_length_le (by rw[Hn'.out];omega)] at h1;have:=Hr.out;rw[decide_eq_true h1] at this;rw[this]
      rfl
 · have hnb:((n:Int) != (n':Int))=true:=by rw[bne_iff_ne];omega
   have hne:l≠l':=fun h=>hnn (by rw[←hn,←hn',h])
   rw[decide_eq_false hne] at hr;subst hr;clear hn hn' hlt hlt' hc hc' hne;go_enter Tryz.func33,Tryz.ntmps33;go_wp2;go_ret;exact⟨rfl,0,rfl⟩
theorem ygh (w0 w:World) (g x n c:Nat) (h:RdV w0 w g x n 0) (hc:c<256) (hn10:n<10):
 Calls Tryz.prog 167 #[.pointer (some ⟨g,0,none⟩),.int .u8 c] w fun e w'=>e=.returned (.int .i64 (yr n c:Nat))∧RdV w0 w' g (y8 x n c) (n+1) (yr n c):=
 (zwi w g 0 x n c h.c0 h.c1 h.c2 h.f0 h.f1 h.f2 h.x64 hc hn10).mono fun e w' ⟨h1,h2⟩=>⟨h1,by subst h2;exact(h.set (y8 x n c) (n+1) (yr n c) (zir n c h.x64)).drew⟩
theorem ygi (w0 w:World) (g x n:Nat) (h:RdV w0 w g x n 1):
 Calls Tryz.prog 168 #[.pointer (some ⟨g,0,none⟩)] w fun e w'=>e=.returned (.int .u64 (x:Int))∧w=w':=zwj w g 0 x h.c0 h.c2
theorem ygj (w0 w:World) (g x n st:Nat) (h:RdV w0 w g x n st):
 Calls Tryz.prog 233 #[.pointer (some ⟨g,0,none⟩)] w fun e w'=>e=.returned (.int .i64 (n:Int))∧w=w':=by
 obtain⟨hb,hbase,hlt,hc0,hc1,hc2,hf0,hf1,hf2,hx64⟩:=h;clear hb hbase hlt hx64;go_enter Tryz.func233,Tryz.ntmps233;go_wp2;go_ret;exact⟨rfl,rfl⟩
def zcc (l:List Nat) (p:Nat):Nat×Nat×Err:=
 match yf (l.drop p) 0 0 with
 | (1,x,j)=>(x,p+j,none)
 | (2,_,_)=>(0,0,some (6,some (p:Int)))
 | _=>(0,0,some (5,some (p:Int)))
theorem zt0 (a:Option Addr) (n cap p:Nat) (l:List Nat) (w:World) (hB:Byts w a n cap l) (hp:p≤n):
 Calls Tryz.prog 163 #[.slice a n cap,.int .i64 p] w fun e w'=>e=.returned (.tuple #[.int .u64 ((zcc l p).1:Nat),.int .i64 ((zcc l p).2.1:Nat),zy (zcc l p).2.2])∧Below w.heap.size w w':=by
 have HB:=hid hB;obtain⟨hn,hlt,hnc,hcm,hnil,hc⟩:=hB;clear hnil;have hm:n≤9223372036854775807:=by omega
 have Hlt:=hid hlt;clear hlt;by_cases hpn:p<n
 · obtain⟨b,o,rfl,hcell⟩:=hc (by omega);have Hcell:=hid hcell;clear hcell hc;have Hn:=hid hn;clear hn;have hpc:¬cap=p:=by omega
   go_enter Tryz.func163,Tryz.ntmps163;go_wp2_with fail
   have HR0:=hid (show RdV w (w.alloc (.cells #[.int .u64 0,.int .i64 0,.int .i64 0] 98)) w.heap.size 0 0 0 from
    ⟨(Below.refl _ _).alloc (Nat.le_refl _) _,Nat.le_refl _,by simp only[World.size_alloc];omega,World.cell?_alloc_new _ _ _ _,World.cell?_alloc_new _ _ _ _,World.cell?_alloc_new _ _ _ _,World.frozen?_alloc_new _ _ _ _,World.frozen?_alloc_new _ _ _ _,World.frozen?_alloc_new _ _ _ _,by omega⟩)
   generalize w.alloc (.cells #[.int .u64 0,.int .i64 0,.int .i64 0] 98)=w0 at*;generalize hg:w.heap.size=g at*;have Hg:=hid hg;clear hg;have hcast:((n - p:Nat):Int)=(n:Int) - (p:Int):=by omega
   have Hres:=hid (fun st x j (h:yf (l.drop p) 0 0=(st,x,j))=>(show zcc l p=(match (st,x,j) with | (1,x,j)=>(x,p+j,none) | (2,_,_)=>(0,0,some (6,some (p:Int))) | _=>(0,0,some (5,some (p:Int)))) from by unfold zcc;rw[h]));generalize hmm:n - p=m at*;have Hm:=hid hmm;clear hmm hcast;go_loopw [9,22] (fun _ i wr=>∃k x:Nat,k≤m∧k<10∧i=.int .i64 k∧Hid (RdV w wr g x k 0)∧Hid (yf (l.drop p) 0 0=yf (l.drop (p+k)) k x)) (fun _ i _=>m - (intOf i).toNat)
   case atStart=>exact⟨0,0,by omega,by omega,rfl,HR0.out,rfl⟩
   case round=>
    obtain⟨k,x,hk,hk10,rfl,hR,hS⟩:=hrel;by_cases hkm:k<m
    · have hBr:=HB.out.below hR.out.below;obtain⟨b',o',e',hcell'⟩:=hBr.cells (by omega);cases e';have hc:=hcell' (p+k) (by have:=Hm.out;omega);have hsum:p+k+1≤n:=by have:=Hm.out;omega
      have hnc:nth l (p+k)<256:=zfo Hlt.out (by omega) _;have Hd:=hid (zfb l (p+k) (by rw[Hn.out];have:=Hm.out;omega));rw[←Nat.add_assoc] at hc;generalize nth l (p+k)=c at*;clear hcell' hBr;go_wp2_with fail;refine(ygh w _ g x k c hR.out hnc hk10).mono ?_;rintro e w2 ⟨rfl,hR2⟩;have HR2:=hid hR2;clear hR2;rcases zge k c with hns | hns | hns
      · rw[hns];rw[hns] at HR2;have hk9:k≠9:=fun e=>zrg c (by rw[←e];exact hns)
        have HS2:=hid (show yf (l.drop p) 0 0=yf (l.drop (p+(k+1))) (k+1) (y8 x k c) from by
         rw[hS.out,Hd.out];show (if yr k c=2 then _ else if yr k c=1 then _ else _)=_;rw[hns];rfl)
        clear hns;go_wp2_with fail;go_roundw
        case rel=>exact⟨k+1,_,by omega,by omega,by go_num,HR2,HS2⟩
        case measure=>simp[intOf];omega
      · rw[hns];rw[hns] at HR2;have HS2:=hid (Hres.out 1 (y8 x k c) (k+1) (by rw[hS.out,Hd.out];show (if yr k c=2 then _ else if yr k c=1 then _ else _)=_;rw[hns];rfl));clear hns;go_wp2_with fail;refine(ygi w _ g _ _ HR2.out).mono ?_;rintro e w' ⟨rfl,rfl⟩;go_wp2_with fail;refine(ygj w _ g _ _ _ HR2.out).mono ?_;rintro e w' ⟨rfl,rfl⟩;go_wp2_with fail;go_ret3
        refine⟨?_,by have:=HR2.out.below;exact this⟩;rw[HS2.out]
        rfl
      · rw[hns];have HS2:=hid (Hres.out 2 0 (k+1) (by rw[hS.out,Hd.out];show (if yr k c=2 then _ else if yr k c=1 then _ else _)=_;rw[hns];rfl));clear hns;go_wp2_with fail;refine(zaf 6 p _).mono ?_;rintro e w' ⟨rfl,rfl⟩;go_wp2_with fail;go_ret3
        refine⟨?_,by have:=HR2.out.below;exact this⟩;rw[HS2.out]
        rfl
    · obtain rfl:k=m:=by omega
      have HS2:=hid (Hres.out 0 0 k (by rw[hS.out,List.drop_eq_nil_of_le (by rw[Hn.out];have:=Hm.out;omega)];rfl));go_wp2_with fail;refine(zaf 5 p _).mono ?_;rintro e w' ⟨rfl,rfl⟩;go_wp2_with fail;go_ret3
      refine⟨?_,by have:=hR.out.below;exact this⟩;rw[HS2.out]
      rfl
 · obtain rfl:p=n:=by omega
   have Hr:=hid (show zcc l p=(0,0,some (5,some (p:Int))) from by unfold zcc;rw[List.drop_eq_nil_of_le (by omega)];rfl);clear hc hn;go_enter Tryz.func163,Tryz.ntmps163;go_wp2_with fail;refine(zaf 5 p _).mono ?_;rintro e w' ⟨rfl,rfl⟩;go_wp2_with fail;go_ret3
   refine⟨?_,(Below.refl _ _).alloc (Nat.le_refl _) _⟩;rw[Hr.out]
   rfl
