/- Walks and laws, joined: Wb32. -/
import Derived.Test.YtdnjfnofjaoajaaGreatDoorWb26
set_option linter.unusedVariables false
set_option maxHeartbeats 16000000
namespace Go.Proofs.YtdnjfnofjaoajaaGreatDoor
open Lib (hid)
section
open Go.RowKit
theorem z7z (s:Iv) (w:World):
 Calls Tryz.prog 88 #[ivV s] w fun e w'=>e=.returned (.bool (decide (s.1≤s.2)))∧Below w.heap.size w w':=by
 obtain⟨a,b⟩:=s;have hd:decide ((a:Int)≤(b:Int))=decide (a≤b):=by simp
 go_enter Tryz.func88,Tryz.ntmps88;go_wp2;go_ret;exact⟨zb9 rfl,(Below.refl _ _).alloc (Nat.le_refl _) _⟩
theorem zo3 (a b:Iv) (w:World) (ha:a.1<18446744073709551616∧a.2<18446744073709551616) (hb:b.1<18446744073709551616∧b.2<18446744073709551616):
 Calls Tryz.prog 89 #[ivV a,ivV b] w fun e w'=>e=.returned (.int .i64 ((jt a b:Nat):Int))∧Below w.heap.size w w':=by
 obtain⟨x,y⟩:=a;obtain⟨z,u⟩:=b;have hz:=hb.1;have hx:=ha.1;clear ha hb;simp only at hx hz
 have hw:Below w.heap.size w ((w.alloc (.cells #[.int .u64 x,.int .u64 y] 99)).alloc (.cells #[.int .u64 z,.int .u64 u] 99)):=
  ((Below.refl _ _).alloc (Nat.le_refl _) _).alloc (by simp) _
 by_cases h1:y<z
 · have e1:IntKind.u64.wrap ((z:Int) - (y:Int))=((z - y:Nat):Int):=by rw[IntKind.wrap_u64];omega
   by_cases g:z - y=1
   · have Hr:=hid (show jt (x,y) (z,u)=1 from by simp[jt,h1,g]);rw[g] at e1;clear g hx hz;generalize jt (x,y) (z,u)=r at*;go_enter Tryz.func89,Tryz.ntmps89;go_wp2;go_ret;exact⟨zau (by rw[Hr.out];rfl),hw⟩
   · have Hr:=hid (show jt (x,y) (z,u)=0 from by simp[jt,h1,g]);have hne:(((z - y:Nat):Int) == 1)=false:=by rw[beq_eq_false_iff_ne];omega
     clear g hx hz;generalize jt (x,y) (z,u)=r at*;generalize z - y=d at*;go_enter Tryz.func89,Tryz.ntmps89;go_wp2;go_ret;exact⟨zau (by rw[Hr.out];rfl),hw⟩
 · by_cases h2:u<x
   · have e1:IntKind.u64.wrap ((x:Int) - (u:Int))=((x - u:Nat):Int):=by rw[IntKind.wrap_u64];omega
     by_cases g:x - u=1
     · have Hr:=hid (show jt (x,y) (z,u)=3 from by simp[jt,h1,h2,g]);rw[g] at e1;clear g hx hz;generalize jt (x,y) (z,u)=r at*;go_enter Tryz.func89,Tryz.ntmps89;go_wp2;go_ret;exact⟨zau (by rw[Hr.out];rfl),hw⟩
     · have Hr:=hid (show jt (x,y) (z,u)=4 from by simp[jt,h1,h2,g]);have hne:(((x - u:Nat):Int) == 1)=false:=by rw[beq_eq_false_iff_ne];omega
       clear g hx hz;generalize jt (x,y) (z,u)=r at*;generalize x - u=d at*;go_enter Tryz.func89,Tryz.ntmps89;go_wp2;go_ret;exact⟨zau (by rw[Hr.out];rfl),hw⟩
   · have Hr:=hid (show jt (x,y) (z,u)=2 from by simp[jt,h1,h2]);clear hx hz;generalize jt (x,y) (z,u)=r at*;go_enter Tryz.func89,Tryz.ntmps89;go_wp2;go_ret;exact⟨zau (by rw[Hr.out];rfl),hw⟩
def zee (l:List Iv) (i:Nat):Option (Nat×Nat):=
 if (zb l i).2<(zb l i).1 then some (2,i) else if 0<i∧jt (zb l (i - 1)) (zb l i)≠0 then some (3,i) else none
theorem zi3 {l:List Iv} {i:Nat} (h:0<i→zbm l (i - 1)=none):zee l i=zbm l i:=by
 unfold zee zbm;by_cases h1:(zb l i).2<(zb l i).1
 · rw[if_pos h1,if_pos h1]
 · rw[if_neg h1,if_neg h1];by_cases h2:0<i
   · have h3:=h h2;unfold zbm at h3;have h4:¬(zb l (i - 1)).2<(zb l (i - 1)).1:=by intro h5;rw[if_pos h5] at h3;cases h3
     rw[zqq (by omega) (by omega)]
   · rw[if_neg (by omega),if_neg (by omega)]
theorem zwv {l:List Iv} {k:Nat} {x:Nat×Nat} (hk:k<l.length) (h:∀j,j<k→zee l j=none) (hx:zee l k=some x):ck l=some x:=by
 have h':∀j,j<k→zbm l j=none:=by
  intro j
  induction j with
  | zero=>intro hj;rw[←zi3 (by omega)];exact h 0 hj
  | succ j ih=>intro hj;rw[←zi3 (fun _=>by simpa using ih (by omega))];exact h (j+1) hj
 refine jg hk h' ?_;rw[←hx];exact(zi3 fun hk=>h' (k - 1) (by omega)).symm
theorem z71 {l:List Iv} (h:∀j,j<l.length→zee l j=none):ck l=none:=by
 refine k7 fun j=>?_
 induction j with
 | zero=>intro hj;rw[←zi3 (by omega)];exact h 0 hj
 | succ j ih=>intro hj;rw[←zi3 (fun _=>by simpa using ih (by omega))];exact h (j+1) hj
theorem zww (a:Option Addr) (n cap:Nat) (l:List Iv) (w:World) (hI:Ivs w a n cap l):
 Calls Tryz.prog 50 #[.slice a n cap] w fun e w'=>e=.returned (.tuple #[.int .i64 (qo (yj (ck l))),.int .i64 (js (yj (ck l)))])∧Below w.heap.size w w':=by
 have HI:=hid hI;have Hl:=hid hI.len;have hm:n≤9223372036854775807:=Nat.le_trans hI.room hI.most;clear hI;go_enter Tryz.func50,Tryz.ntmps50;go_wp2;go_loopw [4] (fun i wr=>∃k:Nat,k≤n∧i=.int .i64 k∧Below w.heap.size w wr∧Hid (∀j,j<k→zee l j=none)) (fun i _=>n - (intOf i).toNat)
 case atStart=>exact⟨0,by omega,rfl,Below.refl _ _,fun j h=>by omega⟩
 case round=>
  obtain⟨k,hk,rfl,hb,ht⟩:=hrel;have Hb:=hid hb;clear hb;by_cases hkn:k<n
  · obtain⟨bb,oo,rfl,hcell⟩:=(HI.out.below Hb.out).cells (by omega);obtain⟨hc1,hc2⟩:=hcell k hkn;have Hcell:=hid hcell;clear hcell;have Hlt:=hid (HI.out.lt (zb l k) (zaa (by rw[Hl.out];exact hkn)));have hin:zee l k=if (zb l k).2<(zb l k).1 then some (2,k) else if 0<k∧jt (zb l (k - 1)) (zb l k)≠0 then some (3,k) else none:=rfl;generalize hs:zb l k=s at*;have Hs:=hid hs;clear hs;have hC:=hid (fun w=>z7z s w);by_cases h2:s.2<s.1
    · rw[if_pos h2] at hin;have Hr:=hid (show ck l=some (2,k) from zwv (by rw[Hl.out];exact hkn) ht.out hin);clear hin;rw[decide_eq_false (by omega:¬s.1≤s.2)] at hC;clear h2;go_wp2_with fail;refine(hC.out _).mono ?_;rintro e w1 ⟨rfl,hb1⟩;have Hb1:=hid (Hb.out.trans (hb1.mono Hb.out.size));clear hb1;go_wp2_with fail;go_ret2;exact⟨by rw[Hr.out];rfl,Hb1.out⟩
    · rw[if_neg h2] at hin;rw[decide_eq_true (by omega:s.1≤s.2)] at hC;clear h2;by_cases hk0:0<k
      · obtain⟨hp1,hp2⟩:=Hcell.out (k - 1) (by omega);have Hpl:=hid (HI.out.lt (zb l (k - 1)) (zaa (by rw[Hl.out];omega)));generalize hp:zb l (k - 1)=p at*;have Hp:=hid hp;clear hp;have hR:=hid (fun w=>zo3 p s w Hpl.out Hlt.out);have hg:decide (0<(k:Int))=true:=by rw[decide_eq_true_iff];omega
        have hsub:IntKind.i64.wrap ((k:Int) - 1)=(k:Int) - 1:=by rw[IntKind.wrap_i64];omega
        have h01:0≤(k:Int) - 1:=by omega
        have h02:((k:Int) - 1).toNat=k - 1:=by omega
        have h03:(k:Int) - 1<(n:Int):=by omega
        have h04:(k:Int)<(n:Int):=by omega
        have Hin:=hid hin;clear hin;go_wp2_with fail;refine(hC.out _).mono ?_;rintro e w1 ⟨rfl,hb1⟩;have hq1:=(hb1.cell (p:=⟨bb,oo+(k - 1)*2,none⟩) (ze hp1)).trans hp1;have hq2:=(hb1.cell (p:=⟨bb,oo+(k - 1)*2+1,none⟩) (ze hp2)).trans hp2;have hq3:=(hb1.cell (p:=⟨bb,oo+k*2,none⟩) (ze hc1)).trans hc1;have hq4:=(hb1.cell (p:=⟨bb,oo+k*2+1,none⟩) (ze hc2)).trans hc2;have Hb1:=hid (Hb.out.trans (hb1.mono Hb.out.size));clear hb1;clear hp1 hp2 hc1 hc2;go_wp2_with fail;refine qi (by kernel_rfl) (by kernel_rfl) ?_
        repeat (go_big_quiet_step ((intro hw;first
         | rfl
         | (go_at_call 89;exact kp hw (hR.out _))
         | (have q1:=(hw.cell (p:=⟨bb,oo+(k - 1)*2,none⟩) (ze hq1)).trans hq1
            have q2:=(hw.cell (p:=⟨bb,oo+(k - 1)*2+1,none⟩) (ze hq2)).trans hq2;have q3:=(hw.cell (p:=⟨bb,oo+k*2,none⟩) (ze hq3)).trans hq3;have q4:=(hw.cell (p:=⟨bb,oo+k*2+1,none⟩) (ze hq4)).trans hq4;go_simp;first | rfl | exact⟨rfl,hw⟩))))
        refine wpQuiet_nil ?_;intro w3 hb3;have Hb3:=hid (Hb1.out.trans (hb3.mono Hb1.out.size));clear hb3;clear hq1 hq2 hq3 hq4 h01 h02 h03 h04 hsub hg;have Hkn:=hid hkn;by_cases hr0:jt p s=0
        · have Hr:=hid (show zee l k=none from by rw[Hin.out,if_neg (by intro h;exact h.2 hr0)]);rw[hr0];clear hr0;go_wp2;go_roundw
          case rel=>exact⟨k+1,by omega,by go_num,Hb3.out,fun j hj=>by
           rcases Nat.lt_or_ge j k with h | h
           · exact ht.out j h
           · rw[show j=k from(by omega)];exact Hr.out⟩
          case measure=>simp[intOf];omega
        · have Hr:=hid (show ck l=some (3,k) from zwv (by rw[Hl.out];exact hkn) ht.out (by rw[Hin.out,if_pos ⟨hk0,hr0⟩]));have hne:(((jt p s:Nat):Int) != 0)=true:=by rw[bne_iff_ne];omega
          generalize jt p s=r at*;clear hr0;go_wp2_with fail;go_ret2;exact⟨by rw[Hr.out];rfl,Hb3.out⟩
      · obtain rfl:k=0:=by omega
        have Hr:=hid (show zee l 0=none from by rw[hin,if_neg (by omega)]);clear hin hk0;simp only[Nat.zero_mul,Nat.add_zero] at hc1 hc2;rw[show ((0:Nat):Int)=0 from rfl];go_wp2_with fail;refine(hC.out _).mono ?_;rintro e w1 ⟨rfl,hb1⟩;have Hb1:=hid (Hb.out.trans (hb1.mono Hb.out.size));clear hb1;go_wp2_with fail;refine qi (by kernel_rfl) (by kernel_rfl) ?_;repeat (go_big_quiet_step ((intro hw;rfl)))
        refine wpQuiet_nil ?_;intro w3 hb3;have Hb3:=hid (Hb1.out.trans (hb3.mono Hb1.out.size));clear hb3;go_wp2;go_roundw
        case rel=>exact⟨1,by omega,by go_num,Hb3.out,fun j hj=>by rw[show j=0 from(by omega)];exact Hr.out⟩
        case measure=>simp[intOf];omega
  · obtain rfl:k=n:=by omega
    go_wp2;go_ret2;exact⟨by rw[show ck l=none from z71 (by rw[Hl.out];exact ht.out)];rfl,Hb.out⟩
end
section
theorem zlz {k:Kno} {x:Nat×Nat} (h:ckF k=some x):x.1≠0:=by
 obtain⟨i,-,-,h3⟩:=zd6 h;unfold zc3 at h3;split at h3
 · rename_i y hy;cases h3;have:=zh2 hy;exact this
 · split at h3
   · rename_i y hy;cases h3;have:=zkg hy;exact this
   · cases h3
end
section
open Go.RowKit
set_option maxRecDepth 20000 in
theorem zwx (e:Ent) (a:Option Addr) (n c:Nat) (w:World) (hI:Ivs w a n c e.2.2) (hm:e.2.1<18446744073709551616):
 Calls Tryz.prog 90 #[ky e (.slice a n c)] w fun x w'=>x=.returned (.tuple #[.int .i64 (qo (yj (ckE e))),.int .i64 (js (yj (ckE e)))])∧Below w.heap.size w w':=by
 obtain⟨r,m,hs⟩:=e;simp only at hI hm;have hal:Below w.heap.size w (w.alloc (.cells #[.int .u64 r,.int .u64 m,.slice a n c] 101)):=(Below.refl _ _).alloc (Nat.le_refl _) _;have hrow:(w.alloc (.cells #[.int .u64 r,.int .u64 m,.slice a n c] 101)).heap[w.heap.size]?=some (.cells #[.int .u64 r,.int .u64 m,.slice a n c] 101):=z7 rfl
 have Hq1:=hid (fun w' (h:Below (w.alloc (.cells #[.int .u64 r,.int .u64 m,.slice a n c] 101)).heap.size (w.alloc (.cells #[.int .u64 r,.int .u64 m,.slice a n c] 101)) w')=>
  (h.cell (p:=⟨w.heap.size,1,none⟩) (by simp)).trans (zu (i:=1) hrow rfl))
 have Hq2:=hid (fun w' (h:Below (w.alloc (.cells #[.int .u64 r,.int .u64 m,.slice a n c] 101)).heap.size (w.alloc (.cells #[.int .u64 r,.int .u64 m,.slice a n c] 101)) w')=>
  (h.cell (p:=⟨w.heap.size,2,none⟩) (by simp)).trans (zu (i:=2) hrow rfl))
 have HI:=hid (hI.below hal);have Hl:=hid hI.len;have hnm:n≤9223372036854775807:=Nat.le_trans hI.room hI.most;have Hal:=hid hal;have hC:=hid (zww a n c hs _ (hI.below hal));have Hck:=hid (show ckE (r,m,hs)=match ck hs with | some x=>some x | none=>qj (zb2 (r,m,hs)) hs.length from rfl);have q1:=Hq1.out _ (Below.refl _ _);have q2:=Hq2.out _ (Below.refl _ _);clear hI hm hal hrow;go_enter Tryz.func90,Tryz.ntmps90;go_wp2_with fail;refine hC.out.mono ?_;rintro e w1 ⟨rfl,hb1⟩;have Hb1:=hid hb1;clear hb1 hC q1 q2;have Hw1:=hid (Hal.out.trans (Hb1.out.mono Hal.out.size))
 cases h:ck hs with
 | some x=>
  obtain⟨cd,i⟩:=x;have hne:((cd:Int) != 0)=true:=by have:=zh2 h;simp at this;rw[bne_iff_ne];omega
  rw[h] at Hck;simp only at Hck;simp only[yj,qo,js];clear h;go_wp2;go_ret2
  exact⟨by rw[Hck.out];rfl,Hw1.out⟩
 | none=>
  rw[h] at Hck;simp only at Hck;simp only[yj,qo,js];clear h;have HI1:=hid (HI.out.below Hb1.out);go_wp2;go_loopw [6] (fun i wr=>∃k q:Nat,k≤n∧i=.int .i64 k∧wr=w1.drewN q∧Hid (∀j,j<k→zb2 (r,m,hs) j=none)) (fun i _=>n - (intOf i).toNat)
  case atStart=>exact⟨0,0,by omega,rfl,rfl,fun j h=>by omega⟩
  case round=>
   obtain⟨k,q,hk,rfl,rfl,ht⟩:=hrel;have q1:=Hq1.out _ Hb1.out;have q2:=Hq2.out _ Hb1.out;by_cases hkn:k<n
   · obtain⟨cb,co,rfl,hcell⟩:=HI1.out.cells (by omega);obtain⟨-,c2⟩:=hcell k hkn;clear hcell;have h0:(0:Int)≤k:=by omega
     have h04:(k:Int)<(n:Int):=by omega
     have Hh:=hid (show zb2 (r,m,hs) k=if m<(zb hs k).2 then some (4,k) else none from rfl);have hkl:k<hs.length:=by rw[Hl.out];exact hkn
     generalize zb hs k=s at*;obtain⟨p,u⟩:=s;simp only at c2 Hh;by_cases hu:m<u
     · have hd1:decide ((m:Int)<(u:Int))=true:=by rw[decide_eq_true_iff];omega
       have hd2:decide (m<u)=true:=by rw[decide_eq_true_iff];omega
       have Hr:=hid (jg hkl ht.out (Hh.out.trans (if_pos hu)));clear hu;go_wp2;go_quiet (fail);go_wp2;go_ret2;exact⟨by rw[Hck.out,Hr.out];rfl,by first | exact ye Hw1.out _ | exact ye (ye Hw1.out _) _⟩
     · have hd1:decide ((m:Int)<(u:Int))=false:=by rw[decide_eq_false_iff_not];omega
       have hd2:decide (m<u)=false:=by rw[decide_eq_false_iff_not];omega
       have Hr:=hid (ko ht.out (Hh.out.trans (if_neg hu)));clear hu;go_wp2;go_quiet (fail);go_wp2;go_roundw
       case rel=>exact⟨k+1,_,by omega,by go_num,rfl,Hr.out⟩
       case measure=>simp[intOf];omega
   · obtain rfl:k=n:=by omega
     have Hr:=hid (k7 (n:=hs.length) (fun j hj=>ht.out j (by rw[←Hl.out];exact hj)));go_wp2;go_ret2;exact⟨by rw[Hck.out,Hr.out];rfl,ye Hw1.out _⟩
set_option maxRecDepth 20000 in
theorem zwy (a:Option Addr) (n cap:Nat) (v:Vec) (w:World) (hE:Ents w a n cap v):
 Calls Tryz.prog 51 #[.slice a n cap] w fun x w'=>x=.returned (.tuple #[.int .i64 (qo (yj (ckV v))),.int .i64 (js (yj (ckV v)))])∧Below w.heap.size w w':=by
 have HE:=hid hE;have Hl:=hid hE.len;have hm:n≤9223372036854775807:=Nat.le_trans hE.room hE.most;have Hck:=hid (show ckV v=qj (zc2 v) v.length from rfl);clear hE;go_enter Tryz.func51,Tryz.ntmps51;go_wp2;go_loopw [4,5,6] (fun i _ _ wr=>∃k:Nat,k≤n∧i=.int .i64 k∧Below w.heap.size w wr∧Hid (∀j,j<k→zc2 v j=none)) (fun i _ _ _=>n - (intOf i).toNat)
 case atStart=>exact⟨0,by omega,rfl,Below.refl _ _,fun j h=>by omega⟩
 case round=>
  obtain⟨k,hk,rfl,hb,ht⟩:=hrel;have Hb:=hid hb;clear hb;by_cases hkn:k<n
  · have hkv:k<v.length:=by rw[Hl.out];exact hkn
    have HEr:=hid (HE.out.below Hb.out);obtain⟨bb,oo,rfl⟩:=HEr.out.some (by omega);have Hlt:=hid (HE.out.lt (zc v k) (jb hkv));obtain⟨x,m,c,hq⟩:=HEr.out.fix hkn;have Hq:=hid hq;clear hq;have Hat:=hid (show zc2 v k=match ckE (zc v k) with | some x=>some (x.1,k) | none=>if 0<k∧(zc v k).1≤(zc v (k - 1)).1 then some (3,k) else none from rfl);have Hp:=hid (show 0<k→∀w',Below wr.heap.size wr w'→w'.cell? ⟨bb,oo+(k - 1)*3,none⟩=some (.int .u64 (((zc v (k - 1)).1:Nat):Int)) from fun h0 w' h=>(HEr.out.at (k:=k - 1) (by omega) w' h).1);generalize zc v k=e at*;generalize zc v (k - 1)=p at*;have h0:(0:Int)≤k:=by omega
    have h04:(k:Int)<(n:Int):=by omega
    obtain⟨q1,q2,q3,q4⟩:=Hq.out _ (Below.refl _ _);have hC:=hid (zwx e x m c wr q4 Hlt.out.max);obtain⟨er,em,eh⟩:=e;obtain⟨pr,pm,ph⟩:=p;simp only at q1 q2 q3 q4 Hp Hat;clear q4
    cases h:ckE (er,em,eh) with
    | some y=>
     have hc0:=zkf h;obtain⟨cd,ci⟩:=y;rw[h] at Hat hC;simp only[yj,qo,js] at Hat hC;have hne:((cd:Int) != 0)=true:=by rw[bne_iff_ne];simp at hc0;omega
     have Hr:=hid (jg hkv ht.out Hat.out);clear h hc0;go_wp2_with fail;refine hC.out.mono ?_;rintro z w1 ⟨rfl,hb1⟩;have Hb1:=hid hb1;clear hb1;go_wp2;go_ret2
     exact⟨by rw[Hck.out,Hr.out];rfl,Hb.out.trans (Hb1.out.mono Hb.out.size)⟩
    | none=>
     rw[h] at Hat hC;simp only[yj,qo,js] at Hat hC;clear h;by_cases hk0:0<k
     · have hg:decide (0<(k:Int))=true:=by rw[decide_eq_true_iff];omega
       have hsub:IntKind.i64.wrap ((k:Int) - 1)=((k - 1:Nat):Int):=by rw[IntKind.wrap_i64];omega
       have h01:(0:Int)≤((k - 1:Nat):Int):=by omega
       have h03:((k - 1:Nat):Int)<(n:Int):=by omega
       go_wp2_with fail;refine hC.out.mono ?_;rintro z w1 ⟨rfl,hb1⟩;have Hb1:=hid hb1;clear hb1 q1 q2 q3;obtain⟨q1,q2,q3,-⟩:=Hq.out _ Hb1.out;have q5:=Hp.out hk0 _ Hb1.out;have Hw1:=hid (Hb.out.trans (Hb1.out.mono Hb.out.size));by_cases hle:er≤pr
       · have hd1:decide ((er:Int)≤(pr:Int))=true:=by rw[decide_eq_true_iff];omega
         have hd2:decide (er≤pr)=true:=by rw[decide_eq_true_iff];omega
         have Hr:=hid (jg hkv ht.out (Hat.out.trans (if_pos ⟨hk0,hle⟩)));clear hle;go_wp2;go_quiet (fail);go_wp2;go_ret2;exact⟨by rw[Hck.out,Hr.out];rfl,by first | exact Hw1.out | exact ye Hw1.out _⟩
       · have hd1:decide ((er:Int)≤(pr:Int))=false:=by rw[decide_eq_false_iff_not];omega
         have hd2:decide (er≤pr)=false:=by rw[decide_eq_false_iff_not];omega
         have Hr:=hid (ko ht.out (Hat.out.trans (if_neg (fun h=>hle h.2))));clear hle;go_wp2;go_quiet (fail);go_wp2;go_roundw
         case rel=>exact⟨k+1,by omega,by go_num,by first | exact Hw1.out | exact ye Hw1.out _,Hr.out⟩
         case measure=>simp[intOf];omega
     · have hg:decide (0<(k:Int))=false:=by rw[decide_eq_false_iff_not];omega
       have Hr:=hid (ko ht.out (Hat.out.trans (if_neg (fun h=>hk0 h.1))));go_wp2_with fail;refine hC.out.mono ?_;rintro z w1 ⟨rfl,hb1⟩;have Hb1:=hid hb1;clear hb1;have Hw1:=hid (Hb.out.trans (Hb1.out.mono Hb.out.size));go_wp2;go_quiet (fail);go_wp2;go_roundw
       case rel=>exact⟨k+1,by omega,by go_num,by first | exact Hw1.out | exact ye Hw1.out _,Hr.out⟩
       case measure=>simp[intOf];omega
  · obtain rfl:k=n:=by omega
    have Hr:=hid (k7 (n:=v.length) (fun j hj=>ht.out j (by rw[←Hl.out];exact hj)));go_wp2;go_ret2;exact⟨by rw[Hck.out,Hr.out];rfl,by first | exact Hb.out | exact ye Hb.out _⟩
def zhd (v:Vec):Bool:=v.all (fun e=>decide (e.2.2.length≤30)) && decide (v.length≤20)
set_option maxRecDepth 20000 in
theorem z72 (a:Option Addr) (n cap:Nat) (v:Vec) (w:World) (hE:Ents w a n cap v):
 Calls Tryz.prog 47 #[.slice a n cap] w fun x w'=>x=.returned (.bool (zhd v))∧Below w.heap.size w w':=by
 have HE:=hid hE;have Hl:=hid hE.len;have hm:n≤9223372036854775807:=Nat.le_trans hE.room hE.most;have Hcv:=hid (show zhd v=(v.all (fun e=>decide (e.2.2.length≤30)) && decide (v.length≤20)) from rfl);clear hE;go_enter Tryz.func47,Tryz.ntmps47;go_wp2;go_loopw [3] (fun i wr=>∃k:Nat,k≤n∧i=.int .i64 k∧Below w.heap.size w wr∧Hid (∀j,j<k→(zc v j).2.2.length≤30)) (fun i _=>n - (intOf i).toNat)
 case atStart=>exact⟨0,by omega,rfl,Below.refl _ _,fun j h=>by omega⟩
 case round=>
  obtain⟨k,hk,rfl,hb,ht⟩:=hrel;have Hb:=hid hb;clear hb;by_cases hkn:k<n
  · have hkv:k<v.length:=by rw[Hl.out];exact hkn
    have HEr:=hid (HE.out.below Hb.out);obtain⟨bb,oo,rfl⟩:=HEr.out.some (by omega);have Hmem:=hid (jb hkv);obtain⟨x,m,c,hq⟩:=HEr.out.fix hkn;obtain⟨-,-,q3,q4⟩:=hq _ (Below.refl _ _);have Hlen:=hid q4.len
    have Hst:=hid (show (zc v k).2.2.length≤30→∀j,j<k+1→(zc v j).2.2.length≤30 from fun h j hj=>by
     by_cases e:j=k
     · rw[e];exact h
     · exact ht.out j (by omega))
    generalize zc v k=e at*;have h0:(0:Int)≤k:=by omega
    have h04:(k:Int)<(n:Int):=by omega
    clear q4 hq;by_cases h:30<m
    · have hd:decide (30<(m:Int))=true:=by rw[decide_eq_true_iff];omega
      have Hf:=hid (show v.all (fun e=>decide (e.2.2.length≤30))=false from by
       rw[Bool.eq_false_iff];intro h2;rw[List.all_eq_true] at h2;have:=h2 _ Hmem.out;rw[decide_eq_true_iff,Hlen.out] at this;omega)
      clear h;go_wp2;go_ret;exact⟨by rw[Hcv.out,Hf.out,Bool.false_and];rfl,Hb.out⟩
    · have hd:decide (30<(m:Int))=false:=by rw[decide_eq_false_iff_not];omega
      have Hs:=hid (Hst.out (by rw[Hlen.out];omega));clear h;go_wp2;go_roundw
      case rel=>exact⟨k+1,by omega,by go_num,Hb.out,Hs.out⟩
      case measure=>simp[intOf];omega
  · obtain rfl:k=n:=by omega
    have Hr:=hid (show v.all (fun e=>decide (e.2.2.length≤30))=true from by
     rw[List.all_eq_true];intro e he;obtain⟨i,hi,rfl⟩:=List.getElem_of_mem he;have:=ht.out i (by rw[←Hl.out];exact hi);rw[qn hi] at this;rw[decide_eq_true_iff];exact this)
    have hd1:decide ((k:Int)≤20)=decide (v.length≤20):=by rw[Hl.out];exact decide_eq_decide.2 (by omega)
    have Hd1:=hid hd1;clear hd1;go_wp2;go_ret;exact⟨by rw[Hcv.out,Hr.out,Bool.true_and,←Hd1.out];rfl,Hb.out⟩
set_option maxRecDepth 20000 in
theorem zo4 (a:Option Addr) (n cap:Nat) (k:Kno) (w:World) (hE:Frags w a n cap k):
 Calls Tryz.prog 15 #[.slice a n cap] w fun x w'=>x=.returned (.tuple #[.int .i64 (qo (yj (ckF k))),.int .i64 (js (yj (ckF k)))])∧Below w.heap.size w w':=by
 have HE:=hid hE;have Hl:=hid hE.len;have hm:n≤9223372036854775807:=Nat.le_trans hE.room hE.most;have Hck:=hid (show ckF k=qj (zc3 k) k.length from rfl);clear hE;go_enter Tryz.func15,Tryz.ntmps15;go_wp2;go_loopw [4,5,6] (fun i _ _ wr=>∃d:Nat,d≤n∧i=.int .i64 d∧Below w.heap.size w wr∧Hid (∀j,j<d→zc3 k j=none)) (fun i _ _ _=>n - (intOf i).toNat)
 case atStart=>exact⟨0,by omega,rfl,Below.refl _ _,fun j h=>by omega⟩
 case round=>
  obtain⟨d,hd,rfl,hb,ht⟩:=hrel;have Hb:=hid hb;clear hb;by_cases hdn:d<n
  · have hdk:d<k.length:=by rw[Hl.out];exact hdn
    have HEr:=hid (HE.out.below Hb.out);obtain⟨bb,oo,rfl⟩:=HEr.out.some (by omega);obtain⟨x,m,c,y,m',c',hq⟩:=HEr.out.fix hdn;have Hq:=hid hq;have Hat:=hid (show zc3 k d=match ck (za k d).1 with | some x=>some (x.1,d) | none=>match ckV (za k d).2 with | some x=>some (x.1,d) | none=>none from rfl);have hC:=hid (fun w' h=>zww x m c (za k d).1 w' (hq w' h).2.1);have hV:=hid (fun w' h=>zwy y m' c' (za k d).2 w' (hq w' h).2.2.2);have h0:(0:Int)≤d:=by omega
    have h04:(d:Int)<(n:Int):=by omega
    obtain⟨q1,-,q2,-⟩:=hq _ (Below.refl _ _);clear hq;generalize za k d=f at*
    cases h:ck f.1 with
    | some z=>
     have hc0:=zh2 h;obtain⟨cd,ci⟩:=z;rw[h] at Hat hC;simp only[yj,qo,js] at Hat hC;have hne:((cd:Int) != 0)=true:=by rw[bne_iff_ne];simp at hc0;omega
     have heq:((cd:Int) == 0)=false:=by rw[beq_eq_false_iff_ne];simp at hc0;omega
     have Hr:=hid (jg hdk ht.out Hat.out);clear h hc0 hV;go_wp2_with fail;refine(hC.out _ (Below.refl _ _)).mono ?_;rintro z w1 ⟨rfl,hb1⟩;have Hb1:=hid hb1;clear hb1;go_wp2;go_ret2
     exact⟨by rw[Hck.out,Hr.out];rfl,Hb.out.trans (Hb1.out.mono Hb.out.size)⟩
    | none=>
     rw[h] at Hat hC;simp only[yj,qo,js] at Hat hC;clear h;go_wp2_with fail;refine(hC.out _ (Below.refl _ _)).mono ?_;rintro z w1 ⟨rfl,hb1⟩;have Hb1:=hid hb1;clear hb1 q1 q2;obtain⟨q1,-,q2,-⟩:=Hq.out _ Hb1.out;have Hw1:=hid (Hb.out.trans (Hb1.out.mono Hb.out.size))
     cases h:ckV f.2 with
     | some z=>
      have hc0:=zkg h;obtain⟨cd,ci⟩:=z;rw[h] at Hat hV;simp only[yj,qo,js] at Hat hV;have hne:((cd:Int) != 0)=true:=by rw[bne_iff_ne];simp at hc0;omega
      have Hr:=hid (jg hdk ht.out Hat.out);clear h hc0;go_wp2_with fail;refine(hV.out _ Hb1.out).mono ?_;rintro z w2 ⟨rfl,hb2⟩;have Hb2:=hid hb2;clear hb2;go_wp2;go_ret2
      exact⟨by rw[Hck.out,Hr.out];rfl,Hw1.out.trans (Hb2.out.mono Hw1.out.size)⟩
     | none=>
      rw[h] at Hat hV;simp only[yj,qo,js] at Hat hV;have Hr:=hid (ko ht.out Hat.out);clear h;go_wp2_with fail;refine(hV.out _ Hb1.out).mono ?_;rintro z w2 ⟨rfl,hb2⟩;have Hb2:=hid hb2;clear hb2;go_wp2;go_roundw
      case rel=>exact⟨d+1,by omega,by go_num,Hw1.out.trans (Hb2.out.mono Hw1.out.size),Hr.out⟩
      case measure=>simp[intOf];omega
  · obtain rfl:d=n:=by omega
    have Hr:=hid (k7 (n:=k.length) (fun j hj=>ht.out j (by rw[←Hl.out];exact hj)));go_wp2;go_ret2;exact⟨by rw[Hck.out,Hr.out];rfl,by first | exact Hb.out | exact ye Hb.out _⟩
theorem zi4 {p:Nat→Prop} {d:Nat} (h:∀j,j<d→p j) (hd:p d):∀j,j<d+1→p j:=fun j hj=>by
 by_cases e:j=d
 · rw[e];exact hd
 · exact h j (by omega)
def zdw (f:Frg):Bool:=decide (f.1.length≤20) && zhd f.2
def zcy (k:Kno):Bool:=k.all zdw && decide (k.length≤12)
theorem z73 {k:Kno} {p:Frg→Bool} {i:Nat} (hi:i<k.length) (h:p (za k i)=false):k.all p=false:=by
 rw[Bool.eq_false_iff];intro h2;rw[List.all_eq_true.1 h2 _ (yb hi)] at h;cases h
theorem z74 {k:Kno} {p:Frg→Bool} (h:∀i,i<k.length→p (za k i)=true):k.all p=true:=by
 rw[List.all_eq_true];intro f hf;obtain⟨i,hi,rfl⟩:=List.getElem_of_mem hf;have:=h i hi;rwa [ym hi] at this
set_option maxRecDepth 20000 in
theorem zhe (a:Option Addr) (n cap:Nat) (k:Kno) (w:World) (hE:Frags w a n cap k):
 Calls Tryz.prog 13 #[.slice a n cap] w fun x w'=>x=.returned (.bool (zcy k))∧Below w.heap.size w w':=by
 have HE:=hid hE;have Hl:=hid hE.len;have hm:n≤9223372036854775807:=Nat.le_trans hE.room hE.most;have Hck:=hid (show zcy k=(k.all zdw && decide (k.length≤12)) from rfl);clear hE;go_enter Tryz.func13,Tryz.ntmps13;go_wp2;go_loopw [3] (fun i wr=>∃d:Nat,d≤n∧i=.int .i64 d∧Below w.heap.size w wr∧Hid (∀j,j<d→zdw (za k j)=true)) (fun i _=>n - (intOf i).toNat)
 case atStart=>exact⟨0,by omega,rfl,Below.refl _ _,fun j h=>by omega⟩
 case round=>
  obtain⟨d,hd,rfl,hb,ht⟩:=hrel;have Hb:=hid hb;clear hb;by_cases hdn:d<n
  · have hdk:d<k.length:=by rw[Hl.out];exact hdn
    have HEr:=hid (HE.out.below Hb.out);obtain⟨bb,oo,rfl⟩:=HEr.out.some (by omega);obtain⟨x,m,c,y,m',c',hq⟩:=HEr.out.fix hdn;have Hat:=hid (show zdw (za k d)=(decide ((za k d).1.length≤20) && zhd (za k d).2) from rfl);have Hyes:=hid (z73 (p:=zdw) hdk);have Hno:=hid (fun h=>zi4 (p:=fun j=>zdw (za k j)=true) ht.out h);have hV:=hid (z72 y m' c' (za k d).2 wr (hq _ (Below.refl _ _)).2.2.2);have h0:(0:Int)≤d:=by omega
    have h04:(d:Int)<(n:Int):=by omega
    obtain⟨q1,hI,q2,-⟩:=hq _ (Below.refl _ _);rw[hI.len] at Hat;clear hq hI;generalize za k d=f at*;generalize zdw f=bf at*;generalize zhd f.2=b2 at*;by_cases h20:m≤20
    · have hd1:decide (20<(m:Int))=false:=by rw[decide_eq_false_iff_not];omega
      have hd2:decide (m≤20)=true:=by rw[decide_eq_true_iff];exact h20
      rw[hd2] at Hat;clear h20 hd2;go_wp2_with fail;refine hV.out.mono ?_;rintro e w1 ⟨rfl,hb1⟩;have Hb1:=hid (Hb.out.trans (hb1.mono Hb.out.size));clear hb1
      cases b2 with
      | true=>
       have Hs:=hid (Hno.out (by rw[Hat.out];rfl));clear Hyes Hno;go_wp2;go_roundw
       case rel=>exact⟨d+1,by omega,by go_num,Hb1.out,Hs.out⟩
       case measure=>simp[intOf];omega
      | false=>
       have Hs:=hid (Hyes.out (by rw[Hat.out];rfl));clear Hyes Hno;go_wp2;go_ret;exact⟨by rw[Hck.out,Hs.out];rfl,Hb1.out⟩
    · have hd1:decide (20<(m:Int))=true:=by rw[decide_eq_true_iff];omega
      have hd2:decide (m≤20)=false:=by rw[decide_eq_false_iff_not];exact h20
      rw[hd2] at Hat;have Hs:=hid (Hyes.out (by rw[Hat.out];rfl));clear h20 hd2 hV Hyes Hno;go_wp2;go_ret;exact⟨by rw[Hck.out,Hs.out];rfl,Hb.out⟩
  · obtain rfl:d=n:=by omega
    have Hr:=hid (z74 (k:=k) (p:=zdw) (fun j hj=>ht.out j (by rw[←Hl.out];exact hj)));have Hd1:=hid (show decide ((d:Int)≤12)=decide (k.length≤12) from by rw[Hl.out];exact decide_eq_decide.2 (by omega));go_wp2;go_ret;exact⟨by rw[Hck.out,Hr.out,Bool.true_and,←Hd1.out];rfl,Hb.out⟩
end
section
theorem z75 {f:Frg}:zdw f=true↔f.1.length≤20∧f.2.length≤20∧∀e∈f.2,e.2.2.length≤30:=by
 simp only[zdw,zhd,Bool.and_eq_true,decide_eq_true_eq,List.all_eq_true];constructor
 · rintro⟨h1,h2,h3⟩;exact⟨h1,h3,h2⟩
 · rintro⟨h1,h2,h3⟩;exact⟨h1,h3,h2⟩
theorem zwz {m:Nat}:∀{k:Kno},(∀f∈k,f.1.length≤m)→yf k≤m*k.length
 | [],_=>by simp[yf]
 | f :: k,h=>by
   rw[yf,List.length_cons,Nat.mul_succ];have h1:=h f List.mem_cons_self;have h2:=zwz (k:=k) fun g hg=>h g (List.mem_cons_of_mem _ hg)
   omega
theorem zo5 {k:Kno} (h:zcy k=true):SmallK k∧k.length≤12∧yf k≤240:=by
 simp only[zcy,Bool.and_eq_true,decide_eq_true_eq,List.all_eq_true] at h;have hf:=fun f hf=>z75.1 (h.1 f hf)
 refine⟨⟨by omega,fun f h=>(hf f h).1,fun f h=>(hf f h).2.1,fun f h=>(hf f h).2.2⟩,h.2,?_⟩;have:=zwz (m:=20) (k:=k) fun f h=>(hf f h).1
 omega
end
section
open Go.ChangeShapes Go.WideShapes Go.RowKit Go.ChangeAt
abbrev LD:List (String×DataW Unit):=Rows.frameEncodesRow.laid
theorem z78 {W:World} (h:laidMetH Tryz.prog LD W):laidMet Tryz.prog (LD.filter fun x=>x.2.handleName?.isNone) W∧handlesMet Tryz.prog [("errors.errorType",Rows.laid_errors_errorType)] W:=h
theorem zi5 {W:World} (h:laidMetH Tryz.prog LD W):Door W:=zvt (z78 h).2
theorem zi6 (os:Os) (args:Array Value):laidMetH Tryz.prog LD ((zdr os).forCall (fun _ _=>0) ⟨#[],args,[]⟩).memory:=
 laidMetH_of_parts (laidMet_of_run3 8 (by kernel_rfl) (by kernel_rfl) (by kernel_rfl)) (by kernel_rfl)
end
end Go.Proofs.YtdnjfnofjaoajaaGreatDoor
