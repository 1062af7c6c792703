/- Walks and laws, joined: Wb17. -/
import Derived.Test.YtdnjfnofjaoajaaGreatDoorWb15
import Derived.Test.YtdnjfnofjaoajaaGreatDoorWb16
set_option linter.unusedVariables false
set_option maxHeartbeats 16000000
namespace Go.Proofs.YtdnjfnofjaoajaaGreatDoor
open Lib (hid)
section
open Go.RowKit
theorem z3w (a:Option Addr) (n c p:Nat) (hs:List Iv) (w:World) (hI:Ivs w a n c hs) (hD:Door w) (hp:w.cell? ⟨p,2,none⟩=some (.slice a n c)):
 Calls Tryz.prog 196 #[.pointer (some ⟨p,0,none⟩)] w fun e w'=>e=.returned (yl (yj (ck hs)))∧Below w.heap.size w w':=by
 have hC:=hid (zt0 a n c hs w hI hD);clear hI hD;go_enter Tryz.func196,Tryz.ntmps196;go_wp2_with fail;refine hC.out.mono ?_;rintro e w1 ⟨rfl,hb1⟩;have Hb1:=hid hb1;clear hb1;go_wp2;go_ret;exact⟨rfl,Hb1.out⟩
set_option maxRecDepth 20000 in
theorem z3x (a:Option Addr) (n c p r m:Nat) (hs:List Iv) (w:World) (hI:Ivs w a n c hs) (hp:w.cell? ⟨p,2,none⟩=some (.slice a n c)) (hq:w.cell? ⟨p,1,none⟩=some (.int .u64 m)):
 Calls Tryz.prog 195 #[.pointer (some ⟨p,0,none⟩)] w fun e w'=>e=.returned (yl (yj (qj (zb2 (r,m,hs)) hs.length)))∧Below w.heap.size w w':=by
 have HI:=hid hI;have Hl:=hid hI.len;have hnm:n≤9223372036854775807:=Nat.le_trans hI.room hI.most;have Hq2:=hid (fun w' (h:Below w.heap.size w w')=>(h.cell (p:=⟨p,1,none⟩) (ze hq)).trans hq);clear hI;go_enter Tryz.func195,Tryz.ntmps195;go_wp2;clear hp hq;go_loopw [2,3,7] (fun _ _ i wr=>∃k:Nat,k≤n∧i=.int .i64 k∧Below w.heap.size w wr∧Hid (∀j,j<k→zb2 (r,m,hs) j=none)) (fun _ _ i _=>n - (intOf i).toNat)
 case atStart=>exact⟨0,by omega,rfl,Below.refl _ _,fun j h=>by omega⟩
 case round=>
  obtain⟨k,hk,rfl,hb,ht⟩:=hrel;have Hb:=hid hb;clear hb;by_cases hkn:k<n
  · obtain⟨cb,co,rfl,hcell⟩:=(HI.out.below Hb.out).cells (by omega);obtain⟨c1,c2⟩:=hcell k hkn;have hq:=Hq2.out _ Hb.out;clear hcell;have h0:(0:Int)≤k:=by omega
    have h04:(k:Int)<(n:Int):=by omega
    have Hh:=hid (show zb2 (r,m,hs) k=if m<(zb hs k).2 then some (4,k) else none from rfl);have hkl:k<hs.length:=by rw[Hl.out];exact hkn
    generalize zb hs k=s at*;obtain⟨x,u⟩:=s;simp only at c1 c2 Hh;have hal:Below wr.heap.size wr (wr.alloc (.cells #[.int .u64 x,.int .u64 u] 99)):=(Below.refl _ _).alloc (Nat.le_refl _) _;have hq2:=(hal.cell (p:=⟨p,1,none⟩) (ze hq)).trans hq;have Hal:=hid (Hb.out.trans (hal.mono Hb.out.size));clear hal;by_cases hu:m<u
    · have hd1:decide ((m:Int)<(u:Int))=true:=by rw[decide_eq_true_iff];omega
      have hd2:decide (m<u)=true:=by rw[decide_eq_true_iff];omega
      have Hr:=hid (jg hkl ht.out (Hh.out.trans (if_pos hu)));clear hu;go_wp2_with fail;refine(zaf 4 k _).mono ?_;rintro e w3 ⟨rfl,rfl⟩;go_wp2;go_ret;exact⟨by rw[Hr.out];rfl,by first | exact Hal.out | exact ye Hal.out _⟩
    · have hd1:decide ((m:Int)<(u:Int))=false:=by rw[decide_eq_false_iff_not];omega
      have hd2:decide (m<u)=false:=by rw[decide_eq_false_iff_not];omega
      have Hr:=hid (ko ht.out (Hh.out.trans (if_neg hu)));clear hu;go_wp2;go_roundw
      case rel=>exact⟨k+1,by omega,by go_num,by first | exact Hal.out | exact ye Hal.out _,Hr.out⟩
      case measure=>simp[intOf];omega
  · obtain rfl:k=n:=by omega
    have Hr:=hid (k7 (n:=hs.length) (fun j hj=>ht.out j (by rw[←Hl.out];exact hj)));go_wp2;go_ret;exact⟨by rw[Hr.out];rfl,Hb.out⟩
set_option maxRecDepth 20000 in
theorem zt7 (e:Ent) (a:Option Addr) (n c:Nat) (w:World) (hI:Ivs w a n c e.2.2) (hD:Door w):
 Calls Tryz.prog 155 #[ky e (.slice a n c)] w fun y w'=>y=.returned (yl (yj (ckE e)))∧Below w.heap.size w w':=by
 obtain⟨r,m,hs⟩:=e;simp only at hI;have hal:Below w.heap.size w (w.alloc (.cells #[.int .u64 r,.int .u64 m,.slice a n c] 101)):=(Below.refl w.heap.size w).alloc (Nat.le_refl _) _;have hq:=zcc w (.int .u64 r) (.int .u64 m) (.slice a n c) 101
 have hC2:=hid (fun w' (h:Below (w.alloc (.cells #[.int .u64 r,.int .u64 m,.slice a n c] 101)).heap.size (w.alloc (.cells #[.int .u64 r,.int .u64 m,.slice a n c] 101)) w')=>
  z3w a n c w.heap.size hs w' (hI.below (hal.trans (h.mono hal.size))) (hD.below (Nat.le_refl _) (hal.trans (h.mono hal.size))) (hq w' h).2.2)
 have hC1:=hid (fun w' (h:Below (w.alloc (.cells #[.int .u64 r,.int .u64 m,.slice a n c] 101)).heap.size (w.alloc (.cells #[.int .u64 r,.int .u64 m,.slice a n c] 101)) w')=>
  z3x a n c w.heap.size r m hs w' (hI.below (hal.trans (h.mono hal.size))) (hq w' h).2.2 (hq w' h).2.1)
 have Hal:=hid hal;have Hck:=hid (show ckE (r,m,hs)=match ck hs with | some x=>some x | none=>qj (zb2 (r,m,hs)) hs.length from rfl);clear hI hD hal hq;go_enter Tryz.func155,Tryz.ntmps155;go_wp2;obtain⟨fs,hfs⟩:∃fs:Obj,fs=.cells #[.func (.func 196) #[] #[.pointer (some ⟨w.heap.size,0,none⟩)],.func (.func 195) #[] #[.pointer (some ⟨w.heap.size,0,none⟩)]] 236:=⟨_,rfl⟩;have hb0:Below (w.alloc (.cells #[.int .u64 r,.int .u64 m,.slice a n c] 101)).heap.size (w.alloc (.cells #[.int .u64 r,.int .u64 m,.slice a n c] 101)) ((w.alloc (.cells #[.int .u64 r,.int .u64 m,.slice a n c] 101)).alloc fs):=(Below.refl _ _).alloc (Nat.le_refl _) _;have hrow:((w.alloc (.cells #[.int .u64 r,.int .u64 m,.slice a n c] 101)).alloc fs).heap[w.heap.size+1]?=some fs:=z7 (by simp);have hsz:((w.alloc (.cells #[.int .u64 r,.int .u64 m,.slice a n c] 101)).alloc fs).heap.size=w.heap.size+2:=by simp
 rw[←hfs];generalize (w.alloc (.cells #[.int .u64 r,.int .u64 m,.slice a n c] 101)).alloc fs=W2 at*;have Hb0:=hid hb0;have Hz:=hid hb0.size
 have Hfn:=hid (show ∀w',Below W2.heap.size W2 w'→w'.cell? ⟨w.heap.size+1,0,none⟩=some (.func (.func 196) #[] #[.pointer (some ⟨w.heap.size,0,none⟩)])∧w'.cell? ⟨w.heap.size+1,1,none⟩=some (.func (.func 195) #[] #[.pointer (some ⟨w.heap.size,0,none⟩)]) from fun w' h=>by
  have hr:w'.heap[w.heap.size+1]?=some fs:=(h.block _ (by omega)).trans hrow;rw[hfs] at hr;exact⟨zu (i:=0) hr rfl,zu (i:=1) hr rfl⟩)
 clear hb0 hrow hsz hfs;go_loopw [5,6,12] (fun _ _ i wr=>Below W2.heap.size W2 wr∧Hid (i=.int .i64 0∨(i=.int .i64 1∧ck hs=none)∨(i=.int .i64 2∧ck hs=none∧qj (zb2 (r,m,hs)) hs.length=none))) (fun _ _ i _=>2 - (intOf i).toNat)
 case atStart=>exact⟨Below.refl _ _,.inl rfl⟩
 case round=>
  obtain⟨hb,hi⟩:=hrel;have Hb:=hid hb;clear hb;have Hbw:=hid (Hb0.out.trans (Hb.out.mono Hz.out));have Hbz:=hid (Hal.out.trans (Hbw.out.mono Hal.out.size));obtain⟨f1,f2⟩:=Hfn.out _ Hb.out;rcases hi.out with rfl | ⟨rfl,h1⟩ | ⟨rfl,h1,h2⟩
  · have hC:=hid (hC2.out wr Hbw.out)
    cases h:ck hs with
    | none=>
     rw[h] at hC;simp only[yj,yl] at hC;have Hn:=hid h;clear h hi;go_wp2_with fail;refine hC.out.mono ?_;rintro e w1 ⟨rfl,hb1⟩;have Hb1:=hid (Hb.out.trans (hb1.mono Hb.out.size));clear hb1;go_wp2;go_roundw
     case rel=>exact⟨Hb1.out,.inr (.inl ⟨by go_num,trivial⟩)⟩
     case measure=>simp[intOf]
    | some x=>
     obtain⟨cd,ci⟩:=x;rw[h] at hC Hck;simp only[yj,yl] at hC Hck;clear h hi;go_wp2_with fail;refine hC.out.mono ?_;rintro e w1 ⟨rfl,hb1⟩;have Hb1:=hid (Hbz.out.trans (hb1.mono Hbz.out.size));clear hb1;go_wp2;go_ret;exact⟨by rw[Hck.out];rfl,Hb1.out⟩
  · have hC:=hid (hC1.out wr Hbw.out);rw[h1] at Hck;simp only at Hck
    cases h:qj (zb2 (r,m,hs)) hs.length with
    | none=>
     rw[h] at hC;simp only[yj,yl] at hC;have Hn:=hid (And.intro h1 h);clear h hi h1;go_wp2_with fail;refine hC.out.mono ?_;rintro e w1 ⟨rfl,hb1⟩;have Hb1:=hid (Hb.out.trans (hb1.mono Hb.out.size));clear hb1;go_wp2;go_roundw
     case rel=>exact⟨Hb1.out,.inr (.inr ⟨by go_num,Hn.out.1,trivial⟩)⟩
     case measure=>simp[intOf]
    | some x=>
     obtain⟨cd,ci⟩:=x;rw[h] at hC Hck;simp only[yj,yl] at hC;clear h hi h1;go_wp2_with fail;refine hC.out.mono ?_;rintro e w1 ⟨rfl,hb1⟩;have Hb1:=hid (Hbz.out.trans (hb1.mono Hbz.out.size));clear hb1;go_wp2;go_ret;exact⟨by rw[Hck.out];rfl,Hb1.out⟩
  · rw[h1] at Hck;simp only at Hck;rw[h2] at Hck;clear h1 h2 hi;go_wp2;go_ret;exact⟨by rw[Hck.out];rfl,Hbz.out⟩
end
section
open Go.RowKit Go.Shelf
attribute [local go_sem] Oper.semAt_some zd7
theorem z3y (B:Nat) (y:Value) (xs:List Nat) (i:Nat) (s1 s2:Value) (w:World) (ho:w.ownsRow B 3 1 y xs.length (yw xs)) (hB:B≤w.heap.size) (hn:xs.length≤1000):
 Calls Tryz.prog 245 #[y,.int .i64 ((i:Nat):Int),.agg #[s1,s2]] w fun e w'=>(∃v,e=.returned v∧w'.ownsRow B 3 1 v (xs++[i]).length (yw (xs++[i])))∧Below B w w':=by
 have hal:Below w.heap.size w (w.alloc (.cells #[s1,s2] 85)):=(Below.refl _ _).alloc (Nat.le_refl _) _;have Ho:=hid (zm ho hal);have Hal:=hid (hal.mono hB);have Hlt:=hid ((zm ho hal).lt);obtain⟨ao,co,rfl⟩:=ks ho;clear ho hal;go_enter Tryz.func245,Tryz.ntmps245;go_wp2_with (at_builtin;refine zqo rfl (.tmp 7) (.tmp 9) rfl rfl B _ _ xs rfl (Ho.out.alloc _) _ 1 _ [i] rfl (yg (zg _ _ _ (by simp)) rfl rfl) (by omega) (by simp;omega) ?_;intro v' w8 ho8 hg8);go_ret;refine⟨⟨v',rfl,?_⟩,Below.grown (B:=B) (Hal.out.alloc (by simp;omega) _) hg8 (by simp;omega) (fun k hk=>(Hlt.out k hk).1)⟩;rw[List.length_append];exact ho8
set_option maxRecDepth 20000 in
theorem z3z (w0 w:World) (bk bt:Nat) (a:Option Addr) (m c t:Nat) (k:Kno) (hE:Frags w0 a m c k) (hG:∀f∈k,Good f.1∧f.1.length≤1000000) (hb0:Below w0.heap.size w0 w) (hm:m≤500)
 (hbk:w.heap[bk]?=some (.cells #[.slice a m c] 25)) (hbt:w.heap[bt]?=some (.cells #[.int .u64 t] 52)):
 Calls Tryz.prog 244 #[.func (.func 246) #[] #[.pointer (some ⟨bk,0,none⟩),.pointer (some ⟨bt,0,none⟩)],.slice none 0 0,.func (.func 245) #[] #[]] w fun e w'=>
  (∃y,e=.returned y∧w'.ownsRow w.heap.size 3 1 y (zw k t).length (yw (zw k t)))∧Below w.heap.size w w':=by
 have Hml:=hid (show (zw k t).length≤500 from by
  have:=zkt k t k.length;have h2:zw k t=kz k t k.length:=rfl;rw[h2];have:=hE.len;omega)
 have hbkl:=(Array.getElem?_eq_some_iff.1 hbk).1;have hbtl:=(Array.getElem?_eq_some_iff.1 hbt).1;have hs0:=hb0.size;refine(callsIn_wide (n:=3)).1 ?_;refine callsIn_of_wp_marks Tryz.func244 rfl trivial ?_ rfl;simp only[Tryz.ntmps244,List.size_toArray,List.length_cons,List.length_nil,Nat.reduceAdd,Nat.reduceSub,Array.replicate_succ,Array.replicate_zero,List.push_toArray,List.append_toArray,List.nil_append,List.cons_append];refine wpIn_wide.2 ?_;go_wp2;refine(wpIn_wide (n:=3)).1 ?_;obtain⟨C0,hC0⟩:∃C0:Obj,C0=.cells #[.slice none 0 0] 111:=⟨_,rfl⟩;obtain⟨C1,hC1⟩:∃C1:Obj,C1=.cells #[.func (.func 245) #[] #[]] 334:=⟨_,rfl⟩;rw[←hC0,←hC1];obtain⟨wl,hwl⟩:∃wl:World,wl=(w.alloc C0).alloc C1:=⟨_,rfl⟩;rw[←hwl];have hsz:wl.heap.size=w.heap.size+2:=by rw[hwl];simp
 have hbw:Below w.heap.size w wl:=by
  rw[hwl];exact((Below.refl _ w).alloc (Nat.le_refl _) C0).alloc (by simp) C1
 have e0:wl.heap[w.heap.size]?=some C0:=by rw[hwl];exact qk (z7 rfl)
 have e1:wl.heap[w.heap.size+1]?=some C1:=by rw[hwl];exact z7 (by simp)
 clear hwl
 refine zhp (n:=3) (gf:=246) (lb:= #[.pointer (some ⟨bk,0,none⟩),.pointer (some ⟨bt,0,none⟩)]) rfl (enters_of Tryz.func246 (by kernel_rfl) rfl)
  (zt6 (3 - 1) w0 wl bk bt a m c t k hE hG (hb0.trans (hbw.mono hs0)) hm ((hbw.block _ hbkl).trans hbk) ((hbw.block _ hbtl).trans hbt))
  (fun x=>rfl) (fun k hk=>hk.elim) (fun k hk=>by omega)
  (fun pre W=>Below w.heap.size w W∧W.heap[w.heap.size+1]?=some C1∧∃v,W.heap[w.heap.size]?=some (.cells #[v] 111)∧W.ownsRow (w.heap.size+4) 3 1 v (pre.map (·.1)).length (yw (pre.map (·.1))))
  (fun _ _ _=>False) ?hI (fun _ _ _ _ h _=>h) ⟨hbw,e1,.slice none 0 0,by rw[e0,hC0],World.ownsRow_nil ..⟩ ?round ?done ?stop
 case hI=>
  rintro s A B ⟨h4,h1,v,h2,h3⟩ hk;have hs:=h4.size;exact⟨h4.trans (hk.toBelow (fun k hk'=>⟨id,by omega,by omega⟩) (by omega)),(hk.row _ (Array.getElem?_eq_some_iff.1 h1).1 ⟨id,by omega,by omega⟩).trans h1,v,(hk.row _ (Array.getElem?_eq_some_iff.1 h2).1 ⟨id,by omega,by omega⟩).trans h2,qr h3 (fun k hk1 hk2=>hk.row k hk2 ⟨id,by omega,by omega⟩)⟩
 case round=>
  rintro pre ⟨i,s1,s2⟩ W ⟨⟨rest,hV⟩,hsl⟩ ⟨h4,h1,y,h2,h3⟩ hsW;obtain⟨⟨a1,n1,z1,e1',-⟩,a2,n2,z2,e2',-⟩:=hsl (i,s1,s2) (by simp);simp only at e1' e2';subst e1' e2';clear hsl;rw[hsz] at hsW ⊢
  have hlen:(pre.map (·.1)).length+1≤500:=by
   have:=Hml.out;rw[hV,List.length_append,List.map_append,List.length_append] at this;simp at this ⊢;omega
  clear hsz hbw e0 e1 hC0 hV hE hG hbk hbt hb0;simp only[zlb];obtain⟨q,hq⟩:∃q:Nat,q=W.heap.size:=⟨_,rfl⟩
  gi_wp2
  refine⟨(Kept.refl _ W).alloc _,fun W2 hk2 hs2=>?_⟩
  try rw[World.size_alloc] at hs2
  have k1:Kept (fun k=>k≠w.heap.size+2+1) W W2:=((Kept.refl _ W).alloc _).trans hk2;have b1:W2.heap[w.heap.size+1]?=some C1:=(k1.row _ (Array.getElem?_eq_some_iff.1 h1).1 (by omega)).trans h1;have b2:W2.heap[w.heap.size]?=some (.cells #[y] 111):=(k1.row _ (Array.getElem?_eq_some_iff.1 h2).1 (by omega)).trans h2;have b4:W2.heap[q]?=some (.cells #[.slice a1 n1 z1,.slice a2 n2 z2] 85):=by rw[hq];exact(hk2.row _ (by simp) (by omega)).trans (z7 rfl)
  have B3:=hid (qr h3 (fun k hk1 hk2=>k1.row k hk2 (by omega)));have B4:=hid (h4.trans (k1.toBelow (n:=w.heap.size) (fun k hk'=>by omega) h4.size));rw[←hq];have hB4:w.heap.size+4≤W2.heap.size:=by omega
  have Hb1:=hid b1;have Hb2:=hid b2;rw[hC1] at b1;have c0:=y7 b1;have c1:=y7 b2;have c2:W2.cell? ⟨q,0,none⟩=some (.slice a1 n1 z1):=zu (i:=0) b4 rfl;have c3:W2.cell? ⟨q,1,none⟩=some (.slice a2 n2 z2):=zu (i:=1) b4 rfl;have HC1:=hid hC1;clear k1 hk2 hs2 h1 h2 h3 h4 b1 b2 b4 hq hsW hC1;have hF:=hid (z3y (w.heap.size+4) y (pre.map (·.1)) i (.slice a1 n1 z1) (.slice a2 n2 z2) W2 B3.out hB4 (by omega))
  gi_wp2_with fail
  refine(CallsIn.inRound _ (callsIn_wide.2 hF.out)).mono ?_;rintro e w3 ⟨⟨v,rfl,ho3⟩,hb3⟩;have d2:=(hb3.block _ (by omega)).trans Hb2.out;have d1:=(hb3.block _ (by omega)).trans Hb1.out;have q5:=y7 d2;have q6:=zam d2;have Hd2:=hid d2;have Hd1:=hid d1;have Ho3:=hid ho3;have Hb3:=hid hb3;obtain⟨av,cv,rfl⟩:=ks ho3;clear c0 c1 c2 c3 d1 d2 ho3 hb3
  gi_wp2
  refine⟨?_,?_,?_,_,zcj Hd2.out,?_⟩
  · exact((zqh Hb3.out).mono (fun k _ hk=>by omega)).setCell (fun _=>by simp only;omega) _
  · exact(B4.out.trans (Hb3.out.mono (by omega))).setCell (Nat.le_refl _) _
  · have h:=Hd1.out;rw[HC1.out] at h;exact(Below.heap_setCell _ _ _ _ (by simp)).trans h
  · have h:=qr Ho3.out (w':=w3.setCell ⟨w.heap.size,0,none⟩ (.slice av (pre.map (·.1)++[i]).length cv)) (fun k hk1 hk2=>Below.heap_setCell _ _ _ _ (by simp only;omega));simpa using h
 case done=>
  rintro ps W ⟨hS,-⟩ ⟨h4,h1,y,h2,h3⟩ hK;have q1:=y7 h2;rw[←hS] at h3;have H3:=hid h3;have H4:=hid h4;clear h1 h2 h3 h4 e0 e1 hS
  gi_wp2
  go_wp2;refine⟨by simp,.inl ⟨_,_,rfl,run_takeDeferred hK,?_⟩⟩;refine⟨_,results_tmp rfl _ _ _,⟨y,rfl,?_⟩,?_⟩
  · refine y9 (qr H3.out (fun k hk1 hk2=>World.putObj_heap_other (by omega))) (by omega)
  · exact(Kept.refl (fun k=>k<w.heap.size) W).putObj (fun _ h=>by have h':wl.heap.size<w.heap.size:=h;omega) _ |>.toBelow (fun _ h=>h) H4.out.size |> H4.out.trans
 case stop=>
  rintro c pre W hV h;exact h.elim
theorem zt8 (a:Option Addr) (m c t:Nat) (k:Kno) (w:World) (hE:Frags w a m c k) (hG:∀f∈k,Good f.1∧f.1.length≤1000000) (hm:m≤500):
 Calls Tryz.prog 203 #[.slice a m c,.int .u64 t] w fun e w'=>
  (∃y,e=.returned y∧w'.ownsRow w.heap.size 3 1 y (zw k t).length (yw (zw k t)))∧Below w.heap.size w w':=by
 have hal:Below w.heap.size w ((w.alloc (.cells #[.slice a m c] 25)).alloc (.cells #[.int .u64 t] 52)):=((Below.refl _ _).alloc (Nat.le_refl _) _).alloc (by simp) _;have hC:=hid (z3z w ((w.alloc (.cells #[.slice a m c] 25)).alloc (.cells #[.int .u64 t] 52)) w.heap.size (w.heap.size+1) a m c t k hE hG hal hm (qk (z7 rfl)) (z7 (by simp)));have Hal:=hid hal;clear hE hG hal;go_enter Tryz.func203,Tryz.ntmps203;go_wp2_with fail;refine(zt5 a m c t _).mono ?_;rintro e w1 ⟨rfl,rfl⟩;go_wp2_with fail;refine hC.out.mono ?_;rintro e w2 ⟨⟨y,rfl,ho⟩,hb⟩;have Ho:=hid ho;have Hb:=hid hb;clear ho hb;go_wp2;go_ret;exact⟨⟨y,rfl,y9 Ho.out Hal.out.size⟩,Hal.out.trans (Hb.out.mono Hal.out.size)⟩
end
section
open Go.RowKit
theorem zfz {c:Nat} (a:Nat) (h:c≠0):zgc (c:Int) (a:Int)=some ((c:Int),some (a:Int)):=by
 unfold zgc;rw[if_neg (by omega)]
theorem z30 (r:Nat) (e:Ent) (s:Value) (w:World):Calls Tryz.prog 156 #[.int .u64 r,ky e s] w fun x w'=>x=.returned (.int .i64 (Lib.compareInt (e.1:Int) (r:Int)))∧Below w.heap.size w w':=by
 obtain⟨er,em,eh⟩:=e;obtain⟨q0,q1,q2⟩:=zcc w (.int .u64 er) (.int .u64 em) s 101 _ (Below.refl _ _);have Hal:=hid ((Below.refl w.heap.size w).alloc (Nat.le_refl _) (.cells #[.int .u64 er,.int .u64 em,s] 101));go_enter Tryz.func156,Tryz.ntmps156;go_wp2_with fail;refine(zme er r _).mono ?_;rintro e w1 ⟨rfl,rfl⟩;go_wp2;go_ret;exact⟨rfl,Hal.out⟩
set_option maxRecDepth 20000 in
theorem zt9 (a:Option Addr) (n cap:Nat) (v:Vec) (w:World) (hE:Ents w a n cap v) (hD:Door w):
 Calls Tryz.prog 117 #[.slice a n cap] w fun x w'=>x=.returned (yl (yj (ckV v)))∧Below w.heap.size w w':=by
 have HE:=hid hE;have HD:=hid hD;have Hl:=hid hE.len;have hm:n≤9223372036854775807:=Nat.le_trans hE.room hE.most;have Hck:=hid (show ckV v=qj (zc2 v) v.length from rfl);clear hE hD;go_enter Tryz.func117,Tryz.ntmps117;go_wp2;go_loopw [3,4,5,8] (fun _ _ _ i wr=>∃k:Nat,k≤n∧i=.int .i64 k∧Below w.heap.size w wr∧Hid (∀j,j<k→zc2 v j=none)) (fun _ _ _ i _=>n - (intOf i).toNat)
 case atStart=>exact⟨0,by omega,rfl,Below.refl _ _,fun j h=>by omega⟩
 case round=>
  obtain⟨k,hk,rfl,hb,ht⟩:=hrel;have Hb:=hid hb;clear hb;by_cases hkn:k<n
  · have hkv:k<v.length:=by rw[Hl.out];exact hkn
    have HEr:=hid (HE.out.below Hb.out);obtain⟨bb,oo,rfl⟩:=HEr.out.some (by omega);obtain⟨x,m,c,hq⟩:=HEr.out.fix hkn;have Hat:=hid (show zc2 v k=match ckE (zc v k) with | some x=>some (x.1,k) | none=>if 0<k∧(zc v k).1≤(zc v (k - 1)).1 then some (3,k) else none from rfl);have Hp:=hid (show 0<k→∀w',Below wr.heap.size wr w'→w'.cell? ⟨bb,oo+(k - 1)*3,none⟩=some (.int .u64 (((zc v (k - 1)).1:Nat):Int)) from fun h0 w' h=>(HEr.out.at (k:=k - 1) (by omega) w' h).1);generalize zc v k=e at*;generalize zc v (k - 1)=p at*;have h0:(0:Int)≤k:=by omega
    have h04:(k:Int)<(n:Int):=by omega
    obtain⟨q1,q2,q3,-⟩:=hq _ (Below.refl _ _);have hal:Below wr.heap.size wr (wr.alloc (.cells #[.int .u64 e.1,.int .u64 e.2.1,.slice x m c] 101)):=(Below.refl _ _).alloc (Nat.le_refl _) _;have HX:=hid (zcc wr (.int .u64 e.1) (.int .u64 e.2.1) (.slice x m c) 101);have hDa:=HD.out.below (Nat.le_refl _) (Hb.out.trans (hal.mono Hb.out.size));have hC:=hid (zt7 e x m c (wr.alloc (.cells #[.int .u64 e.1,.int .u64 e.2.1,.slice x m c] 101)) (hq _ hal).2.2.2 hDa);have Hal:=hid hal;have HalW:=hid (Hb.out.trans (hal.mono Hb.out.size));clear hq hal hDa;obtain⟨er,em,eh⟩:=e;obtain⟨pr,pm,ph⟩:=p;simp only at q1 q2 q3 Hp Hat hC HX Hal HalW
    cases h:ckE (er,em,eh) with
    | some y=>
     obtain⟨cd,ci⟩:=y;rw[h] at Hat hC;simp only[yj,yl] at Hat hC;have hc0:=zkf h;simp only at hc0;have Hr:=hid (jg hkv ht.out Hat.out);clear h;go_wp2_with fail;refine hC.out.mono ?_;rintro z w1 ⟨rfl,hb1⟩;have Hb1:=hid (HalW.out.trans (hb1.mono HalW.out.size));clear hb1;go_wp2_with fail;refine(zci (some ((cd:Int),some (ci:Int))) _ (HD.out.below (Nat.le_refl _) Hb1.out)).mono ?_;rintro z w2 ⟨rfl,hb2⟩;have Hb2:=hid (Hb1.out.trans (hb2.mono Hb1.out.size));clear hb2;simp only[qo];go_wp2_with fail;refine(zaf cd k _).mono ?_;rintro z w3 ⟨rfl,rfl⟩;go_wp2;go_ret
     exact⟨by rw[Hck.out,Hr.out];show _=Ending.returned (yl (some ((cd:Int),some (k:Int))));rw[←zfz k hc0];rfl,Hb2.out⟩
    | none=>
     rw[h] at Hat hC;simp only[yj,yl] at Hat hC;clear h;go_wp2_with fail;refine hC.out.mono ?_;rintro z w1 ⟨rfl,hb1⟩;have Hb1:=hid hb1;have Hw1:=hid (HalW.out.trans (hb1.mono HalW.out.size));clear hb1;by_cases hk0:0<k
     · have hg:decide (0<(k:Int))=true:=by rw[decide_eq_true_iff];omega
       have hsub:IntKind.i64.wrap ((k:Int) - 1)=((k - 1:Nat):Int):=by rw[IntKind.wrap_i64];omega
       have h01:(0:Int)≤((k - 1:Nat):Int):=by omega
       have h03:((k - 1:Nat):Int)<(n:Int):=by omega
       have HX1:=hid (fun w' (h:Below w1.heap.size w1 w')=>HX.out w' (Hb1.out.trans (h.mono Hb1.out.size)));have HP1:=hid (fun w' (h:Below w1.heap.size w1 w')=>Hp.out hk0 w' (Hal.out.trans ((Hb1.out.trans (h.mono Hb1.out.size)).mono Hal.out.size)));have hK:=hid (fun w'=>z30 pr (er,em,eh) (.slice x m c) w');generalize k - 1=k1 at*;by_cases hle:er≤pr
       · have Hr:=hid (jg hkv ht.out (Hat.out.trans (if_pos ⟨hk0,hle⟩)))
         have hci:decide (Lib.compareInt (er:Int) (pr:Int)≤0)=true:=by
          unfold Lib.compareInt;rw[decide_eq_true_iff];split
          · omega
          · rw[if_neg (by omega)];omega
         generalize Lib.compareInt (er:Int) (pr:Int)=ci at*;clear hle;go_wp2_with fail;go_cut [33] (fun t wc=>t=.bool true∧Hid (Below w1.heap.size w1 wc))
         case first=>
          refine qi (by kernel_rfl) (by kernel_rfl) ?_
          repeat (go_big_quiet_step ((intro hw;first
           | rfl
           | (have q0:=HX1.out _ hw
              have q1:=q0.1;have q2:=q0.2.1;have q3:=q0.2.2;have q4:=HP1.out _ hw;clear q0
              first
              | (go_at_call 156;exact kp hw (hK.out _))
              | (go_simp
                 first | rfl | exact⟨rfl,hw⟩ | (trace_state;fail))))))
          refine wpQuiet_nil ?_;intro w3 hb3;go_wp2;go_meet
          exact⟨rfl,hb3⟩
         case rest=>
          obtain⟨rfl,hb2⟩:=hcut;have Hb2:=hid (Hw1.out.trans (hb2.out.mono Hw1.out.size));clear hb2;go_wp2_with fail;refine(zaf 3 k _).mono ?_;rintro z w3 ⟨rfl,rfl⟩;go_wp2;go_ret;exact⟨by rw[Hck.out,Hr.out];rfl,Hb2.out⟩
       · have Hr:=hid (ko ht.out (Hat.out.trans (if_neg (fun h=>hle h.2))))
         have hci:decide (Lib.compareInt (er:Int) (pr:Int)≤0)=false:=by
          unfold Lib.compareInt;rw[decide_eq_false_iff_not,if_neg (by omega),if_pos (by omega)];omega
         generalize Lib.compareInt (er:Int) (pr:Int)=ci at*;clear hle;go_wp2_with fail;go_cut [33] (fun t wc=>t=.bool false∧Hid (Below w1.heap.size w1 wc))
         case first=>
          refine qi (by kernel_rfl) (by kernel_rfl) ?_
          repeat (go_big_quiet_step ((intro hw;first
           | rfl
           | (have q0:=HX1.out _ hw
              have q1:=q0.1;have q2:=q0.2.1;have q3:=q0.2.2;have q4:=HP1.out _ hw;clear q0
              first
              | (go_at_call 156;exact kp hw (hK.out _))
              | (go_simp
                 first | rfl | exact⟨rfl,hw⟩ | (trace_state;fail))))))
          refine wpQuiet_nil ?_;intro w3 hb3;go_wp2;go_meet
          exact⟨rfl,hb3⟩
         case rest=>
          obtain⟨rfl,hb2⟩:=hcut;have Hb2:=hid (Hw1.out.trans (hb2.out.mono Hw1.out.size));clear hb2;go_wp2;go_roundw
          case rel=>exact⟨k+1,by omega,by go_num,Hb2.out,Hr.out⟩
          case measure=>simp[intOf];omega
     · have hg:decide (0<(k:Int))=false:=by rw[decide_eq_false_iff_not];omega
       have hgn:decide (0<k)=false:=by rw[decide_eq_false_iff_not];exact hk0
       have Hr:=hid (ko ht.out (Hat.out.trans (if_neg (fun h=>hk0 h.1))));clear hk0;go_wp2;go_quiet (fail);go_wp2;go_roundw
       case rel=>exact⟨k+1,by omega,by go_num,by first | exact Hw1.out | exact ye Hw1.out _,Hr.out⟩
       case measure=>simp[intOf];omega
  · obtain rfl:k=n:=by omega
    have Hr:=hid (k7 (n:=v.length) (fun j hj=>ht.out j (by rw[←Hl.out];exact hj)));go_wp2;go_ret;exact⟨by rw[Hck.out,Hr.out];rfl,Hb.out⟩
theorem zis (w:World) (x y:Value) (T:TypeId) (w':World) (h:Below (w.alloc (.cells #[x,y] T)).heap.size (w.alloc (.cells #[x,y] T)) w'):
 w'.cell? ⟨w.heap.size,0,none⟩=some x∧w'.cell? ⟨w.heap.size,1,none⟩=some y:=by
 have hrow:(w.alloc (.cells #[x,y] T)).heap[w.heap.size]?=some (.cells #[x,y] T):=z7 rfl
 exact⟨(h.cell (p:=⟨w.heap.size,0,none⟩) (by simp)).trans (zu (i:=0) hrow rfl),
  (h.cell (p:=⟨w.heap.size,1,none⟩) (by simp)).trans (zu (i:=1) hrow rfl)⟩
set_option maxRecDepth 20000 in
theorem zlc (a:Option Addr) (n cap:Nat) (k:Kno) (w:World) (hE:Frags w a n cap k) (hD:Door w):
 Calls Tryz.prog 66 #[.slice a n cap] w fun x w'=>x=.returned (yl (yj (ckF k)))∧Below w.heap.size w w':=by
 have HE:=hid hE;have HD:=hid hD;have Hl:=hid hE.len;have hm:n≤9223372036854775807:=Nat.le_trans hE.room hE.most;have Hck:=hid (show ckF k=qj (zc3 k) k.length from rfl);clear hE hD;go_enter Tryz.func66,Tryz.ntmps66;go_wp2;go_loopw [3,4,5,6,9] (fun _ _ _ _ i wr=>∃d:Nat,d≤n∧i=.int .i64 d∧Below w.heap.size w wr∧Hid (∀j,j<d→zc3 k j=none)) (fun _ _ _ _ i _=>n - (intOf i).toNat)
 case atStart=>exact⟨0,by omega,rfl,Below.refl _ _,fun j h=>by omega⟩
 case round=>
  obtain⟨d,hd,rfl,hb,ht⟩:=hrel;have Hb:=hid hb;clear hb;by_cases hdn:d<n
  · have hdk:d<k.length:=by rw[Hl.out];exact hdn
    have HEr:=hid (HE.out.below Hb.out);obtain⟨bb,oo,rfl⟩:=HEr.out.some (by omega);obtain⟨x,m,c,y,m',c',hq⟩:=HEr.out.fix hdn;have Hat:=hid (show zc3 k d=match ck (za k d).1 with | some x=>some (x.1,d) | none=>match ckV (za k d).2 with | some x=>some (x.1,d) | none=>none from rfl);have hal:Below wr.heap.size wr (wr.alloc (.cells #[.slice x m c,.slice y m' c'] 85)):=(Below.refl _ _).alloc (Nat.le_refl _) _;have HX:=hid (zis wr (.slice x m c) (.slice y m' c') 85);have HalW:=hid (Hb.out.trans (hal.mono Hb.out.size));have Hal:=hid hal;have hC:=hid (zt0 x m c (za k d).1 _ (hq _ hal).2.1 (HD.out.below (Nat.le_refl _) HalW.out))
    have hV:=hid (fun w' (h:Below (wr.alloc (.cells #[.slice x m c,.slice y m' c'] 85)).heap.size (wr.alloc (.cells #[.slice x m c,.slice y m' c'] 85)) w')=>
     zt9 y m' c' (za k d).2 w' (hq _ (hal.trans (h.mono hal.size))).2.2.2 (HD.out.below (Nat.le_refl _) (HalW.out.trans (h.mono HalW.out.size))))
    have h0:(0:Int)≤d:=by omega
    have h04:(d:Int)<(n:Int):=by omega
    obtain⟨q1,-,q2,-⟩:=hq _ (Below.refl _ _);obtain⟨x0,x1⟩:=HX.out _ (Below.refl _ _);clear hq hal;generalize za k d=f at*
    cases h:ck f.1 with
    | some z=>
     have hc0:=zh2 h;obtain⟨cd,ci⟩:=z;rw[h] at Hat hC;simp only[yj,yl] at Hat hC;simp only at hc0;have Hr:=hid (jg hdk ht.out Hat.out);clear h hV;go_wp2_with fail;refine hC.out.mono ?_;rintro z w1 ⟨rfl,hb1⟩;have Hb1:=hid (HalW.out.trans (hb1.mono HalW.out.size));clear hb1;go_wp2_with fail;refine(zci (some ((cd:Int),some (ci:Int))) _ (HD.out.below (Nat.le_refl _) Hb1.out)).mono ?_;rintro z w2 ⟨rfl,hb2⟩;have Hb2:=hid (Hb1.out.trans (hb2.mono Hb1.out.size));clear hb2;simp only[qo];go_wp2_with fail;refine(zaf cd d _).mono ?_;rintro z w3 ⟨rfl,rfl⟩;go_wp2;go_ret
     exact⟨by rw[Hck.out,Hr.out];show _=Ending.returned (yl (some ((cd:Int),some (d:Int))));rw[←zfz d hc0];rfl,Hb2.out⟩
    | none=>
     rw[h] at Hat hC;simp only[yj,yl] at Hat hC;clear h;go_wp2_with fail;refine hC.out.mono ?_;rintro z w1 ⟨rfl,hb1⟩;have Hb1:=hid hb1;have Hw1:=hid (HalW.out.trans (hb1.mono HalW.out.size));clear hb1 q1 q2 x0 x1;obtain⟨x0,x1⟩:=HX.out _ Hb1.out
     cases h:ckV f.2 with
     | some z=>
      have hc0:=zkg h;obtain⟨cd,ci⟩:=z;rw[h] at Hat hV;simp only[yj,yl] at Hat hV;simp only at hc0;have Hr:=hid (jg hdk ht.out Hat.out);clear h;go_wp2_with fail;refine(hV.out _ Hb1.out).mono ?_;rintro z w2 ⟨rfl,hb2⟩;have Hb2:=hid (Hw1.out.trans (hb2.mono Hw1.out.size));clear hb2;go_wp2_with fail;refine(zci (some ((cd:Int),some (ci:Int))) _ (HD.out.below (Nat.le_refl _) Hb2.out)).mono ?_;rintro z w3 ⟨rfl,hb3⟩;have Hb3:=hid (Hb2.out.trans (hb3.mono Hb2.out.size));clear hb3;simp only[qo];go_wp2_with fail;refine(zaf cd d _).mono ?_;rintro z w4 ⟨rfl,rfl⟩;go_wp2;go_ret
      exact⟨by rw[Hck.out,Hr.out];show _=Ending.returned (yl (some ((cd:Int),some (d:Int))));rw[←zfz d hc0];rfl,Hb3.out⟩
     | none=>
      rw[h] at Hat hV;simp only[yj,yl] at Hat hV;have Hr:=hid (ko ht.out Hat.out);clear h;go_wp2_with fail;refine(hV.out _ Hb1.out).mono ?_;rintro z w2 ⟨rfl,hb2⟩;have Hb2:=hid (Hw1.out.trans (hb2.mono Hw1.out.size));clear hb2;go_wp2;go_roundw
      case rel=>exact⟨d+1,by omega,by go_num,Hb2.out,Hr.out⟩
      case measure=>simp[intOf];omega
  · obtain rfl:d=n:=by omega
    have Hr:=hid (k7 (n:=k.length) (fun j hj=>ht.out j (by rw[←Hl.out];exact hj)));go_wp2;go_ret;exact⟨by rw[Hck.out,Hr.out];rfl,Hb.out⟩
end
end Go.Proofs.YtdnjfnofjaoajaaGreatDoor
