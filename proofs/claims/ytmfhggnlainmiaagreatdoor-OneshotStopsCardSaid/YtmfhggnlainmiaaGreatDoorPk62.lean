/- Part 62. -/
import Derived.Test.YtmfhggnlainmiaaGreatDoorPk61
import Derived.Test.YtmfhggnlainmiaaGreatDoorPk59
set_option linter.unusedVariables false
set_option maxHeartbeats 16000000
namespace Go.Proofs.YtmfhggnlainmiaaGreatDoor
open Lib (hid)
section
open Go.RowKit
theorem zfl {w:World} {ops:Array Oper} {o:Oper} {a:Act} {K:Act→World→Prop} {Q:Exit→Act→World→Prop} {E:Prop} (hgd:o.guard=none) (s x:Operand)
 (ho:o.op=.call { callee:=.builtin .append,args:= #[s,x],argTypes:= #[123,123] }) (hty:o.type=123)
 (base:Nat) (v:Value) (n:Nat) (xs:List Iv) (hs:a.eval s=v) (hown:w.ownsRow base 135 2 v n (ivC xs)) (A:Option Addr) (m c:Nat) (l:List Iv) (hx:a.eval x=.slice A m c) (hr:Rd w 2 A m (ivC l)) (hb:n+m≤1000000) (hbase:base≤w.heap.size)
 (h:∀v' w',w'.ownsRow base 135 2 v' (n+m) (ivC (xs++l))→w.grownBy w' v.ownBlock→K (a.put o.dst v') w'):
 if Region.wanted o (yielded ops a.tmps)=true then Oper.wp Tryz.prog o a w K Q else E:=by
 obtain⟨v',w',hrun,h1,h2⟩:=zem base v n xs hown A m c l hr hb hbase;exact zft hgd s x _ ho _ _ hs hx v' w' (by rw[hty];exact hrun) (h v' w' h1 h2)
theorem zei {w w':World} {row:Option Nat} {sz g n:Nat} {xs:List Value} (hg:w.grownBy w' row) (h:Rd w sz (some ⟨g,0,none⟩) n xs) (hr:some g≠row) (hlt:g<w.heap.size):Rd w' sz (some ⟨g,0,none⟩) n xs:=
 ⟨h.1,fun hn=>by
  obtain⟨b,o,e,hc⟩:=h.2 hn;cases e;refine⟨_,_,rfl,fun j u hu=>?_⟩;rw[←hc j u hu];exact World.cell?_of_block (hg.block _ hlt hr)⟩
set_option maxRecDepth 20000 in
theorem yia (g n k cap:Nat) (l:List Iv) (t s:Iv) (w0 w:World) (hb:Below w0.heap.size w0 w) (hown:w.ownsRow w0.heap.size 135 2 (.slice (some ⟨g,0,none⟩) n cap) n (ivC (l++[t]))) (hk:n=k+1) (hn:n≤100000)
 (ht:t.1<18446744073709551616∧t.2<18446744073709551616) (hs:s.1<18446744073709551616∧s.2<18446744073709551616) (hts:zac t s=1):
 Calls Tryz.prog 265 #[.slice (some ⟨g,0,none⟩) n cap,ivV s] w fun e w'=>(∃v',e=.returned v'∧w'.ownsRow w0.heap.size 135 2 v' n (ivC (l++[(t.1,s.2)])))∧Below w0.heap.size w0 w':=by
 have hl:l.length=k:=by have:=hown.1;rw[zgg] at this;simp at this;omega
 have hR:=hid (fun w=>zu3 t s w ht hs);rw[hts] at hR
 have hcap:n≤cap:=by
  rcases hown.2 with ⟨h',_⟩ | ⟨g',cap',cur,h',_,_,hnc,_⟩
  · simp at h'
  · simp only[Value.slice.injEq,Option.some.injEq,Addr.mk.injEq,and_true,true_and] at h';obtain⟨rfl,rfl⟩:=h';exact hnc
 obtain⟨e1,e2⟩:=zgh (l++[t]) k (by simp;omega);have hnt:zb (l++[t]) k=t:=by rw[jg (by simp;omega),List.getElem_append_right (by omega)];simp
 rw[hnt] at e1 e2;have hc1:=(hown.cellAt (k*2) (by omega)).trans e1;have hc2:=(hown.cellAt (k*2+1) (by omega)).trans e2;have Ho:=hid hown;have Hb:=hid hb;have Hl:=hid hl;have hsub:IntKind.i64.wrap ((n:Int) - 1)=(k:Int):=by rw[IntKind.wrap_i64];omega
 have hg0:decide (0<(n:Int))=true:=by rw[decide_eq_true_iff];omega
 have hn0:0<n:=by omega
 have h01:(k:Int)<(n:Int):=by omega
 have h02:k≤cap:=by omega
 have Hk:=hid hk;have hgl:=zf hc1;simp only at hgl;clear ht hs hts hown hb hl hnt e1 e2 hk hcap;obtain⟨x,y⟩:=t;obtain⟨z,u⟩:=s;go_enter Tryz.func265,Tryz.ntmps265;go_wp2_with fail;have hA:Below w.heap.size w (w.alloc (.cells #[.int .u64 z,.int .u64 u] 135)):=(Below.refl _ _).alloc (Nat.le_refl _) _;have q1:=(hA.cell (p:=⟨g,k*2,none⟩) hgl).trans hc1;have q2:=(hA.cell (p:=⟨g,k*2+1,none⟩) hgl).trans hc2;have q3:(w.alloc (.cells #[.int .u64 z,.int .u64 u] 135)).cell? ⟨w.heap.size,0,none⟩=some (.int .u64 z):=by simp[go_sem]
 have q4:(w.alloc (.cells #[.int .u64 z,.int .u64 u] 135)).cell? ⟨w.heap.size,1,none⟩=some (.int .u64 u):=by simp[go_sem]
 have HA:=hid hA;have Hgs:=hid (show w.heap.size<(w.alloc (.cells #[.int .u64 z,.int .u64 u] 135)).heap.size from by simp);clear hA hc1 hc2;generalize hW:w.alloc (.cells #[.int .u64 z,.int .u64 u] 135)=W at*;have HW:=hid hW;clear hW;refine jl (by kernel_rfl) (by kernel_rfl) ?_
 repeat (go_big_quiet_step ((intro hw;first
  | rfl
  | (go_at_call 132;exact jt hw (hR.out _))
  | (have q1:=(hw.cell (p:=⟨g,k*2,none⟩) (zf q1)).trans q1
     have q2:=(hw.cell (p:=⟨g,k*2+1,none⟩) (zf q2)).trans q2;have q3:=(hw.cell (p:=⟨w.heap.size,0,none⟩) (zf q3)).trans q3;have q4:=(hw.cell (p:=⟨w.heap.size,1,none⟩) (zf q4)).trans q4;go_simp;first | rfl | exact⟨rfl,hw⟩))))
 refine wpQuiet_nil ?_;intro w3 hb3;have q1:=(hb3.cell (p:=⟨g,k*2,none⟩) (zf q1)).trans q1;have q2:=(hb3.cell (p:=⟨g,k*2+1,none⟩) (zf q2)).trans q2;have q3:=(hb3.cell (p:=⟨w.heap.size,0,none⟩) (zf q3)).trans q3;have q4:=(hb3.cell (p:=⟨w.heap.size,1,none⟩) (zf q4)).trans q4;have Hw3:=hid (HA.out.trans (hb3.mono HA.out.size));clear hb3;go_wp2_with fail;have r1:∀w',Below w3.heap.size w3 w'→w'.cell? ⟨g,k*2,none⟩=some (.int .u64 x):=fun w' h=>(h.cell (p:=⟨g,k*2,none⟩) (zf q1)).trans q1
 have r3:∀w',Below w3.heap.size w3 w'→w'.cell? ⟨w.heap.size,1,none⟩=some (.int .u64 u):=fun w' h=>(h.cell (p:=⟨w.heap.size,1,none⟩) (zf q4)).trans q4
 have Hrd:=hid (show ∀w',Below w3.heap.size w3 w'→Rd w' 2 (some ⟨g,0,none⟩) k (ivC l) from fun w' h=>by
  have h1:=(Rd.own (zfk Ho.out k (by omega))).below (Hw3.out.trans (h.mono Hw3.out.size));rwa [znn,List.take_left' (by rw[zgg,Hl.out])] at h1)
 have Hz3:=hid Hw3.out.size;clear q1 q2 q3 q4
 go_region_held3 (fun w'=>Below w3.heap.size w3 w') (first | assumption | exact(Below.refl _ _).drew | exact Below.alloc (by assumption) (Below.size (by assumption)) _) (first
  | (refine zfl rfl (.tmp 20) (.tmp 24) rfl rfl w3.heap.size _ 0 [] rfl (zet (by first | exact zh _ _ _ (by simp) | exact jp _ _ _ _ (zh _ _ _ (by simp))) (by simp <;> omega)) _ k _ l rfl (Hrd.out _ (by assumption)) (by omega) (by simp <;> omega) ?_
     intro v1 w1 ho1 hg1
     have hS1:Below w3.heap.size w3 w1:=by
      refine Below.grown ?_ hg1 ?_ ?_
      · assumption
      · simp <;> omega
      · intro j hj;simp[Value.ownBlock,Act.eval] at hj
        omega)
  | (refine zfl rfl (.tmp 25) (.tmp 35) rfl rfl w3.heap.size _ _ _ rfl (by first | exact ho1 | exact ho1.alloc _) _ 1 _ [(x,u)] rfl (by first | exact yq (zh _ _ _ (by simp)) rfl rfl | exact zei hg1 (yq (by first | exact zh _ _ _ (by simp) | exact jp _ _ _ _ (zh _ _ _ (by simp))) rfl rfl) (by simp[Value.ownBlock,Act.eval]) (by simp <;> omega)) (by omega) (by have:=hS1.size;simp <;> omega) ?_
     intro v2 w2 ho2 hg2
     have hS2:Below w3.heap.size w3 w2:=by
      refine Below.grown ?_ hg2 ?_ (fun j hj=>(ho1.lt j hj).1)
      · assumption
      · have:=hS1.size;simp <;> omega))
 all_goals
  go_wp2;go_ret;refine⟨⟨v2,rfl,?_⟩,Hb.out.trans (Hw3.out.trans (hS2.mono Hw3.out.size) |>.mono Hb.out.size)⟩;have h:=qt ho2 (Nat.le_trans Hb.out.size Hw3.out.size);rw[show (0:Nat)+k+1=n by have:=Hk.out;omega] at h;simpa using h
def zg6 (l:List Iv) (i:Nat):Option (Nat×Nat):=
 if (zb l i).2<(zb l i).1 then some (2,i) else if 0<i∧zac (zb l (i - 1)) (zb l i)≠0 then some (3,i) else none
theorem zm5 {l:List Iv} {i:Nat} (h:0<i→zdf l (i - 1)=none):zg6 l i=zdf l i:=by
 unfold zg6 zdf;by_cases h1:(zb l i).2<(zb l i).1
 · rw[if_pos h1,if_pos h1]
 · rw[if_neg h1,if_neg h1];by_cases h2:0<i
   · have h3:=h h2;unfold zdf at h3;have h4:¬(zb l (i - 1)).2<(zb l (i - 1)).1:=by intro h5;rw[if_pos h5] at h3;cases h3
     rw[z2p (by omega) (by omega)]
   · rw[if_neg (by omega),if_neg (by omega)]
theorem z38 {l:List Iv} {k:Nat} {x:Nat×Nat} (hk:k<l.length) (h:∀j,j<k→zg6 l j=none) (hx:zg6 l k=some x):ck l=some x:=by
 have h':∀j,j<k→zdf l j=none:=by
  intro j
  induction j with
  | zero=>intro hj;rw[←zm5 (by omega)];exact h 0 hj
  | succ j ih=>intro hj;rw[←zm5 (fun _=>by simpa using ih (by omega))];exact h (j+1) hj
 refine zbb hk h' ?_;rw[←hx];exact(zm5 fun hk=>h' (k - 1) (by omega)).symm
theorem yib {l:List Iv} (h:∀j,j<l.length→zg6 l j=none):ck l=none:=by
 refine zbs fun j=>?_
 induction j with
 | zero=>intro hj;rw[←zm5 (by omega)];exact h 0 hj
 | succ j ih=>intro hj;rw[←zm5 (fun _=>by simpa using ih (by omega))];exact h (j+1) hj
theorem z4a (a:Option Addr) (n cap:Nat) (l:List Iv) (w:World) (hI:Ivs w a n cap l):
 Calls Tryz.prog 77 #[.slice a n cap] w fun e w'=>e=.returned (.tuple #[.int .i64 (je (qk (ck l))),.int .i64 (j9 (qk (ck l)))])∧Below w.heap.size w w':=by
 have HI:=hid hI;have Hl:=hid hI.len;have hm:n≤9223372036854775807:=Nat.le_trans hI.room hI.most;clear hI;go_enter Tryz.func77,Tryz.ntmps77;go_wp2;go_loopw [4] (fun i wr=>∃k:Nat,k≤n∧i=.int .i64 k∧Below w.heap.size w wr∧Hid (∀j,j<k→zg6 l j=none)) (fun i _=>n - (intOf i).toNat)
 case atStart=>exact⟨0,by omega,rfl,Below.refl _ _,fun j h=>by omega⟩
 case round=>
  obtain⟨k,hk,rfl,hb,ht⟩:=hrel;have Hb:=hid hb;clear hb;by_cases hkn:k<n
  · obtain⟨bb,oo,rfl,hcell⟩:=(HI.out.below Hb.out).cells (by omega);obtain⟨hc1,hc2⟩:=hcell k hkn;have Hcell:=hid hcell;clear hcell;have Hlt:=hid (HI.out.lt (zb l k) (zbo (by rw[Hl.out];exact hkn)));have hin:zg6 l k=if (zb l k).2<(zb l k).1 then some (2,k) else if 0<k∧zac (zb l (k - 1)) (zb l k)≠0 then some (3,k) else none:=rfl;generalize hs:zb l k=s at*;have Hs:=hid hs;clear hs;have hC:=hid (fun w=>yh7 s w);by_cases h2:s.2<s.1
    · rw[if_pos h2] at hin;have Hr:=hid (show ck l=some (2,k) from z38 (by rw[Hl.out];exact hkn) ht.out hin);clear hin;rw[decide_eq_false (by omega:¬s.1≤s.2)] at hC;clear h2;go_wp2_with fail;refine(hC.out _).mono ?_;rintro e w1 ⟨rfl,hb1⟩;have Hb1:=hid (Hb.out.trans (hb1.mono Hb.out.size));clear hb1;go_wp2_with fail;go_ret2;exact⟨by rw[Hr.out];rfl,Hb1.out⟩
    · rw[if_neg h2] at hin;rw[decide_eq_true (by omega:s.1≤s.2)] at hC;clear h2;by_cases hk0:0<k
      · obtain⟨hp1,hp2⟩:=Hcell.out (k - 1) (by omega);have Hpl:=hid (HI.out.lt (zb l (k - 1)) (zbo (by rw[Hl.out];omega)));generalize hp:zb l (k - 1)=p at*;have Hp:=hid hp;clear hp;have hR:=hid (fun w=>zu3 p s w Hpl.out Hlt.out);have hg:decide (0<(k:Int))=true:=by rw[decide_eq_true_iff];omega
        have hsub:IntKind.i64.wrap ((k:Int) - 1)=(k:Int) - 1:=by rw[IntKind.wrap_i64];omega
        have h01:0≤(k:Int) - 1:=by omega
        have h02:((k:Int) - 1).toNat=k - 1:=by omega
        have h03:(k:Int) - 1<(n:Int):=by omega
        have h04:(k:Int)<(n:Int):=by omega
        have Hin:=hid hin;clear hin;go_wp2_with fail;refine(hC.out _).mono ?_;rintro e w1 ⟨rfl,hb1⟩;have hq1:=(hb1.cell (p:=⟨bb,oo+(k - 1)*2,none⟩) (zf hp1)).trans hp1;have hq2:=(hb1.cell (p:=⟨bb,oo+(k - 1)*2+1,none⟩) (zf hp2)).trans hp2;have hq3:=(hb1.cell (p:=⟨bb,oo+k*2,none⟩) (zf hc1)).trans hc1;have hq4:=(hb1.cell (p:=⟨bb,oo+k*2+1,none⟩) (zf hc2)).trans hc2;have Hb1:=hid (Hb.out.trans (hb1.mono Hb.out.size));clear hb1;clear hp1 hp2 hc1 hc2;go_wp2_with fail;refine jl (by kernel_rfl) (by kernel_rfl) ?_
        repeat (go_big_quiet_step ((intro hw;first
         | rfl
         | (go_at_call 132;exact jt hw (hR.out _))
         | (have q1:=(hw.cell (p:=⟨bb,oo+(k - 1)*2,none⟩) (zf hq1)).trans hq1
            have q2:=(hw.cell (p:=⟨bb,oo+(k - 1)*2+1,none⟩) (zf hq2)).trans hq2;have q3:=(hw.cell (p:=⟨bb,oo+k*2,none⟩) (zf hq3)).trans hq3;have q4:=(hw.cell (p:=⟨bb,oo+k*2+1,none⟩) (zf hq4)).trans hq4;go_simp;first | rfl | exact⟨rfl,hw⟩))))
        refine wpQuiet_nil ?_;intro w3 hb3;have Hb3:=hid (Hb1.out.trans (hb3.mono Hb1.out.size));clear hb3;clear hq1 hq2 hq3 hq4 h01 h02 h03 h04 hsub hg;have Hkn:=hid hkn;by_cases hr0:zac p s=0
        · have Hr:=hid (show zg6 l k=none from by rw[Hin.out,if_neg (by intro h;exact h.2 hr0)]);rw[hr0];clear hr0;go_wp2;go_roundw
          case rel=>exact⟨k+1,by omega,by go_num,Hb3.out,fun j hj=>by
           rcases Nat.lt_or_ge j k with h | h
           · exact ht.out j h
           · rw[show j=k from(by omega)];exact Hr.out⟩
          case measure=>simp[intOf];omega
        · have Hr:=hid (show ck l=some (3,k) from z38 (by rw[Hl.out];exact hkn) ht.out (by rw[Hin.out,if_pos ⟨hk0,hr0⟩]));have hne:(((zac p s:Nat):Int) != 0)=true:=by rw[bne_iff_ne];omega
          generalize zac p s=r at*;clear hr0;go_wp2_with fail;go_ret2;exact⟨by rw[Hr.out];rfl,Hb3.out⟩
      · obtain rfl:k=0:=by omega
        have Hr:=hid (show zg6 l 0=none from by rw[hin,if_neg (by omega)]);clear hin hk0;simp only[Nat.zero_mul,Nat.add_zero] at hc1 hc2;rw[show ((0:Nat):Int)=0 from rfl];go_wp2_with fail;refine(hC.out _).mono ?_;rintro e w1 ⟨rfl,hb1⟩;have Hb1:=hid (Hb.out.trans (hb1.mono Hb.out.size));clear hb1;go_wp2_with fail;refine jl (by kernel_rfl) (by kernel_rfl) ?_;repeat (go_big_quiet_step ((intro hw;rfl)))
        refine wpQuiet_nil ?_;intro w3 hb3;have Hb3:=hid (Hb1.out.trans (hb3.mono Hb1.out.size));clear hb3;go_wp2;go_roundw
        case rel=>exact⟨1,by omega,by go_num,Hb3.out,fun j hj=>by rw[show j=0 from(by omega)];exact Hr.out⟩
        case measure=>simp[intOf];omega
  · obtain rfl:k=n:=by omega
    go_wp2;go_ret2;exact⟨by rw[show ck l=none from yib (by rw[Hl.out];exact ht.out)];rfl,Hb.out⟩
theorem zqn {v:Vec} (h:LtV v) (hf:VecFits v):∀x∈yj v,x<18446744073709551616:=zlg h (zjh hf)
set_option maxRecDepth 20000 in
theorem z4b (e:Ent) (a:Option Addr) (n c:Nat) (w:World) (hI:Ivs w a n c e.2.2) (hm:e.2.1<18446744073709551616):
 Calls Tryz.prog 133 #[zbm e (.slice a n c)] w fun x w'=>x=.returned (.tuple #[.int .i64 (je (qk (ckE e))),.int .i64 (j9 (qk (ckE e)))])∧Below w.heap.size w w':=by
 obtain⟨r,m,hs⟩:=e;simp only at hI hm;have hal:Below w.heap.size w (w.alloc (.cells #[.int .u64 r,.int .u64 m,.slice a n c] 137)):=(Below.refl _ _).alloc (Nat.le_refl _) _;have hrow:(w.alloc (.cells #[.int .u64 r,.int .u64 m,.slice a n c] 137)).heap[w.heap.size]?=some (.cells #[.int .u64 r,.int .u64 m,.slice a n c] 137):=qa rfl
 have Hq1:=hid (fun w' (h:Below (w.alloc (.cells #[.int .u64 r,.int .u64 m,.slice a n c] 137)).heap.size (w.alloc (.cells #[.int .u64 r,.int .u64 m,.slice a n c] 137)) w')=>
  (h.cell (p:=⟨w.heap.size,1,none⟩) (by simp)).trans (ym (i:=1) hrow rfl))
 have Hq2:=hid (fun w' (h:Below (w.alloc (.cells #[.int .u64 r,.int .u64 m,.slice a n c] 137)).heap.size (w.alloc (.cells #[.int .u64 r,.int .u64 m,.slice a n c] 137)) w')=>
  (h.cell (p:=⟨w.heap.size,2,none⟩) (by simp)).trans (ym (i:=2) hrow rfl))
 have HI:=hid (hI.below hal);have Hl:=hid hI.len;have hnm:n≤9223372036854775807:=Nat.le_trans hI.room hI.most;have Hal:=hid hal;have hC:=hid (z4a a n c hs _ (hI.below hal));have Hck:=hid (show ckE (r,m,hs)=match ck hs with | some x=>some x | none=>j7 (zdt (r,m,hs)) hs.length from rfl);have q1:=Hq1.out _ (Below.refl _ _);have q2:=Hq2.out _ (Below.refl _ _);clear hI hm hal hrow;go_enter Tryz.func133,Tryz.ntmps133;go_wp2_with fail;refine hC.out.mono ?_;rintro e w1 ⟨rfl,hb1⟩;have Hb1:=hid hb1;clear hb1 hC q1 q2;have Hw1:=hid (Hal.out.trans (Hb1.out.mono Hal.out.size))
 cases h:ck hs with
 | some x=>
  obtain⟨cd,i⟩:=x;have hne:((cd:Int) != 0)=true:=by have:=zlc h;simp at this;rw[bne_iff_ne];omega
  rw[h] at Hck;simp only at Hck;simp only[qk,je,j9];clear h;go_wp2;go_ret2
  exact⟨by rw[Hck.out];rfl,Hw1.out⟩
 | none=>
  rw[h] at Hck;simp only at Hck;simp only[qk,je,j9];clear h;have HI1:=hid (HI.out.below Hb1.out);go_wp2;go_loopw [6] (fun i wr=>∃k q:Nat,k≤n∧i=.int .i64 k∧wr=w1.drewN q∧Hid (∀j,j<k→zdt (r,m,hs) j=none)) (fun i _=>n - (intOf i).toNat)
  case atStart=>exact⟨0,0,by omega,rfl,rfl,fun j h=>by omega⟩
  case round=>
   obtain⟨k,q,hk,rfl,rfl,ht⟩:=hrel;have q1:=Hq1.out _ Hb1.out;have q2:=Hq2.out _ Hb1.out;by_cases hkn:k<n
   · obtain⟨cb,co,rfl,hcell⟩:=HI1.out.cells (by omega);obtain⟨-,c2⟩:=hcell k hkn;clear hcell;have h0:(0:Int)≤k:=by omega
     have h04:(k:Int)<(n:Int):=by omega
     have Hh:=hid (show zdt (r,m,hs) k=if m<(zb hs k).2 then some (4,k) else none from rfl);have hkl:k<hs.length:=by rw[Hl.out];exact hkn
     generalize zb hs k=s at*;obtain⟨p,u⟩:=s;simp only at c2 Hh;by_cases hu:m<u
     · have hd1:decide ((m:Int)<(u:Int))=true:=by rw[decide_eq_true_iff];omega
       have hd2:decide (m<u)=true:=by rw[decide_eq_true_iff];omega
       have Hr:=hid (zbb hkl ht.out (Hh.out.trans (if_pos hu)));clear hu;go_wp2;go_quiet (fail);go_wp2;go_ret2;exact⟨by rw[Hck.out,Hr.out];rfl,by first | exact z7 Hw1.out _ | exact z7 (z7 Hw1.out _) _⟩
     · have hd1:decide ((m:Int)<(u:Int))=false:=by rw[decide_eq_false_iff_not];omega
       have hd2:decide (m<u)=false:=by rw[decide_eq_false_iff_not];omega
       have Hr:=hid (zdb ht.out (Hh.out.trans (if_neg hu)));clear hu;go_wp2;go_quiet (fail);go_wp2;go_roundw
       case rel=>exact⟨k+1,_,by omega,by go_num,rfl,Hr.out⟩
       case measure=>simp[intOf];omega
   · obtain rfl:k=n:=by omega
     have Hr:=hid (zbs (n:=hs.length) (fun j hj=>ht.out j (by rw[←Hl.out];exact hj)));go_wp2;go_ret2;exact⟨by rw[Hck.out,Hr.out];rfl,z7 Hw1.out _⟩
theorem yic (a:Option Addr) (cap:Nat) (s:Iv) (w0 w:World) (hb:Below w0.heap.size w0 w) (hown:w.ownsRow w0.heap.size 135 2 (.slice a 0 cap) 0 []):
 Calls Tryz.prog 265 #[.slice a 0 cap,ivV s] w fun e w'=>(∃v',e=.returned v'∧w'.ownsRow w0.heap.size 135 2 v' 1 (ivC [s]))∧Below w0.heap.size w0 w':=by
 have Ho:=hid hown;have Hb:=hid hb;clear hown hb;obtain⟨z,u⟩:=s;go_enter Tryz.func265,Tryz.ntmps265;go_wp2_with fail;have hA:Below w.heap.size w (w.alloc (.cells #[.int .u64 z,.int .u64 u] 135)):=(Below.refl _ _).alloc (Nat.le_refl _) _;have q3:(w.alloc (.cells #[.int .u64 z,.int .u64 u] 135)).cell? ⟨w.heap.size,0,none⟩=some (.int .u64 z):=by simp[go_sem]
 have q4:(w.alloc (.cells #[.int .u64 z,.int .u64 u] 135)).cell? ⟨w.heap.size,1,none⟩=some (.int .u64 u):=by simp[go_sem]
 have HA:=hid hA;clear hA;generalize hW:w.alloc (.cells #[.int .u64 z,.int .u64 u] 135)=W at*;have HW:=hid hW;clear hW;refine jl (by kernel_rfl) (by kernel_rfl) ?_;repeat (go_big_quiet_step ((intro hw;rfl)))
 refine wpQuiet_nil ?_;intro w3 hb3;have q3:=(hb3.cell (p:=⟨w.heap.size,0,none⟩) (zf q3)).trans q3;have q4:=(hb3.cell (p:=⟨w.heap.size,1,none⟩) (zf q4)).trans q4;have Hw3:=hid (HA.out.trans (hb3.mono HA.out.size));clear hb3;have Hz:=hid (Nat.le_trans Hb.out.size Hw3.out.size);obtain⟨v',w',hr,ho,hg⟩:=zem w0.heap.size (.slice a 0 cap) 0 [] ((zm Ho.out Hw3.out).alloc (.cells #[.int .u64 z,.int .u64 u] 135)) (some ⟨w3.heap.size,0,none⟩) 1 1 [(z,u)] (yq (zh _ _ _ rfl) rfl rfl) (by omega) (by have:=Hz.out;simp;omega);have Ho':=hid ho;clear ho;have Hb':=hid ((Hb.out.trans (Hw3.out.mono Hb.out.size)).alloc Hz.out (.cells #[.int .u64 z,.int .u64 u] 135) |>.grown hg (by have:=Hz.out;simp;omega) (fun k hk=>(Ho.out.lt k hk).1));clear hg;go_wp2_with (at_builtin;refine qf _ _ 123 rfl rfl _ _ rfl rfl _ _ hr ?_);go_ret;exact⟨⟨v',rfl,by simpa using Ho'.out⟩,Hb'.out⟩
set_option maxRecDepth 20000 in
theorem yid (g n k cap:Nat) (l:List Iv) (t s:Iv) (w0 w:World) (hb:Below w0.heap.size w0 w) (hown:w.ownsRow w0.heap.size 135 2 (.slice (some ⟨g,0,none⟩) n cap) n (ivC (l++[t]))) (hk:n=k+1) (hn:n≤100000)
 (ht:t.1<18446744073709551616∧t.2<18446744073709551616) (hs:s.1<18446744073709551616∧s.2<18446744073709551616) (hts:zac t s≠1):
 Calls Tryz.prog 265 #[.slice (some ⟨g,0,none⟩) n cap,ivV s] w fun e w'=>(∃v',e=.returned v'∧w'.ownsRow w0.heap.size 135 2 v' (n+1) (ivC (l++[t]++[s])))∧Below w0.heap.size w0 w':=by
 have hl:l.length=k:=by have:=hown.1;rw[zgg] at this;simp at this;omega
 have hR:=hid (fun w=>zu3 t s w ht hs);have hne:(((zac t s:Nat):Int) == 1)=false:=by rw[beq_eq_false_iff_ne];omega
 generalize zac t s=r at*;obtain⟨e1,e2⟩:=zgh (l++[t]) k (by simp;omega);have hnt:zb (l++[t]) k=t:=by rw[jg (by simp;omega),List.getElem_append_right (by omega)];simp
 rw[hnt] at e1 e2;have hc1:=(hown.cellAt (k*2) (by omega)).trans e1;have hc2:=(hown.cellAt (k*2+1) (by omega)).trans e2;have Ho:=hid hown;have Hb:=hid hb;have Hl:=hid hl;have hsub:IntKind.i64.wrap ((n:Int) - 1)=(k:Int):=by rw[IntKind.wrap_i64];omega
 have hg0:decide (0<(n:Int))=true:=by rw[decide_eq_true_iff];omega
 have hn0:0<n:=by omega
 have h01:(k:Int)<(n:Int):=by omega
 have Hk:=hid hk;have hgl:=zf hc1;simp only at hgl;clear ht hs hts hown hb hl hnt e1 e2 hk;obtain⟨x,y⟩:=t;obtain⟨z,u⟩:=s;go_enter Tryz.func265,Tryz.ntmps265;go_wp2_with fail;have hA:Below w.heap.size w (w.alloc (.cells #[.int .u64 z,.int .u64 u] 135)):=(Below.refl _ _).alloc (Nat.le_refl _) _;have q1:=(hA.cell (p:=⟨g,k*2,none⟩) hgl).trans hc1;have q2:=(hA.cell (p:=⟨g,k*2+1,none⟩) hgl).trans hc2;have q3:(w.alloc (.cells #[.int .u64 z,.int .u64 u] 135)).cell? ⟨w.heap.size,0,none⟩=some (.int .u64 z):=by simp[go_sem]
 have q4:(w.alloc (.cells #[.int .u64 z,.int .u64 u] 135)).cell? ⟨w.heap.size,1,none⟩=some (.int .u64 u):=by simp[go_sem]
 have HA:=hid hA;clear hA hc1 hc2;generalize hW:w.alloc (.cells #[.int .u64 z,.int .u64 u] 135)=W at*;have HW:=hid hW;clear hW;refine jl (by kernel_rfl) (by kernel_rfl) ?_
 repeat (go_big_quiet_step ((intro hw;first
  | rfl
  | (go_at_call 132;exact jt hw (hR.out _))
  | (have q1:=(hw.cell (p:=⟨g,k*2,none⟩) (zf q1)).trans q1
     have q2:=(hw.cell (p:=⟨g,k*2+1,none⟩) (zf q2)).trans q2;have q3:=(hw.cell (p:=⟨w.heap.size,0,none⟩) (zf q3)).trans q3;have q4:=(hw.cell (p:=⟨w.heap.size,1,none⟩) (zf q4)).trans q4;go_simp;first | rfl | exact⟨rfl,hw⟩))))
 refine wpQuiet_nil ?_;intro w3 hb3;have q3:=(hb3.cell (p:=⟨w.heap.size,0,none⟩) (zf q3)).trans q3;have q4:=(hb3.cell (p:=⟨w.heap.size,1,none⟩) (zf q4)).trans q4;have Hw3:=hid (HA.out.trans (hb3.mono HA.out.size));clear hb3 q1 q2;have Hz:=hid (Nat.le_trans Hb.out.size Hw3.out.size);obtain⟨v',w',hr,ho,hg⟩:=zem w0.heap.size (.slice (some ⟨g,0,none⟩) n cap) n (l++[(x,y)]) ((zm Ho.out Hw3.out).alloc (.cells #[.int .u64 z,.int .u64 u] 135)) (some ⟨w3.heap.size,0,none⟩) 1 1 [(z,u)] (yq (zh _ _ _ rfl) rfl rfl) (by omega) (by have:=Hz.out;simp;omega);have Ho':=hid ho;clear ho;have Hb':=hid ((Hb.out.trans (Hw3.out.mono Hb.out.size)).alloc Hz.out (.cells #[.int .u64 z,.int .u64 u] 135) |>.grown hg (by have:=Hz.out;simp;omega) (fun k hk=>(Ho.out.lt k hk).1));clear hg;go_wp2_with (at_builtin;refine qf _ _ 123 rfl rfl _ _ rfl rfl _ _ hr ?_);go_ret;exact⟨⟨v',rfl,Ho'.out⟩,Hb'.out⟩
theorem z4c {a b:Iv}:zac a b=1↔a.2+1=b.1:=by
 unfold zac;repeat' split
 all_goals omega
theorem yie (v:Value) (n:Nat) (l:List Iv) (s:Iv) (w0 w:World) (hb:Below w0.heap.size w0 w) (hown:w.ownsRow w0.heap.size 135 2 v n (ivC l)) (hn:n≤100000)
 (hl:∀t∈l,t.1<18446744073709551616∧t.2<18446744073709551616) (hs:s.1<18446744073709551616∧s.2<18446744073709551616):
 Calls Tryz.prog 265 #[v,ivV s] w fun e w'=>(∃v',e=.returned v'∧w'.ownsRow w0.heap.size 135 2 v' (zd0 l s).length (ivC (zd0 l s)))∧Below w0.heap.size w0 w':=by
 have hln:l.length=n:=by have:=hown.1;rw[zgg] at this;omega
 rcases zeu l with rfl | ⟨l,t,rfl⟩
 · obtain rfl:n=0:=by simpa using hln.symm
   obtain⟨a,cap,rfl,-⟩:=za2 hown (by simp);exact yic a cap s w0 w hb hown
 · rw[List.length_append,List.length_singleton] at hln;obtain⟨g,cap,rfl,-⟩:=hown.form (by omega);rw[zh6];by_cases h:t.2+1=s.1
   · rw[if_pos h];refine(yia g n l.length cap l t s w0 w hb hown (by omega) hn (hl t (by simp)) hs (z4c.2 h)).mono ?_;rintro e w' ⟨⟨v',h1,h2⟩,h3⟩;exact⟨⟨v',h1,by rw[List.length_append,List.length_singleton,hln];exact h2⟩,h3⟩
   · rw[if_neg h];refine(yid g n l.length cap l t s w0 w hb hown (by omega) hn (hl t (by simp)) hs (fun e=>h (z4c.1 e))).mono ?_;rintro e w' ⟨⟨v',h1,h2⟩,h3⟩;exact⟨⟨v',h1,by rw[List.length_append,List.length_append,List.length_singleton,List.length_singleton,hln];exact h2⟩,h3⟩
theorem z4d (k:Kno):(yb k).length≤(jk (k.map (·.1))).length:=by
 have h:=List.length_filter_le (fun x=>decide (x=0) || decide (zx k (x - 1)≠zx k x)) (ki k);have h2:(ki k).length≤(jk (k.map (·.1))).length:=ze1 (z3f k) (fun y hy=>(zf4 (jk (k.map fun f:Frg=>f.1)) y).1 hy);unfold yb;omega
theorem zkv (k:Kno):(zai k).length≤(jk (k.map (·.1))).length:=by
 have h1:=zmu k (yb k).length;rw[zmt] at h1;have h2:=z4d k;omega
set_option maxRecDepth 20000 in
theorem z4e (a:Option Addr) (n cap:Nat) (v:Vec) (w:World) (hE:Ents w a n cap v):
 Calls Tryz.prog 78 #[.slice a n cap] w fun x w'=>x=.returned (.tuple #[.int .i64 (je (qk (ckV v))),.int .i64 (j9 (qk (ckV v)))])∧Below w.heap.size w w':=by
 have HE:=hid hE;have Hl:=hid hE.len;have hm:n≤9223372036854775807:=Nat.le_trans hE.room hE.most;have Hck:=hid (show ckV v=j7 (ze4 v) v.length from rfl);clear hE;go_enter Tryz.func78,Tryz.ntmps78;go_wp2;go_loopw [4,5,6] (fun i _ _ wr=>∃k:Nat,k≤n∧i=.int .i64 k∧Below w.heap.size w wr∧Hid (∀j,j<k→ze4 v j=none)) (fun i _ _ _=>n - (intOf i).toNat)
 case atStart=>exact⟨0,by omega,rfl,Below.refl _ _,fun j h=>by omega⟩
 case round=>
  obtain⟨k,hk,rfl,hb,ht⟩:=hrel;have Hb:=hid hb;clear hb;by_cases hkn:k<n
  · have hkv:k<v.length:=by rw[Hl.out];exact hkn
    have HEr:=hid (HE.out.below Hb.out);obtain⟨bb,oo,rfl⟩:=HEr.out.some (by omega);have Hlt:=hid (HE.out.lt (zg v k) (vq hkv));obtain⟨x,m,c,hq⟩:=HEr.out.fix hkn;have Hq:=hid hq;clear hq;have Hat:=hid (show ze4 v k=match ckE (zg v k) with | some x=>some (x.1,k) | none=>if 0<k∧(zg v k).1≤(zg v (k - 1)).1 then some (3,k) else none from rfl);have Hp:=hid (show 0<k→∀w',Below wr.heap.size wr w'→w'.cell? ⟨bb,oo+(k - 1)*3,none⟩=some (.int .u64 (((zg v (k - 1)).1:Nat):Int)) from fun h0 w' h=>(HEr.out.at (k:=k - 1) (by omega) w' h).1);generalize zg v k=e at*;generalize zg v (k - 1)=p at*;have h0:(0:Int)≤k:=by omega
    have h04:(k:Int)<(n:Int):=by omega
    obtain⟨q1,q2,q3,q4⟩:=Hq.out _ (Below.refl _ _);have hC:=hid (z4b e x m c wr q4 Hlt.out.max);obtain⟨er,em,eh⟩:=e;obtain⟨pr,pm,ph⟩:=p;simp only at q1 q2 q3 q4 Hp Hat;clear q4
    cases h:ckE (er,em,eh) with
    | some y=>
     have hc0:=znx h;obtain⟨cd,ci⟩:=y;rw[h] at Hat hC;simp only[qk,je,j9] at Hat hC;have hne:((cd:Int) != 0)=true:=by rw[bne_iff_ne];simp at hc0;omega
     have Hr:=hid (zbb hkv ht.out Hat.out);clear h hc0;go_wp2_with fail;refine hC.out.mono ?_;rintro z w1 ⟨rfl,hb1⟩;have Hb1:=hid hb1;clear hb1;go_wp2;go_ret2
     exact⟨by rw[Hck.out,Hr.out];rfl,Hb.out.trans (Hb1.out.mono Hb.out.size)⟩
    | none=>
     rw[h] at Hat hC;simp only[qk,je,j9] at Hat hC;clear h;by_cases hk0:0<k
     · have hg:decide (0<(k:Int))=true:=by rw[decide_eq_true_iff];omega
       have hsub:IntKind.i64.wrap ((k:Int) - 1)=((k - 1:Nat):Int):=by rw[IntKind.wrap_i64];omega
       have h01:(0:Int)≤((k - 1:Nat):Int):=by omega
       have h03:((k - 1:Nat):Int)<(n:Int):=by omega
       go_wp2_with fail;refine hC.out.mono ?_;rintro z w1 ⟨rfl,hb1⟩;have Hb1:=hid hb1;clear hb1 q1 q2 q3;obtain⟨q1,q2,q3,-⟩:=Hq.out _ Hb1.out;have q5:=Hp.out hk0 _ Hb1.out;have Hw1:=hid (Hb.out.trans (Hb1.out.mono Hb.out.size));by_cases hle:er≤pr
       · have hd1:decide ((er:Int)≤(pr:Int))=true:=by rw[decide_eq_true_iff];omega
         have hd2:decide (er≤pr)=true:=by rw[decide_eq_true_iff];omega
         have Hr:=hid (zbb hkv ht.out (Hat.out.trans (if_pos ⟨hk0,hle⟩)));clear hle;go_wp2;go_quiet (fail);go_wp2;go_ret2;exact⟨by rw[Hck.out,Hr.out];rfl,by first | exact Hw1.out | exact z7 Hw1.out _⟩
       · have hd1:decide ((er:Int)≤(pr:Int))=false:=by rw[decide_eq_false_iff_not];omega
         have hd2:decide (er≤pr)=false:=by rw[decide_eq_false_iff_not];omega
         have Hr:=hid (zdb ht.out (Hat.out.trans (if_neg (fun h=>hle h.2))));clear hle;go_wp2;go_quiet (fail);go_wp2;go_roundw
         case rel=>exact⟨k+1,by omega,by go_num,by first | exact Hw1.out | exact z7 Hw1.out _,Hr.out⟩
         case measure=>simp[intOf];omega
     · have hg:decide (0<(k:Int))=false:=by rw[decide_eq_false_iff_not];omega
       have Hr:=hid (zdb ht.out (Hat.out.trans (if_neg (fun h=>hk0 h.1))));go_wp2_with fail;refine hC.out.mono ?_;rintro z w1 ⟨rfl,hb1⟩;have Hb1:=hid hb1;clear hb1;have Hw1:=hid (Hb.out.trans (Hb1.out.mono Hb.out.size));go_wp2;go_quiet (fail);go_wp2;go_roundw
       case rel=>exact⟨k+1,by omega,by go_num,by first | exact Hw1.out | exact z7 Hw1.out _,Hr.out⟩
       case measure=>simp[intOf];omega
  · obtain rfl:k=n:=by omega
    have Hr:=hid (zbs (n:=v.length) (fun j hj=>ht.out j (by rw[←Hl.out];exact hj)));go_wp2;go_ret2;exact⟨by rw[Hck.out,Hr.out];rfl,by first | exact Hb.out | exact z7 Hb.out _⟩
def zkw (v:Vec):Bool:=v.all (fun e=>decide (e.2.2.length≤30)) && decide (v.length≤20)
set_option maxRecDepth 20000 in
theorem yif (a:Option Addr) (n cap:Nat) (v:Vec) (w:World) (hE:Ents w a n cap v):
 Calls Tryz.prog 76 #[.slice a n cap] w fun x w'=>x=.returned (.bool (zkw v))∧Below w.heap.size w w':=by
 have HE:=hid hE;have Hl:=hid hE.len;have hm:n≤9223372036854775807:=Nat.le_trans hE.room hE.most;have Hcv:=hid (show zkw v=(v.all (fun e=>decide (e.2.2.length≤30)) && decide (v.length≤20)) from rfl);clear hE;go_enter Tryz.func76,Tryz.ntmps76;go_wp2;go_loopw [3] (fun i wr=>∃k:Nat,k≤n∧i=.int .i64 k∧Below w.heap.size w wr∧Hid (∀j,j<k→(zg v j).2.2.length≤30)) (fun i _=>n - (intOf i).toNat)
 case atStart=>exact⟨0,by omega,rfl,Below.refl _ _,fun j h=>by omega⟩
 case round=>
  obtain⟨k,hk,rfl,hb,ht⟩:=hrel;have Hb:=hid hb;clear hb;by_cases hkn:k<n
  · have hkv:k<v.length:=by rw[Hl.out];exact hkn
    have HEr:=hid (HE.out.below Hb.out);obtain⟨bb,oo,rfl⟩:=HEr.out.some (by omega);have Hmem:=hid (vq hkv);obtain⟨x,m,c,hq⟩:=HEr.out.fix hkn;obtain⟨-,-,q3,q4⟩:=hq _ (Below.refl _ _);have Hlen:=hid q4.len
    have Hst:=hid (show (zg v k).2.2.length≤30→∀j,j<k+1→(zg v j).2.2.length≤30 from fun h j hj=>by
     by_cases e:j=k
     · rw[e];exact h
     · exact ht.out j (by omega))
    generalize zg v k=e at*;have h0:(0:Int)≤k:=by omega
    have h04:(k:Int)<(n:Int):=by omega
    clear q4 hq;by_cases h:30<m
    · have hd:decide (30<(m:Int))=true:=by rw[decide_eq_true_iff];omega
      have Hf:=hid (show v.all (fun e=>decide (e.2.2.length≤30))=false from by
       rw[Bool.eq_false_iff];intro h2;rw[List.all_eq_true] at h2;have:=h2 _ Hmem.out;rw[decide_eq_true_iff,Hlen.out] at this;omega)
      clear h;go_wp2;go_ret;exact⟨by rw[Hcv.out,Hf.out,Bool.false_and];rfl,Hb.out⟩
    · have hd:decide (30<(m:Int))=false:=by rw[decide_eq_false_iff_not];omega
      have Hs:=hid (Hst.out (by rw[Hlen.out];omega));clear h;go_wp2;go_roundw
      case rel=>exact⟨k+1,by omega,by go_num,Hb.out,Hs.out⟩
      case measure=>simp[intOf];omega
  · obtain rfl:k=n:=by omega
    have Hr:=hid (show v.all (fun e=>decide (e.2.2.length≤30))=true from by
     rw[List.all_eq_true];intro e he;obtain⟨i,hi,rfl⟩:=List.getElem_of_mem he;have:=ht.out i (by rw[←Hl.out];exact hi);rw[j0 hi] at this;rw[decide_eq_true_iff];exact this)
    have hd1:decide ((k:Int)≤20)=decide (v.length≤20):=by rw[Hl.out];exact decide_eq_decide.2 (by omega)
    have Hd1:=hid hd1;clear hd1;go_wp2;go_ret;exact⟨by rw[Hcv.out,Hr.out,Bool.true_and,←Hd1.out];rfl,Hb.out⟩
end
section
theorem yig {L:List Seg} {l:List Iv} {i j:Nat} (h:j<l.length):zbt L (l.take (j+1)) i=zbz (zbt L (l.take j) i) (zb l j) i:=by
 unfold zbt;rw[List.take_succ_eq_append_getElem h,List.foldl_append,jg h]
 rfl
end
section
open Go.RowKit
theorem yih (l:List Iv) (x:List Nat) (d:Nat):vt l x (d+1)=vt l x d++[vz l 0 d]++[(zb l d).2 - (zb l d).1,nth x d]:=by
 rw[vt,List.append_assoc]
 rfl
def gOf (op:Nat):Bool→Bool→Bool:=if op=0 then gOr else if op=1 then zbh else ku
theorem yii (x y:Bool) (op:Nat) (hop:op<3) (w:World):Calls Tryz.prog 264 #[.bool x,.bool y,.int .i64 op] w fun e w'=>e=.returned (.bool (gOf op x y))∧Below w.heap.size w w':=by
 obtain rfl | rfl | rfl:op=0∨op=1∨op=2:=by omega
 all_goals
  cases x <;> cases y <;>
  (go_enter Tryz.func264,Tryz.ntmps264
   go_wp2;all_goals go_ret
   all_goals exact⟨rfl,by first | exact Below.refl _ _ | exact z7 (Below.refl _ _) _⟩)
set_option maxRecDepth 20000 in
theorem zqo (aa ab:Option Addr) (na ca nb cb op:Nat) (a b:List Iv) (w:World) (hIa:Ivs w aa na ca a) (hIb:Ivs w ab nb cb b) (hop:op<3) (hn:2*a.length+2*b.length+1≤100000):
 Calls Tryz.prog 213 #[.slice aa na ca,.slice ab nb cb,.int .i64 op] w fun e w'=>zef w.heap.size (opL (gOf op) a b) e w'∧Below w.heap.size w w':=by
 have HIa:=hid hIa;have HIb:=hid hIb;have Hop:=hid hop;have Hla:=hid (show zo a from hIa.lt);have Hlb:=hid (show zo b from hIb.lt);have hA:Below w.heap.size w (w.alloc (.cells #[.slice aa na ca,.slice ab nb cb] 123)):=(Below.refl _ _).alloc (Nat.le_refl _) _
 have hR:Rls (w.alloc (.cells #[.slice aa na ca,.slice ab nb cb] 123)) (some ⟨w.heap.size,0,none⟩) 2 2 [a,b]:=by
  have hrow:(w.alloc (.cells #[.slice aa na ca,.slice ab nb cb] 123)).heap[w.heap.size]?=some (.cells #[.slice aa na ca,.slice ab nb cb] 123):=qa rfl;refine⟨rfl,Nat.le_refl _,by omega,(by intro h;cases h),fun _=>⟨w.heap.size,0,rfl,fun i hi=>?_⟩⟩;obtain rfl | rfl:i=0∨i=1:=by omega
  · refine⟨aa,ca,?_,?_⟩
    · rw[show ([a,b].getD 0 []).length=na from hIa.len];exact ym (i:=0) hrow rfl
    · rw[show ([a,b].getD 0 []).length=na from hIa.len];exact hIa.below hA
  · refine⟨ab,cb,?_,?_⟩
    · rw[show ([a,b].getD 1 []).length=nb from hIb.len];exact ym (i:=1) hrow rfl
    · rw[show ([a,b].getD 1 []).length=nb from hIb.len];exact hIb.below hA
 have hal:(jk [a,b]).length≤100000:=by
  have:=zjc a;have:=zjc b;simp[jk];omega
 have hS:=hid (z37 (some ⟨w.heap.size,0,none⟩) 2 2 [a,b] _ hR (by omega) hal);have Hal:=hid hal;have HA:=hid hA;clear hR hal hIa hIb hA hop hn;go_enter Tryz.func213,Tryz.ntmps213;go_wp2_with fail;refine hS.out.mono ?_;rintro e w1 ⟨⟨v,L,rfl,ho,hAs,hmem⟩,hb1⟩;have Hb1:=hid (HA.out.trans (hb1.mono HA.out.size));clear hb1
 have hLlt:∀x∈L,x<18446744073709551616:=fun x hx=>by
  rcases(zmk a b x).1 ((hmem x).1 hx) with rfl | h | h
  · omega
  · exact zje Hla.out x h
  · exact zje Hlb.out x h
 have hLen:L.length≤100000:=Nat.le_trans (ze1 hAs fun y hy=>(hmem y).1 hy) Hal.out;obtain⟨aS,cS,rfl,hU⟩:=zcx ho hLlt;have HU:=hid hU;obtain⟨f,hf⟩:∃f:Nat→Bool,f=fun x=>gOf op (mem a x) (mem b x):=⟨_,rfl⟩
 have hLs:L=zek (jk [a,b]):=z33 hAs hmem;have hdo:vk (qz f L) []=opL (gOf op) a b:=by rw[hf,hLs];rfl
 have hfx:∀x,f x=gOf op (mem a x) (mem b x):=fun x=>by rw[hf]
 have Hdo:=hid hdo;have Hfx:=hid hfx;have HAs:=hid hAs;have HLl:=hid hLlt;have HIa1:=hid (HIa.out.below Hb1.out);have HIb1:=hid (HIb.out.below Hb1.out);have Hz1:=hid Hb1.out.size;obtain⟨M,hM⟩:∃M,M=L.length:=⟨_,rfl⟩;rw[←hM] at HU hLen ⊢;have HM:=hid hM;clear hM hdo hAs hLlt hU ho hmem hS HA Hal hf hLs hfx;go_wp2;go_loopw [8,9] (fun v i wr=>∃k:Nat,k≤M∧i=.int .i64 k∧Below w1.heap.size w1 wr∧Hid (wr.ownsRow w1.heap.size 135 2 v (vk ((qz f L).take k) []).length (ivC (vk ((qz f L).take k) [])))) (fun _ i _=>M - (intOf i).toNat)
 case atStart=>exact⟨0,by omega,rfl,Below.refl _ _,World.ownsRow_nil _ _ _ _⟩
 case round=>
  obtain⟨k,hk,rfl,hb,ho⟩:=hrel;have Hb:=hid hb;clear hb;by_cases hkM:k<M
  · have Hst:=hid (yhz f (L:=L) (k:=k) (by rw[←HM.out];exact hkM));have Hpl:=hid (z32 (L:=L) (k:=k) (by rw[←HM.out];exact hkM) HLl.out);have Htl:=hid (zpz (out:=[]) (yh0 f HLl.out k) (by simp))
    have Htn:=hid (show (vk ((qz f L).take k) []).length≤100000 from by
     have h1:=zp0 ((qz f L).take k) [];have h2:((qz f L).take k).length≤M:=by rw[List.length_take,zcj,←HM.out];omega
     simp only[List.length_nil,Nat.zero_add] at h1;omega)
    have hP:=hid (fun w' (h:Below w1.heap.size w1 w')=>z34 aS M cS k L w' (HU.out.below h) hkM (by omega) (fun h2=>by
     have:=zev HAs.out (i:=k) (j:=k+1) (by omega) (by rw[←HM.out];exact h2);omega))
    have hcS:=HU.out.cells (by omega);obtain⟨bS,oS,rfl,hcS⟩:=hcS;have hc:=hcS k hkM;have Hc:=hid (fun w' (h:Below w1.heap.size w1 w')=>(h.cell (p:=⟨bS,oS+k,none⟩) (zf hc)).trans hc);clear hcS hc;generalize htk:vk ((qz f L).take k) []=T at*;have HT:=hid htk;clear htk;have hfk:=Hfx.out (nth L k);have Hfk:=hid hfk;clear hfk;generalize zct L k=p at*;generalize nth L k=x at*;have hT:=hid (fun w=>yii (mem a x) (mem b x) op Hop.out w);rw[←Hfk.out] at hT;generalize f x=fx at*;have hki:(k:Int)<(M:Int):=by omega
    have hk0:(0:Int)≤k:=by omega
    have hcS2:=HU.out.room;go_wp2_with fail;go_cut [33] (fun v wc=>v=.bool fx∧Hid (Below wr.heap.size wr wc))
    case first=>
     refine jl (by kernel_rfl) (by kernel_rfl) ?_
     iterate 5 (go_big_quiet_step ((intro hw;first
      | rfl
      | (have q0:=Hc.out _ (Hb.out.trans (hw.mono Hb.out.size))
         go_simp;first | rfl | exact⟨rfl,hw⟩ | (trace_state;fail)))))
     go_big_quiet_step ((intro hw;go_at_call 217;exact jt hw (zjj aa na ca x a _ (HIa1.out.below (Hb.out.trans (hw.mono Hb.out.size))))))
     iterate 5 (go_big_quiet_step ((intro hw;first
      | rfl
      | (have q0:=Hc.out _ (Hb.out.trans (hw.mono Hb.out.size))
         go_simp;first | rfl | exact⟨rfl,hw⟩ | (trace_state;fail)))))
     go_big_quiet_step ((intro hw;go_at_call 217;exact jt hw (zjj ab nb cb x b _ (HIb1.out.below (Hb.out.trans (hw.mono Hb.out.size))))))
     (go_big_quiet_step ((intro hw;first
       | rfl
       | (have q0:=Hc.out _ (Hb.out.trans (hw.mono Hb.out.size))
          go_simp;first | rfl | exact⟨rfl,hw⟩ | (trace_state;fail)))))
     go_big_quiet_step ((intro hw;go_at_call 264;exact jt hw (hT.out _)));refine wpQuiet_nil ?_;intro w3 hb3;go_wp2;go_meet
     exact⟨rfl,hb3⟩
    case rest=>
     obtain⟨rfl,hb2⟩:=hcut;have Hb2:=hid (Hb.out.trans (hb2.out.mono Hb.out.size));have Ho2:=hid (zm ho.out hb2.out);clear hb2
     cases fx with
     | true=>
      rw[if_pos rfl] at Hst;go_wp2_with fail;refine(hP.out _ Hb2.out).mono ?_;rintro e w3 ⟨rfl,hb3⟩;have Hb3:=hid (Hb2.out.trans (hb3.mono Hb2.out.size));have Ho3:=hid (zm Ho2.out hb3);clear hb3;go_wp2_with fail;refine(yie _ _ _ p w1 _ Hb3.out Ho3.out Htn.out Htl.out Hpl.out).mono ?_;rintro e w4 ⟨⟨v',rfl,ho4⟩,hb4⟩;have Ho4:=hid ho4;have Hb4:=hid hb4;clear ho4 hb4;go_wp2;go_roundw
      case rel=>exact⟨k+1,by omega,by go_num,Hb4.out,by rw[Hst.out];exact Ho4.out⟩
      case measure=>simp[intOf];omega
     | false=>
      rw[if_neg (by simp)] at Hst;go_wp2;go_roundw
      case rel=>exact⟨k+1,by omega,by go_num,Hb2.out,by rw[Hst.out];exact Ho2.out⟩
      case measure=>simp[intOf];omega
  · obtain rfl:k=M:=by omega
    have Ho:=ho;have Hall:=hid (show vk ((qz f L).take k) []=opL (gOf op) a b from by rw[List.take_of_length_le (by rw[zcj,←HM.out];omega)];exact Hdo.out);rw[Hall.out] at Ho;clear ho;go_wp2;go_ret;exact⟨⟨_,rfl,qt Ho.out Hz1.out⟩,Hb1.out.trans (Hb.out.mono Hz1.out)⟩
