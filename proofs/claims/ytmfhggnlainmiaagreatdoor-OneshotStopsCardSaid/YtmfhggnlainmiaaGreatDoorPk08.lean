/- Part 08. -/
import Derived.Laws.CopyRow
import Derived.Test.YtmfhggnlainmiaaGreatDoorPk07
set_option linter.unusedVariables false
set_option maxHeartbeats 16000000
namespace Go.Proofs.YtmfhggnlainmiaaGreatDoor
open Lib (hid)
section
open Go.RowKit
theorem ziw {c:Nat} (a:Nat) (h:c≠0):zfr (c:Int) (a:Int)=some ((c:Int),some (a:Int)):=by
 unfold zfr;rw[if_neg (by omega)]
theorem z9z (r:Nat) (e:Ent) (s:Value) (w:World):Calls Tryz.prog 238 #[.int .u64 r,zbm e s] w fun x w'=>x=.returned (.int .i64 (Lib.compareInt (e.1:Int) (r:Int)))∧Below w.heap.size w w':=by
 obtain⟨er,em,eh⟩:=e;obtain⟨q0,q1,q2⟩:=zd7 w (.int .u64 er) (.int .u64 em) s 137 _ (Below.refl _ _);have Hal:=hid ((Below.refl w.heap.size w).alloc (Nat.le_refl _) (.cells #[.int .u64 er,.int .u64 em,s] 137));go_enter Tryz.func238,Tryz.ntmps238;go_wp2_with fail;refine(zrd er r _).mono ?_;rintro e w1 ⟨rfl,rfl⟩;go_wp2;go_ret;exact⟨rfl,Hal.out⟩
set_option maxRecDepth 20000 in
theorem zxv (a:Option Addr) (n cap:Nat) (v:Vec) (w:World) (hE:Ents w a n cap v) (hD:Door w):
 Calls Tryz.prog 174 #[.slice a n cap] w fun x w'=>x=.returned (zy (qk (ckV v)))∧Below w.heap.size w w':=by
 have HE:=hid hE;have HD:=hid hD;have Hl:=hid hE.len;have hm:n≤9223372036854775807:=Nat.le_trans hE.room hE.most;have Hck:=hid (show ckV v=j7 (ze4 v) v.length from rfl);clear hE hD;go_enter Tryz.func174,Tryz.ntmps174;go_wp2;go_loopw [3,4,5,8] (fun _ _ _ i wr=>∃k:Nat,k≤n∧i=.int .i64 k∧Below w.heap.size w wr∧Hid (∀j,j<k→ze4 v j=none)) (fun _ _ _ i _=>n - (intOf i).toNat)
 case atStart=>exact⟨0,by omega,rfl,Below.refl _ _,fun j h=>by omega⟩
 case round=>
  obtain⟨k,hk,rfl,hb,ht⟩:=hrel;have Hb:=hid hb;clear hb;by_cases hkn:k<n
  · have hkv:k<v.length:=by rw[Hl.out];exact hkn
    have HEr:=hid (HE.out.below Hb.out);obtain⟨bb,oo,rfl⟩:=HEr.out.some (by omega);obtain⟨x,m,c,hq⟩:=HEr.out.fix hkn;have Hat:=hid (show ze4 v k=match ckE (zg v k) with | some x=>some (x.1,k) | none=>if 0<k∧(zg v k).1≤(zg v (k - 1)).1 then some (3,k) else none from rfl);have Hp:=hid (show 0<k→∀w',Below wr.heap.size wr w'→w'.cell? ⟨bb,oo+(k - 1)*3,none⟩=some (.int .u64 (((zg v (k - 1)).1:Nat):Int)) from fun h0 w' h=>(HEr.out.at (k:=k - 1) (by omega) w' h).1);generalize zg v k=e at*;generalize zg v (k - 1)=p at*;have h0:(0:Int)≤k:=by omega
    have h04:(k:Int)<(n:Int):=by omega
    obtain⟨q1,q2,q3,-⟩:=hq _ (Below.refl _ _);have hal:Below wr.heap.size wr (wr.alloc (.cells #[.int .u64 e.1,.int .u64 e.2.1,.slice x m c] 137)):=(Below.refl _ _).alloc (Nat.le_refl _) _;have HX:=hid (zd7 wr (.int .u64 e.1) (.int .u64 e.2.1) (.slice x m c) 137);have hDa:=HD.out.below (Nat.le_refl _) (Hb.out.trans (hal.mono Hb.out.size));have hC:=hid (zxi e x m c (wr.alloc (.cells #[.int .u64 e.1,.int .u64 e.2.1,.slice x m c] 137)) (hq _ hal).2.2.2 hDa);have Hal:=hid hal;have HalW:=hid (Hb.out.trans (hal.mono Hb.out.size));clear hq hal hDa;obtain⟨er,em,eh⟩:=e;obtain⟨pr,pm,ph⟩:=p;simp only at q1 q2 q3 Hp Hat hC HX Hal HalW
    cases h:ckE (er,em,eh) with
    | some y=>
     obtain⟨cd,ci⟩:=y;rw[h] at Hat hC;simp only[qk,zy] at Hat hC;have hc0:=znx h;simp only at hc0;have Hr:=hid (zbb hkv ht.out Hat.out);clear h;go_wp2_with fail;refine hC.out.mono ?_;rintro z w1 ⟨rfl,hb1⟩;have Hb1:=hid (HalW.out.trans (hb1.mono HalW.out.size));clear hb1;go_wp2_with fail;refine(zcy (some ((cd:Int),some (ci:Int))) _ (HD.out.below (Nat.le_refl _) Hb1.out)).mono ?_;rintro z w2 ⟨rfl,hb2⟩;have Hb2:=hid (Hb1.out.trans (hb2.mono Hb1.out.size));clear hb2;simp only[je];go_wp2_with fail;refine(zaf cd k _).mono ?_;rintro z w3 ⟨rfl,rfl⟩;go_wp2;go_ret
     exact⟨by rw[Hck.out,Hr.out];show _=Ending.returned (zy (some ((cd:Int),some (k:Int))));rw[←ziw k hc0];rfl,Hb2.out⟩
    | none=>
     rw[h] at Hat hC;simp only[qk,zy] at Hat hC;clear h;go_wp2_with fail;refine hC.out.mono ?_;rintro z w1 ⟨rfl,hb1⟩;have Hb1:=hid hb1;have Hw1:=hid (HalW.out.trans (hb1.mono HalW.out.size));clear hb1;by_cases hk0:0<k
     · have hg:decide (0<(k:Int))=true:=by rw[decide_eq_true_iff];omega
       have hsub:IntKind.i64.wrap ((k:Int) - 1)=((k - 1:Nat):Int):=by rw[IntKind.wrap_i64];omega
       have h01:(0:Int)≤((k - 1:Nat):Int):=by omega
       have h03:((k - 1:Nat):Int)<(n:Int):=by omega
       have HX1:=hid (fun w' (h:Below w1.heap.size w1 w')=>HX.out w' (Hb1.out.trans (h.mono Hb1.out.size)));have HP1:=hid (fun w' (h:Below w1.heap.size w1 w')=>Hp.out hk0 w' (Hal.out.trans ((Hb1.out.trans (h.mono Hb1.out.size)).mono Hal.out.size)));have hK:=hid (fun w'=>z9z pr (er,em,eh) (.slice x m c) w');generalize k - 1=k1 at*;by_cases hle:er≤pr
       · have Hr:=hid (zbb hkv ht.out (Hat.out.trans (if_pos ⟨hk0,hle⟩)))
         have hci:decide (Lib.compareInt (er:Int) (pr:Int)≤0)=true:=by
          unfold Lib.compareInt;rw[decide_eq_true_iff];split
          · omega
          · rw[if_neg (by omega)];omega
         generalize Lib.compareInt (er:Int) (pr:Int)=ci at*;clear hle;go_wp2_with fail;go_cut [33] (fun t wc=>t=.bool true∧Hid (Below w1.heap.size w1 wc))
         case first=>
          refine jl (by kernel_rfl) (by kernel_rfl) ?_
          repeat (go_big_quiet_step ((intro hw;first
           | rfl
           | (have q0:=HX1.out _ hw
              have q1:=q0.1;have q2:=q0.2.1;have q3:=q0.2.2;have q4:=HP1.out _ hw;clear q0
              first
              | (go_at_call 238;exact jt hw (hK.out _))
              | (go_simp
                 first | rfl | exact⟨rfl,hw⟩ | (trace_state;fail))))))
          refine wpQuiet_nil ?_;intro w3 hb3;go_wp2;go_meet
          exact⟨rfl,hb3⟩
         case rest=>
          obtain⟨rfl,hb2⟩:=hcut;have Hb2:=hid (Hw1.out.trans (hb2.out.mono Hw1.out.size));clear hb2;go_wp2_with fail;refine(zaf 3 k _).mono ?_;rintro z w3 ⟨rfl,rfl⟩;go_wp2;go_ret;exact⟨by rw[Hck.out,Hr.out];rfl,Hb2.out⟩
       · have Hr:=hid (zdb ht.out (Hat.out.trans (if_neg (fun h=>hle h.2))))
         have hci:decide (Lib.compareInt (er:Int) (pr:Int)≤0)=false:=by
          unfold Lib.compareInt;rw[decide_eq_false_iff_not,if_neg (by omega),if_pos (by omega)];omega
         generalize Lib.compareInt (er:Int) (pr:Int)=ci at*;clear hle;go_wp2_with fail;go_cut [33] (fun t wc=>t=.bool false∧Hid (Below w1.heap.size w1 wc))
         case first=>
          refine jl (by kernel_rfl) (by kernel_rfl) ?_
          repeat (go_big_quiet_step ((intro hw;first
           | rfl
           | (have q0:=HX1.out _ hw
              have q1:=q0.1;have q2:=q0.2.1;have q3:=q0.2.2;have q4:=HP1.out _ hw;clear q0
              first
              | (go_at_call 238;exact jt hw (hK.out _))
              | (go_simp
                 first | rfl | exact⟨rfl,hw⟩ | (trace_state;fail))))))
          refine wpQuiet_nil ?_;intro w3 hb3;go_wp2;go_meet
          exact⟨rfl,hb3⟩
         case rest=>
          obtain⟨rfl,hb2⟩:=hcut;have Hb2:=hid (Hw1.out.trans (hb2.out.mono Hw1.out.size));clear hb2;go_wp2;go_roundw
          case rel=>exact⟨k+1,by omega,by go_num,Hb2.out,Hr.out⟩
          case measure=>simp[intOf];omega
     · have hg:decide (0<(k:Int))=false:=by rw[decide_eq_false_iff_not];omega
       have hgn:decide (0<k)=false:=by rw[decide_eq_false_iff_not];exact hk0
       have Hr:=hid (zdb ht.out (Hat.out.trans (if_neg (fun h=>hk0 h.1))));clear hk0;go_wp2;go_quiet (fail);go_wp2;go_roundw
       case rel=>exact⟨k+1,by omega,by go_num,by first | exact Hw1.out | exact z7 Hw1.out _,Hr.out⟩
       case measure=>simp[intOf];omega
  · obtain rfl:k=n:=by omega
    have Hr:=hid (zbs (n:=v.length) (fun j hj=>ht.out j (by rw[←Hl.out];exact hj)));go_wp2;go_ret;exact⟨by rw[Hck.out,Hr.out];rfl,Hb.out⟩
theorem zob {w:World} (base:Nat) (v:Value) (n:Nat) (xs:List Iv) (hown:w.ownsRow base 135 2 v n (ivC xs)) (A:Option Addr) (c:Nat) (s:Iv) (hr:Rd w 2 A 1 (ivC [s])) (hb:n+1≤1000000000000) (hbase:base≤w.heap.size):
 ∃v' w',(Builtin.append_ #[123,123] 123 #[v,.slice A 1 c]).run Tryz.prog w=.ok v' w'∧w'.ownsRow base 135 2 v' (n+1) (ivC (xs++[s]))∧w.grownBy w' v.ownBlock∧∀g',v'.ownBlock=some g'→v.ownBlock=some g'∨w.heap.size≤g':=by
 rcases hown.2 with ⟨rfl,h0⟩ | ⟨g,cap,cur,rfl,hg,hrow,hnc,hcm,hcs,htake⟩
 · have hx:xs=[]:=by
    have:=hown.1;rw[zgg,h0] at this;exact List.length_eq_zero_iff.1 (by omega)
   subst h0 hx;obtain⟨v',w',h1,h2,h3⟩:=zem (w:=w) w.heap.size (.slice none 0 0) 0 [] (World.ownsRow_nil _ _ _ _) A 1 c [s] hr (by omega) (Nat.le_refl _);exact⟨v',w',h1,qt h2 hbase,h3,fun g' e=>.inr (h2.lt _ e).1⟩
 · obtain⟨i,hi,hz,hs,hby⟩:=info_parts Tryz.info_iv;obtain⟨b,o,rfl,hc⟩:=hr.2 (by omega);by_cases hf:n+1≤cap
   · obtain⟨w',r1,r2,r3⟩:=run_append_fits (P:=Tryz.prog) w base 123 123 135 i 2 Tryz.underlying123 hi hs g n cap _ hown ⟨b,o,none⟩ 1 c (ivC [s]) rfl (hr.news (by omega)) (zwk [s]) hf;exact⟨_,w',r1,by rw[znn];exact r2,r3,fun g' e=>.inl e⟩
   · obtain⟨v',w',r1,r2,r3⟩:=run_append_arg_grows (P:=Tryz.prog) w 123 123 135 i _ 2 16 Tryz.underlying123 hi hz hs hby rfl (by omega) ⟨g,0,none⟩ n cap (ivC xs) hown.1 (fun j u hu=>hown.cells (g:=g) rfl j u hu) ⟨b,o,none⟩ 1 c (ivC [s]) rfl (hr.news (by omega)) (by omega) (by unfold maxLen;omega) (by omega);exact⟨v',w',r1,by rw[znn];exact qt r2 hbase,⟨r3.os,r3.tape,r3.output,r3.size,fun k hk _=>r3.block k hk (by simp)⟩,fun g' e=>.inr (r2.lt _ e).1⟩
theorem vh {w w':World} {base sz n:Nat} {e:TypeId} {v:Value} {xs:List Value} (h:w.ownsRow base e sz v n xs) (hk:∀k,v.ownBlock=some k→w'.heap[k]?=w.heap[k]?):w'.ownsRow base e sz v n xs:=by
 refine⟨h.1,?_⟩;rcases h.2 with h2 | ⟨g,cap,cur,hv,hg,hh,r⟩
 · exact .inl h2
 · subst hv;exact .inr ⟨g,cap,cur,rfl,hg,(hk g rfl).trans hh,r⟩
theorem map_set {β:Type} (f:Nat→β) (n k:Nat) (a:β):((List.range n).map f).set k a=(List.range n).map fun i=>if i=k then a else f i:=by
 refine List.ext_getElem (by simp) fun i h1 h2=>?_
 rw[List.getElem_set];simp only[List.getElem_map,List.getElem_range];by_cases h:k=i
 · rw[if_pos h,if_pos h.symm]
 · rw[if_neg h,if_neg (fun e=>h e.symm)]
theorem zxw:∀(ss:List (Value×Value)) (k:Nat) (x:Value),(qs ss).set (k*2) x=qs (ss.set k (x,(ss.getD k (x,x)).2))
 | [],k,x=>by simp[qs]
 | s :: ss,0,x=>rfl
 | s :: ss,k+1,x=>by
   have e1:qs (s :: ss)=s.1 :: s.2 :: qs ss:=rfl;rw[e1,show (k+1)*2=k*2+1+1 by omega,List.set_cons_succ,List.set_cons_succ,zxw ss k x]
   rfl
def zb9 (n:Nat) (X Y:Nat→Value):List Value:=qs ((List.range n).map fun i=>(X i,Y i))
def upd {β:Type} (X:Nat→β) (k:Nat) (x:β):Nat→β:=fun i=>if i=k then x else X i
theorem zeq {β:Type} (X:Nat→β) (k:Nat) (x:β):upd X k x k=x:=if_pos rfl
theorem zdh {β:Type} (X:Nat→β) {k i:Nat} (x:β) (h:i≠k):upd X k x i=X i:=if_neg h
theorem zr1 {n k:Nat} (hk:k<n) (X Y:Nat→Value) (x:Value):(zb9 n X Y).set (k*2) x=zb9 n (upd X k x) Y:=by
 unfold zb9;rw[zxw,map_set];congr 1;refine List.map_congr_left fun i hi=>?_
 by_cases h:i=k
 · subst h;simp[upd,hk]
 · simp[upd,h]
theorem zgp {n k:Nat} (hk:k<n) (X Y:Nat→Value):(zb9 n X Y)[k*2]?=some (X k)∧(zb9 n X Y)[k*2+1]?=some (Y k):=
 zj0 (p:=(X k,Y k)) (by simp[hk])
theorem z90 (n:Nat) (X Y:Nat→Value):zb9 (n+1) X Y=zb9 n X Y++[X n,Y n]:=by
 unfold zb9;rw[List.range_succ,List.map_append,znz]
 rfl
structure BldM (w2 w:World) (base g n c:Nat) (Y:Nat→Value) (L:Nat→List Iv) (X:Nat→Value):Prop where
 kept:Kept (fun b=>b<w2.heap.size∧b≠g) w2 w
 row:w.ownsRow base 127 2 (.slice (some ⟨g,0,none⟩) n c) n (zb9 n X Y)
 its:∀i,i<n→w.ownsRow w2.heap.size 135 2 (X i) (L i).length (ivC (L i))
 apart:∀i,i<n→∀j,j<n→i≠j→∀b,(X i).ownBlock=some b→(X j).ownBlock≠some b
theorem BldM.cells {w2 w:World} {base g n c:Nat} {Y:Nat→Value} {L:Nat→List Iv} {X:Nat→Value} (h:BldM w2 w base g n c Y L X) {i:Nat} (hi:i<n):w.cell? ⟨g,i*2,none⟩=some (X i)∧w.cell? ⟨g,i*2+1,none⟩=some (Y i):=by
 obtain⟨e1,e2⟩:=zgp hi X Y;have c1:=h.row.cells (g:=g) rfl _ _ e1;have c2:=h.row.cells (g:=g) rfl _ _ e2;rw[qg,Nat.zero_add] at c1 c2;exact⟨c1,c2⟩
theorem BldM.below {w2 w w':World} {base g n c:Nat} {Y:Nat→Value} {L:Nat→List Iv} {X:Nat→Value} (h:BldM w2 w base g n c Y L X) (hb:Below w.heap.size w w'):BldM w2 w' base g n c Y L X:=
 ⟨h.kept.below hb,zm h.row hb,fun i hi=>zm (h.its i hi) hb,h.apart⟩
theorem BldM.step {w2 w w':World} {base g n c j:Nat} {Y:Nat→Value} {L L':Nat→List Iv} {X:Nat→Value} (h:BldM w2 w base g n c Y L X) (hj:j<n) (hg:g<w2.heap.size) {v':Value} {l:List Iv}
 (ho:w'.ownsRow w2.heap.size 135 2 v' l.length (ivC l)) (hgr:w.grownBy w' (X j).ownBlock) (hv:∀g',v'.ownBlock=some g'→(X j).ownBlock=some g'∨w.heap.size≤g') (hL:L' j=l) (hO:∀i,i≠j→L' i=L i):
 BldM w2 (w'.setCell ⟨g,j*2,none⟩ v') base g n c Y L' (upd X j v'):=by
 have hne:∀k,(X j).ownBlock=some k→w2.heap.size≤k:=fun k hk=>((h.its j hj).lt k hk).1
 have hgw:g<w.heap.size:=Nat.lt_of_lt_of_le hg h.kept.size
 have hrow':w'.ownsRow base 127 2 (.slice (some ⟨g,0,none⟩) n c) n (zb9 n X Y):=vh h.row fun k hk=>by
  have e:k=g:=by simpa [Value.ownBlock] using hk.symm
  subst e;exact hgr.block k hgw fun e=>by have:=hne k e.symm;omega
 have hset:∀k,w2.heap.size≤k→(w'.setCell ⟨g,j*2,none⟩ v').heap[k]?=w'.heap[k]?:=fun k hk=>Below.heap_setCell _ _ _ _ (by simp only;omega)
 refine⟨(h.kept.grown hgr fun k hk hl=>?_).setCell (fun _ h=>h.2 rfl) _,?_,fun i hi=>?_,fun i hi i' hi' hii b=>?_⟩
 · have:=hne k hk;omega
 · rw[←zr1 hj];exact(hrow'.stored (j*2) v').1
 · by_cases e:i=j
   · subst e;rw[zeq,hL];exact vh ho fun k hk=>hset k (ho.lt k hk).1
   · rw[zdh _ _ e,hO i e];refine vh (h.its i hi) fun k hk=>?_
     have hkl:=(h.its i hi).lt k hk;rw[hset k hkl.1];exact hgr.block k hkl.2 (fun e'=>h.apart i hi j hj e k hk e'.symm)
 · by_cases e:i=j
   · subst e;rw[zeq,zdh _ _ (fun e=>hii e.symm)];intro hb hb';have hkl:=(h.its i' hi').lt b hb';rcases hv b hb with h' | h'
     · exact h.apart i hi i' hi' hii b h' hb'
     · omega
   · rw[zdh _ _ e];intro hb;by_cases e':i'=j
     · subst e';rw[zeq];intro hb';have hkl:=(h.its i hi).lt b hb;rcases hv b hb' with h' | h'
       · exact h.apart i hi i' hi' hii b hb h'
       · omega
     · rw[zdh _ _ e'];exact h.apart i hi i' hi' hii b hb
theorem z91 {w2 w:World} {base g:Nat} {y:Value} {v:Vec} (h:EnSl w2 base y v) (hk:Kept (fun b=>b<w2.heap.size∧b≠g) w2 w) {C:Array Value} {fr:Nat×Nat} (hg:w2.heap[g]?=some (.cells C 127 fr)) (hb:base≤g):EnSl w base y v:=by
 refine h.steady (P:=zb8) ⟨hk.size,fun k hk2 hp=>hk.row k hk2 ⟨hk2,fun e=>?_⟩⟩ (.inl rfl) (.inr rfl);subst e;rcases hp with h' | ⟨C',T,fr',hT,h'⟩
 · omega
 · rw[hg] at h';cases h';rcases hT with h | h <;> cases h
theorem BldM.frags {w2 w:World} {base g n c ib:Nat} {Y:Nat→Value} {L:Nat→List Iv} {X:Nat→Value} (h:BldM w2 w base g n c Y L X) (hg:base≤g) (hib:ib≤g) {k:Kno} (hk:k.length=n) (hL:∀i,i<n→(za k i).1=L i) (h64:∀i,i<n→zo (L i)) (hY:∀i,i<n→EnSl w2 ib (Y i) (za k i).2)
 {C:Array Value} {fr:Nat×Nat} (hr:w2.heap[g]?=some (.cells C 127 fr)):Frags w (some ⟨g,0,none⟩) n c k:=by
 have hcc:n≤c∧c≤9223372036854775807:=by
  rcases h.row.2 with ⟨h',_⟩ | ⟨g',cap,cur,h',_,_,hnc,hcm,_⟩
  · cases h'
  · cases h';unfold maxLen at hcm;omega
 refine⟨hk,hcc.1,hcc.2,(by intro e;cases e),fun hn=>⟨g,0,rfl,fun i hi=>?_⟩⟩
 · obtain⟨c1,c2⟩:=h.cells hi;rw[Nat.zero_add];constructor
   · obtain⟨a,c,e,hI⟩:=za2 (h.its i hi) (h64 i hi);rw[e] at c1;exact⟨a,_,c,c1,by rw[hL i hi];exact hI⟩
   · obtain⟨a,m,c,e,hE⟩:=z91 (hY i hi) h.kept hr hib;rw[e] at c2;exact⟨a,m,c,c2,hE.ents⟩
structure Vecs (w:World) (a:Option Addr) (n cap:Nat) (vs:List Vec):Prop where
 len:vs.length=n
 room:n≤cap
 most:cap≤9223372036854775807
 nilc:a=none→cap=0
 cells:0<n→∃b o,a=some ⟨b,o,none⟩∧∀i,i<n→EnCell w ⟨b,o+i,none⟩ (kd vs i)
theorem Vecs.below {w w':World} {a:Option Addr} {n cap:Nat} {vs:List Vec} (h:Vecs w a n cap vs) (hb:Below w.heap.size w w'):Vecs w' a n cap vs:=by
 refine⟨h.len,h.room,h.most,h.nilc,fun hn=>?_⟩;obtain⟨b,o,ha,hc⟩:=h.cells hn;exact⟨b,o,ha,fun i hi=>(hc i hi).below hb⟩
theorem Vecs.fix {w:World} {b o n cap:Nat} {vs:List Vec} (h:Vecs w (some ⟨b,o,none⟩) n cap vs) {i:Nat} (hi:i<n):∃y m c,∀w',Below w.heap.size w w'→w'.cell? ⟨b,o+i,none⟩=some (.slice y m c)∧Ents w' y m c (kd vs i):=by
 obtain⟨b',o',hs,hc⟩:=h.cells (by omega);cases hs;obtain⟨y,m,c,h1,h2⟩:=hc i hi;exact⟨y,m,c,fun w' hb=>⟨(hb.cell (zf h1)).trans h1,h2.below hb⟩⟩
theorem Vecs.some {w:World} {a:Option Addr} {n cap:Nat} {vs:List Vec} (h:Vecs w a n cap vs) (hn:0<n):∃b o,a=some ⟨b,o,none⟩:=by
 obtain⟨b,o,ha,-⟩:=h.cells hn;exact⟨b,o,ha⟩
structure Zs (w:World) (a:Option Addr) (n cap:Nat) (l:List Int):Prop where
 len:l.length=n
 room:n≤cap
 most:cap≤9223372036854775807
 nilc:a=none→cap=0
 lt:∀x∈l,-9223372036854775808≤x∧x≤9223372036854775807
 cells:0<n→∃b o,a=some ⟨b,o,none⟩∧∀i,i<n→w.cell? ⟨b,o+i,none⟩=some (.int .i64 (ze6 l i))
theorem Zs.below {w w':World} {a:Option Addr} {n cap:Nat} {l:List Int} (h:Zs w a n cap l) (hb:Below w.heap.size w w'):Zs w' a n cap l:=by
 refine⟨h.len,h.room,h.most,h.nilc,h.lt,fun hn=>?_⟩;obtain⟨b,o,ha,hc⟩:=h.cells hn;exact⟨b,o,ha,fun i hi=>(hb.cell (p:=⟨b,o+i,none⟩) (zf (hc i hi))).trans (hc i hi)⟩
theorem Ivs.at {w:World} {b o n c:Nat} {l:List Iv} (h:Ivs w (some ⟨b,o,none⟩) n c l) {j:Nat} (hj:j<n) (w':World) (hb:Below w.heap.size w w'):w'.cell? ⟨b,o+j*2,none⟩=some (.int .u64 (((zb l j).1:Nat):Int))∧w'.cell? ⟨b,o+j*2+1,none⟩=some (.int .u64 (((zb l j).2:Nat):Int)):=by
 obtain⟨b',o',e,hc⟩:=(h.below hb).cells (by omega);cases e;exact hc j hj
theorem Zs.at {w:World} {b o n c:Nat} {l:List Int} (h:Zs w (some ⟨b,o,none⟩) n c l) {j:Nat} (hj:j<n) (w':World) (hb:Below w.heap.size w w'):w'.cell? ⟨b,o+j,none⟩=some (.int .i64 (ze6 l j)):=by
 obtain⟨b',o',e,hc⟩:=(h.below hb).cells (by omega);cases e;exact hc j hj
theorem Zs.some {w:World} {a:Option Addr} {n c:Nat} {l:List Int} (h:Zs w a n c l) (hn:0<n):∃b o,a=some ⟨b,o,none⟩:=by
 obtain⟨b,o,ha,-⟩:=h.cells hn;exact⟨b,o,ha⟩
theorem Ivs.some {w:World} {a:Option Addr} {n c:Nat} {l:List Iv} (h:Ivs w a n c l) (hn:0<n):∃b o,a=some ⟨b,o,none⟩:=by
 obtain⟨b,o,ha,-⟩:=h.cells hn;exact⟨b,o,ha⟩
theorem z92 {v:Vec} (h:LtV v) {d:Nat} (hd:d<v.length):zdv v d<18446744073709551616:=by
 have h1:=(h _ (vq hd)).rep;unfold zdv;split
 · rename_i e;rw[←e];exact h1
 · omega
theorem zxx {v:Vec} (h:LtV v) (hh:∀e∈v,e.2.2.length≤500) {d:Nat} (hd:d<v.length):∀y∈zam v d,y<18446744073709551616:=by
 intro y hy;have hm:=vq hd;unfold zam at hy;rcases List.mem_append.1 hy with hy | hy
 · simp at hy;rcases hy with rfl | rfl | rfl
   · exact z92 h hd
   · exact(h _ hm).max
   · have:=hh _ hm;omega
 · exact zn7 (h _ hm).holes _ (Nat.le_refl _) y hy
theorem zr2 (x:Nat) (w:World):Calls Tryz.prog 316 #[.int .i64 x] w fun e w'=>e=.returned (.bool false)∧w'=w:=by
 go_enter Tryz.func316,Tryz.ntmps316;go_wp2;go_ret;exact⟨by simp,rfl⟩
theorem z93 (x y:Nat) (w:World):Calls Tryz.prog 291 #[.int .i64 x,.int .i64 y] w fun e w'=>e=.returned (.int .i64 (if x<y then -1 else if y<x then 1 else 0))∧w'=w:=by
 by_cases h1:x<y
 · rw[if_pos h1];go_enter Tryz.func291,Tryz.ntmps291;go_wp2_with (go_at_call 316;refine(zr2 _ _).mono ?_;rintro e w1 ⟨rfl,rfl⟩);go_ret;exact⟨rfl,rfl⟩
 · rw[if_neg h1];by_cases h2:y<x
   · rw[if_pos h2];go_enter Tryz.func291,Tryz.ntmps291;go_wp2_with (go_at_call 316;refine(zr2 _ _).mono ?_;rintro e w1 ⟨rfl,rfl⟩);go_ret;exact⟨rfl,rfl⟩
   · rw[if_neg h2];go_enter Tryz.func291,Tryz.ntmps291;go_wp2_with (go_at_call 316;refine(zr2 _ _).mono ?_;rintro e w1 ⟨rfl,rfl⟩);go_ret;exact⟨rfl,rfl⟩
set_option maxRecDepth 20000 in
theorem z94 (a d:Option Addr) (N c M c':Nat) (P R:List Nat) (w:World) (hP:U64s w a N c P) (hR:U64s w d M c' R):
 Calls Tryz.prog 245 #[.slice a N c,.slice d M c'] w fun e w'=>e=.returned (.int .i64 (vm P R))∧Below w.heap.size w w':=by
 have HP:=hid hP;have HR:=hid hR;have HN:=hid hP.len;have HM:=hid hR.len;have hNm:N≤9223372036854775807:=Nat.le_trans hP.room hP.most;have hMm:M≤9223372036854775807:=Nat.le_trans hR.room hR.most;clear hP hR;obtain⟨K,hK⟩:∃K:Nat,K=min N M:=⟨_,rfl⟩;have hK1:K≤N:=by omega
 have hK2:K≤M:=by omega
 have hK3:K=N∨K=M:=by omega
 have hmin:min (N:Int) (M:Int)=(K:Int):=by omega
 have HKc:=hid hK3;clear hK hK3;go_enter Tryz.func245,Tryz.ntmps245;go_wp2;go_loopw [5,11] (fun _ i wr=>∃k:Nat,k≤K∧i=.int .i64 k∧Below w.heap.size w wr∧Hid (vm P R=vm (P.drop k) (R.drop k))) (fun _ i _=>K - (intOf i).toNat)
 case atStart=>exact⟨0,by omega,rfl,Below.refl _ _,rfl⟩
 case round=>
  obtain⟨k,hk,rfl,hb,ht⟩:=hrel;have Hb:=hid hb;clear hb;have h0:(0:Int)≤k:=by omega
  by_cases hkK:k<K
  · have h1:k<N:=by omega
    have h2:k<M:=by omega
    have hst:=zw9 (p:=P) (q:=R) (k:=k) (by rw[HN.out];exact h1) (by rw[HM.out];exact h2);have Hst:=hid (ht.out.trans hst);obtain⟨b1,o1,rfl,hc1⟩:=(HP.out.below Hb.out).cells (by omega);obtain⟨b2,o2,rfl,hc2⟩:=(HR.out.below Hb.out).cells (by omega);have q1:=hc1 k h1;have q2:=hc2 k h2;clear hst hc1 hc2;generalize nth P k=x at*;generalize nth R k=y at*;have h01:(k:Int)<(N:Int):=by omega
    have h02:(k:Int)<(M:Int):=by omega
    have h03:(k:Int)<(K:Int):=by omega
    have hcP:=HP.out.room;have hcR:=HR.out.room;by_cases hxy:x=y
    · subst hxy;rw[if_neg (Nat.lt_irrefl _),if_neg (Nat.lt_irrefl _)] at Hst;go_wp2;go_quiet (fail);go_wp2;go_roundw
      case rel=>exact⟨k+1,by omega,by go_num,by first | exact Hb.out | exact z7 Hb.out _,Hst.out⟩
      case measure=>simp[intOf];omega
    · have hne:((x:Int) != (y:Int))=true:=by rw[bne_iff_ne];omega
      have Hci:=hid (show Lib.compareInt (x:Int) (y:Int)=vm P R from by
       rw[Hst.out];unfold Lib.compareInt;by_cases hlt:x<y
       · rw[if_pos (by omega),if_pos hlt]
       · rw[if_neg (by omega),if_neg hlt,if_pos (by omega),if_pos (by omega)])
      have hC:=hid (fun w'=>zrd x y w');rw[Hci.out] at hC;generalize hzz:vm P R=z at*;have Hzz:=hid hzz;clear hzz;have hq1:=hid (fun w' (h:Below wr.heap.size wr w')=>(h.cell (p:=⟨b1,o1+k,none⟩) (zf q1)).trans q1);have hq2:=hid (fun w' (h:Below wr.heap.size wr w')=>(h.cell (p:=⟨b2,o2+k,none⟩) (zf q2)).trans q2);clear hxy;go_wp2;go_quiet (fail);go_wp2_with fail;refine jl (by kernel_rfl) (by kernel_rfl) ?_
      repeat (go_big_quiet_step ((intro hw;first
       | rfl
       | (have q3:=hq1.out _ (by first | exact hw | exact Below.trans (z7 (Below.refl _ _) _) hw)
          have q4:=hq2.out _ (by first | exact hw | exact Below.trans (z7 (Below.refl _ _) _) hw)
          first
          | (go_at_call 177;refine(hC.out _).mono ?_;rintro e w4 ⟨rfl,rfl⟩;exact⟨rfl,hw⟩)
          | (go_simp
             first | rfl | exact⟨rfl,hw⟩ | (trace_state;fail))))))
      refine wpQuiet_nil ?_;intro w3 hb3;go_wp2;go_ret;exact⟨by rw[Hzz.out];rfl,Hb.out.trans ((by first | exact hb3 | exact Below.trans (z7 (Below.refl _ _) _) hb3:Below wr.heap.size wr w3).mono Hb.out.size)⟩
  · obtain rfl:k=K:=by omega
    have Hz:=hid (ht.out.trans (zrr (by rw[HN.out];omega) (by rw[HM.out];omega) (by rw[HN.out,HM.out];exact HKc.out)));rw[HN.out,HM.out] at Hz;have hK:=hid (fun w'=>z93 N M w');obtain⟨zz,hzz⟩:∃zz:Int,zz=if N<M then -1 else if M<N then 1 else 0:=⟨_,rfl⟩;rw[←hzz] at hK Hz;clear hzz;go_wp2_with fail;refine(hK.out _).mono ?_;rintro e w1 ⟨rfl,rfl⟩;go_wp2;go_ret;exact⟨by rw[Hz.out];rfl,Hb.out⟩
theorem zxy (v:Vec):v.length≤(yj v).length:=by
 unfold yj;rw[List.length_cons]
 induction v with
 | nil=>exact Nat.zero_le _
 | cons e v ih=>rw[List.flatMap_cons,List.length_append,List.length_cons,zlf];omega
theorem zr3 (a d:Option Addr) (n c n' c':Nat) (v u:Vec) (w:World) (hE:Ents w a n c v) (hF:Ents w d n' c' u) (fv:(yj v).length≤1000000000000) (fu:(yj u).length≤1000000000000):
 Calls Tryz.prog 189 #[.slice a n c,.slice d n' c'] w fun x w'=>x=.returned (.int .i64 (yx v u))∧Below w.heap.size w w':=by
 have hC:=hid (zxn a n c v w hE (by rw[←hE.len];exact Nat.le_trans (zxy v) fv) fv);have hD:=hid (fun w' (h:Below w.heap.size w w')=>zxn d n' c' u w' (hF.below h) (by rw[←hF.len];exact Nat.le_trans (zxy u) fu) fu);have Hpl:=hid (zlg hE.lt fv);have Hql:=hid (zlg hF.lt fu);have Hcv:=hid (show yx v u=vm (yj v) (yj u) from rfl);clear hE hF fv fu;generalize yj v=P at*;generalize yj u=R at*;go_enter Tryz.func189,Tryz.ntmps189;go_wp2_with fail;refine hC.out.mono ?_;rintro e w1 ⟨⟨y,rfl,ho1⟩,hb1⟩;have Hb1:=hid hb1;obtain⟨aP,cP,rfl,hU1⟩:=zcx ho1 Hpl.out;have HU1:=hid hU1;clear hb1 ho1 hU1;go_wp2_with fail;refine(hD.out _ Hb1.out).mono ?_;rintro e w2 ⟨⟨y,rfl,ho2⟩,hb2⟩;have Hb2:=hid (Hb1.out.trans (hb2.mono Hb1.out.size));obtain⟨aR,cR,rfl,hU2⟩:=zcx ho2 Hql.out;have HUp:=hid (HU1.out.below hb2);have HUr:=hid hU2;clear hb2 ho2 hU2;go_wp2_with fail;refine(z94 _ _ _ _ _ _ P R _ HUp.out HUr.out).mono ?_;rintro e w3 ⟨rfl,hb3⟩;have Hb3:=hid (Hb2.out.trans (hb3.mono Hb2.out.size));clear hb3;go_wp2;go_ret;exact⟨by rw[Hcv.out];rfl,Hb3.out⟩
end
section
abbrev RR (α:Type):=Except (Nat×Nat) (α×Nat)
def thn {α β:Type} (a:RR α) (f:α→Nat→RR β):RR β:=match a with | .error e=>.error e | .ok y=>f y.1 y.2
theorem ja {α β:Type} (x:α) (q:Nat) (f:α→Nat→RR β):thn (.ok (x,q)) f=f x q:=rfl
theorem zea {α β:Type} (e:Nat×Nat) (f:α→Nat→RR β):thn (.error e:RR α) f=.error e:=rfl
theorem zbc {α β γ:Type} (a:RR α) (f:α→Nat→RR β) (g:β→Nat→RR γ):thn (thn a f) g=thn a fun x q=>thn (f x q) g:=by cases a <;> rfl
theorem zca {α β:Type} {a:RR α} {f g:α→Nat→RR β} (h:∀x q,f x q=g x q):thn a f=thn a g:=by rw[show f=g from funext fun x=>funext fun q=>h x q]
abbrev ye:=Nat→Except Nat (Nat×Nat)
def nmP (T:ye) (p:Nat):RR Nat:=match T p with | .error c=>.error (c,p) | .ok y=>.ok y
def ql (x:Nat) (lim:Int) (rest:Nat):Nat:=if lim<(x:Int)∧x≠0 then 7 else if rest<x then 5 else 0
def jf (T:ye) (E:Nat) (lim:Int) (p:Nat):RR Nat:=thn (nmP T p) fun x q=>if ql x lim (E - q)=0 then .ok (x,q) else .error (ql x lim (E - q),p)
def loP (prev:Option Nat) (ap d:Nat):Option Nat:=match prev with | none=>some d | some h=>if h+1+ap+d<18446744073709551616 then some (h+1+ap+d) else none
def hiP (T:ye) (lo q:Nat):RR (Iv×Nat):=thn (nmP T q) fun y r=>if lo+y<18446744073709551616 then .ok (((lo,lo+y),q),r) else .error (8,q)
def ivP (T:ye) (prev:Option Nat) (ap p:Nat):RR (Iv×Nat):=thn (nmP T p) fun x q=>match loP prev ap x with | none=>.error (8,p) | some lo=>hiP T lo q
def qr (l:List Iv):Option Nat:=l.getLast?.map (·.2)
def zc0 {α:Type} (mx:Nat) (s:Iv×Nat) (q:Nat) (f:Iv→Nat→RR α):RR α:=if mx≤s.1.2 then .error (8,s.2) else f s.1 q
def ke (T:ye) (mx:Nat):Nat→List Iv→Nat→RR (List Iv)
 | 0,acc,p=>.ok (acc,p)
 | n+1,acc,p=>thn (ivP T (qr acc) 1 p) fun s q=>zc0 mx s q fun s q=>ke T mx n (acc++[s]) q
def zbu (v:Vec) (x:Nat):Option Nat:=match v.getLast? with | none=>some x | some e=>if e.1+1+x<18446744073709551616 then some (e.1+1+x) else none
def ze7 (T:ye) (E:Nat) (lim:Int) (r mx p:Nat):RR Ent:=thn (jf T E lim p) fun n q=>thn (ke T mx n [] q) fun h q=>.ok ((r,mx,h),q)
def zer (T:ye) (E:Nat) (lim:Int) (r p:Nat):RR Ent:=thn (nmP T p) fun mx q=>ze7 T E lim r mx q
def zao (T:ye) (E:Nat) (lim:Int) (v:Vec) (p:Nat):RR Ent:=thn (nmP T p) fun x q=>match zbu v x with | none=>.error (8,p) | some r=>zer T E lim r q
def vu (T:ye) (E:Nat) (lim:Int):Nat→Vec→Nat→RR Vec
 | 0,v,p=>.ok (v,p)
 | n+1,v,p=>thn (zao T E lim v p) fun e q=>vu T E lim n (v++[e]) q
def za3 (T:ye) (E:Nat) (le lh:Int) (p:Nat):RR Vec:=thn (jf T E le p) fun n q=>if n=0 then .error (9,p) else vu T E lh n [] q
def za4 (vs:List Vec) (v:Vec):Bool:=match vs.getLast? with | none=>false | some u=>decide (0≤yx u v)
def kg (T:ye) (E:Nat) (le lh:Int):Nat→List Vec→Nat→RR (List Vec)
 | 0,vs,p=>.ok (vs,p)
 | n+1,vs,p=>thn (za3 T E le lh p) fun v q=>if za4 vs v=true then .error (3,p) else kg T E le lh n (vs++[v]) q
def zc1 (l:List Iv) (lo:Nat):Bool:=match qr l with | none=>false | some h=>decide (lo=h+1)
def zdw {α:Type} (T:ye) (N:Nat) (tch:Bool) (ix:List Nat) (q:Nat) (f:Nat→Nat→RR α):RR α:=
 thn (nmP T q) fun x r=>if N≤x then .error (8,q) else if tch=true∧ix.getLast?=some x then .error (10,q) else f x r
def vv (T:ye) (N:Nat):Nat→List Iv→List Nat→Nat→RR (List Iv×List Nat)
 | 0,l,ix,p=>.ok ((l,ix),p)
 | m+1,l,ix,p=>thn (ivP T (qr l) 0 p) fun s q=>zdw T N (zc1 l s.1.1) ix q fun x r=>vv T N m (l++[s.1]) (ix++[x]) r
def qj (vs:List Vec) (l:List Iv) (ix:List Nat):Kno:=zn9 vs l (ix.map fun (n:Nat)=>(n:Int))
def zbq (E:Nat) (c:Kno) (p:Nat):RR Kno:=if (∃f∈c,f.1=[]) then .error (10,p) else if p<E then .error (11,p) else .ok (c,p)
def zc2 (T:ye) (E:Nat) (lim:Int) (vs:List Vec) (p:Nat):RR Kno:=thn (jf T E lim p) fun m q=>thn (vv T vs.length m [] [] q) fun s q=>zbq E (qj vs s.1 s.2) q
def jc (T:ye) (E:Nat) (L:Int×Int×Int×Int×Int) (p:Nat):RR Kno:=thn (jf T E L.2.1 p) fun n q=>thn (kg T E L.2.2.1 L.2.2.2.1 n [] q) fun vs q=>zc2 T E L.2.2.2.2 vs q
structure PS where
 tag:Nat
 v:Vec
 rep:Nat
 mx:Nat
 h:List Iv
 ents:Nat
 hls:Nat
 lo:Nat
def ps0:PS:=⟨0,[],0,0,[],0,0,0⟩
def zah (s:PS) (hls:Nat) (h:List Iv):PS:=
 if 0<hls then { s with tag:=4,h:=h,hls:=hls - 1 }
 else if 1<s.ents then { s with tag:=1,v:=s.v++[(s.rep,s.mx,h)],h:=[],ents:=s.ents - 1,hls:=0 }
 else { s with tag:=6,v:=s.v++[(s.rep,s.mx,h)],h:=[],ents:=s.ents - 1,hls:=0 }
def jm (le lh:Int) (s:PS) (x rest:Nat):Except Nat PS:=
 match s.tag with
 | 0=>if ql x le rest≠0 then .error (ql x le rest) else if x=0 then .error 9 else .ok { s with tag:=1,v:=[],ents:=x }
 | 1=>match zbu s.v x with | none=>.error 8 | some r=>.ok { s with tag:=2,rep:=r }
 | 2=>.ok { s with tag:=3,mx:=x }
 | 3=>if ql x lh rest≠0 then .error (ql x lh rest) else .ok (zah s x [])
 | 4=>match loP (qr s.h) 1 x with | none=>.error 8 | some lo=>.ok { s with tag:=5,lo:=lo }
 | _=>if s.lo+x<18446744073709551616∧s.lo+x<s.mx then .ok (zah s s.hls (s.h++[(s.lo,s.lo+x)])) else .error 8
def zhl (T:ye) (E:Nat) (le lh:Int) (s:PS) (p:Nat):RR Vec:=
 match s.tag with
 | 0=>za3 T E le lh p
 | 1=>vu T E lh s.ents s.v p
 | 2=>thn (zer T E lh s.rep p) fun e q=>vu T E lh (s.ents - 1) (s.v++[e]) q
 | 3=>thn (ze7 T E lh s.rep s.mx p) fun e q=>vu T E lh (s.ents - 1) (s.v++[e]) q
 | 4=>thn (ivP T (qr s.h) 1 p) fun i q=>zc0 s.mx i q fun i q=>thn (ke T s.mx s.hls (s.h++[i]) q) fun h q=>vu T E lh (s.ents - 1) (s.v++[(s.rep,s.mx,h)]) q
 | 5=>thn (hiP T s.lo p) fun i q=>zc0 s.mx i q fun i q=>thn (ke T s.mx s.hls (s.h++[i]) q) fun h q=>vu T E lh (s.ents - 1) (s.v++[(s.rep,s.mx,h)]) q
 | _=>.ok (s.v,p)
theorem zxz (T:ye) (E:Nat) (le lh:Int) (s:PS) (hls:Nat) (h:List Iv) (q:Nat):
 zhl T E le lh (zah s hls h) q=thn (ke T s.mx hls h q) fun h q=>vu T E lh (s.ents - 1) (s.v++[(s.rep,s.mx,h)]) q:=by
 unfold zah
 cases hls with
 | succ n=>
  rw[if_pos (Nat.succ_pos _)];simp only[zhl];rw[ke,zbc];refine zca fun s' q'=>?_
  simp only[zc0,Nat.add_sub_cancel];split
  · rw[zea]
  · rfl
 | zero=>
  rw[if_neg (by omega),ke,ja];by_cases h1:1<s.ents
  · rw[if_pos h1];rfl
  · rw[if_neg h1];show (.ok (s.v++[(s.rep,s.mx,h)],q):RR Vec)=_;rw[show s.ents - 1=0 by omega]
    rfl
theorem z95 (T:ye) (E:Nat) (le lh:Int) (s:PS) (p:Nat) (hs:s.tag<6) (he:1≤s.tag→0<s.ents):
 zhl T E le lh s p=thn (nmP T p) fun x q=>match jm le lh s x (E - q) with | .error c=>.error (c,p) | .ok s'=>zhl T E le lh s' q:=by
 obtain⟨tag,v,rep,mx,h,ents,hls,lo⟩:=s;simp only at hs he;rcases(by omega:tag=0∨tag=1∨tag=2∨tag=3∨tag=4∨tag=5) with rfl | rfl | rfl | rfl | rfl | rfl
 · show za3 T E le lh p=_;unfold za3 jf;rw[zbc];refine zca fun x q=>?_
   simp only[jm];by_cases hc:ql x le (E - q)=0
   · rw[if_pos hc,if_neg (fun h=>h hc),ja];by_cases hx:x=0
     · rw[if_pos hx,if_pos hx]
     · rw[if_neg hx,if_neg hx];rfl
   · rw[if_neg hc,if_pos hc,zea]
 · show vu T E lh ents v p=_;obtain⟨n,rfl⟩:∃n,ents=n+1:=⟨ents - 1,by have:=he (Nat.le_refl _);omega⟩;rw[vu,zao,zbc];refine zca fun x q=>?_
   simp only[jm]
   cases zbu v x with
   | none=>rfl
   | some r=>rfl
 · show thn (zer T E lh rep p) (fun e q=>vu T E lh (ents - 1) (v++[e]) q)=_;unfold zer;rw[zbc]
   rfl
 · show thn (ze7 T E lh rep mx p) (fun e q=>vu T E lh (ents - 1) (v++[e]) q)=_;unfold ze7 jf;rw[zbc,zbc];refine zca fun x q=>?_
   simp only[jm];by_cases hc:ql x lh (E - q)=0
   · rw[if_pos hc,if_neg (fun h=>h hc),ja];simp only;rw[zxz,zbc]
     rfl
   · rw[if_neg hc,if_pos hc,zea]
 · show thn (ivP T (qr h) 1 p) (fun i q=>zc0 mx i q fun i q=>thn (ke T mx hls (h++[i]) q) fun h q=>vu T E lh (ents - 1) (v++[(rep,mx,h)]) q)=_;unfold ivP;rw[zbc];refine zca fun x q=>?_
   simp only[jm]
   cases loP (qr h) 1 x with
   | none=>rfl
   | some lo=>rfl
 · show thn (hiP T lo p) (fun i q=>zc0 mx i q fun i q=>thn (ke T mx hls (h++[i]) q) fun h q=>vu T E lh (ents - 1) (v++[(rep,mx,h)]) q)=_;unfold hiP;rw[zbc];refine zca fun x q=>?_
   simp only[jm];by_cases h1:lo+x<18446744073709551616
   · rw[if_pos h1,ja];simp only[zc0];by_cases h2:mx≤lo+x
     · rw[if_pos h2,if_neg (by omega)]
     · rw[if_neg h2,if_pos ⟨h1,by omega⟩];simp only;rw[zxz]
   · rw[if_neg h1,if_neg (by omega),zea]
theorem zlk {le lh:Int} {s s':PS} {x rest:Nat} (hs:s.tag<6) (he:1≤s.tag→0<s.ents) (h:jm le lh s x rest=.ok s'):s'.tag≤6∧(1≤s'.tag→s'.tag<6→0<s'.ents)∧1≤s'.tag:=by
 obtain⟨tag,v,rep,mx,hh,ents,hls,lo⟩:=s;simp only at hs he
 have nx:∀(t:PS) (k:Nat) (l:List Iv),0<t.ents→(zah t k l).tag≤6∧(1≤(zah t k l).tag→(zah t k l).tag<6→0<(zah t k l).ents)∧1≤(zah t k l).tag:=by
  intro t k l ht;unfold zah;split
  · exact⟨by simp,fun _ _=>ht,by simp⟩
  · split
    · exact⟨by simp,fun _ _=>by simp only;omega,by simp⟩
    · exact⟨by simp,fun _ h=>absurd h (by simp),by simp⟩
 rcases(by omega:tag=0∨tag=1∨tag=2∨tag=3∨tag=4∨tag=5) with rfl | rfl | rfl | rfl | rfl | rfl <;> simp only[jm] at h
 · split at h
   · cases h
   · split at h
     · cases h
     · cases h;exact⟨by simp,fun _ _=>by simp only;omega,by simp⟩
 · cases hr:zbu v x with
   | none=>rw[hr] at h;cases h
   | some r=>rw[hr] at h;cases h;exact⟨by simp,fun _ _=>he (by simp),by simp⟩
 · cases h;exact⟨by simp,fun _ _=>he (by simp),by simp⟩
 · split at h
   · cases h
   · cases h;exact nx _ _ _ (he (by simp))
 · cases hr:loP (qr hh) 1 x with
   | none=>rw[hr] at h;cases h
   | some r=>rw[hr] at h;cases h;exact⟨by simp,fun _ _=>he (by simp),by simp⟩
 · split at h
   · cases h;exact nx _ _ _ (he (by simp))
   · cases h
end
section
open Go.RowKit
def ze (l:List Nat) (E:Nat):ye:=fun p=>match yf ((l.take E).drop p) 0 0 with | (1,x,j)=>.ok (x,p+j) | (2,_,_)=>.error 6 | _=>.error (if E≤l.length then 5 else 0)
theorem zll (w:World) (x y:Value) (T:TypeId) (w':World) (h:Below (w.alloc (.cells #[x,y] T)).heap.size (w.alloc (.cells #[x,y] T)) w'):
 w'.cell? ⟨w.heap.size,0,none⟩=some x∧w'.cell? ⟨w.heap.size,1,none⟩=some y:=by
 have hrow:(w.alloc (.cells #[x,y] T)).heap[w.heap.size]?=some (.cells #[x,y] T):=qa rfl
 exact⟨(h.cell (p:=⟨w.heap.size,0,none⟩) (by simp)).trans (ym (i:=0) hrow rfl),
  (h.cell (p:=⟨w.heap.size,1,none⟩) (by simp)).trans (ym (i:=1) hrow rfl)⟩
set_option maxRecDepth 20000 in
theorem zoc (a:Option Addr) (n cap:Nat) (k:Kno) (w:World) (hE:Frags w a n cap k) (hD:Door w):
 Calls Tryz.prog 108 #[.slice a n cap] w fun x w'=>x=.returned (zy (qk (ckF k)))∧Below w.heap.size w w':=by
 have HE:=hid hE;have HD:=hid hD;have Hl:=hid hE.len;have hm:n≤9223372036854775807:=Nat.le_trans hE.room hE.most;have Hck:=hid (show ckF k=j7 (ze5 k) k.length from rfl);clear hE hD;go_enter Tryz.func108,Tryz.ntmps108;go_wp2;go_loopw [3,4,5,6,9] (fun _ _ _ _ i wr=>∃d:Nat,d≤n∧i=.int .i64 d∧Below w.heap.size w wr∧Hid (∀j,j<d→ze5 k j=none)) (fun _ _ _ _ i _=>n - (intOf i).toNat)
 case atStart=>exact⟨0,by omega,rfl,Below.refl _ _,fun j h=>by omega⟩
 case round=>
  obtain⟨d,hd,rfl,hb,ht⟩:=hrel;have Hb:=hid hb;clear hb;by_cases hdn:d<n
  · have hdk:d<k.length:=by rw[Hl.out];exact hdn
    have HEr:=hid (HE.out.below Hb.out);obtain⟨bb,oo,rfl⟩:=HEr.out.some (by omega);obtain⟨x,m,c,y,m',c',hq⟩:=HEr.out.fix hdn;have Hat:=hid (show ze5 k d=match ck (za k d).1 with | some x=>some (x.1,d) | none=>match ckV (za k d).2 with | some x=>some (x.1,d) | none=>none from rfl);have hal:Below wr.heap.size wr (wr.alloc (.cells #[.slice x m c,.slice y m' c'] 127)):=(Below.refl _ _).alloc (Nat.le_refl _) _;have HX:=hid (zll wr (.slice x m c) (.slice y m' c') 127);have HalW:=hid (Hb.out.trans (hal.mono Hb.out.size));have Hal:=hid hal;have hC:=hid (zw7 x m c (za k d).1 _ (hq _ hal).2.1 (HD.out.below (Nat.le_refl _) HalW.out))
    have hV:=hid (fun w' (h:Below (wr.alloc (.cells #[.slice x m c,.slice y m' c'] 127)).heap.size (wr.alloc (.cells #[.slice x m c,.slice y m' c'] 127)) w')=>
     zxv y m' c' (za k d).2 w' (hq _ (hal.trans (h.mono hal.size))).2.2.2 (HD.out.below (Nat.le_refl _) (HalW.out.trans (h.mono HalW.out.size))))
    have h0:(0:Int)≤d:=by omega
    have h04:(d:Int)<(n:Int):=by omega
    obtain⟨q1,-,q2,-⟩:=hq _ (Below.refl _ _);obtain⟨x0,x1⟩:=HX.out _ (Below.refl _ _);clear hq hal;generalize za k d=f at*
    cases h:ck f.1 with
    | some z=>
     have hc0:=zlc h;obtain⟨cd,ci⟩:=z;rw[h] at Hat hC;simp only[qk,zy] at Hat hC;simp only at hc0;have Hr:=hid (zbb hdk ht.out Hat.out);clear h hV;go_wp2_with fail;refine hC.out.mono ?_;rintro z w1 ⟨rfl,hb1⟩;have Hb1:=hid (HalW.out.trans (hb1.mono HalW.out.size));clear hb1;go_wp2_with fail;refine(zcy (some ((cd:Int),some (ci:Int))) _ (HD.out.below (Nat.le_refl _) Hb1.out)).mono ?_;rintro z w2 ⟨rfl,hb2⟩;have Hb2:=hid (Hb1.out.trans (hb2.mono Hb1.out.size));clear hb2;simp only[je];go_wp2_with fail;refine(zaf cd d _).mono ?_;rintro z w3 ⟨rfl,rfl⟩;go_wp2;go_ret
     exact⟨by rw[Hck.out,Hr.out];show _=Ending.returned (zy (some ((cd:Int),some (d:Int))));rw[←ziw d hc0];rfl,Hb2.out⟩
    | none=>
     rw[h] at Hat hC;simp only[qk,zy] at Hat hC;clear h;go_wp2_with fail;refine hC.out.mono ?_;rintro z w1 ⟨rfl,hb1⟩;have Hb1:=hid hb1;have Hw1:=hid (HalW.out.trans (hb1.mono HalW.out.size));clear hb1 q1 q2 x0 x1;obtain⟨x0,x1⟩:=HX.out _ Hb1.out
     cases h:ckV f.2 with
     | some z=>
      have hc0:=zny h;obtain⟨cd,ci⟩:=z;rw[h] at Hat hV;simp only[qk,zy] at Hat hV;simp only at hc0;have Hr:=hid (zbb hdk ht.out Hat.out);clear h;go_wp2_with fail;refine(hV.out _ Hb1.out).mono ?_;rintro z w2 ⟨rfl,hb2⟩;have Hb2:=hid (Hw1.out.trans (hb2.mono Hw1.out.size));clear hb2;go_wp2_with fail;refine(zcy (some ((cd:Int),some (ci:Int))) _ (HD.out.below (Nat.le_refl _) Hb2.out)).mono ?_;rintro z w3 ⟨rfl,hb3⟩;have Hb3:=hid (Hb2.out.trans (hb3.mono Hb2.out.size));clear hb3;simp only[je];go_wp2_with fail;refine(zaf cd d _).mono ?_;rintro z w4 ⟨rfl,rfl⟩;go_wp2;go_ret
      exact⟨by rw[Hck.out,Hr.out];show _=Ending.returned (zy (some ((cd:Int),some (d:Int))));rw[←ziw d hc0];rfl,Hb3.out⟩
     | none=>
      rw[h] at Hat hV;simp only[qk,zy] at Hat hV;have Hr:=hid (zdb ht.out Hat.out);clear h;go_wp2_with fail;refine(hV.out _ Hb1.out).mono ?_;rintro z w2 ⟨rfl,hb2⟩;have Hb2:=hid (Hw1.out.trans (hb2.mono Hw1.out.size));clear hb2;go_wp2;go_roundw
      case rel=>exact⟨d+1,by omega,by go_num,Hb2.out,Hr.out⟩
      case measure=>simp[intOf];omega
  · obtain rfl:d=n:=by omega
    have Hr:=hid (zbs (n:=k.length) (fun j hj=>ht.out j (by rw[←Hl.out];exact hj)));go_wp2;go_ret;exact⟨by rw[Hck.out,Hr.out];rfl,Hb.out⟩
