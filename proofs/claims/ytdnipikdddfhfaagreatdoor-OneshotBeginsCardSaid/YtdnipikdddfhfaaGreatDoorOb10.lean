/- Part 10. -/
import Derived.Test.YtdnipikdddfhfaaGreatDoorOb09
set_option linter.unusedVariables false
set_option maxHeartbeats 16000000
namespace Go.Proofs.YtdnipikdddfhfaaGreatDoor
open Lib (hid)
section
open Go.RowKit
set_option maxRecDepth 100000 in
theorem zqa (a:Option Addr) (n cap:Nat) (most:Int) (l:List Nat) (w:World) (hB:Byts w a n cap l) (hn:n≤1000000000000):
 Calls Tryz.prog 165 #[.slice a n cap,.int .i64 n,.int .i64 most] w fun e w'=>
  e=.returned (.tuple #[.int .i64 ((qk l n most).1:Nat),.int .i64 ((qk l n most).2.1:Nat),zh (qk l n most).2.2])∧Below w.heap.size w w':=by
 have HB:=hid hB;have hbad:qk l n most=(0,0,some (5,some (n:Int))):=zcg (za3 (show 0<5 by omega) (fun j hj=>by omega) (zcf (by rw[hB.len];omega)));have Hbad:=hid hbad;clear hbad;obtain⟨hl,hlt,hnc,hcm,hnil,hc⟩:=hB;clear hcm hl hlt hc;have h0p:(0:Int)≤(n:Int):=by omega
 have Hb0:=hid ((Below.refl w.heap.size w).alloc (Nat.le_refl _) (.cells #[.int .u8 0,.int .u8 0,.int .u8 0,.int .u8 0] 139))
 cases a with
 | none=>
  have hc0:=hnil rfl;obtain rfl:n=0:=by omega
  subst hc0;clear hnil;go_enter Tryz.func165,Tryz.ntmps165;go_wp2_with fail;go_region_law (refine step_copy_splice rfl (.tmp 20) (.tmp 23) 22 22 rfl 5 Tryz.underlying22 (by kernel_rfl) (some ⟨w.heap.size,0,none⟩) _ 4 4 _ _ rfl rfl w.heap.size 0 [.int .u8 0,.int .u8 0,.int .u8 0,.int .u8 0] 139 (heap_alloc_new _ _) [] rfl (fun h=>absurd h (Nat.lt_irrefl 0)) (Nat.zero_le _) (by intro v hv;cases hv) w.heap.size w Hb0.out.drew (Nat.le_refl _) ?_;intro w4 hg4 hb4)
  have Hg4:=hid hg4.out;clear hg4;go_wp2_with fail;refine(zcm _).mono ?_;rintro e w5 ⟨rfl,hb5⟩;have hgl4:w.heap.size<w4.heap.size:=(Array.getElem?_eq_some_iff.1 Hg4.out).1;have hgl:w.heap.size<w5.heap.size:=Nat.lt_of_lt_of_le hgl4 hb5.size;have hg5:=(hb5.block w.heap.size hgl4).trans Hg4.out;have c0:=cell_of_row w5 w.heap.size 0 _ _ _ hg5;have c1:=cell_of_row w5 w.heap.size 1 _ _ _ hg5;have c2:=cell_of_row w5 w.heap.size 2 _ _ _ hg5;have c3:=cell_of_row w5 w.heap.size 3 _ _ _ hg5;simp only[splice,List.take_zero,List.nil_append,List.length_nil,Nat.add_zero,List.drop_zero,List.getElem?_toArray,List.getElem?_cons_zero,List.getElem?_cons_succ] at c0 c1 c2 c3;have hb:=hb4.trans (hb5.mono hb4.size);clear hg5 hb4 hb5 Hg4 hgl4;have he4:=zb8;go_wp2_with fail;refine wp_loop_once ?_;go_wp2_with fail;refine(qm 5 _ _).mono ?_;rintro e w' ⟨rfl,rfl⟩;go_wp2_with fail;go_ret3
  refine⟨?_,hb.alloc hb.size _⟩;rw[Hbad.out]
  rfl
 | some x=>
  clear hnil;by_cases hcn:cap=n
  · subst hcn;go_enter Tryz.func165,Tryz.ntmps165;go_wp2_with fail;go_region_law (refine step_copy_splice rfl (.tmp 20) (.tmp 23) 22 22 rfl 5 Tryz.underlying22 (by kernel_rfl) (some ⟨w.heap.size,0,none⟩) _ 4 4 _ _ rfl rfl w.heap.size 0 [.int .u8 0,.int .u8 0,.int .u8 0,.int .u8 0] 139 (heap_alloc_new _ _) [] (by simp) (fun h=>absurd h (Nat.lt_irrefl 0)) (Nat.zero_le _) (by intro v hv;cases hv) w.heap.size w Hb0.out.drew (Nat.le_refl _) ?_;intro w4 hg4 hb4)
    have Hg4:=hid hg4.out;clear hg4;go_wp2_with fail;refine(zcm _).mono ?_;rintro e w5 ⟨rfl,hb5⟩;have hgl4:w.heap.size<w4.heap.size:=(Array.getElem?_eq_some_iff.1 Hg4.out).1;have hgl:w.heap.size<w5.heap.size:=Nat.lt_of_lt_of_le hgl4 hb5.size;have hg5:=(hb5.block w.heap.size hgl4).trans Hg4.out;have c0:=cell_of_row w5 w.heap.size 0 _ _ _ hg5;have c1:=cell_of_row w5 w.heap.size 1 _ _ _ hg5;have c2:=cell_of_row w5 w.heap.size 2 _ _ _ hg5;have c3:=cell_of_row w5 w.heap.size 3 _ _ _ hg5;simp only[splice,List.take_zero,List.nil_append,List.length_nil,Nat.add_zero,List.drop_zero,List.getElem?_toArray,List.getElem?_cons_zero,List.getElem?_cons_succ] at c0 c1 c2 c3;have hb:=hb4.trans (hb5.mono hb4.size);clear hg5 hb4 hb5 Hg4 hgl4;have he4:=zb8;go_wp2_with fail;refine wp_loop_once ?_;go_wp2_with fail;refine(qm 5 _ _).mono ?_;rintro e w' ⟨rfl,rfl⟩;go_wp2_with fail;go_ret3
    refine⟨?_,hb.alloc hb.size _⟩;rw[Hbad.out]
    rfl
  · have hcn':¬cap=n:=hcn;go_enter Tryz.func165,Tryz.ntmps165;go_wp2_with fail;go_region_law (refine step_copy_splice rfl (.tmp 20) (.tmp 23) 22 22 rfl 5 Tryz.underlying22 (by kernel_rfl) (some ⟨w.heap.size,0,none⟩) _ 4 4 _ _ rfl rfl w.heap.size 0 [.int .u8 0,.int .u8 0,.int .u8 0,.int .u8 0] 139 (heap_alloc_new _ _) [] (by simp) (fun h=>absurd h (Nat.lt_irrefl 0)) (Nat.zero_le _) (by intro v hv;cases hv) w.heap.size w Hb0.out.drew (Nat.le_refl _) ?_;intro w4 hg4 hb4)
    have Hg4:=hid hg4.out;clear hg4;go_wp2_with fail;refine(zcm _).mono ?_;rintro e w5 ⟨rfl,hb5⟩;have hgl4:w.heap.size<w4.heap.size:=(Array.getElem?_eq_some_iff.1 Hg4.out).1;have hgl:w.heap.size<w5.heap.size:=Nat.lt_of_lt_of_le hgl4 hb5.size;have hg5:=(hb5.block w.heap.size hgl4).trans Hg4.out;have c0:=cell_of_row w5 w.heap.size 0 _ _ _ hg5;have c1:=cell_of_row w5 w.heap.size 1 _ _ _ hg5;have c2:=cell_of_row w5 w.heap.size 2 _ _ _ hg5;have c3:=cell_of_row w5 w.heap.size 3 _ _ _ hg5;simp only[splice,List.take_zero,List.nil_append,List.length_nil,Nat.add_zero,List.drop_zero,List.getElem?_toArray,List.getElem?_cons_zero,List.getElem?_cons_succ] at c0 c1 c2 c3;have hb:=hb4.trans (hb5.mono hb4.size);clear hg5 hb4 hb5 Hg4 hgl4;have he4:=zb8;go_wp2_with fail;refine wp_loop_once ?_;go_wp2_with fail;refine(qm 5 _ _).mono ?_;rintro e w' ⟨rfl,rfl⟩;go_wp2_with fail;go_ret3
    refine⟨?_,hb.alloc hb.size _⟩;rw[Hbad.out]
    rfl
theorem zqb (a:Option Addr) (n cap p:Nat) (most:Int) (l:List Nat) (w:World) (hD:Door w) (hB:Byts w a n cap l) (hp:p≤n) (hn:n≤1000000000000) (hm0: -9223372036854775808≤most) (hm1:most≤9223372036854775807):
 Calls Tryz.prog 165 #[.slice a n cap,.int .i64 p,.int .i64 most] w fun e w'=>
  e=.returned (.tuple #[.int .i64 ((qk l p most).1:Nat),.int .i64 ((qk l p most).2.1:Nat),zh (qk l p most).2.2])∧Below w.heap.size w w':=by
 by_cases h:p<n
 · exact zpo a n cap p most l w hD hB h hn hm0 hm1
 · obtain rfl:p=n:=by omega
   exact zqa a p cap most l w hB hn
def vk (pay:Nat→List Nat) (n:Nat):List Nat:=(List.range n).flatMap fun i=>vr (pay i)
theorem zqc (pay:Nat→List Nat) (n:Nat):vk pay (n+1)=vk pay n++vr (pay n):=by
 unfold vk;rw[List.range_succ,List.flatMap_append];simp
set_option maxRecDepth 20000 in
theorem zqd (b o n cap:Nat) (E:Nat→Value) (pay:Nat→List Nat) (w:World) (hc:∀i,i<n→w.cell? ⟨b,o+i,none⟩=some (E i)) (hr:n≤cap) (hcm:cap≤1000)
 (hE:∀i,i<n→∀W,Below w.heap.size w W→Calls Tryz.prog 54 #[E i] W fun x w'=>(∃v,x=.returned (.tuple #[v,.nilIface])∧w'.ownsRow W.heap.size 5 1 v (pay i).length (u8s (pay i)))∧Below W.heap.size W w')
 (hlt:∀i,i<n→∀x∈pay i,x<256) (hlen:∀i,i≤n→(vk pay i).length≤1000000000000):
 Calls Tryz.prog 71 #[.slice (some ⟨b,o,none⟩) n cap] w fun e w'=>(∃v,e=.returned (.tuple #[v,.nilIface])∧w'.ownsRow w.heap.size 5 1 v (vk pay n).length (u8s (vk pay n)))∧Below w.heap.size w w':=by
 have HE:=hid hE;have Hlt:=hid hlt;have Hlen:=hid hlen;have Hc:=hid (fun W (h:Below w.heap.size w W) i (hi:i<n)=>(h.cell (p:=⟨b,o+i,none⟩) (ze (hc i hi))).trans (hc i hi));have hm:n≤9223372036854775807:=by omega
 clear hE hlt hlen hc;go_enter Tryz.func71,Tryz.ntmps71;go_wp2_with fail;go_loopw [4,11] (fun v i wr=>∃k:Nat,k≤n∧i=.int .i64 k∧Hid (Below w.heap.size w wr)∧Hid (wr.ownsRow w.heap.size 5 1 v (vk pay k).length (u8s (vk pay k)))) (fun _ i _=>n - (intOf i).toNat)
 case atStart=>exact⟨0,Nat.zero_le _,rfl,hid (Below.refl _ _),hid (World.ownsRow_nil _ _ _ _)⟩
 case round=>
  obtain⟨k,hkn,rfl,hb,ho⟩:=hrel;have Hsz:=hid hb.out.size;by_cases hlt:k<n
  · have e1:=Hc.out _ hb.out k hlt;have hd:decide ((k:Int)<(n:Int))=true:=by rw[decide_eq_true_iff];omega
    have hk1:IntKind.i64.wrap ((k:Int)+1)=((k+1:Nat):Int):=by rw[IntKind.wrap_i64];omega
    have h0:(0:Int)≤(k:Int):=by omega
    have h0n:(k:Int)<(n:Int):=by omega
    have HEn:=hid (HE.out k hlt wr hb.out);have Hsu:=hid (zqc pay k);have hl1:=Hlen.out k (by omega);have hl2:=Hlen.out (k+1) (by omega);rw[Hsu.out,List.length_append] at hl2
    have Hfl:=hid (show (pay k).length≤1000000000000 from by
     have:(pay k).length≤(vr (pay k)).length:=by unfold vr;simp only[List.length_append];omega
     omega)
    have Hfl0:=hid hl1;have Hpl:=hid (Hlt.out k hlt);clear hl1 hl2;generalize E k=ek at*;go_wp2_with fail;refine HEn.out.mono ?_;rintro e w2 ⟨⟨pv,rfl,hpo⟩,hb2⟩;have Ho2:=hid (zx ho.out hb2);have Hb2:=hid (hb.out.trans (hb2.mono Hsz.out));obtain⟨bb,cc,rfl,hB2⟩:=zew hpo Hpl.out
    have hne:∀b' o' k',bb=some ⟨b',o',k'⟩→Value.ownBlock _≠some b':=fun b' o' k' e h=>by
     have h1:=(ho.out.lt b' h).2;rcases znj hpo with ⟨e2,-⟩ | ⟨g,e2,h2,-⟩
     · rw[e2] at e;cases e
     · rw[e2] at e;injection e with e;injection e with e;omega
    have HAp:=hid (fun hx hy=>zps _ _ w.heap.size _ bb _ cc _ w2 hB2 hne Ho2.out (Nat.le_trans Hsz.out hb2.size) hx hy);have Hs2:=hid (Nat.le_trans Hsz.out hb2.size);clear hb2 hB2 hpo hne;go_wp2_with fail;refine(HAp.out Hfl.out Hfl0.out).mono ?_;rintro e w3 ⟨⟨v3,rfl,ho3⟩,hb3⟩;have Hb3:=hid (Hb2.out.trans hb3)
    have Ho3:=hid (show w3.ownsRow w.heap.size 5 1 v3 (vk pay (k+1)).length (u8s (vk pay (k+1))) from by
     rw[Hsu.out,List.length_append,zbj];exact ho3)
    clear ho3 hb3;go_wp2_with fail;go_roundw
    case rel=>exact⟨k+1,hlt,rfl,Hb3,Ho3⟩
    case measure=>simp[intOf];omega
  · obtain rfl:k=n:=by omega
    have hd:decide ((k:Int)<(k:Int))=false:=by rw[decide_eq_false_iff_not];omega
    go_wp2_with fail;go_ret2;exact⟨⟨_,rfl,ho.out⟩,hb.out⟩
theorem zd5 {w:World} (base:Nat) (v:Value) (n:Nat) (xs:List Iv) (hown:w.ownsRow base 89 2 v n (ivC xs)) (A:Option Addr) (c:Nat) (s:Iv) (hr:Rd w 2 A 1 (ivC [s])) (hb:n+1≤1000000000000) (hbase:base≤w.heap.size):
 ∃v' w',(Builtin.append_ #[91,91] 91 #[v,.slice A 1 c]).run Tryz.prog w=.ok v' w'∧w'.ownsRow base 89 2 v' (n+1) (ivC (xs++[s]))∧w.grownBy w' v.ownBlock∧∀g',v'.ownBlock=some g'→v.ownBlock=some g'∨w.heap.size≤g':=by
 rcases hown.2 with ⟨rfl,h0⟩ | ⟨g,cap,cur,rfl,hg,hrow,hnc,hcm,hcs,htake⟩
 · have hx:xs=[]:=by
    have:=hown.1;rw[zdi,h0] at this;exact List.length_eq_zero_iff.1 (by omega)
   subst h0 hx;obtain⟨v',w',h1,h2,h3⟩:=znh (w:=w) w.heap.size (.slice none 0 0) 0 [] (World.ownsRow_nil _ _ _ _) A 1 c [s] hr (by omega) (Nat.le_refl _);exact⟨v',w',h1,j3 h2 hbase,h3,fun g' e=>.inr (h2.lt _ e).1⟩
 · obtain⟨i,hi,hz,hs,hby⟩:=info_parts Tryz.info_iv;obtain⟨b,o,rfl,hc⟩:=hr.2 (by omega);by_cases hf:n+1≤cap
   · obtain⟨w',r1,r2,r3⟩:=run_append_fits (P:=Tryz.prog) w base 91 91 89 i 2 Tryz.underlying91 hi hs g n cap _ hown ⟨b,o,none⟩ 1 c (ivC [s]) rfl (hr.news (by omega)) (zha [s]) hf;exact⟨_,w',r1,by rw[zey];exact r2,r3,fun g' e=>.inl e⟩
   · obtain⟨v',w',r1,r2,r3⟩:=run_append_arg_grows (P:=Tryz.prog) w 91 91 89 i _ 2 16 Tryz.underlying91 hi hz hs hby rfl (by omega) ⟨g,0,none⟩ n cap (ivC xs) hown.1 (fun j u hu=>hown.cells (g:=g) rfl j u hu) ⟨b,o,none⟩ 1 c (ivC [s]) rfl (hr.news (by omega)) (by omega) (by unfold maxLen;omega) (by omega);exact⟨v',w',r1,by rw[zey];exact j3 r2 hbase,⟨r3.os,r3.tape,r3.output,r3.size,fun k hk _=>r3.block k hk (by simp)⟩,fun g' e=>.inr (r2.lt _ e).1⟩
theorem yu {w w':World} {base sz n:Nat} {e:TypeId} {v:Value} {xs:List Value} (h:w.ownsRow base e sz v n xs) (hk:∀k,v.ownBlock=some k→w'.heap[k]?=w.heap[k]?):w'.ownsRow base e sz v n xs:=by
 refine⟨h.1,?_⟩;rcases h.2 with h2 | ⟨g,cap,cur,hv,hg,hh,r⟩
 · exact .inl h2
 · subst hv;exact .inr ⟨g,cap,cur,rfl,hg,(hk g rfl).trans hh,r⟩
theorem zqe {β:Type} (f:Nat→β) (n k:Nat) (a:β):((List.range n).map f).set k a=(List.range n).map fun i=>if i=k then a else f i:=by
 refine List.ext_getElem (by simp) fun i h1 h2=>?_
 rw[List.getElem_set];simp only[List.getElem_map,List.getElem_range];by_cases h:k=i
 · rw[if_pos h,if_pos h.symm]
 · rw[if_neg h,if_neg (fun e=>h e.symm)]
theorem zix:∀(ss:List (Value×Value)) (k:Nat) (x:Value),(jj ss).set (k*2) x=jj (ss.set k (x,(ss.getD k (x,x)).2))
 | [],k,x=>by simp[jj]
 | s :: ss,0,x=>rfl
 | s :: ss,k+1,x=>by
   have e1:jj (s :: ss)=s.1 :: s.2 :: jj ss:=rfl;rw[e1,show (k+1)*2=k*2+1+1 by omega,List.set_cons_succ,List.set_cons_succ,zix ss k x]
   rfl
def je (n:Nat) (X Y:Nat→Value):List Value:=jj ((List.range n).map fun i=>(X i,Y i))
def upd {β:Type} (X:Nat→β) (k:Nat) (x:β):Nat→β:=fun i=>if i=k then x else X i
theorem ke {β:Type} (X:Nat→β) (k:Nat) (x:β):upd X k x k=x:=if_pos rfl
theorem j8 {β:Type} (X:Nat→β) {k i:Nat} (x:β) (h:i≠k):upd X k x i=X i:=if_neg h
theorem zfs {n k:Nat} (hk:k<n) (X Y:Nat→Value) (x:Value):(je n X Y).set (k*2) x=je n (upd X k x) Y:=by
 unfold je;rw[zix,zqe];congr 1;refine List.map_congr_left fun i hi=>?_
 by_cases h:i=k
 · subst h;simp[upd,hk]
 · simp[upd,h]
theorem zap {n k:Nat} (hk:k<n) (X Y:Nat→Value):(je n X Y)[k*2]?=some (X k)∧(je n X Y)[k*2+1]?=some (Y k):=
 zff (p:=(X k,Y k)) (by simp[hk])
theorem zqf (n:Nat) (X Y:Nat→Value):je (n+1) X Y=je n X Y++[X n,Y n]:=by
 unfold je;rw[List.range_succ,List.map_append,zoj]
 rfl
structure BldM (w2 w:World) (base g n c:Nat) (Y:Nat→Value) (L:Nat→List Iv) (X:Nat→Value):Prop where
 kept:Kept (fun b=>b<w2.heap.size∧b≠g) w2 w
 row:w.ownsRow base 97 2 (.slice (some ⟨g,0,none⟩) n c) n (je n X Y)
 its:∀i,i<n→w.ownsRow w2.heap.size 89 2 (X i) (L i).length (ivC (L i))
 apart:∀i,i<n→∀j,j<n→i≠j→∀b,(X i).ownBlock=some b→(X j).ownBlock≠some b
theorem BldM.cells {w2 w:World} {base g n c:Nat} {Y:Nat→Value} {L:Nat→List Iv} {X:Nat→Value} (h:BldM w2 w base g n c Y L X) {i:Nat} (hi:i<n):w.cell? ⟨g,i*2,none⟩=some (X i)∧w.cell? ⟨g,i*2+1,none⟩=some (Y i):=by
 obtain⟨e1,e2⟩:=zap hi X Y;have c1:=h.row.cells (g:=g) rfl _ _ e1;have c2:=h.row.cells (g:=g) rfl _ _ e2;rw[ye,Nat.zero_add] at c1 c2;exact⟨c1,c2⟩
theorem BldM.below {w2 w w':World} {base g n c:Nat} {Y:Nat→Value} {L:Nat→List Iv} {X:Nat→Value} (h:BldM w2 w base g n c Y L X) (hb:Below w.heap.size w w'):BldM w2 w' base g n c Y L X:=
 ⟨h.kept.below hb,zx h.row hb,fun i hi=>zx (h.its i hi) hb,h.apart⟩
theorem BldM.step {w2 w w':World} {base g n c j:Nat} {Y:Nat→Value} {L L':Nat→List Iv} {X:Nat→Value} (h:BldM w2 w base g n c Y L X) (hj:j<n) (hg:g<w2.heap.size) {v':Value} {l:List Iv}
 (ho:w'.ownsRow w2.heap.size 89 2 v' l.length (ivC l)) (hgr:w.grownBy w' (X j).ownBlock) (hv:∀g',v'.ownBlock=some g'→(X j).ownBlock=some g'∨w.heap.size≤g') (hL:L' j=l) (hO:∀i,i≠j→L' i=L i):
 BldM w2 (w'.setCell ⟨g,j*2,none⟩ v') base g n c Y L' (upd X j v'):=by
 have hne:∀k,(X j).ownBlock=some k→w2.heap.size≤k:=fun k hk=>((h.its j hj).lt k hk).1
 have hgw:g<w.heap.size:=Nat.lt_of_lt_of_le hg h.kept.size
 have hrow':w'.ownsRow base 97 2 (.slice (some ⟨g,0,none⟩) n c) n (je n X Y):=yu h.row fun k hk=>by
  have e:k=g:=by simpa [Value.ownBlock] using hk.symm
  subst e;exact hgr.block k hgw fun e=>by have:=hne k e.symm;omega
 have hset:∀k,w2.heap.size≤k→(w'.setCell ⟨g,j*2,none⟩ v').heap[k]?=w'.heap[k]?:=fun k hk=>Below.heap_setCell _ _ _ _ (by simp only;omega)
 refine⟨(h.kept.grown hgr fun k hk hl=>?_).setCell (fun _ h=>h.2 rfl) _,?_,fun i hi=>?_,fun i hi i' hi' hii b=>?_⟩
 · have:=hne k hk;omega
 · rw[←zfs hj];exact(hrow'.stored (j*2) v').1
 · by_cases e:i=j
   · subst e;rw[ke,hL];exact yu ho fun k hk=>hset k (ho.lt k hk).1
   · rw[j8 _ _ e,hO i e];refine yu (h.its i hi) fun k hk=>?_
     have hkl:=(h.its i hi).lt k hk;rw[hset k hkl.1];exact hgr.block k hkl.2 (fun e'=>h.apart i hi j hj e k hk e'.symm)
 · by_cases e:i=j
   · subst e;rw[ke,j8 _ _ (fun e=>hii e.symm)];intro hb hb';have hkl:=(h.its i' hi').lt b hb';rcases hv b hb with h' | h'
     · exact h.apart i hi i' hi' hii b h' hb'
     · omega
   · rw[j8 _ _ e];intro hb;by_cases e':i'=j
     · subst e';rw[ke];intro hb';have hkl:=(h.its i hi).lt b hb;rcases hv b hb' with h' | h'
       · exact h.apart i hi i' hi' hii b hb h'
       · omega
     · rw[j8 _ _ e'];exact h.apart i hi i' hi' hii b hb
theorem zqg {w2 w:World} {base g:Nat} {y:Value} {v:Vec} (h:EnSl w2 base y v) (hk:Kept (fun b=>b<w2.heap.size∧b≠g) w2 w) {C:Array Value} {fr:Nat×Nat} (hg:w2.heap[g]?=some (.cells C 97 fr)) (hb:base≤g):EnSl w base y v:=by
 refine h.steady (P:=ky) ⟨hk.size,fun k hk2 hp=>hk.row k hk2 ⟨hk2,fun e=>?_⟩⟩ (.inl rfl) (.inr rfl);subst e;rcases hp with h' | ⟨C',T,fr',hT,h'⟩
 · omega
 · rw[hg] at h';cases h';rcases hT with h | h <;> cases h
theorem BldM.frags {w2 w:World} {base g n c ib:Nat} {Y:Nat→Value} {L:Nat→List Iv} {X:Nat→Value} (h:BldM w2 w base g n c Y L X) (hg:base≤g) (hib:ib≤g) {k:Kno} (hk:k.length=n) (hL:∀i,i<n→(zc k i).1=L i) (h64:∀i,i<n→yg (L i)) (hY:∀i,i<n→EnSl w2 ib (Y i) (zc k i).2)
 {C:Array Value} {fr:Nat×Nat} (hr:w2.heap[g]?=some (.cells C 97 fr)):Frags w (some ⟨g,0,none⟩) n c k:=by
 have hcc:n≤c∧c≤9223372036854775807:=by
  rcases h.row.2 with ⟨h',_⟩ | ⟨g',cap,cur,h',_,_,hnc,hcm,_⟩
  · cases h'
  · cases h';unfold maxLen at hcm;omega
 refine⟨hk,hcc.1,hcc.2,(by intro e;cases e),fun hn=>⟨g,0,rfl,fun i hi=>?_⟩⟩
 · obtain⟨c1,c2⟩:=h.cells hi;rw[Nat.zero_add];constructor
   · obtain⟨a,c,e,hI⟩:=ze1 (h.its i hi) (h64 i hi);rw[e] at c1;exact⟨a,_,c,c1,by rw[hL i hi];exact hI⟩
   · obtain⟨a,m,c,e,hE⟩:=zqg (hY i hi) h.kept hr hib;rw[e] at c2;exact⟨a,m,c,c2,hE.ents⟩
structure Vecs (w:World) (a:Option Addr) (n cap:Nat) (vs:List Vec):Prop where
 len:vs.length=n
 room:n≤cap
 most:cap≤9223372036854775807
 nilc:a=none→cap=0
 cells:0<n→∃b o,a=some ⟨b,o,none⟩∧∀i,i<n→EnCell w ⟨b,o+i,none⟩ (yt vs i)
theorem Vecs.below {w w':World} {a:Option Addr} {n cap:Nat} {vs:List Vec} (h:Vecs w a n cap vs) (hb:Below w.heap.size w w'):Vecs w' a n cap vs:=by
 refine⟨h.len,h.room,h.most,h.nilc,fun hn=>?_⟩;obtain⟨b,o,ha,hc⟩:=h.cells hn;exact⟨b,o,ha,fun i hi=>(hc i hi).below hb⟩
theorem Vecs.fix {w:World} {b o n cap:Nat} {vs:List Vec} (h:Vecs w (some ⟨b,o,none⟩) n cap vs) {i:Nat} (hi:i<n):∃y m c,∀w',Below w.heap.size w w'→w'.cell? ⟨b,o+i,none⟩=some (.slice y m c)∧Ents w' y m c (yt vs i):=by
 obtain⟨b',o',hs,hc⟩:=h.cells (by omega);cases hs;obtain⟨y,m,c,h1,h2⟩:=hc i hi;exact⟨y,m,c,fun w' hb=>⟨(hb.cell (ze h1)).trans h1,h2.below hb⟩⟩
theorem Vecs.some {w:World} {a:Option Addr} {n cap:Nat} {vs:List Vec} (h:Vecs w a n cap vs) (hn:0<n):∃b o,a=some ⟨b,o,none⟩:=by
 obtain⟨b,o,ha,-⟩:=h.cells hn;exact⟨b,o,ha⟩
structure Zs (w:World) (a:Option Addr) (n cap:Nat) (l:List Int):Prop where
 len:l.length=n
 room:n≤cap
 most:cap≤9223372036854775807
 nilc:a=none→cap=0
 lt:∀x∈l,-9223372036854775808≤x∧x≤9223372036854775807
 cells:0<n→∃b o,a=some ⟨b,o,none⟩∧∀i,i<n→w.cell? ⟨b,o+i,none⟩=some (.int .i64 (ko l i))
theorem Zs.below {w w':World} {a:Option Addr} {n cap:Nat} {l:List Int} (h:Zs w a n cap l) (hb:Below w.heap.size w w'):Zs w' a n cap l:=by
 refine⟨h.len,h.room,h.most,h.nilc,h.lt,fun hn=>?_⟩;obtain⟨b,o,ha,hc⟩:=h.cells hn;exact⟨b,o,ha,fun i hi=>(hb.cell (p:=⟨b,o+i,none⟩) (ze (hc i hi))).trans (hc i hi)⟩
theorem I64s.zs {w:World} {a:Option Addr} {n cap:Nat} {l:List Nat} (h:I64s w a n cap l) (hl:∀x∈l,x≤9223372036854775807):Zs w a n cap (l.map fun x:Nat=>(x:Int)):=by
 refine⟨by rw[List.length_map];exact h.len,h.room,h.most,h.nilc,fun x hx=>?_,fun hn=>?_⟩
 · obtain⟨y,hy,rfl⟩:=List.mem_map.1 hx;have:=hl y hy;omega
 · obtain⟨b,o,ha,hc⟩:=h.cells hn;refine⟨b,o,ha,fun i hi=>?_⟩
   have e:ko (l.map fun x:Nat=>(x:Int)) i=((nth l i:Nat):Int):=by
    have hi':i<l.length:=by rw[h.len];exact hi
    rw[zd2 (by simpa using hi')];simp[nth,hi']
   rw[e];exact hc i hi
theorem Ivs.at {w:World} {b o n c:Nat} {l:List Iv} (h:Ivs w (some ⟨b,o,none⟩) n c l) {j:Nat} (hj:j<n) (w':World) (hb:Below w.heap.size w w'):w'.cell? ⟨b,o+j*2,none⟩=some (.int .u64 (((zb l j).1:Nat):Int))∧w'.cell? ⟨b,o+j*2+1,none⟩=some (.int .u64 (((zb l j).2:Nat):Int)):=by
 obtain⟨b',o',e,hc⟩:=(h.below hb).cells (by omega);cases e;exact hc j hj
theorem Zs.at {w:World} {b o n c:Nat} {l:List Int} (h:Zs w (some ⟨b,o,none⟩) n c l) {j:Nat} (hj:j<n) (w':World) (hb:Below w.heap.size w w'):w'.cell? ⟨b,o+j,none⟩=some (.int .i64 (ko l j)):=by
 obtain⟨b',o',e,hc⟩:=(h.below hb).cells (by omega);cases e;exact hc j hj
theorem Zs.some {w:World} {a:Option Addr} {n c:Nat} {l:List Int} (h:Zs w a n c l) (hn:0<n):∃b o,a=some ⟨b,o,none⟩:=by
 obtain⟨b,o,ha,-⟩:=h.cells hn;exact⟨b,o,ha⟩
theorem Ivs.some {w:World} {a:Option Addr} {n c:Nat} {l:List Iv} (h:Ivs w a n c l) (hn:0<n):∃b o,a=some ⟨b,o,none⟩:=by
 obtain⟨b,o,ha,-⟩:=h.cells hn;exact⟨b,o,ha⟩
theorem zft (x:Nat) (w:World):Calls Tryz.prog 261 #[.int .i64 x] w fun e w'=>e=.returned (.bool false)∧w'=w:=by
 go_enter Tryz.func261,Tryz.ntmps261;go_wp2;go_ret;exact⟨by simp,rfl⟩
theorem zqh (x y:Nat) (w:World):Calls Tryz.prog 232 #[.int .i64 x,.int .i64 y] w fun e w'=>e=.returned (.int .i64 (if x<y then -1 else if y<x then 1 else 0))∧w'=w:=by
 by_cases h1:x<y
 · rw[if_pos h1];go_enter Tryz.func232,Tryz.ntmps232;go_wp2_with (go_at_call 261;refine(zft _ _).mono ?_;rintro e w1 ⟨rfl,rfl⟩);go_ret;exact⟨rfl,rfl⟩
 · rw[if_neg h1];by_cases h2:y<x
   · rw[if_pos h2];go_enter Tryz.func232,Tryz.ntmps232;go_wp2_with (go_at_call 261;refine(zft _ _).mono ?_;rintro e w1 ⟨rfl,rfl⟩);go_ret;exact⟨rfl,rfl⟩
   · rw[if_neg h2];go_enter Tryz.func232,Tryz.ntmps232;go_wp2_with (go_at_call 261;refine(zft _ _).mono ?_;rintro e w1 ⟨rfl,rfl⟩);go_ret;exact⟨rfl,rfl⟩
set_option maxRecDepth 20000 in
theorem zqi (a d:Option Addr) (N c M c':Nat) (P R:List Nat) (w:World) (hP:U64s w a N c P) (hR:U64s w d M c' R):
 Calls Tryz.prog 190 #[.slice a N c,.slice d M c'] w fun e w'=>e=.returned (.int .i64 (y8 P R))∧Below w.heap.size w w':=by
 have HP:=hid hP;have HR:=hid hR;have HN:=hid hP.len;have HM:=hid hR.len;have hNm:N≤9223372036854775807:=Nat.le_trans hP.room hP.most;have hMm:M≤9223372036854775807:=Nat.le_trans hR.room hR.most;clear hP hR;obtain⟨K,hK⟩:∃K:Nat,K=min N M:=⟨_,rfl⟩;have hK1:K≤N:=by omega
 have hK2:K≤M:=by omega
 have hK3:K=N∨K=M:=by omega
 have hmin:min (N:Int) (M:Int)=(K:Int):=by omega
 have HKc:=hid hK3;clear hK hK3;go_enter Tryz.func190,Tryz.ntmps190;go_wp2;go_loopw [5,11] (fun _ i wr=>∃k:Nat,k≤K∧i=.int .i64 k∧Below w.heap.size w wr∧Hid (y8 P R=y8 (P.drop k) (R.drop k))) (fun _ i _=>K - (intOf i).toNat)
 case atStart=>exact⟨0,by omega,rfl,Below.refl _ _,rfl⟩
 case round=>
  obtain⟨k,hk,rfl,hb,ht⟩:=hrel;have Hb:=hid hb;clear hb;have h0:(0:Int)≤k:=by omega
  by_cases hkK:k<K
  · have h1:k<N:=by omega
    have h2:k<M:=by omega
    have hst:=zov (p:=P) (q:=R) (k:=k) (by rw[HN.out];exact h1) (by rw[HM.out];exact h2);have Hst:=hid (ht.out.trans hst);obtain⟨b1,o1,rfl,hc1⟩:=(HP.out.below Hb.out).cells (by omega);obtain⟨b2,o2,rfl,hc2⟩:=(HR.out.below Hb.out).cells (by omega);have q1:=hc1 k h1;have q2:=hc2 k h2;clear hst hc1 hc2;generalize nth P k=x at*;generalize nth R k=y at*;have h01:(k:Int)<(N:Int):=by omega
    have h02:(k:Int)<(M:Int):=by omega
    have h03:(k:Int)<(K:Int):=by omega
    have hcP:=HP.out.room;have hcR:=HR.out.room;by_cases hxy:x=y
    · subst hxy;rw[if_neg (Nat.lt_irrefl _),if_neg (Nat.lt_irrefl _)] at Hst;go_wp2;go_quiet (fail);go_wp2;go_roundw
      case rel=>exact⟨k+1,by omega,by go_num,by first | exact Hb.out | exact zv Hb.out _,Hst.out⟩
      case measure=>simp[intOf];omega
    · have hne:((x:Int) != (y:Int))=true:=by rw[bne_iff_ne];omega
      have Hci:=hid (show Lib.compareInt (x:Int) (y:Int)=y8 P R from by
       rw[Hst.out];unfold Lib.compareInt;by_cases hlt:x<y
       · rw[if_pos (by omega),if_pos hlt]
       · rw[if_neg (by omega),if_neg hlt,if_pos (by omega),if_pos (by omega)])
      have hC:=hid (fun w'=>zgk x y w');rw[Hci.out] at hC;generalize hzz:y8 P R=z at*;have Hzz:=hid hzz;clear hzz;have hq1:=hid (fun w' (h:Below wr.heap.size wr w')=>(h.cell (p:=⟨b1,o1+k,none⟩) (ze q1)).trans q1);have hq2:=hid (fun w' (h:Below wr.heap.size wr w')=>(h.cell (p:=⟨b2,o2+k,none⟩) (ze q2)).trans q2);clear hxy;go_wp2;go_quiet (fail);go_wp2_with fail;refine zae (by kernel_rfl) (by kernel_rfl) ?_
      repeat (go_big_quiet_step ((intro hw;first
       | rfl
       | (have q3:=hq1.out _ (by first | exact hw | exact Below.trans (zv (Below.refl _ _) _) hw)
          have q4:=hq2.out _ (by first | exact hw | exact Below.trans (zv (Below.refl _ _) _) hw)
          first
          | (go_at_call 131;refine(hC.out _).mono ?_;rintro e w4 ⟨rfl,rfl⟩;exact⟨rfl,hw⟩)
          | (go_simp
             first | rfl | exact⟨rfl,hw⟩ | (trace_state;fail))))))
      refine wpQuiet_nil ?_;intro w3 hb3;go_wp2;go_ret;exact⟨by rw[Hzz.out];rfl,Hb.out.trans ((by first | exact hb3 | exact Below.trans (zv (Below.refl _ _) _) hb3:Below wr.heap.size wr w3).mono Hb.out.size)⟩
  · obtain rfl:k=K:=by omega
    have Hz:=hid (ht.out.trans (zow (by rw[HN.out];omega) (by rw[HM.out];omega) (by rw[HN.out,HM.out];exact HKc.out)));rw[HN.out,HM.out] at Hz;have hK:=hid (fun w'=>zqh N M w');obtain⟨zz,hzz⟩:∃zz:Int,zz=if N<M then -1 else if M<N then 1 else 0:=⟨_,rfl⟩;rw[←hzz] at hK Hz;clear hzz;go_wp2_with fail;refine(hK.out _).mono ?_;rintro e w1 ⟨rfl,rfl⟩;go_wp2;go_ret;exact⟨by rw[Hz.out];rfl,Hb.out⟩
theorem ziy (v:Vec):v.length≤(zj v).length:=by
 unfold zj;rw[List.length_cons]
 induction v with
 | nil=>exact Nat.zero_le _
 | cons e v ih=>rw[List.flatMap_cons,List.length_append,List.length_cons,zdy];omega
theorem ziz (a d:Option Addr) (n c n' c':Nat) (v u:Vec) (w:World) (hE:Ents w a n c v) (hF:Ents w d n' c' u) (fv:(zj v).length≤1000000000000) (fu:(zj u).length≤1000000000000):
 Calls Tryz.prog 148 #[.slice a n c,.slice d n' c'] w fun x w'=>x=.returned (.int .i64 (jp v u))∧Below w.heap.size w w':=by
 have hC:=hid (zio a n c v w hE (by rw[←hE.len];exact Nat.le_trans (ziy v) fv) fv);have hD:=hid (fun w' (h:Below w.heap.size w w')=>zio d n' c' u w' (hF.below h) (by rw[←hF.len];exact Nat.le_trans (ziy u) fu) fu);have Hpl:=hid (zif hE.lt fv);have Hql:=hid (zif hF.lt fu);have Hcv:=hid (show jp v u=y8 (zj v) (zj u) from rfl);clear hE hF fv fu;generalize zj v=P at*;generalize zj u=R at*;go_enter Tryz.func148,Tryz.ntmps148;go_wp2_with fail;refine hC.out.mono ?_;rintro e w1 ⟨⟨y,rfl,ho1⟩,hb1⟩;have Hb1:=hid hb1;obtain⟨aP,cP,rfl,hU1⟩:=zhk ho1 Hpl.out;have HU1:=hid hU1;clear hb1 ho1 hU1;go_wp2_with fail;refine(hD.out _ Hb1.out).mono ?_;rintro e w2 ⟨⟨y,rfl,ho2⟩,hb2⟩;have Hb2:=hid (Hb1.out.trans (hb2.mono Hb1.out.size));obtain⟨aR,cR,rfl,hU2⟩:=zhk ho2 Hql.out;have HUp:=hid (HU1.out.below hb2);have HUr:=hid hU2;clear hb2 ho2 hU2;go_wp2_with fail;refine(zqi _ _ _ _ _ _ P R _ HUp.out HUr.out).mono ?_;rintro e w3 ⟨rfl,hb3⟩;have Hb3:=hid (Hb2.out.trans (hb3.mono Hb2.out.size));clear hb3;go_wp2;go_ret;exact⟨by rw[Hcv.out];rfl,Hb3.out⟩
theorem zqj {v:Vec} (h:LtV v) {d:Nat} (hd:d<v.length):zao v d<18446744073709551616:=by
 have h1:=(h _ (zcn hd)).rep;unfold zao;split
 · rename_i e;rw[←e];exact h1
 · omega
theorem zqk {v:Vec} (h:LtV v) (hh:∀e∈v,e.2.2.length≤500) {d:Nat} (hd:d<v.length):∀y∈vw v d,y<18446744073709551616:=by
 intro y hy;have hm:=zcn hd;unfold vw at hy;rcases List.mem_append.1 hy with hy | hy
 · simp at hy;rcases hy with rfl | rfl | rfl
   · exact zqj h hd
   · exact(h _ hm).max
   · have:=hh _ hm;omega
 · exact zin (h _ hm).holes _ (Nat.le_refl _) y hy
end
section
abbrev RR (α:Type):=Except (Nat×Nat) (α×Nat)
def thn {α β:Type} (a:RR α) (f:α→Nat→RR β):RR β:=match a with | .error e=>.error e | .ok y=>f y.1 y.2
theorem yh {α β:Type} (x:α) (q:Nat) (f:α→Nat→RR β):thn (.ok (x,q)) f=f x q:=rfl
theorem vx {α β:Type} (e:Nat×Nat) (f:α→Nat→RR β):thn (.error e:RR α) f=.error e:=rfl
theorem qc {α β γ:Type} (a:RR α) (f:α→Nat→RR β) (g:β→Nat→RR γ):thn (thn a f) g=thn a fun x q=>thn (f x q) g:=by cases a <;> rfl
theorem jf {α β:Type} {a:RR α} {f g:α→Nat→RR β} (h:∀x q,f x q=g x q):thn a f=thn a g:=by rw[show f=g from funext fun x=>funext fun q=>h x q]
abbrev zg:=Nat→Except Nat (Nat×Nat)
def nmP (T:zg) (p:Nat):RR Nat:=match T p with | .error c=>.error (c,p) | .ok y=>.ok y
def zl (x:Nat) (lim:Int) (rest:Nat):Nat:=if lim<(x:Int)∧x≠0 then 7 else if rest<x then 5 else 0
def yz (T:zg) (E:Nat) (lim:Int) (p:Nat):RR Nat:=thn (nmP T p) fun x q=>if zl x lim (E - q)=0 then .ok (x,q) else .error (zl x lim (E - q),p)
def loP (prev:Option Nat) (ap d:Nat):Option Nat:=match prev with | none=>some d | some h=>if h+1+ap+d<18446744073709551616 then some (h+1+ap+d) else none
def hiP (T:zg) (lo q:Nat):RR (Iv×Nat):=thn (nmP T q) fun y r=>if lo+y<18446744073709551616 then .ok (((lo,lo+y),q),r) else .error (8,q)
def ivP (T:zg) (prev:Option Nat) (ap p:Nat):RR (Iv×Nat):=thn (nmP T p) fun x q=>match loP prev ap x with | none=>.error (8,p) | some lo=>hiP T lo q
def yk (l:List Iv):Option Nat:=l.getLast?.map (·.2)
def kp {α:Type} (mx:Nat) (s:Iv×Nat) (q:Nat) (f:Iv→Nat→RR α):RR α:=if mx≤s.1.2 then .error (8,s.2) else f s.1 q
def qs (T:zg) (mx:Nat):Nat→List Iv→Nat→RR (List Iv)
 | 0,acc,p=>.ok (acc,p)
 | n+1,acc,p=>thn (ivP T (yk acc) 1 p) fun s q=>kp mx s q fun s q=>qs T mx n (acc++[s]) q
def jk (v:Vec) (x:Nat):Option Nat:=match v.getLast? with | none=>some x | some e=>if e.1+1+x<18446744073709551616 then some (e.1+1+x) else none
def zbs (T:zg) (E:Nat) (lim:Int) (r mx p:Nat):RR Ent:=thn (yz T E lim p) fun n q=>thn (qs T mx n [] q) fun h q=>.ok ((r,mx,h),q)
def zbt (T:zg) (E:Nat) (lim:Int) (r p:Nat):RR Ent:=thn (nmP T p) fun mx q=>zbs T E lim r mx q
def zaq (T:zg) (E:Nat) (lim:Int) (v:Vec) (p:Nat):RR Ent:=thn (nmP T p) fun x q=>match jk v x with | none=>.error (8,p) | some r=>zbt T E lim r q
def yv (T:zg) (E:Nat) (lim:Int):Nat→Vec→Nat→RR Vec
 | 0,v,p=>.ok (v,p)
 | n+1,v,p=>thn (zaq T E lim v p) fun e q=>yv T E lim n (v++[e]) q
def vy (T:zg) (E:Nat) (le lh:Int) (p:Nat):RR Vec:=thn (yz T E le p) fun n q=>if n=0 then .error (9,p) else yv T E lh n [] q
def qt (vs:List Vec) (v:Vec):Bool:=match vs.getLast? with | none=>false | some u=>decide (0≤jp u v)
def yw (T:zg) (E:Nat) (le lh:Int):Nat→List Vec→Nat→RR (List Vec)
 | 0,vs,p=>.ok (vs,p)
 | n+1,vs,p=>thn (vy T E le lh p) fun v q=>if qt vs v=true then .error (3,p) else yw T E le lh n (vs++[v]) q
def kq (l:List Iv) (lo:Nat):Bool:=match yk l with | none=>false | some h=>decide (lo=h+1)
def kr {α:Type} (T:zg) (N:Nat) (tch:Bool) (ix:List Nat) (q:Nat) (f:Nat→Nat→RR α):RR α:=
 thn (nmP T q) fun x r=>if N≤x then .error (8,q) else if tch=true∧ix.getLast?=some x then .error (10,q) else f x r
def yq (T:zg) (N:Nat):Nat→List Iv→List Nat→Nat→RR (List Iv×List Nat)
 | 0,l,ix,p=>.ok ((l,ix),p)
 | m+1,l,ix,p=>thn (ivP T (yk l) 0 p) fun s q=>kr T N (kq l s.1.1) ix q fun x r=>yq T N m (l++[s.1]) (ix++[x]) r
def zt (vs:List Vec) (l:List Iv) (ix:List Nat):Kno:=zd3 vs l (ix.map fun (n:Nat)=>(n:Int))
def jv (E:Nat) (c:Kno) (p:Nat):RR Kno:=if (∃f∈c,f.1=[]) then .error (10,p) else if p<E then .error (11,p) else .ok (c,p)
def vz (T:zg) (E:Nat) (lim:Int) (vs:List Vec) (p:Nat):RR Kno:=thn (yz T E lim p) fun m q=>thn (yq T vs.length m [] [] q) fun s q=>jv E (zt vs s.1 s.2) q
def yl (T:zg) (E:Nat) (L:Int×Int×Int×Int×Int) (p:Nat):RR Kno:=thn (yz T E L.2.1 p) fun n q=>thn (yw T E L.2.2.1 L.2.2.2.1 n [] q) fun vs q=>vz T E L.2.2.2.2 vs q
structure PS where
 tag:Nat
 v:Vec
 rep:Nat
 mx:Nat
 h:List Iv
 ents:Nat
 hls:Nat
 lo:Nat
def ps0:PS:=⟨0,[],0,0,[],0,0,0⟩
def yo (s:PS) (hls:Nat) (h:List Iv):PS:=
 if 0<hls then { s with tag:=4,h:=h,hls:=hls - 1 }
 else if 1<s.ents then { s with tag:=1,v:=s.v++[(s.rep,s.mx,h)],h:=[],ents:=s.ents - 1,hls:=0 }
 else { s with tag:=6,v:=s.v++[(s.rep,s.mx,h)],h:=[],ents:=s.ents - 1,hls:=0 }
def zm (le lh:Int) (s:PS) (x rest:Nat):Except Nat PS:=
 match s.tag with
 | 0=>if zl x le rest≠0 then .error (zl x le rest) else if x=0 then .error 9 else .ok { s with tag:=1,v:=[],ents:=x }
 | 1=>match jk s.v x with | none=>.error 8 | some r=>.ok { s with tag:=2,rep:=r }
 | 2=>.ok { s with tag:=3,mx:=x }
 | 3=>if zl x lh rest≠0 then .error (zl x lh rest) else .ok (yo s x [])
 | 4=>match loP (yk s.h) 1 x with | none=>.error 8 | some lo=>.ok { s with tag:=5,lo:=lo }
 | _=>if s.lo+x<18446744073709551616∧s.lo+x<s.mx then .ok (yo s s.hls (s.h++[(s.lo,s.lo+x)])) else .error 8
def zar (T:zg) (E:Nat) (le lh:Int) (s:PS) (p:Nat):RR Vec:=
 match s.tag with
 | 0=>vy T E le lh p
 | 1=>yv T E lh s.ents s.v p
 | 2=>thn (zbt T E lh s.rep p) fun e q=>yv T E lh (s.ents - 1) (s.v++[e]) q
 | 3=>thn (zbs T E lh s.rep s.mx p) fun e q=>yv T E lh (s.ents - 1) (s.v++[e]) q
 | 4=>thn (ivP T (yk s.h) 1 p) fun i q=>kp s.mx i q fun i q=>thn (qs T s.mx s.hls (s.h++[i]) q) fun h q=>yv T E lh (s.ents - 1) (s.v++[(s.rep,s.mx,h)]) q
 | 5=>thn (hiP T s.lo p) fun i q=>kp s.mx i q fun i q=>thn (qs T s.mx s.hls (s.h++[i]) q) fun h q=>yv T E lh (s.ents - 1) (s.v++[(s.rep,s.mx,h)]) q
 | _=>.ok (s.v,p)
theorem zi0 (T:zg) (E:Nat) (le lh:Int) (s:PS) (hls:Nat) (h:List Iv) (q:Nat):
 zar T E le lh (yo s hls h) q=thn (qs T s.mx hls h q) fun h q=>yv T E lh (s.ents - 1) (s.v++[(s.rep,s.mx,h)]) q:=by
 unfold yo
 cases hls with
 | succ n=>
  rw[if_pos (Nat.succ_pos _)];simp only[zar];rw[qs,qc];refine jf fun s' q'=>?_
  simp only[kp,Nat.add_sub_cancel];split
  · rw[vx]
  · rfl
 | zero=>
  rw[if_neg (by omega),qs,yh];by_cases h1:1<s.ents
  · rw[if_pos h1];rfl
  · rw[if_neg h1];show (.ok (s.v++[(s.rep,s.mx,h)],q):RR Vec)=_;rw[show s.ents - 1=0 by omega]
    rfl
theorem zql (T:zg) (E:Nat) (le lh:Int) (s:PS) (p:Nat) (hs:s.tag<6) (he:1≤s.tag→0<s.ents):
 zar T E le lh s p=thn (nmP T p) fun x q=>match zm le lh s x (E - q) with | .error c=>.error (c,p) | .ok s'=>zar T E le lh s' q:=by
 obtain⟨tag,v,rep,mx,h,ents,hls,lo⟩:=s;simp only at hs he;rcases(by omega:tag=0∨tag=1∨tag=2∨tag=3∨tag=4∨tag=5) with rfl | rfl | rfl | rfl | rfl | rfl
 · show vy T E le lh p=_;unfold vy yz;rw[qc];refine jf fun x q=>?_
   simp only[zm];by_cases hc:zl x le (E - q)=0
   · rw[if_pos hc,if_neg (fun h=>h hc),yh];by_cases hx:x=0
     · rw[if_pos hx,if_pos hx]
     · rw[if_neg hx,if_neg hx];rfl
   · rw[if_neg hc,if_pos hc,vx]
 · show yv T E lh ents v p=_;obtain⟨n,rfl⟩:∃n,ents=n+1:=⟨ents - 1,by have:=he (Nat.le_refl _);omega⟩;rw[yv,zaq,qc];refine jf fun x q=>?_
   simp only[zm]
   cases jk v x with
   | none=>rfl
   | some r=>rfl
 · show thn (zbt T E lh rep p) (fun e q=>yv T E lh (ents - 1) (v++[e]) q)=_;unfold zbt;rw[qc]
   rfl
 · show thn (zbs T E lh rep mx p) (fun e q=>yv T E lh (ents - 1) (v++[e]) q)=_;unfold zbs yz;rw[qc,qc];refine jf fun x q=>?_
   simp only[zm];by_cases hc:zl x lh (E - q)=0
   · rw[if_pos hc,if_neg (fun h=>h hc),yh];simp only;rw[zi0,qc]
     rfl
   · rw[if_neg hc,if_pos hc,vx]
 · show thn (ivP T (yk h) 1 p) (fun i q=>kp mx i q fun i q=>thn (qs T mx hls (h++[i]) q) fun h q=>yv T E lh (ents - 1) (v++[(rep,mx,h)]) q)=_;unfold ivP;rw[qc];refine jf fun x q=>?_
   simp only[zm]
   cases loP (yk h) 1 x with
   | none=>rfl
   | some lo=>rfl
 · show thn (hiP T lo p) (fun i q=>kp mx i q fun i q=>thn (qs T mx hls (h++[i]) q) fun h q=>yv T E lh (ents - 1) (v++[(rep,mx,h)]) q)=_;unfold hiP;rw[qc];refine jf fun x q=>?_
   simp only[zm];by_cases h1:lo+x<18446744073709551616
   · rw[if_pos h1,yh];simp only[kp];by_cases h2:mx≤lo+x
     · rw[if_pos h2,if_neg (by omega)]
     · rw[if_neg h2,if_pos ⟨h1,by omega⟩];simp only;rw[zi0]
   · rw[if_neg h1,if_neg (by omega),vx]
theorem zct {le lh:Int} {s s':PS} {x rest:Nat} (hs:s.tag<6) (he:1≤s.tag→0<s.ents) (h:zm le lh s x rest=.ok s'):s'.tag≤6∧(1≤s'.tag→s'.tag<6→0<s'.ents)∧1≤s'.tag:=by
 obtain⟨tag,v,rep,mx,hh,ents,hls,lo⟩:=s;simp only at hs he
 have nx:∀(t:PS) (k:Nat) (l:List Iv),0<t.ents→(yo t k l).tag≤6∧(1≤(yo t k l).tag→(yo t k l).tag<6→0<(yo t k l).ents)∧1≤(yo t k l).tag:=by
  intro t k l ht;unfold yo;split
  · exact⟨by simp,fun _ _=>ht,by simp⟩
  · split
    · exact⟨by simp,fun _ _=>by simp only;omega,by simp⟩
    · exact⟨by simp,fun _ h=>absurd h (by simp),by simp⟩
 rcases(by omega:tag=0∨tag=1∨tag=2∨tag=3∨tag=4∨tag=5) with rfl | rfl | rfl | rfl | rfl | rfl <;> simp only[zm] at h
 · split at h
   · cases h
   · split at h
     · cases h
     · cases h;exact⟨by simp,fun _ _=>by simp only;omega,by simp⟩
 · cases hr:jk v x with
   | none=>rw[hr] at h;cases h
   | some r=>rw[hr] at h;cases h;exact⟨by simp,fun _ _=>he (by simp),by simp⟩
 · cases h;exact⟨by simp,fun _ _=>he (by simp),by simp⟩
 · split at h
   · cases h
   · cases h;exact nx _ _ _ (he (by simp))
 · cases hr:loP (yk hh) 1 x with
   | none=>rw[hr] at h;cases h
   | some r=>rw[hr] at h;cases h;exact⟨by simp,fun _ _=>he (by simp),by simp⟩
 · split at h
   · cases h;exact nx _ _ _ (he (by simp))
   · cases h
end
section
open Go.RowKit
def zq (l:List Nat) (E:Nat):zg:=fun p=>match zk ((l.take E).drop p) 0 0 with | (1,x,j)=>.ok (x,p+j) | (2,_,_)=>.error 6 | _=>.error (if E≤l.length then 5 else 0)
