/- Part 09. -/
import Derived.Test.YtdnipikdddfhfaaGreatDoorSa08
set_option linter.unusedVariables false
set_option maxHeartbeats 16000000
namespace Go.Proofs.YtdnipikdddfhfaaGreatDoor
open Lib (hid)
section
def zaz (l:List Int) (k:Nat):Int:=l.getD k 0
theorem zff {l:List Int} {k:Nat} (h:k<l.length):zaz l k=l[k]:=by simp[zaz,h]
def yr (l:List Vec) (k:Nat):Vec:=l.getD k []
theorem zbj {l:List Vec} {k:Nat} (h:k<l.length):yr l k=l[k]:=by simp[yr,h]
theorem zg5 {l:List Vec} {k:Nat} (h:k<l.length):yr l k∈l:=by rw[zbj h];exact List.getElem_mem h
def itB (l:List Iv) (ix:List Int) (i:Nat):Nat→List Iv
 | 0=>[]
 | d+1=>itB l ix i d++if zaz ix d=(i:Int) then [zc l d] else []
def zc5 (vs:List Vec) (l:List Iv) (ix:List Int) (d:Nat):Kno:=(List.range vs.length).map fun i=>(itB l ix i d,yr vs i)
def zfg (vs:List Vec) (l:List Iv) (ix:List Int):Kno:=zc5 vs l ix l.length
theorem zsi {k:Kno} (hc:CanK k) {i j:Nat} (hi:i<k.length) (hj:j<k.length) (e:zf k i=zf k j):i=j:=by
 have one:∀{i j:Nat},i<j→j<k.length→zf k i=zf k j→False:=fun {i j} hij hj e=>by
  have hl:=List.pairwise_iff_getElem.1 hc.asc i j (by omega) hj hij;rw[←yw (by omega),←yw hj,e] at hl;unfold zdx at hl;rw[zjo] at hl;cases hl
 rcases Nat.lt_trichotomy i j with h | h | h
 · exact(one h hj e).elim
 · exact h
 · exact(one h hi e.symm).elim
def zg6 (p q:Seg):Prop:=(p.1.2<q.1.1∧(p.2=q.2→p.1.2+1<q.1.1))∨(q.1.2<p.1.1∧(p.2=q.2→q.1.2+1<p.1.1))
theorem zsj {p q:Seg} (h:zg6 p q):zg6 q p:=by
 rcases h with ⟨h1,h2⟩ | ⟨h1,h2⟩
 · exact .inr ⟨h1,fun e=>h2 e.symm⟩
 · exact .inl ⟨h1,fun e=>h2 e.symm⟩
theorem zkx {l:List Iv} (h:Good l):l.Pairwise fun s t=>s.2+1<t.1:=by
 rw[List.pairwise_iff_getElem];intro i j hi hj hij;have:=zc0 h hij hj;rwa [qo hi,qo hj] at this
theorem zsk {k:Kno} (hc:CanK k) {i j:Nat} (hi:i<k.length) (hj:j<k.length) (hij:i≠j) {s t:Iv} (hs:s∈(zf k i).1) (ht:t∈(zf k j).1):s.2<t.1∨t.2<s.1:=by
 have h1:=(hc.items _ (j8 hi)).1.ok s hs;have h2:=(hc.items _ (j8 hj)).1.ok t ht;rcases Nat.lt_or_ge s.2 t.1 with h | h
 · exact .inl h
 rcases Nat.lt_or_ge t.2 s.1 with h' | h'
 · exact .inr h'
 exfalso;refine hij (zsi hc hi hj (hc.apart _ (j8 hi) _ (j8 hj) (max s.1 t.1) (mem_iff.2 ⟨s,hs,?_,?_⟩) (mem_iff.2 ⟨t,ht,?_,?_⟩))) <;> omega
theorem zky {k:Kno} (hc:CanK k):∀d,d≤k.length→(kj k d).Pairwise zg6
 | 0,_=>List.Pairwise.nil
 | d+1,h=>by
   obtain⟨h1,h2,h3⟩:=za9 k d (by omega);obtain⟨-,g2⟩:=zg2 h1 d (zf k d).1;have e:kj k (d+1)=zax (kj k d) (zf k d).1 d:=rfl;rw[e];refine(List.Perm.pairwise_iff (fun {x y} h=>zsj h) g2).2 (List.pairwise_append.2 ⟨zky hc d (by omega),?_,fun p hp q hq=>?_⟩)
   · refine List.pairwise_map.2 ((zkx (hc.items _ (j8 h)).1).imp fun {s t} hst=>.inl ⟨?_,fun _=>hst⟩);simp only;omega
   · obtain⟨t,ht,rfl⟩:=List.mem_map.1 hq;obtain⟨p1,p2⟩:=h3 p hp;have hne:p.2≠d:=by omega
     rcases zsk hc (by omega:p.2<k.length) h hne p2 ht with hh | hh
     · exact .inl ⟨hh,fun e=>absurd e hne⟩
     · exact .inr ⟨hh,fun e=>absurd e hne⟩
theorem zkz {k:Kno} (hc:CanK k):(ze k).Pairwise fun p q=>p.1.2<q.1.1∧(p.2=q.2→p.1.2+1<q.1.1):=by
 obtain⟨h1,h2,h3⟩:=za9 k k.length (Nat.le_refl _);have h4:=zky hc k.length (Nat.le_refl _);have ok:∀p∈ze k,p.1.1≤p.1.2:=fun p hp=>(hc.items _ (j8 (h3 p hp).1)).1.ok _ (h3 p hp).2
 rw[List.pairwise_iff_getElem] at h1 h4 ⊢;intro i j hi hj hij;have e1:=h1 i j hi hj hij;have o1:=ok _ (List.getElem_mem hi);have o2:=ok _ (List.getElem_mem hj);unfold ze at o1 o2 ⊢;rcases h4 i j hi hj hij with h | h
 · exact h
 · exact absurd h.1 (by omega)
def zci (k:Kno):List Iv:=(ze k).map (·.1)
def zc6 (k:Kno):List Int:=(ze k).map fun p=>(p.2:Int)
theorem zg7 (k:Kno):(zci k).length=(ze k).length:=by simp[zci]
theorem zsl (k:Kno):(zc6 k).length=(ze k).length:=by simp[zc6]
theorem zfh {k:Kno} {i:Nat} (h:i<(ze k).length):zc (zci k) i=(ze k)[i].1:=by rw[qo (by rw[zg7];exact h)];simp[zci]
theorem zsm {k:Kno} {i:Nat} (h:i<(ze k).length):zaz (zc6 k) i=((ze k)[i].2:Int):=by rw[zff (by rw[zsl];exact h)];simp[zc6]
theorem zk0 (k:Kno) (i:Nat):∀d,d≤(ze k).length→itB (zci k) (zc6 k) i d=(((ze k).take d).filter fun p=>decide (p.2=i)).map (·.1)
 | 0,_=>by simp[itB]
 | d+1,h=>by
   rw[itB,zk0 k i d (by omega),zfh h,zsm h,List.take_succ_eq_append_getElem h,List.filter_append,List.map_append];congr 1;by_cases e:(ze k)[d].2=i
   · rw[if_pos (by omega),List.filter_cons_of_pos (by simpa using e)];rfl
   · rw[if_neg (by omega),List.filter_cons_of_neg (by simpa using e)];rfl
theorem zk1 (k:Kno) (i:Nat):∀d,d≤k.length→(((kj k d).filter fun p=>decide (p.2=i)).map (·.1)).Perm (if i<d then (zf k i).1 else [])
 | 0,_=>by simp[kj]
 | d+1,h=>by
   obtain⟨h1,h2,h3⟩:=za9 k d (by omega);obtain⟨-,g2⟩:=zg2 h1 d (zf k d).1;have e:kj k (d+1)=zax (kj k d) (zf k d).1 d:=rfl;rw[e];refine((g2.filter _).map _).trans ?_;rw[List.filter_append,List.map_append];have ih:=zk1 k i d (by omega);refine(ih.append_right _).trans ?_;by_cases hd:d=i
   · subst hd;rw[if_neg (by omega),if_pos (by omega),List.filter_eq_self.2 (fun a ha=>by obtain⟨s,_,rfl⟩:=List.mem_map.1 ha;simp),List.map_map];simp[Function.comp_def]
   · rw[List.filter_eq_nil_iff.2 (fun a ha=>by obtain⟨s,_,rfl⟩:=List.mem_map.1 ha;simpa using hd)];by_cases hi:i<d
     · rw[if_pos hi,if_pos (by omega)];simp
     · rw[if_neg hi,if_neg (by omega)];simp
theorem zsn {k:Kno} (hc:CanK k):zfg (k.map (·.2)) (zci k) (zc6 k)=k:=by
 obtain⟨h1,h2,h3⟩:=za9 k k.length (Nat.le_refl _);unfold zfg zc5;refine List.ext_getElem (by simp) fun i hi hi'=>?_
 rw[List.getElem_map,List.getElem_range,zg7,zk0 k i _ (Nat.le_refl _),List.take_length];have hp:=zk1 k i k.length (Nat.le_refl _);rw[if_pos hi'] at hp;have hgood:=(hc.items _ (j8 hi')).1
 have e:((ze k).filter fun p=>decide (p.2=i)).map (·.1)=(zf k i).1:=by
  refine zg3 (f:=(·.1)) hp (List.pairwise_map.2 (h1.filter _)) ?_ fun s hs t ht e=>?_
  · refine(zkx hgood).imp_of_mem fun {s t} hs ht hst=>?_
    have:=hgood.ok s hs;omega
  · exact zks hgood (hp.mem_iff.1 hs) (hp.mem_iff.1 ht) e
 rw[e,zbj (by simpa using hi'),List.getElem_map,yw hi']
theorem zk2 (vs:List Vec) (l:List Iv) (ix:List Int) (d:Nat):(zc5 vs l ix d).length=vs.length:=by simp[zc5]
theorem zso {vs:List Vec} {l:List Iv} {ix:List Int} {d i:Nat} (h:i<vs.length):zf (zc5 vs l ix d) i=(itB l ix i d,yr vs i):=by
 rw[yw (by rw[zk2];exact h)];simp[zc5]
theorem zg8 (l:List Iv) (ix:List Int) (i:Nat):∀d,(itB l ix i d).length≤d
 | 0=>by simp[itB]
 | d+1=>by
   have:=zg8 l ix i d;rw[itB,List.length_append];split <;> simp <;> omega
theorem zk3 {l:List Iv} {ix:List Int} {i:Nat} {s:Iv}:∀{d},d≤l.length→s∈itB l ix i d→s∈l
 | 0,_,h=>by cases h
 | d+1,hd,h=>by
   rw[itB] at h;rcases List.mem_append.1 h with h | h
   · exact zk3 (by omega) h
   · split at h
     · rw[List.mem_singleton] at h;rw[h];exact za5 hd
     · cases h
end
section
open Go.RowKit
theorem zg9 {c:Nat} (a:Nat) (h:c≠0):zcf (c:Int) (a:Int)=some ((c:Int),some (a:Int)):=by
 unfold zcf;rw[if_neg (by omega)]
theorem zsp (r:Nat) (e:Ent) (s:Value) (w:World):Calls Tryz.prog 171 #[.int .u64 r,zjp e s] w fun x w'=>x=.returned (.int .i64 (Lib.compareInt (e.1:Int) (r:Int)))∧Below w.heap.size w w':=by
 obtain⟨er,em,eh⟩:=e;obtain⟨q0,q1,q2⟩:=zgt w (.int .u64 er) (.int .u64 em) s 93 _ (Below.refl _ _);have Hal:=hid ((Below.refl w.heap.size w).alloc (Nat.le_refl _) (.cells #[.int .u64 er,.int .u64 em,s] 93));go_enter Tryz.func171,Tryz.ntmps171;go_wp2_with fail;refine(zil er r _).mono ?_;rintro e w1 ⟨rfl,rfl⟩;go_wp2;go_ret;exact⟨rfl,Hal.out⟩
set_option maxRecDepth 20000 in
theorem zsq (a:Option Addr) (n cap:Nat) (v:Vec) (w:World) (hE:Ents w a n cap v) (hD:Door w):
 Calls Tryz.prog 125 #[.slice a n cap] w fun x w'=>x=.returned (yh (vw (ckV v)))∧Below w.heap.size w w':=by
 have HE:=hid hE;have HD:=hid hD;have Hl:=hid hE.len;have hm:n≤9223372036854775807:=Nat.le_trans hE.room hE.most;have Hck:=hid (show ckV v=ju (zd1 v) v.length from rfl);clear hE hD;go_enter Tryz.func125,Tryz.ntmps125;go_wp2;go_loopw [3,4,5,8] (fun _ _ _ i wr=>∃k:Nat,k≤n∧i=.int .i64 k∧Below w.heap.size w wr∧Hid (∀j,j<k→zd1 v j=none)) (fun _ _ _ i _=>n - (intOf i).toNat)
 case atStart=>exact⟨0,by omega,rfl,Below.refl _ _,fun j h=>by omega⟩
 case round=>
  obtain⟨k,hk,rfl,hb,ht⟩:=hrel;have Hb:=hid hb;clear hb;by_cases hkn:k<n
  · have hkv:k<v.length:=by rw[Hl.out];exact hkn
    have HEr:=hid (HE.out.below Hb.out);obtain⟨bb,oo,rfl⟩:=HEr.out.some (by omega);obtain⟨x,m,c,hq⟩:=HEr.out.fix hkn;have Hat:=hid (show zd1 v k=match ckE (zi v k) with | some x=>some (x.1,k) | none=>if 0<k∧(zi v k).1≤(zi v (k - 1)).1 then some (3,k) else none from rfl);have Hp:=hid (show 0<k→∀w',Below wr.heap.size wr w'→w'.cell? ⟨bb,oo+(k - 1)*3,none⟩=some (.int .u64 (((zi v (k - 1)).1:Nat):Int)) from fun h0 w' h=>(HEr.out.at (k:=k - 1) (by omega) w' h).1);generalize zi v k=e at*;generalize zi v (k - 1)=p at*;have h0:(0:Int)≤k:=by omega
    have h04:(k:Int)<(n:Int):=by omega
    obtain⟨q1,q2,q3,-⟩:=hq _ (Below.refl _ _);have hal:Below wr.heap.size wr (wr.alloc (.cells #[.int .u64 e.1,.int .u64 e.2.1,.slice x m c] 93)):=(Below.refl _ _).alloc (Nat.le_refl _) _;have HX:=hid (zgt wr (.int .u64 e.1) (.int .u64 e.2.1) (.slice x m c) 93);have hDa:=HD.out.below (Nat.le_refl _) (Hb.out.trans (hal.mono Hb.out.size));have hC:=hid (zr1 e x m c (wr.alloc (.cells #[.int .u64 e.1,.int .u64 e.2.1,.slice x m c] 93)) (hq _ hal).2.2.2 hDa);have Hal:=hid hal;have HalW:=hid (Hb.out.trans (hal.mono Hb.out.size));clear hq hal hDa;obtain⟨er,em,eh⟩:=e;obtain⟨pr,pm,ph⟩:=p;simp only at q1 q2 q3 Hp Hat hC HX Hal HalW
    cases h:ckE (er,em,eh) with
    | some y=>
     obtain⟨cd,ci⟩:=y;rw[h] at Hat hC;simp only[vw,yh] at Hat hC;have hc0:=zj7 h;simp only at hc0;have Hr:=hid (zbw hkv ht.out Hat.out);clear h;go_wp2_with fail;refine hC.out.mono ?_;rintro z w1 ⟨rfl,hb1⟩;have Hb1:=hid (HalW.out.trans (hb1.mono HalW.out.size));clear hb1;go_wp2_with fail;refine(zcg (some ((cd:Int),some (ci:Int))) _ (HD.out.below (Nat.le_refl _) Hb1.out)).mono ?_;rintro z w2 ⟨rfl,hb2⟩;have Hb2:=hid (Hb1.out.trans (hb2.mono Hb1.out.size));clear hb2;simp only[zat];go_wp2_with fail;refine(zbh cd k _).mono ?_;rintro z w3 ⟨rfl,rfl⟩;go_wp2;go_ret
     exact⟨by rw[Hck.out,Hr.out];show _=Ending.returned (yh (some ((cd:Int),some (k:Int))));rw[←zg9 k hc0];rfl,Hb2.out⟩
    | none=>
     rw[h] at Hat hC;simp only[vw,yh] at Hat hC;clear h;go_wp2_with fail;refine hC.out.mono ?_;rintro z w1 ⟨rfl,hb1⟩;have Hb1:=hid hb1;have Hw1:=hid (HalW.out.trans (hb1.mono HalW.out.size));clear hb1;by_cases hk0:0<k
     · have hg:decide (0<(k:Int))=true:=by rw[decide_eq_true_iff];omega
       have hsub:IntKind.i64.wrap ((k:Int) - 1)=((k - 1:Nat):Int):=by rw[IntKind.wrap_i64];omega
       have h01:(0:Int)≤((k - 1:Nat):Int):=by omega
       have h03:((k - 1:Nat):Int)<(n:Int):=by omega
       have HX1:=hid (fun w' (h:Below w1.heap.size w1 w')=>HX.out w' (Hb1.out.trans (h.mono Hb1.out.size)));have HP1:=hid (fun w' (h:Below w1.heap.size w1 w')=>Hp.out hk0 w' (Hal.out.trans ((Hb1.out.trans (h.mono Hb1.out.size)).mono Hal.out.size)));have hK:=hid (fun w'=>zsp pr (er,em,eh) (.slice x m c) w');generalize k - 1=k1 at*;by_cases hle:er≤pr
       · have Hr:=hid (zbw hkv ht.out (Hat.out.trans (if_pos ⟨hk0,hle⟩)))
         have hci:decide (Lib.compareInt (er:Int) (pr:Int)≤0)=true:=by
          unfold Lib.compareInt;rw[decide_eq_true_iff];split
          · omega
          · rw[if_neg (by omega)];omega
         generalize Lib.compareInt (er:Int) (pr:Int)=ci at*;clear hle;go_wp2_with fail;go_cut [33] (fun t wc=>t=.bool true∧Hid (Below w1.heap.size w1 wc))
         case first=>
          refine ki (by kernel_rfl) (by kernel_rfl) ?_
          repeat (go_big_quiet_step ((intro hw;first
           | rfl
           | (have q0:=HX1.out _ hw
              have q1:=q0.1;have q2:=q0.2.1;have q3:=q0.2.2;have q4:=HP1.out _ hw;clear q0
              first
              | (go_at_call 171;exact zab hw (hK.out _))
              | (go_simp
                 first | rfl | exact⟨rfl,hw⟩ | (trace_state;fail))))))
          refine wpQuiet_nil ?_;intro w3 hb3;go_wp2;go_meet
          exact⟨rfl,hb3⟩
         case rest=>
          obtain⟨rfl,hb2⟩:=hcut;have Hb2:=hid (Hw1.out.trans (hb2.out.mono Hw1.out.size));clear hb2;go_wp2_with fail;refine(zbh 3 k _).mono ?_;rintro z w3 ⟨rfl,rfl⟩;go_wp2;go_ret;exact⟨by rw[Hck.out,Hr.out];rfl,Hb2.out⟩
       · have Hr:=hid (zep ht.out (Hat.out.trans (if_neg (fun h=>hle h.2))))
         have hci:decide (Lib.compareInt (er:Int) (pr:Int)≤0)=false:=by
          unfold Lib.compareInt;rw[decide_eq_false_iff_not,if_neg (by omega),if_pos (by omega)];omega
         generalize Lib.compareInt (er:Int) (pr:Int)=ci at*;clear hle;go_wp2_with fail;go_cut [33] (fun t wc=>t=.bool false∧Hid (Below w1.heap.size w1 wc))
         case first=>
          refine ki (by kernel_rfl) (by kernel_rfl) ?_
          repeat (go_big_quiet_step ((intro hw;first
           | rfl
           | (have q0:=HX1.out _ hw
              have q1:=q0.1;have q2:=q0.2.1;have q3:=q0.2.2;have q4:=HP1.out _ hw;clear q0
              first
              | (go_at_call 171;exact zab hw (hK.out _))
              | (go_simp
                 first | rfl | exact⟨rfl,hw⟩ | (trace_state;fail))))))
          refine wpQuiet_nil ?_;intro w3 hb3;go_wp2;go_meet
          exact⟨rfl,hb3⟩
         case rest=>
          obtain⟨rfl,hb2⟩:=hcut;have Hb2:=hid (Hw1.out.trans (hb2.out.mono Hw1.out.size));clear hb2;go_wp2;go_roundw
          case rel=>exact⟨k+1,by omega,by go_num,Hb2.out,Hr.out⟩
          case measure=>simp[intOf];omega
     · have hg:decide (0<(k:Int))=false:=by rw[decide_eq_false_iff_not];omega
       have hgn:decide (0<k)=false:=by rw[decide_eq_false_iff_not];exact hk0
       have Hr:=hid (zep ht.out (Hat.out.trans (if_neg (fun h=>hk0 h.1))));clear hk0;go_wp2;go_quiet (fail);go_wp2;go_roundw
       case rel=>exact⟨k+1,by omega,by go_num,by first | exact Hw1.out | exact zq Hw1.out _,Hr.out⟩
       case measure=>simp[intOf];omega
  · obtain rfl:k=n:=by omega
    have Hr:=hid (ze7 (n:=v.length) (fun j hj=>ht.out j (by rw[←Hl.out];exact hj)));go_wp2;go_ret;exact⟨by rw[Hck.out,Hr.out];rfl,Hb.out⟩
def zah (pay:Nat→List Nat) (n:Nat):List Nat:=(List.range n).flatMap fun i=>zam (pay i)
theorem zsr (pay:Nat→List Nat) (n:Nat):zah pay (n+1)=zah pay n++zam (pay n):=by
 unfold zah;rw[List.range_succ,List.flatMap_append];simp
set_option maxRecDepth 20000 in
theorem zss (b o n cap:Nat) (E:Nat→Value) (pay:Nat→List Nat) (w:World) (hc:∀i,i<n→w.cell? ⟨b,o+i,none⟩=some (E i)) (hr:n≤cap) (hcm:cap≤1000)
 (hE:∀i,i<n→∀W,Below w.heap.size w W→Calls Tryz.prog 54 #[E i] W fun x w'=>(∃v,x=.returned (.tuple #[v,.nilIface])∧w'.ownsRow W.heap.size 5 1 v (pay i).length (u8s (pay i)))∧Below W.heap.size W w')
 (hlt:∀i,i<n→∀x∈pay i,x<256) (hlen:∀i,i≤n→(zah pay i).length≤1000000000000):
 Calls Tryz.prog 71 #[.slice (some ⟨b,o,none⟩) n cap] w fun e w'=>(∃v,e=.returned (.tuple #[v,.nilIface])∧w'.ownsRow w.heap.size 5 1 v (zah pay n).length (u8s (zah pay n)))∧Below w.heap.size w w':=by
 have HE:=hid hE;have Hlt:=hid hlt;have Hlen:=hid hlen;have Hc:=hid (fun W (h:Below w.heap.size w W) i (hi:i<n)=>(h.cell (p:=⟨b,o+i,none⟩) (zd (hc i hi))).trans (hc i hi));have hm:n≤9223372036854775807:=by omega
 clear hE hlt hlen hc;go_enter Tryz.func71,Tryz.ntmps71;go_wp2_with fail;go_loopw [4,11] (fun v i wr=>∃k:Nat,k≤n∧i=.int .i64 k∧Hid (Below w.heap.size w wr)∧Hid (wr.ownsRow w.heap.size 5 1 v (zah pay k).length (u8s (zah pay k)))) (fun _ i _=>n - (intOf i).toNat)
 case atStart=>exact⟨0,Nat.zero_le _,rfl,hid (Below.refl _ _),hid (World.ownsRow_nil _ _ _ _)⟩
 case round=>
  obtain⟨k,hkn,rfl,hb,ho⟩:=hrel;have Hsz:=hid hb.out.size;by_cases hlt:k<n
  · have e1:=Hc.out _ hb.out k hlt;have hd:decide ((k:Int)<(n:Int))=true:=by rw[decide_eq_true_iff];omega
    have hk1:IntKind.i64.wrap ((k:Int)+1)=((k+1:Nat):Int):=by rw[IntKind.wrap_i64];omega
    have h0:(0:Int)≤(k:Int):=by omega
    have h0n:(k:Int)<(n:Int):=by omega
    have HEn:=hid (HE.out k hlt wr hb.out);have Hsu:=hid (zsr pay k);have hl1:=Hlen.out k (by omega);have hl2:=Hlen.out (k+1) (by omega);rw[Hsu.out,List.length_append] at hl2
    have Hfl:=hid (show (pay k).length≤1000000000000 from by
     have:(pay k).length≤(zam (pay k)).length:=by unfold zam;simp only[List.length_append];omega
     omega)
    have Hfl0:=hid hl1;have Hpl:=hid (Hlt.out k hlt);clear hl1 hl2;generalize E k=ek at*;go_wp2_with fail;refine HEn.out.mono ?_;rintro e w2 ⟨⟨pv,rfl,hpo⟩,hb2⟩;have Ho2:=hid (yk ho.out hb2);have Hb2:=hid (hb.out.trans (hb2.mono Hsz.out));obtain⟨bb,cc,rfl,hB2⟩:=zet hpo Hpl.out
    have hne:∀b' o' k',bb=some ⟨b',o',k'⟩→Value.ownBlock _≠some b':=fun b' o' k' e h=>by
     have h1:=(ho.out.lt b' h).2;rcases zqm hpo with ⟨e2,-⟩ | ⟨g,e2,h2,-⟩
     · rw[e2] at e;cases e
     · rw[e2] at e;injection e with e;injection e with e;omega
    have HAp:=hid (fun hx hy=>zsa _ _ w.heap.size _ bb _ cc _ w2 hB2 hne Ho2.out (Nat.le_trans Hsz.out hb2.size) hx hy);have Hs2:=hid (Nat.le_trans Hsz.out hb2.size);clear hb2 hB2 hpo hne;go_wp2_with fail;refine(HAp.out Hfl.out Hfl0.out).mono ?_;rintro e w3 ⟨⟨v3,rfl,ho3⟩,hb3⟩;have Hb3:=hid (Hb2.out.trans hb3)
    have Ho3:=hid (show w3.ownsRow w.heap.size 5 1 v3 (zah pay (k+1)).length (u8s (zah pay (k+1))) from by
     rw[Hsu.out,List.length_append,zct];exact ho3)
    clear ho3 hb3;go_wp2_with fail;go_roundw
    case rel=>exact⟨k+1,hlt,rfl,Hb3,Ho3⟩
    case measure=>simp[intOf];omega
  · obtain rfl:k=n:=by omega
    have hd:decide ((k:Int)<(k:Int))=false:=by rw[decide_eq_false_iff_not];omega
    go_wp2_with fail;go_ret2;exact⟨⟨_,rfl,ho.out⟩,hb.out⟩
end
section
theorem zk4:zah (fun _=>[0,0]) 1=zam [0,0]:=rfl
end
section
open Go.RowKit
theorem zfi {w:World} (base:Nat) (v:Value) (n:Nat) (xs:List Iv) (hown:w.ownsRow base 89 2 v n (ivC xs)) (A:Option Addr) (c:Nat) (s:Iv) (hr:Rd w 2 A 1 (ivC [s])) (hb:n+1≤1000000000000) (hbase:base≤w.heap.size):
 ∃v' w',(Builtin.append_ #[91,91] 91 #[v,.slice A 1 c]).run Tryz.prog w=.ok v' w'∧w'.ownsRow base 89 2 v' (n+1) (ivC (xs++[s]))∧w.grownBy w' v.ownBlock∧∀g',v'.ownBlock=some g'→v.ownBlock=some g'∨w.heap.size≤g':=by
 rcases hown.2 with ⟨rfl,h0⟩ | ⟨g,cap,cur,rfl,hg,hrow,hnc,hcm,hcs,htake⟩
 · have hx:xs=[]:=by
    have:=hown.1;rw[zew,h0] at this;exact List.length_eq_zero_iff.1 (by omega)
   subst h0 hx;obtain⟨v',w',h1,h2,h3⟩:=ze2 (w:=w) w.heap.size (.slice none 0 0) 0 [] (World.ownsRow_nil _ _ _ _) A 1 c [s] hr (by omega) (Nat.le_refl _);exact⟨v',w',h1,zad h2 hbase,h3,fun g' e=>.inr (h2.lt _ e).1⟩
 · obtain⟨i,hi,hz,hs,hby⟩:=info_parts Tryz.info_iv;obtain⟨b,o,rfl,hc⟩:=hr.2 (by omega);by_cases hf:n+1≤cap
   · obtain⟨w',r1,r2,r3⟩:=run_append_fits (P:=Tryz.prog) w base 91 91 89 i 2 Tryz.underlying91 hi hs g n cap _ hown ⟨b,o,none⟩ 1 c (ivC [s]) rfl (hr.news (by omega)) (zjh [s]) hf;exact⟨_,w',r1,by rw[zgf];exact r2,r3,fun g' e=>.inl e⟩
   · obtain⟨v',w',r1,r2,r3⟩:=run_append_arg_grows (P:=Tryz.prog) w 91 91 89 i _ 2 16 Tryz.underlying91 hi hz hs hby rfl (by omega) ⟨g,0,none⟩ n cap (ivC xs) hown.1 (fun j u hu=>hown.cells (g:=g) rfl j u hu) ⟨b,o,none⟩ 1 c (ivC [s]) rfl (hr.news (by omega)) (by omega) (by unfold maxLen;omega) (by omega);exact⟨v',w',r1,by rw[zgf];exact zad r2 hbase,⟨r3.os,r3.tape,r3.output,r3.size,fun k hk _=>r3.block k hk (by simp)⟩,fun g' e=>.inr (r2.lt _ e).1⟩
theorem yj {w w':World} {base sz n:Nat} {e:TypeId} {v:Value} {xs:List Value} (h:w.ownsRow base e sz v n xs) (hk:∀k,v.ownBlock=some k→w'.heap[k]?=w.heap[k]?):w'.ownsRow base e sz v n xs:=by
 refine⟨h.1,?_⟩;rcases h.2 with h2 | ⟨g,cap,cur,hv,hg,hh,r⟩
 · exact .inl h2
 · subst hv;exact .inr ⟨g,cap,cur,rfl,hg,(hk g rfl).trans hh,r⟩
theorem zst {β:Type} (f:Nat→β) (n k:Nat) (a:β):((List.range n).map f).set k a=(List.range n).map fun i=>if i=k then a else f i:=by
 refine List.ext_getElem (by simp) fun i h1 h2=>?_
 rw[List.getElem_set];simp only[List.getElem_map,List.getElem_range];by_cases h:k=i
 · rw[if_pos h,if_pos h.symm]
 · rw[if_neg h,if_neg (fun e=>h e.symm)]
theorem zk5:∀(ss:List (Value×Value)) (k:Nat) (x:Value),(vg ss).set (k*2) x=vg (ss.set k (x,(ss.getD k (x,x)).2))
 | [],k,x=>by simp[vg]
 | s :: ss,0,x=>rfl
 | s :: ss,k+1,x=>by
   have e1:vg (s :: ss)=s.1 :: s.2 :: vg ss:=rfl;rw[e1,show (k+1)*2=k*2+1+1 by omega,List.set_cons_succ,List.set_cons_succ,zk5 ss k x]
   rfl
def vb (n:Nat) (X Y:Nat→Value):List Value:=vg ((List.range n).map fun i=>(X i,Y i))
def upd {β:Type} (X:Nat→β) (k:Nat) (x:β):Nat→β:=fun i=>if i=k then x else X i
theorem zan {β:Type} (X:Nat→β) (k:Nat) (x:β):upd X k x k=x:=if_pos rfl
theorem kp {β:Type} (X:Nat→β) {k i:Nat} (x:β) (h:i≠k):upd X k x i=X i:=if_neg h
theorem zha {n k:Nat} (hk:k<n) (X Y:Nat→Value) (x:Value):(vb n X Y).set (k*2) x=vb n (upd X k x) Y:=by
 unfold vb;rw[zk5,zst];congr 1;refine List.map_congr_left fun i hi=>?_
 by_cases h:i=k
 · subst h;simp[upd,hk]
 · simp[upd,h]
theorem zbk {n k:Nat} (hk:k<n) (X Y:Nat→Value):(vb n X Y)[k*2]?=some (X k)∧(vb n X Y)[k*2+1]?=some (Y k):=
 zgw (p:=(X k,Y k)) (by simp[hk])
theorem zsu (n:Nat) (X Y:Nat→Value):vb (n+1) X Y=vb n X Y++[X n,Y n]:=by
 unfold vb;rw[List.range_succ,List.map_append,zrf]
 rfl
structure BldM (w2 w:World) (base g n c:Nat) (Y:Nat→Value) (L:Nat→List Iv) (X:Nat→Value):Prop where
 kept:Kept (fun b=>b<w2.heap.size∧b≠g) w2 w
 row:w.ownsRow base 97 2 (.slice (some ⟨g,0,none⟩) n c) n (vb n X Y)
 its:∀i,i<n→w.ownsRow w2.heap.size 89 2 (X i) (L i).length (ivC (L i))
 apart:∀i,i<n→∀j,j<n→i≠j→∀b,(X i).ownBlock=some b→(X j).ownBlock≠some b
theorem BldM.cells {w2 w:World} {base g n c:Nat} {Y:Nat→Value} {L:Nat→List Iv} {X:Nat→Value} (h:BldM w2 w base g n c Y L X) {i:Nat} (hi:i<n):w.cell? ⟨g,i*2,none⟩=some (X i)∧w.cell? ⟨g,i*2+1,none⟩=some (Y i):=by
 obtain⟨e1,e2⟩:=zbk hi X Y;have c1:=h.row.cells (g:=g) rfl _ _ e1;have c2:=h.row.cells (g:=g) rfl _ _ e2;rw[qi,Nat.zero_add] at c1 c2;exact⟨c1,c2⟩
theorem BldM.below {w2 w w':World} {base g n c:Nat} {Y:Nat→Value} {L:Nat→List Iv} {X:Nat→Value} (h:BldM w2 w base g n c Y L X) (hb:Below w.heap.size w w'):BldM w2 w' base g n c Y L X:=
 ⟨h.kept.below hb,yk h.row hb,fun i hi=>yk (h.its i hi) hb,h.apart⟩
theorem BldM.step {w2 w w':World} {base g n c j:Nat} {Y:Nat→Value} {L L':Nat→List Iv} {X:Nat→Value} (h:BldM w2 w base g n c Y L X) (hj:j<n) (hg:g<w2.heap.size) {v':Value} {l:List Iv}
 (ho:w'.ownsRow w2.heap.size 89 2 v' l.length (ivC l)) (hgr:w.grownBy w' (X j).ownBlock) (hv:∀g',v'.ownBlock=some g'→(X j).ownBlock=some g'∨w.heap.size≤g') (hL:L' j=l) (hO:∀i,i≠j→L' i=L i):
 BldM w2 (w'.setCell ⟨g,j*2,none⟩ v') base g n c Y L' (upd X j v'):=by
 have hne:∀k,(X j).ownBlock=some k→w2.heap.size≤k:=fun k hk=>((h.its j hj).lt k hk).1
 have hgw:g<w.heap.size:=Nat.lt_of_lt_of_le hg h.kept.size
 have hrow':w'.ownsRow base 97 2 (.slice (some ⟨g,0,none⟩) n c) n (vb n X Y):=yj h.row fun k hk=>by
  have e:k=g:=by simpa [Value.ownBlock] using hk.symm
  subst e;exact hgr.block k hgw fun e=>by have:=hne k e.symm;omega
 have hset:∀k,w2.heap.size≤k→(w'.setCell ⟨g,j*2,none⟩ v').heap[k]?=w'.heap[k]?:=fun k hk=>Below.heap_setCell _ _ _ _ (by simp only;omega)
 refine⟨(h.kept.grown hgr fun k hk hl=>?_).setCell (fun _ h=>h.2 rfl) _,?_,fun i hi=>?_,fun i hi i' hi' hii b=>?_⟩
 · have:=hne k hk;omega
 · rw[←zha hj];exact(hrow'.stored (j*2) v').1
 · by_cases e:i=j
   · subst e;rw[zan,hL];exact yj ho fun k hk=>hset k (ho.lt k hk).1
   · rw[kp _ _ e,hO i e];refine yj (h.its i hi) fun k hk=>?_
     have hkl:=(h.its i hi).lt k hk;rw[hset k hkl.1];exact hgr.block k hkl.2 (fun e'=>h.apart i hi j hj e k hk e'.symm)
 · by_cases e:i=j
   · subst e;rw[zan,kp _ _ (fun e=>hii e.symm)];intro hb hb';have hkl:=(h.its i' hi').lt b hb';rcases hv b hb with h' | h'
     · exact h.apart i hi i' hi' hii b h' hb'
     · omega
   · rw[kp _ _ e];intro hb;by_cases e':i'=j
     · subst e';rw[zan];intro hb';have hkl:=(h.its i hi).lt b hb;rcases hv b hb' with h' | h'
       · exact h.apart i hi i' hi' hii b hb h'
       · omega
     · rw[kp _ _ e'];exact h.apart i hi i' hi' hii b hb
theorem zsv {w2 w:World} {base g:Nat} {y:Value} {v:Vec} (h:EnSl w2 base y v) (hk:Kept (fun b=>b<w2.heap.size∧b≠g) w2 w) {C:Array Value} {fr:Nat×Nat} (hg:w2.heap[g]?=some (.cells C 97 fr)) (hb:base≤g):EnSl w base y v:=by
 refine h.steady (P:=za7) ⟨hk.size,fun k hk2 hp=>hk.row k hk2 ⟨hk2,fun e=>?_⟩⟩ (.inl rfl) (.inr rfl);subst e;rcases hp with h' | ⟨C',T,fr',hT,h'⟩
 · omega
 · rw[hg] at h';cases h';rcases hT with h | h <;> cases h
theorem BldM.frags {w2 w:World} {base g n c ib:Nat} {Y:Nat→Value} {L:Nat→List Iv} {X:Nat→Value} (h:BldM w2 w base g n c Y L X) (hg:base≤g) (hib:ib≤g) {k:Kno} (hk:k.length=n) (hL:∀i,i<n→(zf k i).1=L i) (h64:∀i,i<n→yi (L i)) (hY:∀i,i<n→EnSl w2 ib (Y i) (zf k i).2)
 {C:Array Value} {fr:Nat×Nat} (hr:w2.heap[g]?=some (.cells C 97 fr)):Frags w (some ⟨g,0,none⟩) n c k:=by
 have hcc:n≤c∧c≤9223372036854775807:=by
  rcases h.row.2 with ⟨h',_⟩ | ⟨g',cap,cur,h',_,_,hnc,hcm,_⟩
  · cases h'
  · cases h';unfold maxLen at hcm;omega
 refine⟨hk,hcc.1,hcc.2,(by intro e;cases e),fun hn=>⟨g,0,rfl,fun i hi=>?_⟩⟩
 · obtain⟨c1,c2⟩:=h.cells hi;rw[Nat.zero_add];constructor
   · obtain⟨a,c,e,hI⟩:=zbs (h.its i hi) (h64 i hi);rw[e] at c1;exact⟨a,_,c,c1,by rw[hL i hi];exact hI⟩
   · obtain⟨a,m,c,e,hE⟩:=zsv (hY i hi) h.kept hr hib;rw[e] at c2;exact⟨a,m,c,c2,hE.ents⟩
structure Vecs (w:World) (a:Option Addr) (n cap:Nat) (vs:List Vec):Prop where
 len:vs.length=n
 room:n≤cap
 most:cap≤9223372036854775807
 nilc:a=none→cap=0
 cells:0<n→∃b o,a=some ⟨b,o,none⟩∧∀i,i<n→EnCell w ⟨b,o+i,none⟩ (yr vs i)
theorem Vecs.below {w w':World} {a:Option Addr} {n cap:Nat} {vs:List Vec} (h:Vecs w a n cap vs) (hb:Below w.heap.size w w'):Vecs w' a n cap vs:=by
 refine⟨h.len,h.room,h.most,h.nilc,fun hn=>?_⟩;obtain⟨b,o,ha,hc⟩:=h.cells hn;exact⟨b,o,ha,fun i hi=>(hc i hi).below hb⟩
theorem Vecs.fix {w:World} {b o n cap:Nat} {vs:List Vec} (h:Vecs w (some ⟨b,o,none⟩) n cap vs) {i:Nat} (hi:i<n):∃y m c,∀w',Below w.heap.size w w'→w'.cell? ⟨b,o+i,none⟩=some (.slice y m c)∧Ents w' y m c (yr vs i):=by
 obtain⟨b',o',hs,hc⟩:=h.cells (by omega);cases hs;obtain⟨y,m,c,h1,h2⟩:=hc i hi;exact⟨y,m,c,fun w' hb=>⟨(hb.cell (zd h1)).trans h1,h2.below hb⟩⟩
theorem Vecs.some {w:World} {a:Option Addr} {n cap:Nat} {vs:List Vec} (h:Vecs w a n cap vs) (hn:0<n):∃b o,a=some ⟨b,o,none⟩:=by
 obtain⟨b,o,ha,-⟩:=h.cells hn;exact⟨b,o,ha⟩
structure Zs (w:World) (a:Option Addr) (n cap:Nat) (l:List Int):Prop where
 len:l.length=n
 room:n≤cap
 most:cap≤9223372036854775807
 nilc:a=none→cap=0
 lt:∀x∈l,-9223372036854775808≤x∧x≤9223372036854775807
 cells:0<n→∃b o,a=some ⟨b,o,none⟩∧∀i,i<n→w.cell? ⟨b,o+i,none⟩=some (.int .i64 (zaz l i))
theorem Zs.below {w w':World} {a:Option Addr} {n cap:Nat} {l:List Int} (h:Zs w a n cap l) (hb:Below w.heap.size w w'):Zs w' a n cap l:=by
 refine⟨h.len,h.room,h.most,h.nilc,h.lt,fun hn=>?_⟩;obtain⟨b,o,ha,hc⟩:=h.cells hn;exact⟨b,o,ha,fun i hi=>(hb.cell (p:=⟨b,o+i,none⟩) (zd (hc i hi))).trans (hc i hi)⟩
theorem I64s.zs {w:World} {a:Option Addr} {n cap:Nat} {l:List Nat} (h:I64s w a n cap l) (hl:∀x∈l,x≤9223372036854775807):Zs w a n cap (l.map fun x:Nat=>(x:Int)):=by
 refine⟨by rw[List.length_map];exact h.len,h.room,h.most,h.nilc,fun x hx=>?_,fun hn=>?_⟩
 · obtain⟨y,hy,rfl⟩:=List.mem_map.1 hx;have:=hl y hy;omega
 · obtain⟨b,o,ha,hc⟩:=h.cells hn;refine⟨b,o,ha,fun i hi=>?_⟩
   have e:zaz (l.map fun x:Nat=>(x:Int)) i=((nth l i:Nat):Int):=by
    have hi':i<l.length:=by rw[h.len];exact hi
    rw[zff (by simpa using hi')];simp[nth,hi']
   rw[e];exact hc i hi
theorem Ivs.at {w:World} {b o n c:Nat} {l:List Iv} (h:Ivs w (some ⟨b,o,none⟩) n c l) {j:Nat} (hj:j<n) (w':World) (hb:Below w.heap.size w w'):w'.cell? ⟨b,o+j*2,none⟩=some (.int .u64 (((zc l j).1:Nat):Int))∧w'.cell? ⟨b,o+j*2+1,none⟩=some (.int .u64 (((zc l j).2:Nat):Int)):=by
 obtain⟨b',o',e,hc⟩:=(h.below hb).cells (by omega);cases e;exact hc j hj
theorem Zs.at {w:World} {b o n c:Nat} {l:List Int} (h:Zs w (some ⟨b,o,none⟩) n c l) {j:Nat} (hj:j<n) (w':World) (hb:Below w.heap.size w w'):w'.cell? ⟨b,o+j,none⟩=some (.int .i64 (zaz l j)):=by
 obtain⟨b',o',e,hc⟩:=(h.below hb).cells (by omega);cases e;exact hc j hj
theorem Zs.some {w:World} {a:Option Addr} {n c:Nat} {l:List Int} (h:Zs w a n c l) (hn:0<n):∃b o,a=some ⟨b,o,none⟩:=by
 obtain⟨b,o,ha,-⟩:=h.cells hn;exact⟨b,o,ha⟩
theorem Ivs.some {w:World} {a:Option Addr} {n c:Nat} {l:List Iv} (h:Ivs w a n c l) (hn:0<n):∃b o,a=some ⟨b,o,none⟩:=by
 obtain⟨b,o,ha,-⟩:=h.cells hn;exact⟨b,o,ha⟩
theorem zhb (x:Nat) (w:World):Calls Tryz.prog 261 #[.int .i64 x] w fun e w'=>e=.returned (.bool false)∧w'=w:=by
 go_enter Tryz.func261,Tryz.ntmps261;go_wp2;go_ret;exact⟨by simp,rfl⟩
theorem zsw (x y:Nat) (w:World):Calls Tryz.prog 232 #[.int .i64 x,.int .i64 y] w fun e w'=>e=.returned (.int .i64 (if x<y then -1 else if y<x then 1 else 0))∧w'=w:=by
 by_cases h1:x<y
 · rw[if_pos h1];go_enter Tryz.func232,Tryz.ntmps232;go_wp2_with (go_at_call 261;refine(zhb _ _).mono ?_;rintro e w1 ⟨rfl,rfl⟩);go_ret;exact⟨rfl,rfl⟩
 · rw[if_neg h1];by_cases h2:y<x
   · rw[if_pos h2];go_enter Tryz.func232,Tryz.ntmps232;go_wp2_with (go_at_call 261;refine(zhb _ _).mono ?_;rintro e w1 ⟨rfl,rfl⟩);go_ret;exact⟨rfl,rfl⟩
   · rw[if_neg h2];go_enter Tryz.func232,Tryz.ntmps232;go_wp2_with (go_at_call 261;refine(zhb _ _).mono ?_;rintro e w1 ⟨rfl,rfl⟩);go_ret;exact⟨rfl,rfl⟩
set_option maxRecDepth 20000 in
theorem zsx (a d:Option Addr) (N c M c':Nat) (P R:List Nat) (w:World) (hP:U64s w a N c P) (hR:U64s w d M c' R):
 Calls Tryz.prog 190 #[.slice a N c,.slice d M c'] w fun e w'=>e=.returned (.int .i64 (qq P R))∧Below w.heap.size w w':=by
 have HP:=hid hP;have HR:=hid hR;have HN:=hid hP.len;have HM:=hid hR.len;have hNm:N≤9223372036854775807:=Nat.le_trans hP.room hP.most;have hMm:M≤9223372036854775807:=Nat.le_trans hR.room hR.most;clear hP hR;obtain⟨K,hK⟩:∃K:Nat,K=min N M:=⟨_,rfl⟩;have hK1:K≤N:=by omega
 have hK2:K≤M:=by omega
 have hK3:K=N∨K=M:=by omega
 have hmin:min (N:Int) (M:Int)=(K:Int):=by omega
 have HKc:=hid hK3;clear hK hK3;go_enter Tryz.func190,Tryz.ntmps190;go_wp2;go_loopw [5,11] (fun _ i wr=>∃k:Nat,k≤K∧i=.int .i64 k∧Below w.heap.size w wr∧Hid (qq P R=qq (P.drop k) (R.drop k))) (fun _ i _=>K - (intOf i).toNat)
 case atStart=>exact⟨0,by omega,rfl,Below.refl _ _,rfl⟩
 case round=>
  obtain⟨k,hk,rfl,hb,ht⟩:=hrel;have Hb:=hid hb;clear hb;have h0:(0:Int)≤k:=by omega
  by_cases hkK:k<K
  · have h1:k<N:=by omega
    have h2:k<M:=by omega
    have hst:=zkj (p:=P) (q:=R) (k:=k) (by rw[HN.out];exact h1) (by rw[HM.out];exact h2);have Hst:=hid (ht.out.trans hst);obtain⟨b1,o1,rfl,hc1⟩:=(HP.out.below Hb.out).cells (by omega);obtain⟨b2,o2,rfl,hc2⟩:=(HR.out.below Hb.out).cells (by omega);have q1:=hc1 k h1;have q2:=hc2 k h2;clear hst hc1 hc2;generalize nth P k=x at*;generalize nth R k=y at*;have h01:(k:Int)<(N:Int):=by omega
    have h02:(k:Int)<(M:Int):=by omega
    have h03:(k:Int)<(K:Int):=by omega
    have hcP:=HP.out.room;have hcR:=HR.out.room;by_cases hxy:x=y
    · subst hxy;rw[if_neg (Nat.lt_irrefl _),if_neg (Nat.lt_irrefl _)] at Hst;go_wp2;go_quiet (fail);go_wp2;go_roundw
      case rel=>exact⟨k+1,by omega,by go_num,by first | exact Hb.out | exact zq Hb.out _,Hst.out⟩
      case measure=>simp[intOf];omega
    · have hne:((x:Int) != (y:Int))=true:=by rw[bne_iff_ne];omega
      have Hci:=hid (show Lib.compareInt (x:Int) (y:Int)=qq P R from by
       rw[Hst.out];unfold Lib.compareInt;by_cases hlt:x<y
       · rw[if_pos (by omega),if_pos hlt]
       · rw[if_neg (by omega),if_neg hlt,if_pos (by omega),if_pos (by omega)])
      have hC:=hid (fun w'=>zil x y w');rw[Hci.out] at hC;generalize hzz:qq P R=z at*;have Hzz:=hid hzz;clear hzz;have hq1:=hid (fun w' (h:Below wr.heap.size wr w')=>(h.cell (p:=⟨b1,o1+k,none⟩) (zd q1)).trans q1);have hq2:=hid (fun w' (h:Below wr.heap.size wr w')=>(h.cell (p:=⟨b2,o2+k,none⟩) (zd q2)).trans q2);clear hxy;go_wp2;go_quiet (fail);go_wp2_with fail;refine ki (by kernel_rfl) (by kernel_rfl) ?_
      repeat (go_big_quiet_step ((intro hw;first
       | rfl
       | (have q3:=hq1.out _ (by first | exact hw | exact Below.trans (zq (Below.refl _ _) _) hw)
          have q4:=hq2.out _ (by first | exact hw | exact Below.trans (zq (Below.refl _ _) _) hw)
          first
          | (go_at_call 131;refine(hC.out _).mono ?_;rintro e w4 ⟨rfl,rfl⟩;exact⟨rfl,hw⟩)
          | (go_simp
             first | rfl | exact⟨rfl,hw⟩ | (trace_state;fail))))))
      refine wpQuiet_nil ?_;intro w3 hb3;go_wp2;go_ret;exact⟨by rw[Hzz.out];rfl,Hb.out.trans ((by first | exact hb3 | exact Below.trans (zq (Below.refl _ _) _) hb3:Below wr.heap.size wr w3).mono Hb.out.size)⟩
  · obtain rfl:k=K:=by omega
    have Hz:=hid (ht.out.trans (zgx (by rw[HN.out];omega) (by rw[HM.out];omega) (by rw[HN.out,HM.out];exact HKc.out)));rw[HN.out,HM.out] at Hz;have hK:=hid (fun w'=>zsw N M w');obtain⟨zz,hzz⟩:∃zz:Int,zz=if N<M then -1 else if M<N then 1 else 0:=⟨_,rfl⟩;rw[←hzz] at hK Hz;clear hzz;go_wp2_with fail;refine(hK.out _).mono ?_;rintro e w1 ⟨rfl,rfl⟩;go_wp2;go_ret;exact⟨by rw[Hz.out];rfl,Hb.out⟩
theorem zk6 (v:Vec):v.length≤(zh v).length:=by
 unfold zh;rw[List.length_cons]
 induction v with
 | nil=>exact Nat.zero_le _
 | cons e v ih=>rw[List.flatMap_cons,List.length_append,List.length_cons,zd3];omega
theorem zk7 (a d:Option Addr) (n c n' c':Nat) (v u:Vec) (w:World) (hE:Ents w a n c v) (hF:Ents w d n' c' u) (fv:(zh v).length≤1000000000000) (fu:(zh u).length≤1000000000000):
 Calls Tryz.prog 148 #[.slice a n c,.slice d n' c'] w fun x w'=>x=.returned (.int .i64 (jl v u))∧Below w.heap.size w w':=by
 have hC:=hid (zkw a n c v w hE (by rw[←hE.len];exact Nat.le_trans (zk6 v) fv) fv);have hD:=hid (fun w' (h:Below w.heap.size w w')=>zkw d n' c' u w' (hF.below h) (by rw[←hF.len];exact Nat.le_trans (zk6 u) fu) fu);have Hpl:=hid (zfc hE.lt fv);have Hql:=hid (zfc hF.lt fu);have Hcv:=hid (show jl v u=qq (zh v) (zh u) from rfl);clear hE hF fv fu;generalize zh v=P at*;generalize zh u=R at*;go_enter Tryz.func148,Tryz.ntmps148;go_wp2_with fail;refine hC.out.mono ?_;rintro e w1 ⟨⟨y,rfl,ho1⟩,hb1⟩;have Hb1:=hid hb1;obtain⟨aP,cP,rfl,hU1⟩:=ze0 ho1 Hpl.out;have HU1:=hid hU1;clear hb1 ho1 hU1;go_wp2_with fail;refine(hD.out _ Hb1.out).mono ?_;rintro e w2 ⟨⟨y,rfl,ho2⟩,hb2⟩;have Hb2:=hid (Hb1.out.trans (hb2.mono Hb1.out.size));obtain⟨aR,cR,rfl,hU2⟩:=ze0 ho2 Hql.out;have HUp:=hid (HU1.out.below hb2);have HUr:=hid hU2;clear hb2 ho2 hU2;go_wp2_with fail;refine(zsx _ _ _ _ _ _ P R _ HUp.out HUr.out).mono ?_;rintro e w3 ⟨rfl,hb3⟩;have Hb3:=hid (Hb2.out.trans (hb3.mono Hb2.out.size));clear hb3;go_wp2;go_ret;exact⟨by rw[Hcv.out];rfl,Hb3.out⟩
theorem zsy {v:Vec} (h:LtV v) {d:Nat} (hd:d<v.length):zbz v d<18446744073709551616:=by
 have h1:=(h _ (zc3 hd)).rep;unfold zbz;split
 · rename_i e;rw[←e];exact h1
 · omega
theorem zsz {v:Vec} (h:LtV v) (hh:∀e∈v,e.2.2.length≤500) {d:Nat} (hd:d<v.length):∀y∈zag v d,y<18446744073709551616:=by
 intro y hy;have hm:=zc3 hd;unfold zag at hy;rcases List.mem_append.1 hy with hy | hy
 · simp at hy;rcases hy with rfl | rfl | rfl
   · exact zsy h hd
   · exact(h _ hm).max
   · have:=hh _ hm;omega
 · exact zkv (h _ hm).holes _ (Nat.le_refl _) y hy
