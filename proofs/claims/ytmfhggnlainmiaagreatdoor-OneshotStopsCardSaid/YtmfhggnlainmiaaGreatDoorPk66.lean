/- Part 66. -/
import Derived.Test.YtmfhggnlainmiaaGreatDoorPk63
set_option linter.unusedVariables false
set_option maxHeartbeats 16000000
namespace Go.Proofs.YtmfhggnlainmiaaGreatDoor
open Lib (hid)
section
open Go.RowKit
theorem yiy {e:Ent} (h:zo e.2.2) (hm:e.2.1<18446744073709551616):zo (vw e):=(zb5 (g:=ku) (zhd (by omega) hm) h rfl).2.2
end
section
open Go.RowKit Go.Shelf
theorem yiz {w:World} {a:Option Addr} {n c:Nat} {l:List Iv} (h:Ivs w a n c l):IvsT w w.heap.size a n c l:=by
 refine⟨h,fun hn p hp=>.inl ?_⟩;obtain⟨b,o,ha,hc⟩:=h.cells hn;rw[ha] at hp;cases hp;exact zf (hc 0 hn).1
end
section
open Go.RowKit
theorem yi0 {w:World} {base n:Nat} {T:TypeId} {v:Value} {l:List Nat} (h:w.ownsRow base T 1 v n (qi l)):∃a cap,v=.slice a n cap∧I64s w a n cap l:=by
 have hlen:l.length=n:=by have:=h.1;rw[zud] at this;omega
 rcases h.2 with ⟨rfl,rfl⟩ | ⟨g,cap,cur,rfl,hg,hh,hnc,hcm,_⟩
 · exact⟨none,0,rfl,hlen,by omega,by omega,fun _=>rfl,fun h=>by omega⟩
 · refine⟨_,_,rfl,hlen,hnc,by unfold maxLen at hcm;omega,(by intro h;cases h),fun hn=>⟨g,0,rfl,fun i hi=>?_⟩⟩;have hc:=h.cells (g:=g) rfl i (.int .i64 ((nth l i:Nat):Int)) (zjf l i (by omega));rw[qg] at hc;exact hc
set_option maxRecDepth 20000 in
theorem yi1 (a:Option Addr) (n cap r:Nat) (v:Vec) (w:World) (hE:Ents w a n cap v):
 Calls Tryz.prog 300 #[.slice a n cap,.int .u64 r] w fun x w'=>x=.returned (.int .i64 (zck (zh9 v r)))∧Below w.heap.size w w':=by
 have HE:=hid hE;have Hl:=hid hE.len;have hm:n≤9223372036854775807:=Nat.le_trans hE.room hE.most;obtain⟨f,hf⟩:∃f:Nat→Option Nat,f=fun i=>if (zg v i).1=r then some i else none:=⟨_,rfl⟩
 have Hck:=hid (show zh9 v r=j7 f v.length from by rw[hf];rfl);have Hf:=hid (show ∀i,f i=if (zg v i).1=r then some i else none from fun i=>by rw[hf]);clear hE hf;go_enter Tryz.func300,Tryz.ntmps300;go_wp2;go_loopw [5] (fun i wr=>∃k:Nat,k≤n∧i=.int .i64 k∧Below w.heap.size w wr∧Hid (∀j,j<k→f j=none)) (fun i _=>n - (intOf i).toNat)
 case atStart=>exact⟨0,by omega,rfl,Below.refl _ _,fun j h=>by omega⟩
 case round=>
  obtain⟨k,hk,rfl,hb,ht⟩:=hrel;have Hb:=hid hb;clear hb;by_cases hkn:k<n
  · have hkv:k<v.length:=by rw[Hl.out];exact hkn
    have HEr:=hid (HE.out.below Hb.out);obtain⟨bb,oo,rfl⟩:=HEr.out.some (by omega);obtain⟨q1,-,-⟩:=HEr.out.at hkn _ (Below.refl _ _);have Hat:=hid (Hf.out k);generalize (zg v k).1=e at*;have h0:(0:Int)≤k:=by omega
    have h04:(k:Int)<(n:Int):=by omega
    by_cases he:e=r
    · have Hr:=hid (zbb hkv ht.out (Hat.out.trans (if_pos he)));subst he;clear Hat Hf;go_wp2;go_ret;exact⟨by rw[Hck.out,Hr.out];rfl,Hb.out⟩
    · have Hr:=hid (zdb ht.out (Hat.out.trans (if_neg he)));have hd:((e:Int) == (r:Int))=false:=by rw[beq_eq_false_iff_ne];omega
      clear he Hat;go_wp2;go_roundw
      case rel=>exact⟨k+1,by omega,by go_num,Hb.out,Hr.out⟩
      case measure=>simp[intOf];omega
  · obtain rfl:k=n:=by omega
    have Hr:=hid (zbs (n:=v.length) (fun j hj=>ht.out j (by rw[←Hl.out];exact hj)));go_wp2;go_ret;exact⟨by rw[Hck.out,Hr.out];rfl,Hb.out⟩
theorem yi2 {l:List Nat} {k:Nat} (h:k<l.length):nth l k∈l:=by
 unfold nth;rw[List.getD_eq_getElem?_getD,List.getElem?_eq_getElem h];exact List.getElem_mem h
theorem yi3 {l:List Nat} (h:Asc l) {i j:Nat} (hij:i<j) (hj:j<l.length):nth l i<nth l j:=zev h hij hj
theorem z4t {L:List Nat} {x k:Nat} (hA:Asc L) (hk:k≤L.length) (h1:∀j,j<k→nth L j<x) (h2:k<L.length→¬nth L k<x):
 ky L x=if k<L.length∧nth L k=x then L else L.take k++x :: L.drop k:=by
 split
 · rename_i h;refine zjp (ziu hA) hA fun y=>?_
   rw[zhc];constructor
   · rintro(h' | rfl)
     · exact h'
     · rw[←h.2];exact yi2 h.1
   · exact .inl
 · rename_i h
   obtain⟨a1,a2⟩:=zqm hA (x:=x) (k:=k) hk (fun h0=>h1 _ (by omega)) (fun t ht hl=>by
    have hkl:k<L.length:=by omega
    have h3:=h2 hkl;have h4:nth L k≠x:=fun e=>h ⟨hkl,e⟩
    by_cases e:t=k
    · rw[e];omega
    · have:=yi3 hA (i:=k) (j:=t) (by omega) hl;omega)
   refine zjp (ziu hA) a1 fun y=>?_
   rw[zhc,a2 y]
theorem yi4 {L:List Nat} {x k:Nat} (h:∀j,j<k→nth L j<x) (hk:nth L k<x):∀j,j<k+1→nth L j<x:=fun j hj=>by
 by_cases e:j=k
 · rw[e];exact hk
 · exact h j (by omega)
theorem yi5 {L:List Nat} {x:Nat} (hA:Asc L):(ky L x).length≤L.length+1:=by
 have:=ze1 (ziu (x:=x) hA) (M:=x :: L) (fun y hy=>by
  rcases zhc.1 hy with h | h
  · exact List.mem_cons_of_mem _ h
  · rw[h];exact List.mem_cons_self)
 simpa using this
set_option maxRecDepth 20000 in
theorem z4u (B n x:Nat) (v:Value) (L:List Nat) (w:World) (ho:w.ownsRow B 64 1 v n (zi L)) (hB:B≤w.heap.size) (hA:Asc L) (hl:∀y∈L,y<18446744073709551616) (hn:n≤100000):
 Calls Tryz.prog 268 #[v,.int .u64 x] w fun e w'=>(∃y,e=.returned y∧w'.ownsRow B 64 1 y (ky L x).length (zi (ky L x)))∧Below w.heap.size w w':=by
 have hlen:L.length=n:=by have:=ho.1;rw[zfu] at this;omega
 have Ho:=hid ho;have HA:=hid hA;have Hl:=hid hlen;obtain⟨a,cap,rfl,hU⟩:=zcx ho hl;have HU:=hid hU;clear ho hA hl hU hlen;have hcm:n≤cap:=HU.out.room;go_enter Tryz.func268,Tryz.ntmps268;go_wp2;go_loopw [5] (fun i wr=>∃k:Nat,k≤n∧i=.int .i64 k∧Below w.heap.size w wr∧Hid (∀j,j<k→nth L j<x)) (fun i _=>n - (intOf i).toNat)
 case atStart=>exact⟨0,by omega,rfl,Below.refl _ _,fun j h=>by omega⟩
 case round=>
  obtain⟨k,hk,rfl,hb,ht⟩:=hrel;have Hb:=hid hb;clear hb;have h0:(0:Int)≤k:=by omega
  have Hr:=hid (zm Ho.out Hb.out);by_cases hkn:k<n
  · obtain⟨g,rfl,hgb,hgc,hcR⟩:=zrk Hr.out (by omega);have q1:=hcR k hkn;have Hq:=hid (fun w' (h:Below wr.heap.size wr w')=>(h.cell (p:=⟨g,k,none⟩) (zf q1)).trans q1);clear hcR;have h01:(k:Int)<(n:Int):=by omega
    have Hins:=hid (fun h2=>z4t (x:=x) HA.out (k:=k) (by rw[Hl.out];exact hk) ht.out h2);rw[Hl.out] at Hins;have Hst:=hid (fun h=>yi4 (x:=x) (L:=L) ht.out h);generalize nth L k=z at*;by_cases hzx:z<x
    · have hd:decide ((z:Int)<(x:Int))=true:=by rw[decide_eq_true_iff];omega
      have hdn:decide (z<x)=true:=by rw[decide_eq_true_iff];exact hzx
      have Hs:=hid (Hst.out hzx);clear hzx;go_wp2;go_roundw
      case rel=>exact⟨k+1,by omega,by go_num,Hb.out,Hs.out⟩
      case measure=>simp[intOf];omega
    · have hd:decide ((z:Int)<(x:Int))=false:=by rw[decide_eq_false_iff_not];omega
      have hdn:decide (z<x)=false:=by rw[decide_eq_false_iff_not];exact hzx
      have Hi:=hid (Hins.out fun _=>hzx);clear hzx;by_cases hz2:z=x
      · subst hz2;rw[if_pos ⟨hkn,rfl⟩] at Hi;go_wp2;go_ret;exact⟨⟨_,rfl,by rw[Hi.out,Hl.out];exact Hr.out⟩,Hb.out⟩
      · have hne:((z:Int) == (x:Int))=false:=by rw[beq_eq_false_iff_ne];omega
        rw[if_neg (fun h=>hz2 h.2)] at Hi;clear hz2
        have Hhd:=hid (show ∀w',Below wr.heap.size wr w'→Rd w' 1 (some ⟨g,0,none⟩) k (zi (L.take k)) from fun w' h=>by
         have:=zfk (zm Hr.out h) k hk;rw[Nat.mul_one,zu1] at this;exact Rd.own this)
        have Htl:=hid (show ∀w',Below wr.heap.size wr w'→Rd w' 1 (if cap=k then some ⟨g,0,none⟩ else some ⟨g,k,none⟩) (n - k) (zi (L.drop k)) from fun w' h=>by
         have h1:=(z36 Hr.out k hk).below h;split
         · exact⟨h1.1,fun h0=>by omega⟩
         · exact h1)
        have hkc:k≤cap:=by omega
        have hzr:w.heap.size≤wr.heap.size:=Hb.out.size;go_wp2_with fail;have q2:=Hq.out;clear q1
        go_region_held3 (fun w'=>Below wr.heap.size wr w') (first | assumption | exact(Below.refl _ _).drew | exact Below.alloc (by assumption) (Below.size (by assumption)) _) (first
         | (refine zcr rfl (.tmp 33) (.tmp 36) rfl rfl wr.heap.size _ 0 [] rfl (zet (by first | exact zh _ _ _ (by simp) | exact jp _ _ _ _ (zh _ _ _ (by simp))) (by simp <;> omega)) _ k _ (L.take k) rfl (Hhd.out _ (by assumption)) (by omega) (by simp <;> omega) ?_
            intro v1 w1 ho1 hg1
            have hS1:Below wr.heap.size wr w1:=by
             refine Below.grown (B:=wr.heap.size) (by assumption) hg1 (by simp <;> omega) ?_;intro j hj;simp[Value.ownBlock,Act.eval] at hj
             omega)
         | (refine zcr rfl (.tmp 37) (.tmp 39) rfl rfl wr.heap.size _ _ _ rfl (by first | exact ho1 | exact ho1.alloc _) _ 1 _ [x] rfl (by first | exact yq (zh _ _ _ (by simp)) rfl rfl | exact zei hg1 (yq (by first | exact zh _ _ _ (by simp) | exact jp _ _ _ _ (zh _ _ _ (by simp))) rfl rfl) (by simp[Value.ownBlock,Act.eval]) (by simp <;> omega)) (by omega) (by have:=hS1.size;simp <;> omega) ?_
            intro v2 w2 ho2 hg2
            have hS2:Below wr.heap.size wr w2:=by
             refine Below.grown (B:=wr.heap.size) (by assumption) hg2 ?_ (fun j hj=>(ho1.lt j hj).1);have:=hS1.size
             simp <;> omega)
         | (refine zcr rfl (.tmp 40) (.tmp 43) rfl rfl wr.heap.size _ _ _ rfl ho2 _ (n - k) _ (L.drop k) rfl (Htl.out _ (by assumption)) (by omega) (by have:=hS2.size;simp <;> omega) ?_
            intro v3 w3 ho3 hg3
            have hS3:Below wr.heap.size wr w3:=by
             refine Below.grown (B:=wr.heap.size) (by assumption) hg3 ?_ (fun j hj=>(ho2.lt j hj).1);have:=hS2.size;simp <;> omega))
        all_goals
         go_wp2;go_ret;refine⟨⟨_,rfl,?_⟩,Hb.out.trans (hS3.mono hzr)⟩;have e:(ky L x).length=0+k+1+(n - k):=by rw[Hi.out];simp[Hl.out];omega
         rw[e,Hi.out];have:=qt (b:=B) ho3 (by omega);simpa using this
  · obtain rfl:k=n:=by omega
    have Hi:=hid (z4t (x:=x) HA.out (k:=k) (by rw[Hl.out];exact hk) ht.out (fun h=>by rw[Hl.out] at h;omega));rw[if_neg (fun h=>by rw[Hl.out] at h;omega)] at Hi;rcases zk9 Hr.out with ⟨rfl,rfl,rfl⟩ | ⟨g,rfl,-,-,hgl⟩
    · rw[show ((0:Nat):Int)=0 from rfl];have hzr:w.heap.size≤wr.heap.size:=Hb.out.size;go_wp2_with fail
      go_region_held3 (fun w'=>Below wr.heap.size wr w') (first | assumption | exact(Below.refl _ _).drew | exact Below.alloc (by assumption) (Below.size (by assumption)) _) (first
       | (refine zcr rfl (.tmp 33) (.tmp 36) rfl rfl wr.heap.size _ 0 [] rfl (zet (by first | exact zh _ _ _ (by simp) | exact jp _ _ _ _ (zh _ _ _ (by simp))) (by simp <;> omega)) _ 0 _ [] rfl (zib _ _) (by omega) (by simp <;> omega) ?_
          intro v1 w1 ho1 hg1
          have hS1:Below wr.heap.size wr w1:=by
           refine Below.grown (B:=wr.heap.size) (by assumption) hg1 (by simp <;> omega) ?_;intro j hj;simp[Value.ownBlock,Act.eval] at hj
           omega)
       | (refine zcr rfl (.tmp 37) (.tmp 39) rfl rfl wr.heap.size _ _ _ rfl (by first | exact ho1 | exact ho1.alloc _) _ 1 _ [x] rfl (by first | exact yq (zh _ _ _ (by simp)) rfl rfl | exact zei hg1 (yq (by first | exact zh _ _ _ (by simp) | exact jp _ _ _ _ (zh _ _ _ (by simp))) rfl rfl) (by simp[Value.ownBlock,Act.eval]) (by simp <;> omega)) (by omega) (by have:=hS1.size;simp <;> omega) ?_
          intro v2 w2 ho2 hg2
          have hS2:Below wr.heap.size wr w2:=by
           refine Below.grown (B:=wr.heap.size) (by assumption) hg2 ?_ (fun j hj=>(ho1.lt j hj).1);have:=hS1.size
           simp <;> omega)
       | (refine zcr rfl (.tmp 40) (.tmp 43) rfl rfl wr.heap.size _ _ _ rfl ho2 _ 0 _ [] rfl (zib _ _) (by omega) (by have:=hS2.size;simp <;> omega) ?_
          intro v3 w3 ho3 hg3
          have hS3:Below wr.heap.size wr w3:=by
           refine Below.grown (B:=wr.heap.size) (by assumption) hg3 ?_ (fun j hj=>(ho2.lt j hj).1);have:=hS2.size;simp <;> omega))
      all_goals
       go_wp2;go_ret;refine⟨⟨_,rfl,?_⟩,Hb.out.trans (hS3.mono hzr)⟩;have e:(ky L x).length=0+0+1+0:=by rw[Hi.out];simp[List.length_eq_zero_iff.1 Hl.out]
       rw[e,Hi.out];have:=qt (b:=B) ho3 (by omega);rw[List.length_eq_zero_iff.1 Hl.out];simpa using this
    · skip
      have Hhd:=hid (show ∀w',Below wr.heap.size wr w'→Rd w' 1 (some ⟨g,0,none⟩) k (zi (L.take k)) from fun w' h=>by
       have:=zfk (zm Hr.out h) k hk;rw[Nat.mul_one,zu1] at this;exact Rd.own this)
      have Htl:=hid (show ∀w',Below wr.heap.size wr w'→Rd w' 1 (if cap=k then some ⟨g,0,none⟩ else some ⟨g,k,none⟩) 0 (zi []) from fun w' h=>⟨rfl,fun h0=>by omega⟩);have hkc:k≤cap:=by omega
      have hzr:w.heap.size≤wr.heap.size:=Hb.out.size;go_wp2_with fail
      go_region_held3 (fun w'=>Below wr.heap.size wr w') (first | assumption | exact(Below.refl _ _).drew | exact Below.alloc (by assumption) (Below.size (by assumption)) _) (first
       | (refine zcr rfl (.tmp 33) (.tmp 36) rfl rfl wr.heap.size _ 0 [] rfl (zet (by first | exact zh _ _ _ (by simp) | exact jp _ _ _ _ (zh _ _ _ (by simp))) (by simp <;> omega)) _ k _ (L.take k) rfl (Hhd.out _ (by assumption)) (by omega) (by simp <;> omega) ?_
          intro v1 w1 ho1 hg1
          have hS1:Below wr.heap.size wr w1:=by
           refine Below.grown (B:=wr.heap.size) (by assumption) hg1 (by simp <;> omega) ?_;intro j hj;simp[Value.ownBlock,Act.eval] at hj
           omega)
       | (refine zcr rfl (.tmp 37) (.tmp 39) rfl rfl wr.heap.size _ _ _ rfl (by first | exact ho1 | exact ho1.alloc _) _ 1 _ [x] rfl (by first | exact yq (zh _ _ _ (by simp)) rfl rfl | exact zei hg1 (yq (by first | exact zh _ _ _ (by simp) | exact jp _ _ _ _ (zh _ _ _ (by simp))) rfl rfl) (by simp[Value.ownBlock,Act.eval]) (by simp <;> omega)) (by omega) (by have:=hS1.size;simp <;> omega) ?_
          intro v2 w2 ho2 hg2
          have hS2:Below wr.heap.size wr w2:=by
           refine Below.grown (B:=wr.heap.size) (by assumption) hg2 ?_ (fun j hj=>(ho1.lt j hj).1);have:=hS1.size
           simp <;> omega)
       | (refine zcr rfl (.tmp 40) (.tmp 43) rfl rfl wr.heap.size _ _ _ rfl ho2 _ 0 _ [] rfl (Htl.out _ (by assumption)) (by omega) (by have:=hS2.size;simp <;> omega) ?_
          intro v3 w3 ho3 hg3
          have hS3:Below wr.heap.size wr w3:=by
           refine Below.grown (B:=wr.heap.size) (by assumption) hg3 ?_ (fun j hj=>(ho2.lt j hj).1);have:=hS2.size;simp <;> omega))
      all_goals go_wp2
      all_goals go_ret
      all_goals
       refine⟨⟨_,rfl,?_⟩,Hb.out.trans (hS3.mono hzr)⟩;have hdr:L.drop k=[]:=List.drop_eq_nil_of_le (by rw[Hl.out];exact Nat.le_refl _);have e:(ky L x).length=0+k+1+0:=by rw[Hi.out,hdr];simp[Hl.out]
       rw[e,Hi.out,hdr];have:=qt (b:=B) ho3 (by omega);simpa using this
theorem yi6 (op:Nat):gOf op false false=false:=by
 unfold gOf;split
 · rfl
 · split <;> rfl
theorem z4v (aa ab:Option Addr) (na ca nb cb:Nat) (a b:List Iv) (w:World) (hIa:Ivs w aa na ca a) (hIb:Ivs w ab nb cb b) (hn:2*a.length+2*b.length+1≤100000):
 Calls Tryz.prog 299 #[.slice aa na ca,.slice ab nb cb] w fun e w'=>zef w.heap.size (opL ku a b) e w'∧Below w.heap.size w w':=by
 have hC:=hid (zqo aa ab na ca nb cb 2 a b w hIa hIb (by omega) hn);clear hIa hIb hn;go_enter Tryz.func299,Tryz.ntmps299;go_wp2_with fail;refine hC.out.mono ?_;rintro e w1 ⟨⟨v,rfl,ho⟩,hb⟩;have Ho:=hid ho;have Hb:=hid hb;clear ho hb;go_wp2;go_ret;exact⟨⟨v,rfl,Ho.out⟩,Hb.out⟩
theorem yi7 {w:World} {base inner g n c p:Nat} {k:Kno} {ss:List (Value×Value)} (hn:k.length=n) (ho:w.ownsRow base 127 2 (.slice (some ⟨g,0,none⟩) n c) n (qs ss)) (hh:PartsT w inner k ss) (hb:inner≤base) (f:Frg) (x y:Value)
 (hx:IvSl w inner x f.1) (hy:EnSl w inner y f.2):OwnK ((w.setCell ⟨g,p*2,none⟩ x).setCell ⟨g,p*2+1,none⟩ y) base inner (.slice (some ⟨g,0,none⟩) n c) (k.set p f):=by
 have hrow:∃C fr,w.heap[g]?=some (.cells C 127 fr)∧base≤g:=by
  rcases ho.2 with ⟨h,_⟩ | ⟨g',cap,cur,h,hg,hr,_⟩
  · cases h
  · cases h;exact⟨_,_,hr,hg⟩
 obtain⟨C,fr,hr,hg⟩:=hrow;have h1:=(ho.stored (p*2) x).1;have h2:=(h1.stored (p*2+1) y).1;rw[zuy] at h2
 have hr2:∃C' fr',(w.setCell ⟨g,p*2,none⟩ x).heap[g]?=some (.cells C' 127 fr'):=by
  rcases h1.2 with ⟨h,_⟩ | ⟨g',cap,cur,h,hg',hr',_⟩
  · cases h
  · cases h;exact⟨_,_,hr'⟩
 obtain⟨C',fr',hr2⟩:=hr2;have s1:Steady inner zb8 w (w.setCell ⟨g,p*2,none⟩ x):=Steady.setCell (a:=⟨g,p*2,none⟩) hr (Nat.le_trans hb hg) (by rintro(h | h) <;> cases h);have s2:Steady inner zb8 (w.setCell ⟨g,p*2,none⟩ x) ((w.setCell ⟨g,p*2,none⟩ x).setCell ⟨g,p*2+1,none⟩ y):=Steady.setCell (a:=⟨g,p*2+1,none⟩) hr2 (Nat.le_trans hb hg) (by rintro(h | h) <;> cases h);have s:=s1.trans s2;refine⟨ss.set p (x,y),by rw[List.length_set,hn];exact h2,?_⟩;exact(hh.steady s (.inl rfl) (.inr rfl)).set (hx.steady s (.inl rfl)) (hy.steady s (.inl rfl) (.inr rfl))
theorem z4w (e:Ent) (a:Option Addr) (n c:Nat) (w:World) (hI:Ivs w a n c e.2.2) (hm:e.2.1<18446744073709551616) (hn:2*e.2.2.length+3≤100000):
 Calls Tryz.prog 262 #[zbm e (.slice a n c)] w fun x w'=>zef w.heap.size (vw e) x w'∧Below w.heap.size w w':=by
 obtain⟨r,m,hs⟩:=e;simp only at hI hm hn;have HI:=hid hI;have Hn:=hid hn;have Hm:=hid hm;clear hI hn hm;obtain⟨q0,q1,q2⟩:=zd7 w (.int .u64 r) (.int .u64 m) (.slice a n c) 137 _ (Below.refl _ _);go_enter Tryz.func262,Tryz.ntmps262;go_wp2_with fail;clear q0 q1 q2;have hb1:Below w.heap.size w ((w.alloc (.cells #[.int .u64 r,.int .u64 m,.slice a n c] 137)).alloc (.cells #[.int .u64 0,.int .u64 m] 135)):=((Below.refl _ _).alloc (Nat.le_refl _) _).alloc (by simp) _;have hr:((w.alloc (.cells #[.int .u64 r,.int .u64 m,.slice a n c] 137)).alloc (.cells #[.int .u64 0,.int .u64 m] 135)).heap[w.heap.size+1]?=some (.cells #[.int .u64 0,.int .u64 m] 135):=qa (by simp);have Hb1:=hid hb1;refine(z4v _ _ _ _ _ _ [(0,m)] hs _ (zml (s:=(0,m)) hr ⟨by simp,Hm.out⟩) (HI.out.below hb1) (by have:=Hn.out;simp;omega)).mono ?_;rintro e w1 ⟨⟨v,rfl,ho⟩,hb⟩;have Ho:=hid ho;have Hb:=hid hb;clear ho hb hr hb1;go_wp2;go_ret;exact⟨⟨v,rfl,qt Ho.out Hb1.out.size⟩,Hb1.out.trans (Hb.out.mono Hb1.out.size)⟩
set_option maxRecDepth 20000 in
theorem z4x (r:Nat) (a:Option Addr) (n c:Nat) (L:List Iv) (w:World) (hI:Ivs w a n c L) (hn:2*L.length+3≤100000):
 Calls Tryz.prog 261 #[.int .u64 r,.slice a n c] w fun x w'=>zfg w.heap.size (ofE r L) x w'∧Below w.heap.size w w':=by
 rcases zeu L with rfl | ⟨l,t,rfl⟩
 · obtain rfl:n=0:=by simpa using hI.len.symm
   have e:ofE r []=none:=rfl;rw[e];clear hI hn e;go_enter Tryz.func261,Tryz.ntmps261;go_wp2;refine bodyPost_ret (v:=.tuple #[zbm (0,0,[]) (.slice none 0 0),.bool false]) (by simp[results,Tryz.results261,go_sem]) rfl ?_;exact⟨rfl,(Below.refl _ _).alloc (Nat.le_refl _) _⟩
 · have hne:l++[t]≠[]:=by simp
   have htop:za8 (l++[t])=t.2:=by simp[za8]
   have e:ofE r (l++[t])=some (r,t.2,opL ku [(0,t.2)] (l++[t])):=by unfold ofE;rw[if_neg hne,htop]
   rw[e];have hlen:=hI.len;rw[List.length_append,List.length_singleton] at hlen;obtain⟨bb,oo,rfl,hcell⟩:=hI.cells (by omega);obtain⟨-,c2⟩:=hcell l.length (by omega);have hnt:zb (l++[t]) l.length=t:=by simp[zb]
   rw[hnt] at c2;have HI:=hid hI;have Hn:=hid hn;have Ht:=hid (hI.lt t (by simp)).2;obtain⟨k,hk⟩:∃k:Nat,k=l.length:=⟨_,rfl⟩;rw[←hk] at c2 hlen;have hsub:IntKind.i64.wrap ((n:Int) - 1)=(k:Int):=by have:=hI.room;have:=hI.most;rw[IntKind.wrap_i64];omega
   have hz:((n:Int) == 0)=false:=by rw[beq_eq_false_iff_ne];omega
   have h01:(k:Int)<(n:Int):=by omega
   have hkn:k<n:=by omega
   have hnc:=hI.room;obtain⟨tx,ty⟩:=t;simp only at c2 Ht htop ⊢;have hal:Below w.heap.size w (w.alloc (.cells #[.int .u64 0,.int .u64 0,.slice none 0 0] 137)):=(Below.refl _ _).alloc (Nat.le_refl _) _;have q1:=(hal.cell (zf c2)).trans c2;have Ha:=hid hal;clear hI hn hcell hne htop e hk hlen hal hnt;go_enter Tryz.func261,Tryz.ntmps261;go_wp2_with fail
   have hb1:Below (w.heap.size+1) (w.alloc (.cells #[.int .u64 0,.int .u64 0,.slice none 0 0] 137)) ((w.alloc (.cells #[.int .u64 0,.int .u64 0,.slice none 0 0] 137)).alloc (.cells #[.int .u64 0,.int .u64 ty] 135)):=
    (show (w.alloc (.cells #[.int .u64 0,.int .u64 0,.slice none 0 0] 137)).heap.size=w.heap.size+1 from by simp) ▸ ((Below.refl _ _).alloc (Nat.le_refl _) _)
   have hrw:((w.alloc (.cells #[.int .u64 0,.int .u64 0,.slice none 0 0] 137)).alloc (.cells #[.int .u64 0,.int .u64 ty] 135)).heap[w.heap.size+1]?=some (.cells #[.int .u64 0,.int .u64 ty] 135):=qa (by simp);have Hb1:=hid hb1;have hsz1:(w.alloc (.cells #[.int .u64 0,.int .u64 0,.slice none 0 0] 137)).heap.size=w.heap.size+1:=by simp
   have hsz2:((w.alloc (.cells #[.int .u64 0,.int .u64 0,.slice none 0 0] 137)).alloc (.cells #[.int .u64 0,.int .u64 ty] 135)).heap.size=w.heap.size+2:=by simp
   have Hs1:=hid hsz1;have Hs2:=hid hsz2;clear hsz1 hsz2;refine(z4v _ _ _ _ _ _ [(0,ty)] (l++[(tx,ty)]) _ (zml (s:=(0,ty)) hrw ⟨by simp,Ht.out⟩) ((HI.out.below Ha.out).below (Hs1.out ▸ hb1)) (by have:=Hn.out;simp at this ⊢;omega)).mono ?_;rintro e w2 ⟨⟨v,rfl,ho⟩,hb2⟩;have Ho:=hid ho;have Hb2:=hid (Hb1.out.trans (hb2.mono (by rw[Hs2.out];omega)));have hrow:w2.heap[w.heap.size]?=some (.cells #[.int .u64 0,.int .u64 0,.slice none 0 0] 137):=(Hb2.out.block _ (by omega)).trans (qa rfl);have z0:w2.cell? ⟨w.heap.size,0,none⟩=some (.int .u64 0):=ym (i:=0) hrow rfl;have z1:w2.cell? ⟨w.heap.size,1,none⟩=some (.int .u64 0):=ym (i:=1) hrow rfl;have z2:w2.cell? ⟨w.heap.size,2,none⟩=some (.slice none 0 0):=ym (i:=2) hrow rfl;have z3:w2.frozen? ⟨w.heap.size,0,none⟩=false:=by simp[World.frozen?,hrow]
   have z4:w2.frozen? ⟨w.heap.size,1,none⟩=false:=by simp[World.frozen?,hrow]
   have z5:w2.frozen? ⟨w.heap.size,2,none⟩=false:=by simp[World.frozen?,hrow]
   have Hw:=hid (Ha.out.trans (Hb2.out.mono (by omega)))
   obtain⟨vb,vn,vc,rfl⟩:∃vb vn vc,v=.slice vb vn vc:=by
    rcases ho.2 with ⟨rfl,_⟩ | ⟨g,cap,cur,rfl,_⟩
    · exact⟨_,_,_,rfl⟩
    · exact⟨_,_,_,rfl⟩
   have Ho1:=hid (qt (b:=w.heap.size+2) ho (by rw[Hs2.out];exact Nat.le_refl _));clear ho hb2 hrow hrw hb1 Ho;go_wp2;refine bodyPost_ret (v:=.tuple #[.agg #[.int .u64 r,.int .u64 ty,.slice vb vn vc],.bool true]) (by simp[results,Tryz.results261,go_sem,z0,z1,z2]) rfl ?_;have Hh:∀(a:Addr) (u:Value) (W:World),a.block=w.heap.size→∀k,w.heap.size+2≤k→(W.setCell a u).heap[k]?=W.heap[k]?:=fun a u W ha k hk=>Below.heap_setCell _ _ _ _ (by omega)
   refine⟨⟨_,rfl,qt (j8 Ho1.out (fun k hk1 _=>?_)) (by omega)⟩,((Hw.out.setCell (Nat.le_refl _) _).setCell (Nat.le_refl _) _).setCell (Nat.le_refl _) _⟩;rw[Hh _ _ _ rfl k hk1,Hh _ _ _ rfl k hk1,Hh _ _ _ rfl k hk1]
set_option maxRecDepth 20000 in
theorem yi8 (a:Option Addr) (n cap x y:Nat) (k:Kno) (w:World) (hE:Frags w a n cap k):
 Calls Tryz.prog 266 #[.slice a n cap,.int .u64 x,.int .u64 y] w fun e w'=>e=.returned (.bool (decide (zx k x=zx k y)))∧Below w.heap.size w w':=by
 have HE:=hid hE;have Hl:=hid hE.len;have hm:n≤9223372036854775807:=Nat.le_trans hE.room hE.most;clear hE;go_enter Tryz.func266,Tryz.ntmps266;go_wp2;go_loopw [7] (fun i wr=>∃d:Nat,d≤n∧i=.int .i64 d∧Below w.heap.size w wr∧Hid (∀j,j<d→mem (za k j).1 x=mem (za k j).1 y)) (fun i _=>n - (intOf i).toNat)
 case atStart=>exact⟨0,by omega,rfl,Below.refl _ _,fun j h=>by omega⟩
 case round=>
  obtain⟨d,hd,rfl,hb,ht⟩:=hrel;have Hb:=hid hb;clear hb;by_cases hdn:d<n
  · have hdk:d<k.length:=by rw[Hl.out];exact hdn
    have HEr:=hid (HE.out.below Hb.out);obtain⟨bb,oo,rfl⟩:=HEr.out.some (by omega);obtain⟨x1,m,c,y1,m',c',hq⟩:=HEr.out.fix hdn;have Hq:=hid (fun w' (h:Below wr.heap.size wr w')=>(hq w' h).1);have hC:=hid (fun w' h=>zjj x1 m c x (za k d).1 w' (hq w' h).2.1);have hD:=hid (fun w' h=>zjj x1 m c y (za k d).1 w' (hq w' h).2.1);have Hyes:=hid (fun h=>zm6 (p:=fun j=>mem (za k j).1 x=mem (za k j).1 y) ht.out h);have Hno:=hid (show mem (za k d).1 x≠mem (za k d).1 y→zx k x≠zx k y from fun h h2=>h (z3d h2 _ (yh hdk)));have h0:(0:Int)≤d:=by omega
    have h04:(d:Int)<(n:Int):=by omega
    clear hq;generalize za k d=f at*;generalize mem f.1 x=b1 at*;generalize mem f.1 y=b2 at*;go_wp2_with fail;go_cut [28] (fun t wc=>t=.bool (b1 != b2)∧Hid (Below wr.heap.size wr wc))
    case first=>
     refine jl (by kernel_rfl) (by kernel_rfl) ?_
     repeat (go_big_quiet_step ((intro hw;first
      | rfl
      | (have q0:=Hq.out _ hw
         first
         | (go_at_call 217;first | (with_reducible exact jt hw (hC.out _ hw)) | (with_reducible exact jt hw (hD.out _ hw)))
         | (go_simp
            first | rfl | exact⟨rfl,hw⟩ | (trace_state;fail))))))
     refine wpQuiet_nil ?_;intro w3 hb3;go_wp2;go_meet
     exact⟨by first | rfl | (cases b1 <;> cases b2 <;> rfl),hb3⟩
    case rest=>
     obtain⟨rfl,hb2⟩:=hcut;have Hb2:=hid (Hb.out.trans (hb2.out.mono Hb.out.size));clear hb2;by_cases h:b1=b2
     · have hbb:(b1 != b2)=false:=by rw[h];simp
       have Hs:=hid (Hyes.out h);rw[hbb];clear h hbb Hyes Hno;go_wp2;go_roundw
       case rel=>exact⟨d+1,by omega,by go_num,Hb2.out,Hs.out⟩
       case measure=>simp[intOf];omega
     · have hbb:(b1 != b2)=true:=by rw[bne_iff_ne];exact h
       have Hs:=hid (show decide (zx k x=zx k y)=false from by rw[decide_eq_false_iff_not];exact Hno.out h);rw[hbb];clear h hbb Hyes Hno;go_wp2;go_ret;exact⟨by rw[Hs.out];rfl,Hb2.out⟩
  · obtain rfl:d=n:=by omega
    have Hr:=hid (show decide (zx k x=zx k y)=true from by
     rw[decide_eq_true_iff]
     exact z3c fun f hf=>by
      obtain⟨i,hi,rfl⟩:=List.getElem_of_mem hf;have:=ht.out i (by rw[←Hl.out];exact hi);rwa [qm hi] at this)
    go_wp2;go_ret;exact⟨by rw[Hr.out];rfl,Hb.out⟩
theorem Tryz.info_lst:(Tryz.prog.info? 123).map (fun i=>(i.zero,i.size,i.bytes))=some (some (.slice none 0 0),1,24):=by kernel_rfl
theorem yi9 {w:World} {ops:Array Oper} {rest:List Oper} {o:Oper} {a:Act} {Q:Exit→Act→World→Prop} (hgd:o.guard=none) (s x:Operand)
 (ho:o.op=.call { callee:=.builtin .append,args:= #[s,x],argTypes:= #[352,352] }) (hty:o.type=352)
 (base:Nat) (v:Value) (n:Nat) (xs:List Value) (hs:a.eval s=v) (hown:w.ownsRow base 123 1 v n xs) (A:Option Addr) (c:Nat) (u:Value) (hu:u.oneCell'=true) (hx:a.eval x=.slice A 1 c) (hr:Rd w 1 A 1 [u]) (hb:n+1≤1000000) (hbase:base≤w.heap.size)
 (h:∀v' w',w'.ownsRow base 123 1 v' (n+1) (xs++[u])→w.grownBy w' v.ownBlock→wpList Tryz.prog ops Q rest (a.put o.dst v') w'):wpList Tryz.prog ops Q (o :: rest) a w:=by
 obtain⟨v',w',hrun,h1,h2⟩:=zcf base _ _ _ _ 1 24 Tryz.underlying352 Tryz.info_lst rfl (by omega) v n _ hown A 1 c _ hr (by intro z hz;simp at hz;subst hz;exact hu) (by unfold maxLen;omega) (by omega) hbase;exact qf _ _ _ ho (by simp[Region.wanted,hgd]) _ _ hs hx v' w' (by rw[hty];exact hrun) (h v' w' h1 h2)
def zf8 (k:Kno) (d:Nat):List Nat:=((ki k).take d).filter fun x=>decide (x=0) || decide (zx k (x - 1)≠zx k x)
theorem yja {k:Kno} {d:Nat} (h:d<(ki k).length):zf8 k (d+1)=zf8 k d++(if (decide (nth (ki k) d=0) || decide (zx k (nth (ki k) d - 1)≠zx k (nth (ki k) d)))=true then [nth (ki k) d] else []):=by
 unfold zf8;have e:(ki k)[d]=nth (ki k) d:=by simp[nth,h]
 rw[List.take_succ_eq_append_getElem h,List.filter_append,e,List.filter_cons,List.filter_nil]
theorem yjb (k:Kno):zf8 k (ki k).length=yb k:=by unfold zf8 yb;rw[List.take_length]
theorem yjc (k:Kno) (d:Nat):(zf8 k d).length≤(ki k).length:=by
 have:=List.length_filter_le (fun x=>decide (x=0) || decide (zx k (x - 1)≠zx k x)) ((ki k).take d);have h2:((ki k).take d).length≤(ki k).length:=by rw[List.length_take];omega
 unfold zf8;omega
set_option maxRecDepth 20000 in
theorem yjd (a:Option Addr) (n cap:Nat) (k:Kno) (w:World) (hE:Frags w a n cap k) (hL:LtK k) (hn:n≤500) (hA:(jk (k.map (·.1))).length≤2000):
 Calls Tryz.prog 214 #[.slice a n cap] w fun x w'=>(∃y,x=.returned y∧w'.ownsRow w.heap.size 64 1 y (yb k).length (zi (yb k)))∧Below w.heap.size w w':=by
 have HE:=hid hE;have HL:=hid hL;have HA:=hid hA;have Hl:=hid hE.len;clear hE hL hA;go_enter Tryz.func214,Tryz.ntmps214;go_wp2;go_loopw [3,4] (fun y i wr=>∃d:Nat,d≤n∧i=.int .i64 d∧Below w.heap.size w wr∧Hid (∃xs,LstTo w k d xs∧wr.ownsRow w.heap.size 123 1 y d xs)) (fun _ i _=>n - (intOf i).toNat)
 case atStart=>exact⟨0,by omega,rfl,Below.refl _ _,[],⟨rfl,fun i h=>by omega⟩,World.ownsRow_nil _ _ _ _⟩
 case round=>
  obtain⟨d,hd,rfl,hb,ho⟩:=hrel;have Hb:=hid hb;clear hb;obtain⟨xs,hxs,ho⟩:=ho.out;have Hxs:=hid hxs;have Ho:=hid ho;clear hxs ho;by_cases hdn:d<n
  · have hdk:d<k.length:=by rw[Hl.out];exact hdn
    obtain⟨bb,oo,rfl⟩:=HE.out.some (by omega);obtain⟨x,m,c,y1,m',c',hq⟩:=HE.out.fix hdn;have Hsn:=hid (Hxs.out.snoc (fun w' h=>(hq w' h).2.1));have q1:=(hq wr Hb.out).1;have h0:(0:Int)≤d:=by omega
    have h04:(d:Int)<(n:Int):=by omega
    clear hq;go_wp2_with (at_builtin;refine yi9 rfl (.tmp 14) (.tmp 20) rfl rfl w.heap.size _ _ xs rfl (Ho.out.alloc _) _ 1 (.slice x m c) rfl rfl (yq (zh _ _ _ (by simp)) rfl rfl) (by omega) (by have:=Hb.out.size;simp;omega) ?_;intro v' w8 ho8 hg8);have Hb8:=hid (Below.grown (B:=w.heap.size) (Hb.out.alloc Hb.out.size _) hg8 (by have:=Hb.out.size;simp;omega) (fun k hk=>(Ho.out.lt k hk).1));go_roundw
    case rel=>exact⟨d+1,by omega,by go_num,Hb8.out,_,Hsn.out,ho8⟩
    case measure=>simp[intOf];omega
  · obtain rfl:d=n:=by omega
    obtain⟨aR,cR,rfl,hR⟩:=Hxs.out.rls Hl.out Hb.out Ho.out;have hC:=hid (z37 aR d cR (k.map (·.1)) wr hR (by omega) (by have:=HA.out;omega));clear hR;go_wp2_with fail;refine hC.out.mono ?_;rintro e w2 ⟨⟨v,L,rfl,ho2,hAs,hmem⟩,hb2⟩;have Hb2:=hid (Hb.out.trans (hb2.mono Hb.out.size));have hLk:L=ki k:=z33 hAs hmem;subst hLk;obtain⟨aU,cU,rfl,hU⟩:=zcx ho2 (zur HL.out);have HU:=hid hU;have Hall:=hid (yjb k);have HLn:=hid (show (ki k).length≤2000 from Nat.le_trans (ze1 hAs fun y hy=>(hmem y).1 hy) HA.out);have HLt:=hid (zur HL.out);clear hb2 ho2 hAs hmem hU hC;obtain⟨N,hN⟩:∃N,N=(ki k).length:=⟨_,rfl⟩;have HN:=hid hN;rw[←hN] at HU HLn Hall ⊢;clear hN;have hN2:N≤2000:=HLn.out;go_wp2;go_loopw [6,7] (fun y i wr=>∃e:Nat,e≤N∧i=.int .i64 e∧Below w2.heap.size w2 wr∧Hid (wr.ownsRow w2.heap.size 64 1 y (zf8 k e).length (zi (zf8 k e)))) (fun _ i _=>N - (intOf i).toNat)
    case atStart=>exact⟨0,by omega,rfl,Below.refl _ _,World.ownsRow_nil _ _ _ _⟩
    case round=>
     obtain⟨e,he,rfl,hbe,hoe⟩:=hrel;have Hbe:=hid hbe;clear hbe;have Hbw:=hid (Hb2.out.trans (Hbe.out.mono Hb2.out.size));by_cases heN:e<N
     · have HUr:=hid (HU.out.below Hbe.out);obtain⟨bS,oS,rfl,hcS⟩:=HUr.out.cells (by omega);have q1:=hcS e heN;have hcl:=HUr.out.room;have Hq:=hid (fun w' (h:Below wr.heap.size wr w')=>(h.cell (p:=⟨bS,oS+e,none⟩) (zf q1)).trans q1);have Hst:=hid (yja (k:=k) (d:=e) (by rw[←HN.out];exact heN));have Hsl:=hid (yjc k e);have hxlt:=HLt.out _ (zce (show e<(ki k).length by rw[←HN.out];exact heN));rw[←HN.out] at Hsl;have hD:=hid (fun y w' (h:Below wr.heap.size wr w')=>yi8 a _ cap y (nth (ki k) e) k w' (HE.out.below (Hbw.out.trans (h.mono Hbw.out.size))));clear hcS q1;generalize zf8 k e=S0 at*;generalize nth (ki k) e=x at*;have h0:(0:Int)≤e:=by omega
       have h04:(e:Int)<(N:Int):=by omega
       obtain⟨bt,hbt⟩:∃bt,bt=(decide (x=0) || decide (zx k (x - 1)≠zx k x)):=⟨_,rfl⟩;rw[←hbt] at Hst;go_wp2_with fail;go_cut [48] (fun t wc=>t=.bool bt∧Hid (Below wr.heap.size wr wc))
       case first=>
        by_cases hx0:x=0
        · have hbt1:bt=true:=by rw[hbt,hx0];rfl
          have hz:((x:Int) == 0)=true:=by rw[hx0];rfl
          have Hbt:=hid hbt1;clear hbt hbt1;refine jl (by kernel_rfl) (by kernel_rfl) ?_
          repeat (go_big_quiet_step ((intro hw;first
           | rfl
           | (have q0:=Hq.out _ hw
              go_simp;first | rfl | exact⟨rfl,hw⟩ | (trace_state;fail)))))
          refine wpQuiet_nil ?_;intro w3 hb3;go_wp2;go_meet
          exact⟨by rw[Hbt.out];try rfl,hb3⟩
        · have hbt1:bt= !decide (zx k (x - 1)=zx k x):=by rw[hbt];simp[hx0]
          have hz:((x:Int) == 0)=false:=by rw[beq_eq_false_iff_ne];omega
          have hsub:IntKind.u64.wrap ((x:Int) - 1)=((x - 1:Nat):Int):=by rw[IntKind.wrap_u64];omega
          have hD1:=hid (hD.out (x - 1));generalize decide (zx k (x - 1)=zx k x)=bm at*;generalize x - 1=x1 at*;have Hbt:=hid hbt1;clear hbt hx0 hbt1;refine jl (by kernel_rfl) (by kernel_rfl) ?_
          repeat (go_big_quiet_step ((intro hw;first
           | rfl
           | (have q0:=Hq.out _ hw
              first
              | (go_at_call 266;exact jt hw (hD1.out _ hw))
              | (go_simp
                 first | rfl | exact⟨rfl,hw⟩ | (trace_state;fail))))))
          refine wpQuiet_nil ?_;intro w3 hb3;go_wp2;go_meet
          exact⟨by rw[Hbt.out];try rfl,hb3⟩
       case rest=>
        obtain⟨rfl,hb3⟩:=hcut;have Hb3:=hid (Hbe.out.trans (hb3.out.mono Hbe.out.size));have Ho3:=hid (zm hoe.out hb3.out);have q2:=Hq.out _ hb3.out;clear hb3 hbt
        cases bt with
        | false=>
         rw[if_neg (by simp),List.append_nil] at Hst;go_wp2;go_roundw
         case rel=>exact⟨e+1,by omega,by go_num,Hb3.out,by rw[Hst.out];exact Ho3.out⟩
         case measure=>simp[intOf];omega
        | true=>
         rw[if_pos rfl] at Hst;go_wp2_with (at_builtin;refine zrp rfl (.tmp 49) (.tmp 54) rfl rfl w2.heap.size _ _ S0 rfl (Ho3.out.alloc _) _ 1 _ [x] rfl (yq (zh _ _ _ (by simp)) rfl rfl) (by have:=Hsl.out;omega) (by have:=Hb3.out.size;simp;omega) ?_;intro v' w8 ho8 hg8);have Hb8:=hid (Below.grown (B:=w2.heap.size) (Hb3.out.alloc Hb3.out.size _) hg8 (by have:=Hb3.out.size;simp;omega) (fun k hk=>(Ho3.out.lt k hk).1));go_roundw
         case rel=>exact⟨e+1,by omega,by go_num,Hb8.out,by rw[Hst.out,List.length_append];exact ho8⟩
         case measure=>simp[intOf];omega
     · obtain rfl:e=N:=by omega
       have Ho:=hid hoe.out;rw[Hall.out] at Ho;go_wp2;go_ret;exact⟨⟨_,rfl,qt Ho.out Hb2.out.size⟩,Hbw.out⟩
