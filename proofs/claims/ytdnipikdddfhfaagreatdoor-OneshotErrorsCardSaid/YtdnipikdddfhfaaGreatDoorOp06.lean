/- Part 06. -/
import Derived.Sort.LotD5
import Derived.Sort.Walk7a
import Derived.Shelf.SlSortCmp.WholeK
import Derived.Ground.SlsfProg
import Derived.ChangeSame
import Derived.ChangeVars
import Derived.JoinedOf
import Derived.RowKit
import Derived.LaidLaws
import Derived.LaidHandle
import Derived.LaidSub
import Derived.LaidMore
import Derived.Lay
import Derived.HandedShaped
import Derived.Deep.DeepLaidRun
import Derived.Lib.LaidTab
import Derived.Stop.LaidErr
import Derived.Stop.Joined
import Derived.Deep.SlicePairs
import Derived.ProofKit
import Derived.OpenShut
import Derived.Test.YtdnipikdddfhfaaGreatDoorOp05
set_option linter.unusedVariables false
set_option maxHeartbeats 16000000
namespace Go.Proofs.YtdnipikdddfhfaaGreatDoor
open Lib (hid)
section
open Go.RowKit
def Row (w:World) (g:Nat) (T:TypeId) (C:List Value):Prop:=w.heap[g]?=some (.cells C.toArray T)
theorem Row.lt {w:World} {g:Nat} {T:TypeId} {C:List Value} (h:Row w g T C):g<w.heap.size:=(Array.getElem?_eq_some_iff.1 h).1
theorem Row.cell {w:World} {g:Nat} {T:TypeId} {C:List Value} (h:Row w g T C) (i:Nat) {v:Value} (hv:C[i]?=some v):w.cell? ⟨g,i,none⟩=some v:=by
 unfold Row at h;simp[World.cell?,h,hv]
theorem Row.fz {w:World} {g:Nat} {T:TypeId} {C:List Value} (h:Row w g T C) (i:Nat):w.frozen? ⟨g,i,none⟩=false:=by
 unfold Row at h;simp[World.frozen?,h]
theorem Row.set {w:World} {g:Nat} {T:TypeId} {C:List Value} (h:Row w g T C) (i:Nat) (v:Value):Row (w.setCell ⟨g,i,none⟩ v) g T (C.set i v):=by
 have:=heap_setCell_same w g i C.toArray T v h;unfold Row;rw[this];simp
theorem Row.same {w w':World} {g:Nat} {T:TypeId} {C:List Value} (h:Row w g T C) (hk:w'.heap[g]?=w.heap[g]?):Row w' g T C:=hk.trans h
theorem Row.other {w:World} {g:Nat} {T:TypeId} {C:List Value} (h:Row w g T C) {a:Addr} (ha:g≠a.block) (v:Value):Row (w.setCell a v) g T C:=h.same (heap_setCell_other w a g v ha)
theorem Row.below {w w':World} {g n:Nat} {T:TypeId} {C:List Value} (h:Row w g T C) (hb:Below n w w') (hg:g<n):Row w' g T C:=h.same (hb.block g hg)
theorem Row.later {w w':World} {g:Nat} {T:TypeId} {C:List Value} (h:Row w g T C) (hb:Below w.heap.size w w'):Row w' g T C:=h.below hb h.lt
theorem Row.grown {w w':World} {g:Nat} {T:TypeId} {C:List Value} {r:Option Nat} (h:Row w g T C) (hg:w.grownBy w' r) (hr:some g≠r):Row w' g T C:=h.same (hg.block g h.lt hr)
theorem Row.drew {w:World} {g:Nat} {T:TypeId} {C:List Value} (h:Row w g T C) (n:Nat):Row (w.drewN n) g T C:=h
theorem zu (w:World) (T:TypeId) (C:List Value):Row (w.alloc (.cells C.toArray T)) w.heap.size T C:=heap_alloc_new w _
theorem Row.steady {w w':World} {base g:Nat} {T:TypeId} {C:List Value} {P:TypeId→Prop} (h:Row w g T C) (hs:Steady base P w w') (hT:P T∨g<base):Row w' g T C:=
 h.same (hs.row g h.lt (hT.symm.imp id fun hP=>⟨_,_,_,hP,h⟩))
theorem jk (w:World) (g i:Nat) (v:Value):w.grownBy (w.setCell ⟨g,i,none⟩ v) (some g):=
 ⟨rfl,rfl,rfl,by simp,fun k hk hne=>heap_setCell_other w ⟨g,i,none⟩ k v (fun e=>hne (by simp[e]))⟩
theorem qf (w:World) (r:Option Nat):w.grownBy w r:=⟨rfl,rfl,rfl,Nat.le_refl _,fun _ _ _=>rfl⟩
theorem zqn {w w':World} {r:Option Nat} (h:w.grownBy w' r) (n:Nat):w.grownBy (w'.drewN n) r:=⟨h.os,h.tape,h.output,h.size,h.block⟩
theorem yp {w w' w2:World} {r:Option Nat} (h:w.grownBy w' r) (hb:Below w'.heap.size w' w2):w.grownBy w2 r:=
 zp h ⟨hb.os,hb.tape,hb.output,hb.size,fun k hk _=>hb.block k hk⟩
theorem zj {w w':World} {r:Option Nat} (h:w.grownBy w' r) {a:Addr} (v:Value) (ha:w.heap.size≤a.block∨some a.block=r):w.grownBy (w'.setCell a v) r:=
 ⟨h.os,h.tape,h.output,by simpa using h.size,fun k hk hne=>(heap_setCell_other w' a k v (fun e=>by
  rcases ha with h' | h'
  · omega
  · exact hne (by rw[←h',e]))).trans (h.block k hk hne)⟩
theorem Frags.fix {w:World} {b o n cap:Nat} {k:Kno} (h:Frags w (some ⟨b,o,none⟩) n cap k) {i:Nat} (hi:i<n):∃x m c y m' c',∀w',Below w.heap.size w w'→
 w'.cell? ⟨b,o+i*2,none⟩=some (.slice x m c)∧Ivs w' x m c (zd k i).1∧w'.cell? ⟨b,o+i*2+1,none⟩=some (.slice y m' c')∧Ents w' y m' c' (zd k i).2:=by
 obtain⟨b',o',hs,hc⟩:=h.cells (by omega);cases hs;obtain⟨⟨x,m,c,h1,h2⟩,⟨y,m',c',h3,h4⟩⟩:=hc i hi;exact⟨x,m,c,y,m',c',fun w' hb=>⟨(hb.cell (p:=⟨b,o+i*2,none⟩) (ze h1)).trans h1,h2.below hb,(hb.cell (p:=⟨b,o+i*2+1,none⟩) (ze h3)).trans h3,h4.below hb⟩⟩
theorem Frags.some {w:World} {a:Option Addr} {n cap:Nat} {k:Kno} (h:Frags w a n cap k) (hn:0<n):∃b o,a=some ⟨b,o,none⟩:=by
 obtain⟨b,o,ha,-⟩:=h.cells hn;exact⟨b,o,ha⟩
def jn (v:Vec) (k:Nat):List Nat:=v.length :: (v.take k).flatMap qu
theorem zjv {v:Vec} {k:Nat} (h:k<v.length):jn v (k+1)=jn v k++qu (zg v k):=by
 unfold jn;rw[List.take_succ_eq_append_getElem h,List.flatMap_append,ve h];simp
theorem zjw (v:Vec):jn v v.length=zi v:=by unfold jn zi;rw[List.take_length]
theorem zjx (l:List Iv) (k:Nat) (h:k<l.length):y9 (l.take (k+1))=y9 (l.take k)++[(zc l k).1,(zc l k).2]:=by
 unfold y9;rw[List.take_succ_eq_append_getElem h,List.flatMap_append,qg h];simp
theorem zff (l:List Iv):(y9 l).length=2*l.length:=by
 unfold y9
 induction l with
 | nil=>rfl
 | cons s l ih=>simp only[List.flatMap_cons,List.length_append,ih,List.length_cons,List.length_nil];omega
theorem OwnK.form {w:World} {base inner:Nat} {x:Value} {k:Kno} (h:OwnK w base inner x k):
 (x=.slice none 0 0∧k=[])∨∃g c ss,x=.slice (some ⟨g,0,none⟩) k.length c∧base≤g∧g<w.heap.size∧k.length≤c∧c≤maxLen∧w.ownsRow base 97 2 (.slice (some ⟨g,0,none⟩) k.length c) k.length (vg ss)∧PartsT w inner k ss:=by
 obtain⟨ss,ho,hh⟩:=h;have ho2:=ho;rcases ho.2 with ⟨rfl,h0⟩ | ⟨g,cap,cur,rfl,hg,hr,hnc,hcm,_⟩
 · exact .inl ⟨rfl,List.length_eq_zero_iff.1 h0⟩
 · exact .inr ⟨g,cap,ss,rfl,hg,(Array.getElem?_eq_some_iff.1 hr).1,hnc,hcm,ho2,hh⟩
def za1:Kno→Nat
 | []=>0
 | f :: k=>f.1.length+za1 k
theorem zjy:∀(k j:Kno),za1 (k++j)=za1 k+za1 j
 | [],j=>by simp[za1]
 | f :: k,j=>by rw[List.cons_append,za1,za1,zjy k j];omega
end
section
open Go.RowKit Go.Maps
structure Met (D:DataW Value) (left:Lit→Bool) (L:List Nat):Prop where
 asc:Asc L
 mem:∀x:Nat,x∈L↔(Maps.has D (.int .u64 (x:Int))=true∧left (.int .u64 (x:Int))=false)
theorem Met.start (D:DataW Value):Met D (Maps.has D) []:=⟨trivial,fun x=>by cases Maps.has D (.int .u64 (x:Int)) <;> simp⟩
theorem zqo (x y:Nat):Lit.sameKey (.int .u64 (x:Int)) (.int .u64 (y:Int))=decide (x=y):=by
 by_cases e:x=y
 · subst e;simp[WideAt.sameKey_self (show WideAt.IsKeyLit (.int .u64 (x:Int)) from trivial)]
 · rw[sameKey_ne (zcf e),decide_eq_false e]
theorem Met.step {D:DataW Value} {left:Lit→Bool} {L:List Nat} (h:Met D left L) {x:Nat} (hh:Maps.has D (.int .u64 (x:Int))=true):Met D (fun z=>left z && !z.sameKey (.int .u64 (x:Int))) (zbo L x):=by
 refine⟨zi4 h.asc,fun y=>?_⟩;rw[zgn,h.mem y,zqo];by_cases e:y=x
 · subst e;simp[hh]
 · simp[e]
theorem Met.all {D:DataW Value} {left:Lit→Bool} {L S:List Nat} (h:Met D left L) (hl:∀kl,left kl=false) (hS:Asc S) (hk:∀r:Nat,Maps.has D (.int .u64 (r:Int))=decide (r∈S)):L=S:=
 zin h.asc hS fun x=>by rw[h.mem x,hk x,hl];simp
theorem Met.sub {D:DataW Value} {left:Lit→Bool} {L S:List Nat} (h:Met D left L) (hk:∀r:Nat,Maps.has D (.int .u64 (r:Int))=decide (r∈S)):∀x∈L,x∈S:=fun x hx=>by
 have h2:=((h.mem x).1 hx).1;rw[hk x] at h2;simpa using h2
theorem Met.len {D:DataW Value} {left:Lit→Bool} {L S:List Nat} (h:Met D left L) (hk:∀r:Nat,Maps.has D (.int .u64 (r:Int))=decide (r∈S)):L.length≤S.length:=
 zio h.asc (fun x hx=>h.sub hk x hx)
end
section
open Go.RowKit
def LstTo (w:World) (k:Kno) (d:Nat) (xs:List Value):Prop:=xs.length=d∧∀i,i<d→∃x m c,xs[i]?=some (.slice x m c)∧∀w',Below w.heap.size w w'→Ivs w' x m c (zd k i).1
theorem LstTo.snoc {w:World} {k:Kno} {d:Nat} {xs:List Value} {x:Option Addr} {m c:Nat} (h:LstTo w k d xs) (hI:∀w',Below w.heap.size w w'→Ivs w' x m c (zd k d).1):LstTo w k (d+1) (xs++[.slice x m c]):=by
 refine⟨by simp[h.1],fun i hi=>?_⟩;by_cases e:i=d
 · subst e;exact⟨x,m,c,by rw[List.getElem?_append_right (by rw[h.1];omega),h.1];simp,hI⟩
 · obtain⟨x',m',c',h1,h2⟩:=h.2 i (by omega);exact⟨x',m',c',by rw[List.getElem?_append_left (by rw[h.1];omega)];exact h1,h2⟩
theorem LstTo.rls {w w':World} {k:Kno} {n:Nat} {xs:List Value} {v:Value} (h:LstTo w k n xs) (hn:k.length=n) (hb:Below w.heap.size w w') (ho:w'.ownsRow w.heap.size 91 1 v n xs):∃a c,v=.slice a n c∧Rls w' a n c (k.map (·.1)):=by
 have ho2:=ho;rcases ho.2 with ⟨rfl,h0⟩ | ⟨g,cap,cur,rfl,hg,hh,hnc,hcm,_⟩
 · rw[h0] at hn ⊢;exact⟨none,0,rfl,by simpa using hn,by omega,by omega,fun _=>rfl,fun h=>by omega⟩
 · refine⟨_,_,rfl,by simpa using hn,hnc,by unfold maxLen at hcm;omega,(by intro h;cases h),fun h0=>⟨g,0,rfl,fun i hi=>?_⟩⟩;obtain⟨x,m,c,e,h2⟩:=h.2 i hi;have hI:=h2 w' hb;have c1:=ho2.cells (g:=g) rfl _ _ e;rw[yv] at c1
   have hk:(k.map (·.1)).getD i []=(zd k i).1:=by
    have hi':i<k.length:=by omega
    rw[yo hi',List.getD_eq_getElem?_getD,List.getElem?_map,List.getElem?_eq_getElem hi']
    rfl
   rw[hk];refine⟨x,c,?_,by rw[hI.len];exact hI⟩;rw[hI.len];exact c1
end
section
open Go.RowKit Go.Maps
theorem zjz (b1 b2:Nat) (u v:Value) (P Q:List Nat) (w:World) (hp:w.ownsRow b1 3 1 u P.length (qa P)) (hq:w.ownsRow b2 3 1 v Q.length (qa Q)) (lp:P.length≤1000) (lq:Q.length≤1000):
 Calls Tryz.prog 48 #[u,v] w fun e w'=>e=.returned (.bool (decide (P=Q)))∧Below w.heap.size w w':=by
 have hP:=hp;have hQ:=hq;obtain⟨a,c,rfl⟩:=qv hp;obtain⟨a',c',rfl⟩:=qv hq;by_cases hl:P.length=Q.length
 · by_cases h0:P.length=0
   · obtain rfl:P=[]:=List.length_eq_zero_iff.1 h0;obtain rfl:Q=[]:=List.length_eq_zero_iff.1 hl.symm;refine(Tryz.slices_Equal_int_empty a a' c 0 c' w (by omega)).mono ?_;rintro e w' ⟨rfl,rfl⟩;exact⟨rfl,Below.refl _ _⟩
   · rcases hp.2 with ⟨h,h'⟩ | ⟨g,cap,cur,h,_⟩
     · omega
     · cases h;rcases hq.2 with ⟨h,h'⟩ | ⟨g',cap',cur',h,_⟩
       · omega
       · cases h
         have c1:∀j,j<(P.map fun (x:Nat)=>(x:Int)).length→w.cell? ⟨g,0+j,none⟩=some (.int .i64 ((P.map fun (x:Nat)=>(x:Int)).getD j 0)):=fun j hj=>by
          have hj':j<P.length:=by simpa using hj
          have:=hP.cells (g:=g) rfl j _ (zjf P j hj');rw[yv] at this;rw[this];simp[nth,hj']
         have c2:∀j,j<(Q.map fun (x:Nat)=>(x:Int)).length→w.cell? ⟨g',0+j,none⟩=some (.int .i64 ((Q.map fun (x:Nat)=>(x:Int)).getD j 0)):=fun j hj=>by
          have hj':j<Q.length:=by simpa using hj
          have:=hQ.cells (g:=g') rfl j _ (zjf Q j hj');rw[yv] at this;rw[this];simp[nth,hj']
         refine(Tryz.slices_Equal_int g 0 P.length c g' 0 Q.length c' (P.map fun (x:Nat)=>(x:Int)) (Q.map fun (x:Nat)=>(x:Int)) w (by simp) (by simp) (by omega) (by omega) c1 c2).mono ?_;rintro e w' ⟨rfl,q,rfl⟩;refine⟨zca ?_,⟨rfl,rfl,rfl,Nat.le_refl _,fun _ _=>rfl⟩⟩;rw[List.take_of_length_le (by simp),List.take_of_length_le (by simp)];by_cases e:P=Q
         · subst e;simp
         · rw[decide_eq_false e,beq_eq_false_iff_ne];intro h;apply e;have:=congrArg (List.map Int.toNat) h;simpa [List.map_map,Function.comp_def] using this
 · refine(Tryz.slices_Equal_int_lens a a' P.length c Q.length c' w hl).mono ?_;rintro e w' ⟨rfl,rfl⟩;exact⟨zca (by rw[decide_eq_false (fun e=>hl (by rw[e]))]),Below.refl _ _⟩
end
section
open Go.RowKit
theorem zj0 (a:Option Addr) (n cap:Nat) (l:List Iv) (w:World) (hI:Ivs w a n cap l) (hD:Door w):
 Calls Tryz.prog 124 #[.slice a n cap] w fun e w'=>e=.returned (zn (vq (ck l)))∧Below w.heap.size w w':=by
 have HD:=hid hD;clear hD;have HI:=hid hI;have Hl:=hid hI.len;have hm:n≤9223372036854775807:=Nat.le_trans hI.room hI.most;clear hI;go_enter Tryz.func124,Tryz.ntmps124;go_wp2;go_loopw [3,4,5,8] (fun _ _ _ i wr=>∃k:Nat,k≤n∧i=.int .i64 k∧Below w.heap.size w wr∧Hid (∀j,j<k→zc3 l j=none)) (fun _ _ _ i _=>n - (intOf i).toNat)
 case atStart=>exact⟨0,by omega,rfl,Below.refl _ _,fun j h=>by omega⟩
 case round=>
  obtain⟨k,hk,rfl,hb,ht⟩:=hrel;have Hb:=hid hb;clear hb;by_cases hkn:k<n
  · obtain⟨bb,oo,rfl,hcell⟩:=(HI.out.below Hb.out).cells (by omega);obtain⟨hc1,hc2⟩:=hcell k hkn;have Hcell:=hid hcell;clear hcell;have Hlt:=hid (HI.out.lt (zc l k) (zax (by rw[Hl.out];exact hkn)));have hin:zc3 l k=if (zc l k).2<(zc l k).1 then some (2,k) else if 0<k∧yw (zc l (k - 1)) (zc l k)≠0 then some (3,k) else none:=rfl;generalize hs:zc l k=s at*;have Hs:=hid hs;clear hs;by_cases h2:s.2<s.1
    · rw[if_pos h2] at hin;have Hr:=hid (show ck l=some (2,k) from zbr (by rw[Hl.out];exact hkn) ht.out hin);clear hin;have hC:=hid (fun w=>zja s w);rw[if_pos h2] at hC;clear h2;go_wp2_with fail;refine(hC.out _).mono ?_;rintro e w1 ⟨rfl,hb1⟩;have Hb1:=hid ((Hb.out.alloc Hb.out.size _).trans (hb1.mono (Below.size (Hb.out.alloc Hb.out.size _))));clear hb1;simp only[zn];go_wp2_with fail;refine(zaz (some (2,none)) _ (HD.out.below (Nat.le_refl _) Hb1.out)).mono ?_;rintro e w2 ⟨rfl,hb2⟩;have Hb2:=hid (Hb1.out.trans (hb2.mono Hb1.out.size));clear hb2;simp only[kw];go_wp2_with fail;refine(je 2 k _).mono ?_;rintro e w3 ⟨rfl,rfl⟩;go_wp2_with fail;go_ret;exact⟨by rw[Hr.out];rfl,Hb2.out⟩
    · rw[if_neg h2] at hin;have hC:=hid (fun w=>zja s w);rw[if_neg h2] at hC;clear h2;by_cases hk0:0<k
      · obtain⟨hp1,hp2⟩:=Hcell.out (k - 1) (by omega);have Hpl:=hid (HI.out.lt (zc l (k - 1)) (zax (by rw[Hl.out];omega)));generalize hp:zc l (k - 1)=p at*;have Hp:=hid hp;clear hp;have hR:=hid (fun w=>zpu p s w Hpl.out Hlt.out);have hg:decide (0<(k:Int))=true:=by rw[decide_eq_true_iff];omega
        have hsub:IntKind.i64.wrap ((k:Int) - 1)=(k:Int) - 1:=by rw[IntKind.wrap_i64];omega
        have h01:0≤(k:Int) - 1:=by omega
        have h02:((k:Int) - 1).toNat=k - 1:=by omega
        have h03:(k:Int) - 1<(n:Int):=by omega
        have Hin:=hid hin;clear hin;go_wp2_with fail;refine(hC.out _).mono ?_;rintro e w1 ⟨rfl,hb1⟩;have Hbb:=hid ((Below.refl _ _).alloc (Nat.le_refl _) (.cells #[.int .u64 s.1,.int .u64 s.2] 89) |>.trans (hb1.mono (by simp)));have hz1:=hb1.size;have hq1:=(Hbb.out.cell (p:=⟨bb,oo+(k - 1)*2,none⟩) (ze hp1)).trans hp1;have hq2:=(Hbb.out.cell (p:=⟨bb,oo+(k - 1)*2+1,none⟩) (ze hp2)).trans hp2;have hq3:=hb1.cell (p:=⟨wr.heap.size,0,none⟩) (by simp);have hq4:=hb1.cell (p:=⟨wr.heap.size,1,none⟩) (by simp);simp only[World.cell?_alloc_mark] at hq3 hq4;simp at hq3 hq4;have Hb1:=hid (Hb.out.trans (Hbb.out.mono Hb.out.size));clear hb1;simp only[zn];clear hp1 hp2 hc1 hc2;go_wp2_with fail;refine vv (by kernel_rfl) (by kernel_rfl) ?_
        repeat (go_big_quiet_step ((intro hw;first
         | rfl
         | (go_at_call 169;exact vu hw (hR.out _))
         | (have q1:=(hw.cell (p:=⟨bb,oo+(k - 1)*2,none⟩) (ze hq1)).trans hq1
            have q2:=(hw.cell (p:=⟨bb,oo+(k - 1)*2+1,none⟩) (ze hq2)).trans hq2;have q3:=(hw.cell (p:=⟨wr.heap.size,0,none⟩) (ze hq3)).trans hq3;have q4:=(hw.cell (p:=⟨wr.heap.size,1,none⟩) (ze hq4)).trans hq4;go_simp;first | rfl | exact⟨rfl,hw⟩ | (trace_state;fail)))))
        refine wpQuiet_nil ?_;intro w3 hb3;have Hb3:=hid (Hb1.out.trans (hb3.mono Hb1.out.size));clear hb3;clear hq1 hq2 hq3 hq4 h01 h02 h03 hsub hg hz1;have Hkn:=hid hkn;by_cases hr0:yw p s=0
        · have Hr:=hid (show zc3 l k=none from by rw[Hin.out,if_neg (by intro h;exact h.2 hr0)]);rw[hr0];clear hr0;go_wp2;go_roundw
          case rel=>exact⟨k+1,by omega,by go_num,Hb3.out,fun j hj=>by
           rcases Nat.lt_or_ge j k with h | h
           · exact ht.out j h
           · rw[show j=k from(by omega)];exact Hr.out⟩
          case measure=>simp[intOf];omega
        · have Hr:=hid (show ck l=some (3,k) from zbr (by rw[Hl.out];exact hkn) ht.out (by rw[Hin.out,if_pos ⟨hk0,hr0⟩]));have hne:(((yw p s:Nat):Int) != 0)=true:=by rw[bne_iff_ne];omega
          generalize yw p s=r at*;clear hr0;go_wp2_with fail;refine(je 3 k _).mono ?_;rintro e w3 ⟨rfl,rfl⟩;go_wp2_with fail;go_ret;exact⟨by rw[Hr.out];rfl,Hb3.out⟩
      · obtain rfl:k=0:=by omega
        have Hr:=hid (show zc3 l 0=none from by rw[hin,if_neg (by omega)]);clear hin hk0;simp only[Nat.zero_mul,Nat.add_zero] at hc1 hc2;rw[show ((0:Nat):Int)=0 from rfl];go_wp2_with fail;refine(hC.out _).mono ?_;rintro e w1 ⟨rfl,hb1⟩;have Hb1:=hid ((Hb.out.alloc Hb.out.size _).trans (hb1.mono (Below.size (Hb.out.alloc Hb.out.size _))));clear hb1;simp only[zn];go_wp2_with fail;refine vv (by kernel_rfl) (by kernel_rfl) ?_;repeat (go_big_quiet_step ((intro hw;first | rfl | (trace_state;fail))))
        refine wpQuiet_nil ?_;intro w3 hb3;have Hb3:=hid (Hb1.out.trans (hb3.mono Hb1.out.size));clear hb3;go_wp2;go_roundw
        case rel=>exact⟨1,by omega,by go_num,Hb3.out,fun j hj=>by rw[show j=0 from(by omega)];exact Hr.out⟩
        case measure=>simp[intOf];omega
  · obtain rfl:k=n:=by omega
    go_wp2;go_ret;exact⟨by rw[show ck l=none from zfc (by rw[Hl.out];exact ht.out)];rfl,Hb.out⟩
theorem zj1 (l:List Nat) (p:Nat) (most:Int) (h:jj l p=none) (st x j:Nat) (hs:zh (l.drop (p+5)) 0 0=(st,x,j)):
 yr l p most=match (st,x,j) with
 | (1,x,j)=>if max most 0<(x:Int) then (0,0,some (7,some ((p+5:Nat):Int))) else (p+5+j,x,none)
 | (2,_,_)=>(0,0,some (6,some ((p+5:Nat):Int)))
 | _=>(0,0,some (5,some (p:Int))):=by
 unfold yr;rw[h,hs]
 rfl
theorem zgy:∀(l:List Nat) (j x:Nat),(zh l j x).1=0∨(zh l j x).1=1∨(zh l j x).1=2
 | [],j,x=>.inl rfl
 | c :: l,j,x=>by
   unfold zh;split
   · exact .inr (.inr rfl)
   · split
     · exact .inr (.inl rfl)
     · exact zgy l _ _
theorem zgz:∀(l:List Nat) (j x:Nat),x<18446744073709551616→(zh l j x).2.1<18446744073709551616
 | [],j,x,h=>by show 0<18446744073709551616;omega
 | c :: l,j,x,h=>by
   unfold zh;split
   · show 0<18446744073709551616;omega
   · split
     · exact zcw j c h
     · exact zgz l _ _ (zcw j c h)
theorem zg0:∀(l:List Nat) (j x:Nat),(zh l j x).2.2≤j+l.length
 | [],j,x=>by show j≤j+0;omega
 | c :: l,j,x=>by
   have ih:=zg0 l (j+1) (ye x j c);unfold zh;split
   · show j+1≤j+(l.length+1);omega
   · split
     · show j+1≤j+(l.length+1);omega
     · rw[List.length_cons];omega
theorem zqp {w:World} {ops:Array Oper} {rest:List Oper} {o:Oper} {a:Act} {Q:Exit→Act→World→Prop} (hgd:o.guard=none) (s x:Operand)
 (ho:o.op=.call { callee:=.builtin .append,args:= #[s,x],argTypes:= #[41,41] }) (hty:o.type=41)
 (base:Nat) (v:Value) (n:Nat) (xs:List Nat) (hs:a.eval s=v) (hown:w.ownsRow base 43 1 v n (z7 xs)) (A:Option Addr) (m c:Nat) (l:List Nat) (hx:a.eval x=.slice A m c) (hr:Rd w 1 A m (z7 l)) (hb:n+m≤1000000) (hbase:base≤w.heap.size)
 (h:∀v' w',w'.ownsRow base 43 1 v' (n+m) (z7 (xs++l))→w.grownBy w' v.ownBlock→wpList Tryz.prog ops Q rest (a.put o.dst v') w'):wpList Tryz.prog ops Q (o :: rest) a w:=by
 obtain⟨v',w',hrun,h1,h2⟩:=ze6 base v n xs hown A m c l hr (by omega) hbase;exact ym _ _ _ ho (by simp[Region.wanted,hgd]) _ _ hs hx v' w' (by rw[hty];exact hrun) (h v' w' h1 h2)
theorem OwnV.lt {w:World} {base:Nat} {v:Value} {vs:Vec} (h:OwnV w base v vs):∀k,v.ownBlock=some k→base≤k∧k<w.heap.size:=by
 obtain⟨ss,ho,-⟩:=h;exact fun k hk=>ho.lt k hk
theorem OwnK.lt {w:World} {base inner:Nat} {v:Value} {k:Kno} (h:OwnK w base inner v k):∀j,v.ownBlock=some j→base≤j∧j<w.heap.size:=by
 obtain⟨ss,ho,-⟩:=h;exact fun j hj=>ho.lt j hj
end
section
open Go.RowKit Go.Maps
def rB (v:Value):Option (DataW Value×List MemPlace):=
 match v with
 | .bool b=>some (.lit (.bool b),[])
 | _=>none
structure SetS (w:World) (B n:Nat) (D:DataW Value) (S:Nat→Prop):Prop where
 own:w.ownsMap Tryz.prog 43 rB B n D
 keys:∀r:Nat,Maps.has D (.int .u64 (r:Int))=true↔S r
theorem SetS.put {w w':World} {B n m x:Nat} {D:DataW Value} {S S':Nat→Prop} (h:SetS w B n D S) (hown:w'.ownsMap Tryz.prog 43 rB B m (D.put (.int .u64 (x:Int)) (.lit (.bool true)))) (hS:∀r,S' r↔S r∨r=x):SetS w' B m (D.put (.int .u64 (x:Int)) (.lit (.bool true))) S':=by
 refine⟨hown,fun r=>?_⟩;rw[hS r];by_cases e:r=x
 · subst e;rw[has_put_same h.own.isMap (show WideAt.IsKeyLit (.int .u64 (r:Int)) from trivial)];simp
 · rw[has_put_other (zcf e),h.keys r];simp[e]
theorem SetS.kept {w w':World} {B n:Nat} {D:DataW Value} {S:Nat→Prop} (h:SetS w B n D S) (hb:Below w.heap.size w w'):SetS w' B n D S:=⟨h.own.kept (zgw hb) (by simp),h.keys⟩
theorem SetS.congr {w:World} {B n:Nat} {D:DataW Value} {S S':Nat→Prop} (h:SetS w B n D S) (hS:∀r,S r↔S' r):SetS w B n D S':=⟨h.own,fun r=>(h.keys r).trans (hS r)⟩
theorem zqq {H:Type} {P:Program} (w:World) {ops:Array Oper} {rest:List Oper} {o:Oper} {a:Act} {Q:Exit→Act→World→Prop}
 (hg:o.guard=none) (m x v:Operand) (t:TypeId) (hop:o.op=Op.insert t m x v)
 (k e:TypeId) (K:Keyed P k) (ht:P.underlying t=some (.map k e)) (R:Value→Option (DataW H×List MemPlace)) (b n:Nat) (D:DataW H)
 (hm:a.eval m=.map (some b)) (hown:w.ownsMap P k R b n D) (hn:n<maxLen) (key val:Value) (kl:Lit) (hx:a.eval x=key) (hv:a.eval v=val) (hkey:keyOf P k key=some kl)
 (d:DataW H) (ps:List MemPlace) (hval:R val=some (d,ps))
 (hK:∀w',w'.ownsMap P k R b (n+1) (D.put kl d)→w.grownBy w' (some b)→wpList P ops Q rest (a.put o.dst undef) w'):
 wpList P ops Q (o :: rest) a w:=by
 refine wpList_plain hg fun K' hK'=>?_
 obtain⟨w',hrun,r1,r2⟩:=hown.update K ht hn hkey hval;unfold Oper.wp;simp[execOp,hop,hm,hx,hv,hrun,Result.andThen];exact hK' _ _ (hK w' r1 r2)
structure Sift (k:Kno) (D:DataW Value) (left:Lit→Bool):Prop where
 keys:∀r:Nat,Maps.has D (.int .u64 (r:Int))=true↔(r∈ze2 k∧(left (.int .u64 (r:Int))=true∨r∈zdt k))
theorem zj2 (x y:Nat):Lit.sameKey (.int .u64 (x:Int)) (.int .u64 (y:Int))=decide (x=y):=by
 by_cases e:x=y
 · subst e;simp[WideAt.sameKey_self (show WideAt.IsKeyLit (.int .u64 (x:Int)) from trivial)]
 · rw[sameKey_ne (zcf e),decide_eq_false e]
theorem Sift.start {k:Kno} {D:DataW Value} (h:∀r:Nat,Maps.has D (.int .u64 (r:Int))=true↔r∈ze2 k):Sift k D (Maps.has D):=
 ⟨fun r=>by rw[h r];constructor
            · exact fun hr=>⟨hr,.inl hr⟩
            · exact fun hr=>hr.1⟩
theorem Sift.drop {k:Kno} {D:DataW Value} {left:Lit→Bool} (h:Sift k D left) {x:Nat} (hx:x∉zdt k):Sift k (D.del (.int .u64 (x:Int))) (fun z=>left z && !z.sameKey (.int .u64 (x:Int))):=by
 refine⟨fun r=>?_⟩;rw[zj2];by_cases e:r=x
 · subst e;rw[has_del_same];simp[hx]
 · rw[has_del_other (zcf e),h.keys r];simp[e]
theorem Sift.all {k:Kno} {D:DataW Value} {left:Lit→Bool} (h:Sift k D left) (hl:∀kl,left kl=false) (r:Nat):Maps.has D (.int .u64 (r:Int))=true↔r∈zdt k:=by
 rw[h.keys r,hl];constructor
 · rintro⟨-,h1 | h1⟩
   · cases h1
   · exact h1
 · exact fun h1=>⟨(zpl.1 h1).1,.inr h1⟩
structure Coll (D:DataW Value) (left:Lit→Bool) (L:List Nat):Prop where
 nodup:L.Nodup
 mem:∀x:Nat,x∈L↔(Maps.has D (.int .u64 (x:Int))=true∧left (.int .u64 (x:Int))=false)
theorem Coll.start (D:DataW Value):Coll D (Maps.has D) []:=⟨List.nodup_nil,fun x=>by cases Maps.has D (.int .u64 (x:Int)) <;> simp⟩
theorem Coll.step {D:DataW Value} {left:Lit→Bool} {L:List Nat} (h:Coll D left L) {x:Nat} (hh:Maps.has D (.int .u64 (x:Int))=true) (hl:left (.int .u64 (x:Int))=true):Coll D (fun z=>left z && !z.sameKey (.int .u64 (x:Int))) (L++[x]):=by
 have hn:x∉L:=fun hx=>by
  have:=((h.mem x).1 hx).2;rw[hl] at this;cases this
 refine⟨List.nodup_append.2 ⟨h.nodup,by simp,fun a ha b hb=>by simp at hb;subst hb;exact fun e=>hn (e ▸ ha)⟩,fun y=>?_⟩;rw[List.mem_append,List.mem_singleton,h.mem y,zj2];by_cases e:y=x
 · subst e;simp[hh]
 · simp[e]
end
section
open Go.RowKit
theorem zfg {l:List Nat} {k:Nat} (h:k<l.length):l.drop k=nth l k :: l.drop (k+1):=by
 rw[List.drop_eq_getElem_cons h];congr 1;simp[nth,h]
theorem zj3 {p q:List Nat} {k:Nat} (hp:k<p.length) (hq:k<q.length):qn (p.drop k) (q.drop k)=if nth p k<nth q k then -1 else if nth q k<nth p k then 1 else qn (p.drop (k+1)) (q.drop (k+1)):=by
 rw[zfg hp,zfg hq]
 rfl
theorem zg1 {p q:List Nat} {k:Nat} (hp:k≤p.length) (hq:k≤q.length) (h:k=p.length∨k=q.length):qn (p.drop k) (q.drop k)=if p.length<q.length then -1 else if q.length<p.length then 1 else 0:=by
 rcases h with rfl | rfl
 · rw[List.drop_length];by_cases hl:p.length<q.length
   · rw[if_pos hl,zfg hl];rfl
   · have:q.drop p.length=[]:=List.drop_eq_nil_of_le (by omega);rw[if_neg hl,if_neg (by omega),this];rfl
 · rw[List.drop_length];by_cases hl:q.length<p.length
   · rw[if_neg (by omega),if_pos hl,zfg hl];rfl
   · have:p.drop q.length=[]:=List.drop_eq_nil_of_le (by omega);rw[if_neg (by omega),if_neg hl,this];rfl
theorem zd3 (e:Ent):(qu e).length=3+2*e.2.2.length:=by
 simp only[qu,List.length_cons,zff];omega
theorem zj4 {v:Vec} {e:Ent} (h:e∈v):(qu e).length+v.length≤(v.flatMap qu).length+1:=by
 induction v with
 | nil=>cases h
 | cons f v ih=>
  rw[List.flatMap_cons,List.length_append,List.length_cons];rcases List.mem_cons.1 h with rfl | h
  · have:v.length≤(v.flatMap qu).length:=by
     clear ih h
     induction v with
     | nil=>exact Nat.le_refl _
     | cons g v ih=>rw[List.flatMap_cons,List.length_append,List.length_cons,zd3];omega
    omega
  · have:=ih h;have:=zd3 f;omega
theorem zfh {v:Vec} (h:LtV v) (hn:(zi v).length≤1000000000000):∀x∈zi v,x<18446744073709551616:=by
 intro x hx;have hc:(zi v).length=(v.flatMap qu).length+1:=rfl;simp only[zi,List.mem_cons,List.mem_flatMap,qu,y9,List.not_mem_nil,or_false] at hx;rcases hx with rfl | ⟨e,he,hx⟩
 · cases v with
   | nil=>decide
   | cons e v=>have:=zj4 (List.mem_cons_self (a:=e) (l:=v));omega
 · have h1:=zj4 he;have h2:=zd3 e;rcases hx with rfl | rfl | rfl | ⟨s,hs,rfl | rfl⟩
   · exact(h e he).rep
   · exact(h e he).max
   · omega
   · exact((h e he).holes s hs).1
   · exact((h e he).holes s hs).2
end
section
def zap (k:Kno):List Iv:=k.flatMap (·.1)
theorem zqr {k:Kno} {d:Nat} (h:d<k.length):zap (k.take (d+1))=zap (k.take d)++(zd k d).1:=by
 unfold zap;rw[List.take_succ_eq_append_getElem h,List.flatMap_append,yo h];simp
theorem zj5 {k:Kno} {s:Iv}:s∈zap k↔∃f∈k,s∈f.1:=by unfold zap;exact List.mem_flatMap
def zg2 (k:Kno) (x:Nat):Nat:=(ju (fun i=>if mem (zd k i).1 x=true then some i else none) k.length).getD 0
end
section
open Go.RowKit
theorem zqs (n:Nat):(madeCells (Value.int .i64 0).cells (n*1)).toList=qa (List.replicate n 0):=by
 apply List.ext_getElem?;intro i;by_cases h:i<n
 · simp[madeCells,qa,Value.cells,h,Nat.mod_one]
 · simp[madeCells,qa,h]
theorem zqt (w:World) (base n:Nat) (hn:n≤1000000) (hb:base≤w.heap.size):
 ∃w',(Instr.makeSlice 60 (.int .i64 (n:Int)) (.int .i64 (n:Int))).run Tryz.prog w=.ok (.slice (some ⟨w.heap.size,0,none⟩) n n) w'∧w'.ownsRow base 3 1 (.slice (some ⟨w.heap.size,0,none⟩) n n) n (qa (List.replicate n 0))∧Below w.heap.size w w':=by
 obtain⟨i,hi,hz⟩:=Option.map_eq_some_iff.1 Tryz.info_int;simp only[Prod.mk.injEq] at hz;obtain⟨h1,h2,h3⟩:=hz;obtain⟨w',hr,ho,hg⟩:=run_make_full (P:=Tryz.prog) w base 60 3 i _ 1 Tryz.underlying60 hi h1 h2 .i64 .i64 n (by rw[h3];omega) (by unfold maxLen;omega) hb;rw[zqs] at ho;exact⟨w',hr,ho,(Below.refl _ _).grown hg (Nat.le_refl _) (by intro k h;cases h)⟩
def zqu (base:Nat) (ss:List Value):Prop:=∀p n c,Value.slice (some p) n c∈ss→0<n→base≤p.block
def OwnV2 (w:World) (base:Nat) (x:Value) (v:Vec):Prop:=∃ss,w.ownsRow base 93 3 x v.length (vp v ss)∧HolesT w 0 v ss∧zqu base ss
theorem OwnV2.toOwnV {w:World} {base:Nat} {x:Value} {v:Vec} (h:OwnV2 w base x v):OwnV w base x v:=let ⟨ss,h1,h2,_⟩:=h;⟨ss,h1,h2⟩
theorem OwnV2.lower {w:World} {base base':Nat} {x:Value} {v:Vec} (h:OwnV2 w base x v) (hb:base'≤base):OwnV2 w base' x v:=by
 obtain⟨ss,ho,hh,ha⟩:=h;exact⟨ss,vw ho hb,hh,fun p n c h1 h2=>Nat.le_trans hb (ha p n c h1 h2)⟩
theorem OwnV2.lt {w:World} {base:Nat} {v:Value} {vs:Vec} (h:OwnV2 w base v vs):∀k,v.ownBlock=some k→base≤k∧k<w.heap.size:=h.toOwnV.lt
theorem zj6 {w w':World} {a:Option Addr} {n c:Nat} {l:List Iv} (h:IvsT w 0 a n c l) (hs:0<n→∀p,a=some p→p.block<w.heap.size→w'.heap[p.block]?=w.heap[p.block]?):IvsT w' 0 a n c l:=by
 refine⟨⟨h.ivs.len,h.ivs.lt,h.ivs.room,h.ivs.most,h.ivs.nilc,fun hn=>?_⟩,fun hn p hp=>?_⟩
 · obtain⟨b,o,ha,hc⟩:=h.ivs.cells hn;have hrow:=hs hn _ ha (ze (hc 0 hn).1);exact⟨b,o,ha,fun i hi=>⟨(World.cell?_of_block (a:=⟨b,o+i*2,none⟩) hrow).trans (hc i hi).1,(World.cell?_of_block (a:=⟨b,o+i*2+1,none⟩) hrow).trans (hc i hi).2⟩⟩
 · obtain⟨b,o,ha,hc⟩:=h.ivs.cells hn;have hrow:=hs hn _ ha (ze (hc 0 hn).1);rw[ha] at hp;cases hp;rcases h.row hn _ ha with h' | ⟨C,fr,h'⟩
   · omega
   · exact .inr ⟨C,fr,hrow.trans h'⟩
theorem OwnV2.same {w w':World} {base:Nat} {x:Value} {v:Vec} (h:OwnV2 w base x v) (hk:∀k,base≤k→k<w.heap.size→w'.heap[k]?=w.heap[k]?):OwnV2 w' base x v:=by
 obtain⟨ss,ho,hh,ha⟩:=h;refine⟨ss,zaw ho hk,⟨hh.1,fun i hi=>?_⟩,ha⟩;obtain⟨a,n,c,h1,h2⟩:=hh.2 i hi;exact⟨a,n,c,h1,zj6 h2 fun hn p hp hw=>hk _ (ha p n c (by rw[←hp];exact List.mem_of_getElem? h1) hn) hw⟩
theorem OwnV2.below {w w':World} {base:Nat} {x:Value} {v:Vec} (h:OwnV2 w base x v) (hb:Below w.heap.size w w'):OwnV2 w' base x v:=h.same fun k _ hk=>hb.block k hk
end
section
open Go.ChangeShapes Go.WideShapes Go.RowKit
theorem Lay.own:ownKnob Tryz.prog.godebug=none:=by kernel_rfl
theorem Lay.et:Tryz.prog.globalNamed "errors.errorType" =some 0:=by kernel_rfl
theorem Lay.rt:(Tryz.prog.cutTypes.find? (·.1 == "internal/reflectlite.rtype")).map (·.2)=some 229:=by kernel_rfl
theorem Lay.oneRow:((List.range 420).filter fun t=>Tryz.prog.rowNamed t [101,114,114,111,114])=[29]:=by kernel_rfl
theorem Lay.size:Tryz.prog.types.size=420:=by kernel_rfl
theorem zqv {W:World} (h':handlesMet Tryz.prog [("errors.errorType",Rows.laid_errors_errorType)] W):Door W:=by
 obtain⟨name,u,ty,e1,e2,e3,e4,e5⟩:=h' _ (List.mem_singleton.2 rfl);have en:name=[101,114,114,111,114]:=(Option.some.inj e1).symm;subst en;obtain rfl:=Option.some.inj (Lay.rt.symm.trans e2);have hm:ty∈(List.range 420).filter fun t=>Tryz.prog.rowNamed t [101,114,114,111,114]:=List.mem_filter.2 ⟨List.mem_range.2 (by rw[←Lay.size];exact e3),e4⟩
 rw[Lay.oneRow] at hm;obtain rfl:=List.mem_singleton.1 hm;have hh:typeHandle Tryz.prog 29=.pointer (some ⟨1,29,none⟩):=by kernel_rfl
 rw[hh] at e5;have:=World.var?_cell Lay.et e5 0;unfold Door;simpa using this
noncomputable def zd4 (os:Os):World:=World.doorLaid Tryz.prog 21 os
theorem zj7 (os:Os):(zd4 os).os=os:=rfl
theorem zj8 (os:Os) (args:Array Value):((zd4 os).forCall (fun _ _=>0) ⟨#[],args,[]⟩).Shaped Tryz.prog:=World.shaped_of_ZipB (by kernel_rfl) (by kernel_rfl)
theorem zj9 {H:Type} {enc:TypeId×Value→H} {a:Assume} {C:Checked} {os:Os} {f:FuncId} {fn:Func} {s:ChangeSpec} {conds:List PathCond} {apart fresh handsOn again:Bool} {X:World→Array Value→Prop}
 (hX:∀(w w':World) (args:Array Value),w.heap=w'.heap→X w args→X w' args)
 (own:ownKnob C.prog.godebug=none) (started:os.Started) (noInit:C.prog.inits.idxOf? f=none) (hfn:C.prog.funcs[f]?=some fn)
 (witness:∃(w:World) (tape:Tape) (i:Input),w.os=os∧(w.forCall tape i).Shaped C.prog∧i.vars=[]∧Input.okWide C.prog (w.forCall tape i) .any w.heap.size f i∧
   ((s.pre enc C.prog fn conds apart (w.forCall tape i).memory i.args∧X (w.forCall tape i).memory i.args)∧sizedMet enc C.prog fn (OpenSpec.ofChange s) apart (w.forCall tape i).memory i.args)∧a.holds C.prog (lone (Frame.enter C.prog f i.args .normal) [] (w.forCall tape i)))
 (contract:∀(W:World) (base:Nat) (args:Array Value) (ds gs:List (DataW H)) (before:List MemPlace),
   (∀(j:Nat) t v,fn.params[j]?=some t→args[j]?=some v→Value.okWide C.prog W .any base t v)→
   DataW.Whole enc C.prog fn.params.toList s.vars apart W args.toList ds gs before→
   conds.all (PathCond.test C.prog ⟨fn.params.toList,ds,s.plain.varTypes C.prog,gs⟩)=true→
   (DataW.weightsEach C.prog (fn.params.toList++s.plain.varTypes C.prog) (ds++gs)).all (· ≤reachBytes)=true→X W args→W.ShapedOpen C.prog→
   a.holds C.prog (lone (Frame.enter C.prog f args .normal) [] W)→
   Calls C.prog f args W fun e W'=>∃v,e=.returned v∧s.post enc C.prog fn apart fresh handsOn again W args v W'):
 ReturnsInHanded a C os f .any (fun w args=>(s.pre enc C.prog fn conds apart w args∧X w args)∧sizedMet enc C.prog fn (OpenSpec.ofChange s) apart w args) (s.post enc C.prog fn apart fresh handsOn again):=by
 refine returnsInHanded_of_calls own started noInit witness ?_;intro w tape i _ hsh _ hok hpre hholds;obtain⟨_,_,_,fn',hfn',_,_,_,_,hval⟩:=hok;have e:fn'=fn:=Option.some.inj (hfn'.symm.trans hfn);subst e;obtain⟨⟨⟨ds,gs,before,hw,hc⟩,hx⟩,hz⟩:=hpre;have hw':=DataW.Whole.of_heap (w':=w.forCall tape i) (by rfl) hw;refine(contract (w.forCall tape i) w.heap.size i.args ds gs before hval hw' hc (hz.weights hw) (hX _ _ _ (by rfl) hx) hsh hholds).mono fun e W' ⟨v,he,hp⟩=>?_
 subst he;exact ChangeSpec.post_blind hp
theorem zfi {z:Int} (h:(Lit.int .u64 z).wf=true):∃n:Nat,z=n∧n<18446744073709551616:=by
 have h':0≤z∧z≤18446744073709551615:=by
  simp[Lit.wf,IntKind.min,IntKind.max,IntKind.bits,IntKind.signed] at h;omega
 exact⟨z.toNat,by omega,by omega⟩
theorem zqw {z:Int} (h:(Lit.int .u8 z).wf=true):∃n:Nat,z=n∧n<256:=by
 have h':0≤z∧z≤255:=by
  simp[Lit.wf,IntKind.min,IntKind.max,IntKind.bits,IntKind.signed] at h;omega
 exact⟨z.toNat,by omega,by omega⟩
theorem zg3 {w:World} {b o d:Nat} {k:Option Nat} {v:Value} (h:w.cell? ((⟨b,o,k⟩:Addr).add (0*d))=some v):k=none:=by
 cases k with
 | none=>rfl
 | some j=>
  rw[Nat.zero_mul] at h;have hx:((⟨b,o,some j⟩:Addr).add 0)=⟨b,o,some j⟩:=rfl;rw[hx] at h;unfold World.cell? at h;split at h <;> simp at h
section
variable {H:Type} {enc:TypeId×Value→H} {W:World} {fuel:Nat} {x:DataW H×List MemPlace}
theorem zqx {P:Program} {base:Nat} {spare:Nat→Bool} {held:Bool} {t e:TypeId} {f0 f1 f2:Field} {cs:List Value} (ht:P.underlying t=some (.slice e)) (he:P.underlying e=some (.struct #[f0,f1,f2]))
 (ce:P.cellsOf e=3) (o0:f0.offset=0) (o1:f1.offset=1) (o2:f2.offset=2) (c0:P.cellsOf f0.type=1) (c1:P.cellsOf f1.type=1) (c2:P.cellsOf f2.type=1)
 (h:DataW.trod enc P W base spare held fuel t cs=some x):
 cs=[.slice none 0 0]∨∃(a:Addr) (len cap m n:Nat),cs=[.slice (some a) len cap]∧len≤cap∧cap≤maxLen∧m=(if spare a.block then cap else len)∧
  ∀i,i<m→∃v0 v1 v2 y0 y1 y2,W.cell? (a.add (i*3))=some v0∧W.cell? (a.add (i*3+1))=some v1∧W.cell? (a.add (i*3+2))=some v2∧
   DataW.trod enc P W base spare held n f0.type [v0]=some y0∧DataW.trod enc P W base spare held n f1.type [v1]=some y1∧DataW.trod enc P W base spare held n f2.type [v2]=some y2:=by
 rcases Deep.open_slice ht h with ⟨h0,-⟩ | ⟨a,len,cap,m,n,D,Pl,rfl,hb,hl,hm,hmm,rfl,hx⟩
 · exact Or.inl h0
 right;refine⟨a,len,cap,m,n - 1,rfl,hl,hm,hmm,fun i hi=>?_⟩;obtain⟨cs',h1,h2⟩:=hx i hi;rw[ce] at h1;obtain⟨_,hlen,hcell⟩:=World.cells?_some h1;obtain⟨xs,k,hk,hxy,_,hxl,hf⟩:=DataW.trod_struct he h2;have hk':k=n - 1:=by omega
 subst hk'
 match xs,hxl,cs',hlen with
 | [y0,y1,y2],_,[v0,v1,v2],_=>
  have g0:=hf 0 f0 rfl;have g1:=hf 1 f1 rfl;have g2:=hf 2 f2 rfl;simp[o0,o1,o2,c0,c1,c2] at g0 g1 g2;have e0:=hcell 0 (by omega);have e1:=hcell 1 (by omega);have e2:=hcell 2 (by omega);rw[Deep.add_add] at e0 e1 e2;exact⟨v0,v1,v2,y0,y1,y2,by simpa using e0,by simpa using e1,by simpa using e2,g0,g1,g2⟩
theorem zka {v:Value} (h:DataW.trod enc Tryz.prog W 0 (fun _=>true) true fuel 91 [v]=some x):∃a n c l,v=.slice a n c∧Ivs W a n c l:=by
 rcases Deep.open_slice_pairs Tryz.underlying91 Tryz.underlying89 (by kernel_rfl) rfl rfl (by kernel_rfl) (by kernel_rfl) h with ⟨hcs,_⟩ | ⟨ad,len,cap,m,n,V0,V1,D0,D1,P0,P1,hcs,hb,hl,hm,hmm,hx,hc⟩
 · simp at hcs;subst hcs;exact⟨none,0,0,[],rfl,zgi _⟩
 · simp at hcs;subst hcs
   have each:∀i,i<m→∃s:Iv,W.cell? (ad.add (i*2))=some (.int .u64 ((s.1:Nat):Int))∧W.cell? (ad.add (i*2+1))=some (.int .u64 ((s.2:Nat):Int))∧s.1<18446744073709551616∧s.2<18446744073709551616:=by
    intro i hi;obtain⟨h1,h2,h3,h4⟩:=hc i hi;obtain⟨z0,e0,_,w0⟩:=DataW.trod_int Tryz.underlying43 h3;obtain⟨z1,e1,_,w1⟩:=DataW.trod_int Tryz.underlying43 h4;obtain⟨n0,rfl,l0⟩:=zfi w0;obtain⟨n1,rfl,l1⟩:=zfi w1;simp only[List.cons.injEq,and_true] at e0 e1;rw[e0] at h1;rw[e1] at h2;exact⟨(n0,n1),h1,h2,l0,l1⟩
   obtain⟨f,hf⟩:=Deep.choose_lt each;have hmc:m=cap:=by simpa using hmm
   refine⟨some ad,len,cap,(List.range len).map f,rfl,by simp,?_,hl,by unfold maxLen at hm;omega,(by intro h;cases h),fun hn=>?_⟩
   · intro s hs;obtain⟨i,hi,rfl⟩:=List.mem_map.1 hs;have hi':i<len:=List.mem_range.1 hi;exact(hf i (by omega)).2.2
   · obtain⟨b,o,k⟩:=ad;obtain rfl:k=none:=zg3 (hf 0 (by omega)).1;refine⟨b,o,rfl,fun i hi=>?_⟩;obtain⟨h1,h2,_,_⟩:=hf i (by omega);rw[yv] at h1 h2;have e:zc ((List.range len).map f) i=f i:=by rw[qg (by simpa using hi)];simp
     rw[e,Nat.add_assoc];exact⟨h1,h2⟩
theorem zqy {v:Value} (h:DataW.trod enc Tryz.prog W 0 (fun _=>true) true fuel 95 [v]=some x):∃a n c l,v=.slice a n c∧Ents W a n c l:=by
 rcases zqx Tryz.underlying95 Tryz.underlying93 (by kernel_rfl) rfl rfl rfl (by kernel_rfl) (by kernel_rfl) (by kernel_rfl) h with hcs | ⟨ad,len,cap,m,n,hcs,hl,hm,hmm,hc⟩
 · simp at hcs;subst hcs;exact⟨none,0,0,[],rfl,zjh _⟩
 · simp at hcs;subst hcs
   have each:∀i,i<m→∃e:Ent,W.cell? (ad.add (i*3))=some (.int .u64 ((e.1:Nat):Int))∧W.cell? (ad.add (i*3+1))=some (.int .u64 ((e.2.1:Nat):Int))∧LtE e∧
    ∃x k c,W.cell? (ad.add (i*3+2))=some (.slice x k c)∧Ivs W x k c e.2.2:=by
    intro i hi;obtain⟨v0,v1,v2,y0,y1,y2,h1,h2,h3,g0,g1,g2⟩:=hc i hi;obtain⟨z0,e0,_,w0⟩:=DataW.trod_int Tryz.underlying43 g0;obtain⟨z1,e1,_,w1⟩:=DataW.trod_int Tryz.underlying43 g1;obtain⟨a,k,c,l,rfl,hI⟩:=zka g2;obtain⟨n0,rfl,l0⟩:=zfi w0;obtain⟨n1,rfl,l1⟩:=zfi w1;simp only[List.cons.injEq,and_true] at e0 e1;rw[e0] at h1;rw[e1] at h2;exact⟨(n0,n1,l),h1,h2,⟨l0,l1,hI.lt⟩,a,k,c,h3,hI⟩
   obtain⟨f,hf⟩:=Deep.choose_lt each;have hmc:m=cap:=by simpa using hmm
   refine⟨some ad,len,cap,(List.range len).map f,rfl,by simp,?_,hl,by unfold maxLen at hm;omega,(by intro h;cases h),fun hn=>?_⟩
   · intro s hs;obtain⟨i,hi,rfl⟩:=List.mem_map.1 hs;have hi':i<len:=List.mem_range.1 hi;exact(hf i (by omega)).2.2.1
   · obtain⟨b,o,k⟩:=ad;obtain rfl:k=none:=zg3 (hf 0 (by omega)).1;refine⟨b,o,rfl,fun i hi=>?_⟩;obtain⟨h1,h2,-,x,k,c,h3,h4⟩:=hf i (by omega);rw[yv] at h1 h2 h3;have e:zg ((List.range len).map f) i=f i:=by rw[ve (by simpa using hi)];simp
     rw[e,Nat.add_assoc,Nat.add_assoc];exact⟨h1,h2,x,k,c,h3,h4⟩
theorem zyj {v:Value} (h:DataW.trod enc Tryz.prog W 0 (fun _=>true) true fuel 27 [v]=some x):∃a n c k,v=.slice a n c∧Frags W a n c k:=by
 rcases Deep.open_slice_pairs Tryz.underlying27 Tryz.underlying97 (by kernel_rfl) rfl rfl (by kernel_rfl) (by kernel_rfl) h with ⟨hcs,_⟩ | ⟨ad,len,cap,m,n,V0,V1,D0,D1,P0,P1,hcs,hb,hl,hm,hmm,hx,hc⟩
 · simp at hcs;subst hcs;exact⟨none,0,0,[],rfl,zd2 _⟩
 · simp at hcs;subst hcs
   have each:∀i,i<m→∃f:Frg,IvCell W (ad.add (i*2)) f.1∧EnCell W (ad.add (i*2+1)) f.2:=by
    intro i hi;obtain⟨h1,h2,h3,h4⟩:=hc i hi;obtain⟨a,k,c,l,e0,hI⟩:=zka h3;obtain⟨a',k',c',l',e1,hV⟩:=zqy h4;rw[e0] at h1;rw[e1] at h2;exact⟨(l,l'),⟨a,k,c,h1,hI⟩,⟨a',k',c',h2,hV⟩⟩
   obtain⟨f,hf⟩:=Deep.choose_lt each;have hmc:m=cap:=by simpa using hmm
   refine⟨some ad,len,cap,(List.range len).map f,rfl,by simp,hl,by unfold maxLen at hm;omega,(by intro h;cases h),fun hn=>?_⟩;obtain⟨b,o,k⟩:=ad
   obtain rfl:k=none:=by
    obtain⟨⟨_,_,_,h1,_⟩,_⟩:=hf 0 (by omega);exact zg3 h1
   refine⟨b,o,rfl,fun i hi=>?_⟩;obtain⟨h1,h2⟩:=hf i (by omega);rw[yv] at h1 h2;have e:zd ((List.range len).map f) i=f i:=by rw[yo (by simpa using hi)];simp
   rw[e,Nat.add_assoc];exact⟨h1,h2⟩
end
end
section
open Go.RowKit
theorem Byts.sub {w:World} {b o n cap:Nat} {l:List Nat} (h:Byts w (some ⟨b,o,none⟩) n cap l) (i j:Nat) (hij:i≤j) (hj:j≤n) (hi:i<cap):
 Byts w (some ⟨b,o+i,none⟩) (j - i) (cap - i) ((l.drop i).take (j - i)):=by
 refine⟨?_,?_,?_,?_,(by intro h;cases h),fun hn=>⟨b,o+i,rfl,fun k hk=>?_⟩⟩
 · rw[List.length_take,List.length_drop,h.len];omega
 · intro x hx;exact h.lt x (List.mem_of_mem_drop (List.mem_of_mem_take hx))
 · have:=h.room;omega
 · have:=h.most;omega
 · obtain⟨b',o',e,hc⟩:=h.cells (by omega);cases e;have:=hc (i+k) (by omega);rw[←Nat.add_assoc] at this;rw[this];have e:nth ((l.drop i).take (j - i)) k=nth l (i+k):=by simp[nth,hk]
   rw[e]
