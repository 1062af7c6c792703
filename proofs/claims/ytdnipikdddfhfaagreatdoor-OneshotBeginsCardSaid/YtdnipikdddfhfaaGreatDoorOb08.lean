/- Part 08. -/
import Derived.Test.YtdnipikdddfhfaaGreatDoorOb07
set_option linter.unusedVariables false
set_option maxHeartbeats 16000000
namespace Go.Proofs.YtdnipikdddfhfaaGreatDoor
open Lib (hid)
section
abbrev Seg:=Iv×Nat
def zcs (L:List Seg) (x:Nat):Nat:=(L.takeWhile fun p=>decide (p.1.1<x)).length
def vu (L:List Seg) (s:Iv) (i:Nat):List Seg:=L.take (zcs L s.1)++(s,i) :: L.drop (zcs L s.1)
def kk (L:List Seg) (l:List Iv) (i:Nat):List Seg:=l.foldl (fun L s=>vu L s i) L
def j5 (k:Kno):Nat→List Seg
 | 0=>[]
 | d+1=>kk (j5 k d) (zc k d).1 d
def zd (k:Kno):List Seg:=j5 k k.length
theorem zfi (L:List Seg) (s:Iv) (i:Nat):(vu L s i).Perm ((s,i) :: L):=by
 unfold vu;refine List.perm_middle.trans ?_;rw[List.take_append_drop]
theorem zpf (L:List Seg) (s:Iv) (i:Nat):(vu L s i).length=L.length+1:=by rw[(zfi L s i).length_eq,List.length_cons]
theorem zpg {L:List Seg} (h:L.Pairwise fun p q=>p.1.1≤q.1.1) (s:Iv) (i:Nat):(vu L s i).Pairwise fun p q=>p.1.1≤q.1.1:=by
 induction L with
 | nil=>simp[vu,zcs]
 | cons p L ih=>
  obtain⟨h1,h2⟩:=List.pairwise_cons.1 h;by_cases hp:p.1.1<s.1
  · have e:vu (p :: L) s i=p :: vu L s i:=by
     unfold vu zcs;rw[List.takeWhile_cons_of_pos (by simpa using hp)];simp
    rw[e];refine List.pairwise_cons.2 ⟨fun q hq=>?_,ih h2⟩;rcases List.mem_cons.1 ((zfi L s i).mem_iff.1 hq) with rfl | hq
    · exact Nat.le_of_lt hp
    · exact h1 q hq
  · have e:vu (p :: L) s i=(s,i) :: p :: L:=by
     unfold vu zcs;rw[List.takeWhile_cons_of_neg (by simpa using hp)];simp
    rw[e];refine List.pairwise_cons.2 ⟨fun q hq=>?_,h⟩;rcases List.mem_cons.1 hq with rfl | hq
    · simp only;omega
    · have:=h1 q hq;simp only;omega
theorem zfj {L:List Seg} (h:L.Pairwise fun p q=>p.1.1≤q.1.1) (i:Nat):∀(l:List Iv),(kk L l i).Pairwise (fun p q=>p.1.1≤q.1.1)∧(kk L l i).Perm (L++l.map fun s=>(s,i)):=by
 intro l
 induction l generalizing L with
 | nil=>exact⟨h,by simp[kk]⟩
 | cons s l ih=>
  have e:kk L (s :: l) i=kk (vu L s i) l i:=rfl;rw[e];obtain⟨h1,h2⟩:=ih (zpg h s i);refine⟨h1,h2.trans ?_⟩;rw[List.map_cons];exact((zfi L s i).append_right _).trans List.perm_middle.symm
theorem k7 (k:Kno):∀d,d≤k.length→(j5 k d).Pairwise (fun p q=>p.1.1≤q.1.1)∧((j5 k d).map (·.1)).Perm (kj (k.take d))∧∀p∈j5 k d,p.2<d∧p.1∈(zc k p.2).1
 | 0,_=>⟨List.Pairwise.nil,by simp[j5,kj],fun p h=>by cases h⟩
 | d+1,h=>by
   obtain⟨h1,h2,h3⟩:=k7 k d (by omega);obtain⟨g1,g2⟩:=zfj h1 d (zc k d).1;refine⟨g1,?_,fun p hp=>?_⟩
   · rw[zox (by omega)];refine(g2.map _).trans ?_;rw[List.map_append,List.map_map];refine(h2.append_right _).trans ?_;simp[Function.comp_def]
   · rcases List.mem_append.1 (g2.mem_iff.1 hp) with h | h
     · have:=h3 p h;exact⟨by omega,this.2⟩
     · obtain⟨s,hs,rfl⟩:=List.mem_map.1 h;exact⟨Nat.lt_succ_self _,hs⟩
theorem zfk {α:Type} {f:α→Nat}:∀{l m:List α},l.Perm m→l.Pairwise (fun a b=>f a≤f b)→m.Pairwise (fun a b=>f a≤f b)→(∀a∈l,∀b∈l,f a=f b→a=b)→l=m
 | [],m,hp,_,_,_=>hp.nil_eq
 | a :: l,[],hp,_,_,_=>by have:=hp.length_eq;simp at this
 | a :: l,b :: m,hp,hl,hm,hu=>by
   obtain⟨l1,l2⟩:=List.pairwise_cons.1 hl;obtain⟨m1,m2⟩:=List.pairwise_cons.1 hm;have ha:a∈b :: m:=hp.mem_iff.1 List.mem_cons_self;have hb:b∈a :: l:=hp.mem_iff.2 List.mem_cons_self
   have e:a=b:=by
    refine hu a List.mem_cons_self b hb (Nat.le_antisymm ?_ ?_)
    · rcases List.mem_cons.1 hb with rfl | h
      · exact Nat.le_refl _
      · exact l1 b h
    · rcases List.mem_cons.1 ha with rfl | h
      · exact Nat.le_refl _
      · exact m1 a h
   subst e;rw[zfk hp.cons_inv l2 m2 (fun x hx y hy=>hu x (List.mem_cons_of_mem _ hx) y (List.mem_cons_of_mem _ hy))]
theorem zph {l:List Iv} (h:ze2 l):l.Pairwise fun s t=>s.1≤t.1:=by
 rw[List.pairwise_iff_getElem];intro i j hi hj hij;have:=h i j hij hj;rwa [yr hi,yr hj] at this
theorem zik {k:Kno} (hc:CanK k) {i:Nat} (hi:i<k.length) {s:Iv} (hs:s∈(zc k i).1):zfg k s.1=i:=by
 have hmi:=jh hi;have hx:=(ze8 (hc.items _ hmi).1 hs).1;unfold zfg
 have:qy (fun i=>if mem (zc k i).1 s.1=true then some i else none) k.length=some i:=by
  refine zak hi (fun j hj=>if_neg fun hm=>?_) (if_pos hx);have hmj:=jh (k:=k) (i:=j) (by omega);have e:=hc.apart _ hmi _ hmj s.1 hx hm;have hl:=List.pairwise_iff_getElem.1 hc.asc j i (by omega) hi hj;rw[←z7 (by omega),←z7 hi,e] at hl;unfold zcj at hl;rw[zhi] at hl;cases hl
 rw[this];rfl
theorem zil {l:List Iv} (h:Good l) {s t:Iv} (hs:s∈l) (ht:t∈l) (e:s.1=t.1):s=t:=by
 obtain⟨i,hi,rfl⟩:=List.getElem_of_mem hs;obtain⟨j,hj,rfl⟩:=List.getElem_of_mem ht;rw[←yr hi,←yr hj] at*;have hi2:=(ku h i hi).1;have hj2:=(ku h j hj).1;rcases Nat.lt_trichotomy i j with h2 | h2 | h2
 · have:=zbm h h2 hj;omega
 · rw[h2]
 · have:=zbm h h2 hi;omega
theorem zpi {k:Kno} (hc:CanK k) {l:List Iv} (hp:l.Perm (kj k)) (ha:ze2 l):l=(zd k).map (·.1)∧(l.map fun s=>zfg k s.1)=(zd k).map (·.2):=by
 obtain⟨h1,h2,h3⟩:=k7 k k.length (Nat.le_refl _);rw[List.take_length] at h2
 have e:l=(zd k).map (·.1):=by
  refine zfk (f:=(·.1)) (hp.trans h2.symm) (zph ha) (List.pairwise_map.2 h1) fun s hs t ht e=>?_
  obtain⟨f,hf,hsf⟩:=zig.1 (hp.mem_iff.1 hs);obtain⟨g,hg,htg⟩:=zig.1 (hp.mem_iff.1 ht);have x1:=(ze8 (hc.items f hf).1 hsf).1;have x2:=(ze8 (hc.items g hg).1 htg).1;rw[←e] at x2;have e2:=hc.apart f hf g hg s.1 x1 x2;subst e2;exact zil (hc.items f hf).1 hsf htg e
 refine⟨e,?_⟩;rw[e,List.map_map];refine List.map_congr_left fun p hp'=>?_
 obtain⟨g1,g2⟩:=h3 p hp';exact zik hc g1 g2
end
section
open Go.RowKit Go.Shelf
attribute [local go_sem] Oper.semAt_some zdb
theorem zpj (a:Option Addr) (n c t:Nat) (w:World):Calls Tryz.prog 213 #[.slice a n c,.int .u64 t] w fun e w'=>
 e=.returned (.func (.func 251) #[] #[.pointer (some ⟨w.heap.size,0,none⟩),.pointer (some ⟨w.heap.size+1,0,none⟩)])∧w'=(w.alloc (.cells #[.slice a n c] 27)).alloc (.cells #[.int .u64 t] 43):=by
 go_enter Tryz.func213,Tryz.ntmps213;go_wp2;go_ret;exact⟨by simp,rfl⟩
theorem zpk (w:World) (x y:Value) (T:TypeId) (w':World) (h:Below (w.alloc (.cells #[x,y] T)).heap.size (w.alloc (.cells #[x,y] T)) w'):
 w'.cell? ⟨w.heap.size,0,none⟩=some x∧w'.cell? ⟨w.heap.size,1,none⟩=some y:=by
 have hrow:(w.alloc (.cells #[x,y] T)).heap[w.heap.size]?=some (.cells #[x,y] T):=vp rfl
 exact⟨(h.cell (p:=⟨w.heap.size,0,none⟩) (by simp)).trans (j0 (i:=0) hrow rfl),
  (h.cell (p:=⟨w.heap.size,1,none⟩) (by simp)).trans (j0 (i:=1) hrow rfl)⟩
abbrev WEl:=Nat×Value×Value
def zfl (x:WEl):Array Value:= #[.int .i64 ((x.1:Nat):Int),.agg #[x.2.1,x.2.2]]
def zam (w:World) (k:Kno) (x:WEl):Prop:=(∃a n c,x.2.1=.slice a n c∧Ivs w a n c (zc k x.1).1)∧∃a n c,x.2.2=.slice a n c∧Ents w a n c (zc k x.1).2
set_option maxRecDepth 20000 in
theorem zpl (n:Nat) (w0 w:World) (bk bt:Nat) (a:Option Addr) (m c t:Nat) (k:Kno) (hE:Frags w0 a m c k) (hG:∀f∈k,Good f.1∧f.1.length≤1000000) (hb0:Below w0.heap.size w0 w) (hm:m≤500)
 (hbk:w.heap[bk]?=some (.cells #[.slice a m c] 27)) (hbt:w.heap[bt]?=some (.cells #[.int .u64 t] 43)):
 zhx n Tryz.prog 251 #[.pointer (some ⟨bk,0,none⟩),.pointer (some ⟨bt,0,none⟩)] zfl
  (fun pre=>(∃rest,jo k t=pre.map (·.1)++rest)∧∀x∈pre,zam w0 k x) (fun xs=>jo k t=xs.map (·.1)∧∀x∈xs,zam w0 k x)
  (fun _=>False) (fun k=>k<w0.heap.size∨k=bk∨k=bt) w:=by
 intro l J Jx W hl hW hJ hJx hY h0;have H0:=hid (hb0.trans (hW.mono hb0.size));have hrk:=(hW.block bk (Array.getElem?_eq_some_iff.1 hbk).1).trans hbk;have hrt:=(hW.block bt (Array.getElem?_eq_some_iff.1 hbt).1).trans hbt;have Hrt:=hid hrt;have HE:=hid hE;have Hl:=hid hE.len;have HG:=hid hG;have HJ:=hid (fun s A B (h:J s A) (hb:Below A.heap.size A B)=>hJ s A B h ((Kept.refl _ A).below hb));have HY:=hid hY;have Hj0:=hid h0;clear hE hb0 hbk hbt hW hJ hJx hY h0 hl hG hrt;refine callsIn_of_wp Tryz.func251 rfl trivial ?_ rfl;simp only[Tryz.ntmps251,List.size_toArray,List.length_cons,List.length_nil,Nat.reduceAdd,Nat.reduceSub,Array.replicate_succ,Array.replicate_zero,List.push_toArray,List.append_toArray,List.nil_append,List.cons_append];have q1:=ki hrk;clear hrk
 gi_wp2
 clear q1
 gi_loopw [4,5,8] (fun _ _ i wr=>∃d:Nat,d≤m∧i=.int .i64 d∧Hid (Below w0.heap.size w0 wr∧wr.heap[bt]?=some (.cells #[.int .u64 t] 43)∧∃pre,J pre wr∧vt k t d=pre.map (·.1)∧∀x∈pre,zam w0 k x)) (fun _ _ i _=>m - (intOf i).toNat)
 case atStart=>exact⟨0,by omega,rfl,H0.out,Hrt.out,[],Hj0.out,rfl,fun x hx=>by cases hx⟩
 case round=>
  obtain⟨d,hd,rfl,hinv⟩:=hrel;obtain⟨hb,hrt,pre,hj,hpre,hsl⟩:=hinv.out;by_cases hdm:d<m
  · have hdk:d<k.length:=by rw[Hl.out];exact hdm
    obtain⟨bb,oo,rfl⟩:=HE.out.some (by omega);obtain⟨x,n1,c1,y,n2,c2,hq⟩:=HE.out.fix hdm;obtain⟨q1,hI,q2,hV⟩:=hq wr hb;have Hsl0:=hid (show zam w0 k (d,.slice x n1 c1,.slice y n2 c2) from⟨⟨_,_,_,rfl,(hq w0 (Below.refl _ _)).2.1⟩,_,_,_,rfl,(hq w0 (Below.refl _ _)).2.2.2⟩);have Hst:=hid (zih k t d)
    have Hmem:=hid (show mem (zc k d).1 t=true→∃rest,jo k t=vt k t d++[d]++rest from fun h=>by
     have h1:jo k t=vt k t k.length:=rfl
     have h2:∀e,vt k t (d+1+e)=vt k t (d+1)++((List.range e).map (d+1+·)).filter fun i=>mem (zc k i).1 t:=by
      intro e;unfold vt;rw[List.range_add,List.filter_append]
     obtain⟨e,he⟩:∃e,k.length=d+1+e:=⟨k.length - (d+1),by omega⟩;rw[h1,he,h2,zih,if_pos h];exact⟨_,rfl⟩)
    have hal:Below wr.heap.size wr (wr.alloc (.cells #[.slice x n1 c1,.slice y n2 c2] 97)):=(Below.refl _ _).alloc (Nat.le_refl _) _;have hg:=HG.out _ (jh hdk);have hC:=hid (znz x n1 c1 t (zc k d).1 _ (hI.below hal) hg.1 (by rw[←hI.len];exact hg.2));have Hal:=hid hal;have hz1:(wr.alloc (.cells #[.slice x n1 c1,.slice y n2 c2] 97)).cell? ⟨bt,0,none⟩=some (.int .u64 t):=ki (zaz hrt);have Hb:=hid hb;have Hrt:=hid hrt;have Hj:=hid hj;have Hpre:=hid hpre;have Hsl:=hid hsl;have h0d:(0:Int)≤d:=by omega
    have h04:(d:Int)<(m:Int):=by omega
    clear hb hrt hj hpre hsl hq hI hV hinv hal hg;generalize mem (zc k d).1 t=b at*
    gi_wp2_with fail
    refine⟨fun h=>(by cases h),(callsIn_wide.2 hC.out).mono ?_⟩;rintro e w1 ⟨rfl,hb1⟩;have Hb1:=hid hb1;clear hb1 hz1 q1 q2;have Hw1:=hid (Hal.out.trans (Hb1.out.mono Hal.out.size));have Hb1w:=hid (Hb.out.trans (Hw1.out.mono Hb.out.size));have Hrt1:=hid ((Hw1.out.block _ (Array.getElem?_eq_some_iff.1 Hrt.out).1).trans Hrt.out);have Hj1:=hid (HJ.out _ _ _ Hj.out Hw1.out);obtain⟨f0,f1⟩:=zpk wr (.slice x n1 c1) (.slice y n2 c2) 97 w1 Hb1.out
    cases b with
    | false=>
     rw[if_neg (by simp),List.append_nil] at Hst
     gi_wp2
     go_roundw
     case rel=>exact⟨d+1,by omega,by go_num,Hb1w.out,Hrt1.out,pre,Hj1.out,by rw[Hst.out];exact Hpre.out,Hsl.out⟩
     case measure=>simp[intOf];omega
    | true=>
     rw[if_pos rfl] at Hst;have hmm:=Hmem.out rfl;obtain⟨rest,hrest⟩:=hmm
     have hV:(∃rest,jo k t=(pre++[((d,.slice x n1 c1,.slice y n2 c2):WEl)]).map (·.1)++rest)∧∀x'∈pre++[((d,.slice x n1 c1,.slice y n2 c2):WEl)],zam w0 k x':=by
      refine⟨⟨rest,by rw[hrest,Hpre.out,List.map_append];rfl⟩,fun x' hx'=>?_⟩;rcases List.mem_append.1 hx' with h | h
      · exact Hsl.out x' h
      · rw[List.mem_singleton] at h;rw[h];exact Hsl0.out
     have HV:=hid hV;obtain⟨fn,tmps,assign,body,hy,hR⟩:=HY.out pre (d,.slice x n1 c1,.slice y n2 c2) w1 hV Hj1.out;simp only[zfl] at hy;clear hV hrest
     gi_wp2
     first | refine hR.mono ?_ | refine⟨fun h=>(by cases h),hR.mono ?_⟩
     rintro e W3 (⟨rfl,hJ3,hk3⟩ | ⟨rfl,hJx3⟩)
     · have H3:=hid (show Below w0.heap.size w0 W3∧W3.heap[bt]?=some (.cells #[.int .u64 t] 43)∧∃pre,J pre W3∧vt k t (d+1)=pre.map (·.1)∧∀x∈pre,zam w0 k x from
        ⟨Hb1w.out.trans (hk3.toBelow (fun k hk=>.inl hk) Hb1w.out.size),(hk3.row _ (Array.getElem?_eq_some_iff.1 Hrt1.out).1 (.inr (.inr rfl))).trans Hrt1.out,_,hJ3,by rw[Hst.out,Hpre.out,List.map_append];rfl,HV.out.2⟩)
       clear hJ3 hk3 hy hR f0 f1
       gi_wp2
       go_roundw
       case rel=>exact⟨d+1,by omega,by go_num,H3.out⟩
       case measure=>simp[intOf];omega
     · have HX:=hid (show ∃pre,((∃rest,jo k t=pre.map (·.1)++rest)∧∀x∈pre,zam w0 k x)∧Jx pre W3 from⟨_,HV.out,hJx3⟩);clear hJx3 hy hR f0 f1
       gi_wp2
       go_wp2;refine bodyPost_ret (results_none rfl _ _ _) rfl ?_;exact⟨⟨_,rfl⟩,.inr HX.out⟩
  · obtain rfl:d=m:=by omega
    have HF:=hid (show ∃xs,(jo k t=xs.map (·.1)∧∀x∈xs,zam w0 k x)∧J xs wr from⟨pre,⟨by rw[←hpre,←Hl.out];rfl,hsl⟩,hj⟩);clear hb hrt hj hpre hsl hinv
    gi_wp2
    refine bodyPost_end (results_none rfl _ _ _) rfl ?_;exact⟨⟨_,rfl⟩,.inl HF.out⟩
end
section
open Go.RowKit
def zp (L:List Seg):List Iv:=L.map (·.1)
def zw (L:List Seg):List Nat:=L.map (·.2)
structure Own2 (w:World) (base:Nat) (L:List Seg) (v u:Value):Prop where
 ivs:w.ownsRow base 89 2 v L.length (ivC (zp L))
 idx:w.ownsRow base 3 1 u L.length (yj (zw L))
 nil:L=[]→v=.slice none 0 0∧u=.slice none 0 0
theorem Own2.below {w w':World} {base:Nat} {L:List Seg} {v u:Value} (h:Own2 w base L v u) (hb:Below w.heap.size w w'):Own2 w' base L v u:=⟨zx h.ivs hb,zx h.idx hb,h.nil⟩
theorem zpm (L:List Seg) (l:List Iv) (i:Nat):(kk L l i).length=L.length+l.length:=by
 induction l generalizing L with
 | nil=>rfl
 | cons s l ih=>
  have e:kk L (s :: l) i=kk (vu L s i) l i:=rfl;rw[e,ih,zpf,List.length_cons];omega
theorem zfm (k:Kno):∀d,d≤k.length→(j5 k d).length=kz (k.take d)
 | 0,_=>rfl
 | d+1,h=>by
   rw[j5,zpm,zfm k d (by omega),List.take_succ_eq_append_getElem (by omega),zh8,z7 (by omega)];simp[kz]
theorem zan {w:World} {base sz n:Nat} {T:TypeId} {v:Value} {xs:List Value} (h:w.ownsRow base T sz v n xs) (hn:0<n):∃g cap,v=.slice (some ⟨g,0,none⟩) n cap∧base≤g∧g<w.heap.size∧n≤cap∧cap≤maxLen:=by
 rcases h.2 with ⟨_,h0⟩ | ⟨g,cap,cur,hv,hg,hh,hnc,hcm,_⟩
 · omega
 · exact⟨g,cap,hv,hg,(Array.getElem?_eq_some_iff.1 hh).1,hnc,hcm⟩
theorem zpn (L:List Nat):splice [.int .u8 0,.int .u8 0,.int .u8 0,.int .u8 0] 0 (u8s (L.take 4))=[.int .u8 ((nth L 0:Nat):Int),.int .u8 ((nth L 1:Nat):Int),.int .u8 ((nth L 2:Nat):Int),.int .u8 ((nth L 3:Nat):Int)]:=by
 match L with
 | []=>rfl
 | [a]=>rfl
 | [a,b]=>rfl
 | [a,b,c]=>rfl
 | a :: b :: c :: d :: r=>rfl
set_option maxRecDepth 100000 in
theorem zpo (a:Option Addr) (n cap p:Nat) (most:Int) (l:List Nat) (w:World) (hD:Door w) (hB:Byts w a n cap l) (hp:p<n) (hn:n≤1000000000000) (hm0: -9223372036854775808≤most) (hm1:most≤9223372036854775807):
 Calls Tryz.prog 165 #[.slice a n cap,.int .i64 p,.int .i64 most] w fun e w'=>
  e=.returned (.tuple #[.int .i64 ((qk l p most).1:Nat),.int .i64 ((qk l p most).2.1:Nat),zh (qk l p most).2.2])∧Below w.heap.size w w':=by
 have HB:=hid hB;have HD:=hid hD;clear hD;have Hm:=hid (And.intro hm0 hm1);clear hm0 hm1;obtain⟨hl,hlt,hnc,hcm,hnil,hc⟩:=hB;clear hnil hcm;have Hl:=hid hl;clear hl;have Hlt:=hid hlt;clear hlt;obtain⟨b,o,rfl,hcell⟩:=hc (by omega);have Hcell:=hid hcell;clear hcell hc;have hpc:¬cap=p:=by omega
 have hple:p≤n:=by omega
 have h0p:(0:Int)≤(p:Int):=by omega
 have HBs:=hid (fun (w':World) (hb:Below w.heap.size w w')=>show ∀j u,(u8s ((l.drop p).take 4))[j]?=some u→w'.cell? ((⟨b,o+p,none⟩:Addr).add j)=some u from by
  intro j u hu
  have hj:j<((l.drop p).take 4).length:=by
   rcases Nat.lt_or_ge j ((l.drop p).take 4).length with h' | h'
   · exact h'
   · rw[List.getElem?_eq_none (by rw[zcc];exact h')] at hu;cases hu
  rw[zes _ j hj] at hu;cases hu;rw[List.length_take,List.length_drop,Hl.out] at hj
  rw[ye,hb.cell (p:=⟨b,o+p+j,none⟩) (by
   have:=ze (Hcell.out p hp);exact this),Nat.add_assoc,Hcell.out (p+j) (by omega)]
  have:nth ((l.drop p).take 4) j=nth l (p+j):=by
   have h4:j<4:=by omega
   simp[nth,h4]
  rw[this])
 have Hlen:=hid (show (u8s ((l.drop p).take 4)).length=Nat.min (n - p) 4 from by rw[zcc,List.length_take,List.length_drop,Hl.out,Nat.min_comm]);have Hone:=hid (show ∀v∈u8s ((l.drop p).take 4),v.oneCell'=true from by intro v hv;unfold u8s at hv;rw[List.mem_map] at hv;obtain⟨x,_,rfl⟩:=hv;rfl);have Hb0:=hid ((Below.refl w.heap.size w).alloc (Nat.le_refl _) (.cells #[.int .u8 0,.int .u8 0,.int .u8 0,.int .u8 0] 139));go_enter Tryz.func165,Tryz.ntmps165;go_wp2_with fail;go_region_law (refine step_copy_splice rfl (.tmp 20) (.tmp 23) 22 22 rfl 5 Tryz.underlying22 (by kernel_rfl) (some ⟨w.heap.size,0,none⟩) (some ⟨b,o+p,none⟩) 4 4 (n - p) (cap - p) rfl rfl w.heap.size 0 [.int .u8 0,.int .u8 0,.int .u8 0,.int .u8 0] 139 (heap_alloc_new _ _) (u8s ((l.drop p).take 4)) Hlen.out (fun _=>⟨rfl,_,rfl,HBs.out _ Hb0.out.drew⟩) (by rw[Hlen.out,Nat.zero_add];exact Nat.min_le_right _ _) Hone.out w.heap.size w Hb0.out.drew (Nat.le_refl _) ?_;intro w4 hg4 hb4)
 rw[zpn,zdl,zdl,zdl,zdl,Nat.add_zero] at hg4;rw[Hlen.out];have Hg4:=hid hg4.out;clear hg4 Hone HBs Hlen;have hmin:((Nat.min (n - p) 4:Nat):Int)=((min (n - p) 4:Nat):Int):=rfl;go_wp2_with fail;refine(zcm _).mono ?_;rintro e w5 ⟨rfl,hb5⟩;have hgl4:w.heap.size<w4.heap.size:=(Array.getElem?_eq_some_iff.1 Hg4.out).1;have hgl:w.heap.size<w5.heap.size:=Nat.lt_of_lt_of_le hgl4 hb5.size;have hg5:=(hb5.block w.heap.size hgl4).trans Hg4.out;have c0:=cell_of_row w5 w.heap.size 0 _ _ _ hg5;have c1:=cell_of_row w5 w.heap.size 1 _ _ _ hg5;have c2:=cell_of_row w5 w.heap.size 2 _ _ _ hg5;have c3:=cell_of_row w5 w.heap.size 3 _ _ _ hg5;simp only[List.getElem?_toArray,List.getElem?_cons_zero,List.getElem?_cons_succ] at c0 c1 c2 c3;have hb:=hb4.trans (hb5.mono hb4.size);clear hg5 hb4 hb5 Hg4 hgl4;generalize hd0:nth l p=d0 at*;generalize hd1:nth l (p+1)=d1 at*;generalize hd2:nth l (p+2)=d2 at*;generalize hd3:nth l (p+3)=d3 at*;have Hd0:=hid hd0;clear hd0;have Hd1:=hid hd1;clear hd1;have Hd2:=hid hd2;clear hd2;have Hd3:=hid hd3;clear hd3;generalize hM:(min (n - p) 4)=m4 at*;have HM:=hid hM;clear hM hmin;have he4:=zb8;have hm4:p+m4≤n:=by have:=HM.out;omega
 have hm44:m4≤4:=by have:=HM.out;omega
 by_cases hE:d0=75∧d1=78∧d2=87∧d3=76
 · obtain⟨rfl,rfl,rfl,rfl⟩:=hE
   have hn4:p+4≤n:=by
    by_cases h:p+3<n
    · omega
    · exfalso;have h3:=Hd3.out;unfold nth at h3;rw[List.getD_eq_getElem?_getD,List.getElem?_eq_none (by rw[Hl.out];omega)] at h3;exact absurd h3 (by decide)
   have Hok:=hid (show ∀j,j<4→qq l p j=none from by
    intro j hj;refine zbl (by rw[Hl.out];omega) ?_;obtain rfl | rfl | rfl | rfl:j=0∨j=1∨j=2∨j=3:=by omega
    · exact Hd0.out
    · exact Hd1.out
    · exact Hd2.out
    · exact Hd3.out)
   clear he4;have he5:=fun w=>zb8 75 78 87 76 75 78 87 76 w
   have Hb6:=hid (hb.alloc hb.size (.cells #[.int .u8 75,.int .u8 78,.int .u8 87,.int .u8 76] 139));have hrest:((n:Int) - ((p:Int)+4))=((n - (p+4):Nat):Int):=by omega
   by_cases h4:p+4=n
   · have Hbad:=hid (zcg (most:=most) (za3 (show 4<5 by omega) Hok.out (zcf (by rw[Hl.out];omega))));have t4:((n:Int) - ((p:Int)+4) == 0)=true:=by rw[beq_iff_eq];omega
     clear hrest h4;go_wp2_with fail;refine(qm 5 _ _).mono ?_;rintro e w' ⟨rfl,rfl⟩;go_wp2_with fail;go_ret3
     refine⟨?_,Hb6.out⟩;rw[Hbad.out]
     rfl
   · have t4:((n:Int) - ((p:Int)+4) == 0)=false:=by rw[beq_eq_false_iff_ne];omega
     clear hrest;have hp4:p+4<n:=by omega
     have hc:(w5.alloc (.cells #[.int .u8 75,.int .u8 78,.int .u8 87,.int .u8 76] 139)).cell? ⟨b,o+(p+4),none⟩=some (.int .u8 ((nth l (p+4):Nat):Int)):=by
      rw[Hb6.out.cell (p:=⟨b,o+(p+4),none⟩) (by have:=ze (Hcell.out p hp);exact this)];exact Hcell.out (p+4) hp4
     by_cases hv:nth l (p+4)=1
     · have hnone:=zhd (l:=l) (p:=p) (by
        intro j hj;by_cases h:j<4
        · exact Hok.out j h
        · obtain rfl:j=4:=by omega
          exact zbl (by rw[Hl.out];exact hp4) hv)
       rw[hv] at hc;have HR:=hid (zos l p most hnone _ _ _ rfl);have hst:=zia (l.drop (p+5)) 0 0;have hxl:=zib (l.drop (p+5)) 0 0 (by omega);have hjl:=zic (l.drop (p+5)) 0 0;rw[List.length_drop,Hl.out] at hjl;have Hrd:=hid (show j4 l (p+5)=(match zk (l.drop (p+5)) 0 0 with | (1,x,j)=>(x,p+5+j,none) | (2,_,_)=>(0,0,some (6,some ((p+5:Nat):Int))) | _=>(0,0,some (5,some ((p+5:Nat):Int)))) from rfl);have Hread:=hid (zh0 (some ⟨b,o,none⟩) n cap (p+5) l _ (HB.out.below Hb6.out) (by omega));have HDx:=hid (HD.out.below (Nat.le_refl _) Hb6.out);generalize zk (l.drop (p+5)) 0 0=r at*;obtain⟨st,x,j⟩:=r;have hst':st=0∨st=1∨st=2:=hst;have hjl':j≤0+(n - (p+5)):=hjl;have Hxl:=hid (show x<18446744073709551616 from hxl);clear hst hjl hxl hnone hv;go_wp2_with fail;refine Hread.out.mono ?_;rintro e wZ ⟨rfl,hbZ⟩;have HbZ:=hid (Hb6.out.trans (hbZ.mono Hb6.out.size));have HDz:=hid (HDx.out.below (Nat.le_refl _) hbZ);clear hbZ hc c0 c1 c2 c3 hgl hb Hread;rcases hst' with rfl | rfl | rfl
       · rw[show j4 l (p+5)=(0,0,some (5,some ((p+5:Nat):Int))) from Hrd.out];have Hbad:=hid (show qk l p most=(0,0,some (5,some (p:Int))) from HR.out);simp only[zh];go_wp2_with fail;refine(kx (some (5,some ((p+5:Nat):Int))) _ HDz.out).mono ?_;rintro e wy ⟨rfl,hby⟩;have Hby:=hid (HbZ.out.trans (hby.mono HbZ.out.size));clear hby;simp only[kh];go_wp2_with fail;refine(qm 5 _ _).mono ?_;rintro e w' ⟨rfl,rfl⟩;go_wp2_with fail;go_ret3
         refine⟨?_,Hby.out⟩;rw[Hbad.out]
         rfl
       · rw[show j4 l (p+5)=(x,p+5+j,none) from Hrd.out];simp only[zh];by_cases hneg:most<0
         · have hmax:max most 0=0:=by omega
           have Hmax:=hid hmax;clear hmax;by_cases hlim:0<x
           · have Hbad:=hid (show qk l p most=(0,0,some (7,some ((p+5:Nat):Int))) from by rw[HR.out];exact if_pos (by rw[Hmax.out];omega));go_wp2_with fail;refine(qm 7 _ _).mono ?_;rintro e w' ⟨rfl,rfl⟩;go_wp2_with fail;go_ret3
             refine⟨?_,HbZ.out⟩;rw[Hbad.out]
             rfl
           · obtain rfl:x=0:=by omega
             have Hgood:=hid (show qk l p most=(p+5+j,0,none) from by rw[HR.out];exact if_neg (by rw[Hmax.out];omega));go_wp2_with fail;go_ret3
             refine⟨?_,HbZ.out⟩;rw[Hgood.out]
             rfl
         · obtain⟨m,rfl⟩:=Int.eq_ofNat_of_zero_le (show 0≤most by omega);have hm63:m<9223372036854775808:=by have:=Hm.out.2;omega
           have hmax:max (m:Int) 0=(m:Int):=by omega
           have Hmax:=hid hmax;clear hmax;by_cases hlim:m<x
           · have Hbad:=hid (show qk l p m=(0,0,some (7,some ((p+5:Nat):Int))) from by rw[HR.out];exact if_pos (by rw[Hmax.out];omega));go_wp2_with fail;refine(qm 7 _ _).mono ?_;rintro e w' ⟨rfl,rfl⟩;go_wp2_with fail;go_ret3
             refine⟨?_,HbZ.out⟩;rw[Hbad.out]
             rfl
           · have Hgood:=hid (show qk l p m=(p+5+j,x,none) from by rw[HR.out];exact if_neg (by rw[Hmax.out];omega));have hx63:x<9223372036854775808:=by omega
             go_wp2_with fail;go_ret3
             refine⟨?_,HbZ.out⟩;rw[Hgood.out]
             rfl
       · rw[show j4 l (p+5)=(0,0,some (6,some ((p+5:Nat):Int))) from Hrd.out];have Hbad:=hid (show qk l p most=(0,0,some (6,some ((p+5:Nat):Int))) from HR.out);simp only[zh];go_wp2_with fail;refine(kx (some (6,some ((p+5:Nat):Int))) _ HDz.out).mono ?_;rintro e wy ⟨rfl,hby⟩;have Hby:=hid (HbZ.out.trans (hby.mono HbZ.out.size));clear hby;simp only[kh];go_wp2_with fail;refine(qm 6 _ _).mono ?_;rintro e w' ⟨rfl,rfl⟩;go_wp2_with fail;go_ret3
         refine⟨?_,Hby.out⟩;rw[Hbad.out]
         rfl
     · have Hbad:=hid (zcg (most:=most) (za3 (show 4<5 by omega) Hok.out (ze4 (by rw[Hl.out];exact hp4) (show nth l (p+4)≠nth qw 4 from hv))));have hne:(((nth l (p+4):Nat):Int) != 1)=true:=by rw[bne_iff_ne];omega
       generalize nth l (p+4)=d at*;clear hv;go_wp2_with fail;refine(qm 13 _ _).mono ?_;rintro e w' ⟨rfl,rfl⟩;go_wp2_with fail;go_ret3
       refine⟨?_,Hb6.out⟩;rw[Hbad.out]
       rfl
 · have hN:((!((d0:Int) == 75)) || ((!((d1:Int) == 78)) || ((!((d2:Int) == 87)) || (!((d3:Int) == 76)))))=true:=by
    simp only[Bool.or_eq_true,Bool.not_eq_true',beq_eq_false_iff_ne];omega
   have HE:=hid hE;clear hE;have hsm:(p:Int)≤(p:Int)+(m4:Int):=by omega
   go_wp2_with fail;have Hb6:=hid (hb.alloc hb.size (.cells #[.int .u8 75,.int .u8 78,.int .u8 87,.int .u8 76] 139))
   have Hmg:=hid (fun (k:Nat) (hk:k<4)=>show (w5.alloc (.cells #[.int .u8 75,.int .u8 78,.int .u8 87,.int .u8 76] 139)).cell? ⟨w5.heap.size,k,none⟩=some (.int .u8 ((nth qw k:Nat):Int)) from by
    rw[World.cell?_alloc_new];obtain rfl | rfl | rfl | rfl:k=0∨k=1∨k=2∨k=3:=by omega
    all_goals rfl)
   clear c0 c1 c2 c3 hgl hb he4 hN;generalize w5.alloc (.cells #[.int .u8 75,.int .u8 78,.int .u8 87,.int .u8 76] 139)=w6 at*;generalize w5.heap.size=gm at*;go_loop [12,13,36] (fun _ _ i=>∃k:Nat,k≤m4∧i=.int .i64 k∧Hid (∀j,j<k→qq l p j=none)) (fun _ _ i=>m4 - (intOf i).toNat)
   case atStart=>exact⟨0,by omega,rfl,fun j h=>by omega⟩
   case round=>
    obtain⟨k,hk,rfl,hH⟩:=hrel;by_cases hkm:k<m4
    · have hc:w6.cell? ⟨b,o+p+k,none⟩=some (.int .u8 ((nth l (p+k):Nat):Int)):=by
       rw[Hb6.out.cell (p:=⟨b,o+p+k,none⟩) (by have:=ze (Hcell.out p hp);exact this),Nat.add_assoc];exact Hcell.out (p+k) (by omega)
      have hm:=Hmg.out k (by omega);by_cases he:nth l (p+k)=nth qw k
      · have Hnext:=hid (show ∀j,j<k+1→qq l p j=none from fun j hj=>by
         by_cases hjk:j<k
         · exact hH.out j hjk
         · obtain rfl:j=k:=by omega
           exact zbl (by rw[Hl.out];omega) he)
        rw[he] at hc;generalize nth qw k=c at*;clear he;go_wp2_with fail;go_round
        case rel=>exact⟨k+1,by omega,by go_num,Hnext.out⟩
        case measure=>simp[intOf];omega
      · have Hbad:=hid (zcg (most:=most) (za3 (by omega) hH.out (ze4 (by rw[Hl.out];omega) he)));have hne:(((nth l (p+k):Nat):Int) != ((nth qw k:Nat):Int))=true:=by rw[bne_iff_ne];omega
        rw[if_neg (by omega:¬k=4)] at Hbad;generalize nth qw k=c at*;generalize nth l (p+k)=d at*;clear he;go_wp2_with fail;refine(qm 12 _ _).mono ?_;rintro e w' ⟨rfl,rfl⟩;go_wp2_with fail;go_ret3
        refine⟨?_,Hb6.out⟩;rw[Hbad.out]
        rfl
    · obtain rfl:k=m4:=by omega
      have hlt4:k<4:=by
       rcases Nat.lt_or_ge k 4 with h | h
       · exact h
       · exfalso;have h0:=hH.out 0 (by omega);have h1:=hH.out 1 (by omega);have h2:=hH.out 2 (by omega);have h3:=hH.out 3 (by omega)
         have g:∀j,j<4→qq l p j=none→nth l (p+j)=nth qw j:=by
          intro j hj hh;unfold qq at hh;rw[if_neg (by rw[Hl.out];omega)] at hh;by_cases e:nth l (p+j)=nth qw j
          · exact e
          · rw[if_neg e] at hh;cases hh
         have g0:=g 0 (by omega) h0;have g1:=g 1 (by omega) h1;have g2:=g 2 (by omega) h2;have g3:=g 3 (by omega) h3;rw[Nat.add_zero,Hd0.out] at g0;rw[Hd1.out] at g1;rw[Hd2.out] at g2;rw[Hd3.out] at g3;exact HE.out ⟨g0,g1,g2,g3⟩
      have hend:p+k=n:=by have:=HM.out;omega
      have Hbad:=hid (zcg (most:=most) (za3 (show k<5 by omega) hH.out (zcf (by rw[Hl.out];omega))));clear hend;go_wp2_with fail;refine(qm 5 _ _).mono ?_;rintro e w' ⟨rfl,rfl⟩;go_wp2_with fail;go_ret3
      refine⟨?_,Hb6.out⟩;rw[Hbad.out]
      rfl
theorem zpp {w W:World} {a:Option Addr} {n cap:Nat} {l:List Nat} {v u:Value} (hB:Byts w a n cap l) (hne:∀b o k,a=some ⟨b,o,k⟩→v.ownBlock≠some b) (h:GrA w W v u):Byts W a n cap l:=
 ⟨hB.len,hB.lt,hB.room,hB.most,hB.nilc,fun hn=>by
  obtain⟨b,o,e,hc⟩:=hB.cells hn;refine⟨b,o,e,fun i hi=>?_⟩;have h1:=hc i hi;have h2:=h.gr.block b (ze h1) (fun e2=>hne b o none e e2.symm);unfold World.cell? at h1 ⊢;simp only[h2];exact h1⟩
theorem zpq (v:Value) (n base:Nat) (xs:List Value) (x:Nat) (w:World) (hx:x<18446744073709551616) (hown:w.ownsRow base 5 1 v n xs) (hbase:base≤w.heap.size) (hn:n≤140737488355000):
 Calls Tryz.prog 87 #[v,.int .u64 x] w fun e w'=>∃v',e=.returned v'∧w'.ownsRow base 5 1 v' (n+(zo x).length) (xs++u8s (zo x))∧GrA w w' v v':=by
 have hlen:=zca 9 x;have hpos:=zay 9 x;have Ho:=hid hown;clear hown;have Hx:=hid hx;clear hx;go_enter Tryz.func87,Tryz.ntmps87;go_wp2_with fail;refine(zdh x w Hx.out).mono ?_;rintro e w' ⟨rfl,rfl⟩;rw[zb9];generalize hL:(vbF 9 x).length=L at*;have HL:=hid hL;clear hL;go_wp2_with fail
 go_loopw [0,1,8] (fun u y i wr=>∃j m k:Nat,j+1≤L∧i=.int .i64 j∧y=.int .u64 m∧Hid (m<18446744073709551616)∧Hid (GrA w wr v u)∧j+(vbF k m).length=L∧
  Hid (∃p:List Nat,p.length=j∧vbF 9 x=p++vbF k m∧wr.ownsRow base 5 1 u (n+j) (xs++u8s p))) (fun _ _ i _=>L - (intOf i).toNat)
 case atStart=>exact⟨0,x,9,by omega,rfl,rfl,Hx.out,hid (GrA.refl _ _),by rw[HL.out];omega,[],rfl,rfl,by have:=Ho.out;simpa [u8s] using this⟩
 case round=>
  obtain⟨j,m,k,hj,rfl,rfl,hm,hb,hjl,hp⟩:=hrel;have hbs:base≤wr.heap.size:=Nat.le_trans hbase hb.out.gr.size;by_cases hjL:j<L - 1
  · have hlt:decide ((j:Int)<(L:Int) - 1)=true:=by rw[decide_eq_true_iff];omega
    obtain⟨k',rfl,h128,hcons⟩:=zgn (k:=k) (x:=m) (by omega);obtain⟨p,hpl,hpx,hpo⟩:=hp.out;have Hpo:=hid hpo;clear hpo;have Hcons:=hid hcons;clear hcons;have Hjl:=hid hjl;clear hjl;have Hpl:=hid hpl;clear hpl;have Hpx:=hid hpx;clear hpx;have hbit:=zg6 m hm.out;have hq256:m % 128+128<256:=by omega
    generalize m % 128+128=q at*;obtain⟨v',w1,hr,ho1,hg1⟩:=GrA.append (Hpo.out.alloc (.cells #[.int .u8 (q:Int)] 5)) (some ⟨wr.heap.size,0,none⟩) 1 1 [q] (za1 _ _ 1 _ [q] _ _ rfl rfl rfl (by intro x hx;simp at hx;omega) (by omega)) (by omega) (by simp only[World.size_alloc];omega);have Ho1:=hid ho1;clear ho1;have hb1:Hid (GrA w w1 v v'):=hid ((hb.out.below ((Below.refl wr.heap.size wr).alloc (Nat.le_refl _) _)).trans hg1);clear hg1 Hpo;go_wp2_with (at_builtin;refine qf _ _ 22 rfl rfl _ _ rfl rfl _ _ hr ?_);clear hr;go_roundw
    case rel=>
     refine⟨j+1,m / 128,k',by omega,by go_num,by go_num,(by have:=hm.out;show m / 128<_;omega),hb1,?_,p++[q],?_,?_,?_⟩
     · have:=Hjl.out;rw[Hcons.out] at this;simp at this;omega
     · have:=Hpl.out;simp[this]
     · rw[Hpx.out,Hcons.out];simp
     · have:=Ho1.out;rw[List.append_assoc,←zbj] at this;exact this
    case measure=>simp[intOf];omega
  · have hge:decide ((j:Int)<(L:Int) - 1)=false:=by rw[decide_eq_false_iff_not];omega
    obtain⟨p,hpl,hpx,hpo⟩:=hp.out;have Hpo:=hid hpo;clear hpo;have h1:(vbF k m).length=1:=by have:=zay k m;omega
    have e1:=zgo h1;have Hfin:=hid (show zo x=p++[m % 256] from by rw[zb9,hpx,e1]);have Hpl:=hid hpl;clear hpl hpx h1 e1;have Hjl:=hid hjl;clear hjl;have hq256:m % 256<256:=by omega
    have hmq:((m:Int) % 256)=((m % 256:Nat):Int):=by omega
    generalize m % 256=q at*;obtain⟨v',w1,hr,ho1,hg1⟩:=GrA.append (Hpo.out.alloc (.cells #[.int .u8 (q:Int)] 5)) (some ⟨wr.heap.size,0,none⟩) 1 1 [q] (za1 _ _ 1 _ [q] _ _ rfl rfl rfl (by intro x hx;simp at hx;omega) (by omega)) (by omega) (by simp only[World.size_alloc];omega);have Ho1:=hid ho1;clear ho1;have hb1:Hid (GrA w w1 v v'):=hid ((hb.out.below ((Below.refl wr.heap.size wr).alloc (Nat.le_refl _) _)).trans hg1);clear hg1 Hpo;go_wp2_with (at_builtin;refine qf _ _ 22 rfl rfl _ _ rfl rfl _ _ hr ?_);go_ret;refine⟨v',rfl,?_,hb1.out⟩;have h2:=Ho1.out;rw[List.append_assoc,←zbj] at h2;rw[Hfin.out];have h3:n+(p++[q]).length=n+j+1:=by have:=Hpl.out;simp[this];omega
    rw[h3];exact h2
theorem zpr (v:Value) (n base:Nat) (xs:List Value) (s:Nat) (w:World) (hs:s<4294967296) (hown:w.ownsRow base 5 1 v n xs) (hbase:base≤w.heap.size) (hn:n≤140737488355000):
 Calls Tryz.prog 153 #[v,.int .u32 s] w fun e w'=>∃v',e=.returned v'∧w'.ownsRow base 5 1 v' (n+4) (xs++u8s (qo s))∧GrA w w' v v':=by
 obtain⟨i0,hi,hz0,hz1,hz2⟩:=info_parts Tryz.info_u8;have H4:=hid (zg0 s);have Hg:=hid (World.grownBy_alloc w);go_enter Tryz.func153,Tryz.ntmps153;go_wp2;go_loopw [6,7] (fun _ i wr=>∃k:Nat,k≤4∧i=.int .i64 k∧wr=w.alloc (.cells (zah s k) 139)) (fun _ i _=>4 - (intOf i).toNat)
 case atStart=>exact⟨0,by omega,rfl,rfl⟩
 case round=>
  obtain⟨k,hk,rfl,rfl⟩:=hrel;by_cases hk4:k<4
  · obtain rfl | rfl | rfl | rfl:k=0∨k=1∨k=2∨k=3:=by omega
    · rw[zg1];go_wp2;go_roundw
      case rel=>exact⟨1,by omega,rfl,rfl⟩
      case measure=>simp[intOf]
    · rw[zg2];go_wp2;go_roundw
      case rel=>exact⟨2,by omega,rfl,rfl⟩
      case measure=>simp[intOf]
    · rw[zg3];go_wp2;go_roundw
      case rel=>exact⟨3,by omega,rfl,rfl⟩
      case measure=>simp[intOf]
    · rw[zg4];go_wp2;go_roundw
      case rel=>exact⟨4,by omega,rfl,rfl⟩
      case measure=>simp[intOf]
  · obtain rfl:k=4:=by omega
    rw[H4.out];obtain⟨v',w1,hr,ho1,hg1⟩:=GrA.append (hown.alloc (.cells (u8s (qo s)).toArray 139)) (some ⟨w.heap.size,0,none⟩) 4 4 (qo s) (za1 _ _ _ _ _ _ _ rfl rfl rfl (zgz hs) (by omega)) (by omega) (by simp only[World.size_alloc];omega);have HG:=hid (((GrA.refl w v).below ((Below.refl w.heap.size w).alloc (Nat.le_refl _) _)).trans hg1);have Ho1:=hid ho1;clear hg1 ho1;go_wp2_with (at_builtin;refine qf _ _ 22 rfl rfl _ _ rfl rfl _ _ hr ?_);go_ret;exact⟨v',rfl,Ho1.out,HG.out⟩
set_option maxRecDepth 20000 in
theorem zps (v:Value) (n0 base:Nat) (xs:List Value) (a:Option Addr) (n cap:Nat) (l:List Nat) (w:World) (hB:Byts w a n cap l) (hne:∀b o k,a=some ⟨b,o,k⟩→v.ownBlock≠some b) (hown:w.ownsRow base 5 1 v n0 xs) (hbase:base≤w.heap.size) (hn:n≤1000000000000) (hn0:n0≤1000000000000):
 Calls Tryz.prog 114 #[v,.slice a n cap] w fun e w'=>
  (∃v',e=.returned v'∧w'.ownsRow base 5 1 v' (n0+(vr l).length) (xs++u8s (vr l)))∧Below base w w':=by
 have HB:=hid (fun (W:World) (u:Value) (h:GrA w W v u)=>zpp hB hne h);have Hll:=hid hB.lt;have Ho:=hid hown;have hn0':=hn;have Hn:=hid hn;have Hn0:=hid hn0;have He:=hid (show vr l=qw++zo n++l++qo (sum l) from by rw[←hB.len];rfl);have Hlen:=hid (show (vr l).length=5+(zo n).length+n+4 from by rw[znb,hB.len]);have Hv:=hid (fun v n1 xs w hown hb hn=>zpq v n1 base xs n w (Nat.lt_of_le_of_lt hn0' (by decide)) hown hb hn);have Hvl:=hid (zgm n);have hvl:(zo n).length≤10:=zca 9 n;generalize zo n=L2 at*;have hcv:(n:Int) % 18446744073709551616=(n:Int):=by omega
 clear hB hown hn hn0' hne;go_enter Tryz.func114,Tryz.ntmps114;go_wp2_with fail;refine(zcm _).mono ?_;rintro e w1 ⟨rfl,hb1⟩;have HG1:=hid ((GrA.refl w v).below hb1);have Ho1:=hid (zx Ho.out hb1);clear hb1;obtain⟨v2,w2,hr2,ho2,hg2⟩:=GrA.append (Ho1.out.alloc (.cells #[.int .u8 75,.int .u8 78,.int .u8 87,.int .u8 76] 139)) (some ⟨w1.heap.size,0,none⟩) 4 4 [75,78,87,76] (za1 _ _ _ _ _ _ _ rfl rfl rfl (by decide) (by omega)) (by have:=Hn0.out;omega) (by have:=HG1.out.gr.size;simp only[World.size_alloc];omega);have Ho2:=hid ho2;have HG2:=hid ((HG1.out.below ((Below.refl w1.heap.size w1).alloc (Nat.le_refl _) _)).trans hg2);clear ho2 hg2;obtain⟨v3,w3,hr3,ho3,hg3⟩:=GrA.append (Ho2.out.alloc (.cells #[.int .u8 1] 5)) (some ⟨w2.heap.size,0,none⟩) 1 1 [1] (za1 _ _ _ _ _ _ _ rfl rfl rfl (by decide) (by omega)) (by have:=Hn0.out;omega) (by have:=HG2.out.gr.size;simp only[World.size_alloc];omega);have Ho3:=hid ho3;have HG3:=hid ((HG2.out.below ((Below.refl w2.heap.size w2).alloc (Nat.le_refl _) _)).trans hg3);clear ho3 hg3
 go_wp2_with (at_builtin;first
  | refine qf _ _ 22 rfl rfl v (.slice (some ⟨w1.heap.size,0,none⟩) 4 4) rfl rfl _ _ hr2 ?_
  | refine qf _ _ 22 rfl rfl v2 (.slice (some ⟨w2.heap.size,0,none⟩) 1 1) rfl rfl _ _ hr3 ?_)
 clear hr2 hr3;refine(Hv.out v3 _ _ _ Ho3.out (by have:=HG3.out.gr.size;omega) (by have:=Hn0.out;omega)).mono ?_;rintro e w4 ⟨v4,rfl,ho4,hg4⟩;have Ho4:=hid ho4;have HG4:=hid (HG3.out.trans hg4);clear ho4 hg4;obtain⟨v5,w5,hr5,ho5,hg5⟩:=GrA.append Ho4.out a n cap l (HB.out _ _ HG4.out) (by have:=Hn.out;have:=Hn0.out;omega) (by have:=HG4.out.gr.size;omega);have Ho5:=hid ho5;have HG5:=hid (HG4.out.trans hg5);clear ho5 hg5;go_wp2_with (at_builtin;refine qf _ _ 22 rfl rfl v4 (.slice a n cap) rfl rfl _ _ hr5 ?_);clear hr5;refine(zg8 a n cap l _ (HB.out _ _ HG5.out)).mono ?_;rintro e w6 ⟨rfl,hb6⟩;have Ho6:=hid (zx Ho5.out hb6);have HG6:=hid (HG5.out.below hb6);clear hb6;go_wp2_with fail;refine(zpr v5 _ base _ (sum l) _ (zmo Hll.out) Ho6.out (by have:=HG6.out.gr.size;omega) (by have:=Hn.out;have:=Hn0.out;omega)).mono ?_;rintro e w7 ⟨v7,rfl,ho7,hg7⟩;have Ho7:=hid ho7;have HG7:=hid (HG6.out.trans hg7);clear ho7 hg7;go_wp2_with fail;go_ret;refine⟨⟨v7,rfl,?_⟩,HG7.out.bel Ho.out hbase⟩;have:=Ho7.out;rw[Hlen.out,He.out];simp only[zbj,show qw=[75,78,87,76]++[1] from rfl,←List.append_assoc] at this ⊢;rw[show n0+(5+L2.length+n+4)=n0+4+1+L2.length+n+4 by omega];exact this
