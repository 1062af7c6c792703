/- Part 07. -/
import Derived.Test.YtmfhggnlainmiaaGreatDoorPk06
set_option linter.unusedVariables false
set_option maxHeartbeats 16000000
namespace Go.Proofs.YtmfhggnlainmiaaGreatDoor
open Lib (hid)
section
abbrev Seg:=Iv×Nat
def zeo (L:List Seg) (x:Nat):Nat:=(L.takeWhile fun p=>decide (p.1.1<x)).length
def zbz (L:List Seg) (s:Iv) (i:Nat):List Seg:=L.take (zeo L s.1)++(s,i) :: L.drop (zeo L s.1)
def zbt (L:List Seg) (l:List Iv) (i:Nat):List Seg:=l.foldl (fun L s=>zbz L s i) L
def k7 (k:Kno):Nat→List Seg
 | 0=>[]
 | d+1=>zbt (k7 k d) (za k d).1 d
def zk (k:Kno):List Seg:=k7 k k.length
theorem zru (L:List Seg) (s:Iv) (i:Nat):(zbz L s i).Perm ((s,i) :: L):=by
 unfold zbz;refine List.perm_middle.trans ?_;rw[List.take_append_drop]
theorem zlj (L:List Seg) (s:Iv) (i:Nat):(zbz L s i).length=L.length+1:=by rw[(zru L s i).length_eq,List.length_cons]
theorem z9l {L:List Seg} (h:L.Pairwise fun p q=>p.1.1≤q.1.1) (s:Iv) (i:Nat):(zbz L s i).Pairwise fun p q=>p.1.1≤q.1.1:=by
 induction L with
 | nil=>simp[zbz,zeo]
 | cons p L ih=>
  obtain⟨h1,h2⟩:=List.pairwise_cons.1 h;by_cases hp:p.1.1<s.1
  · have e:zbz (p :: L) s i=p :: zbz L s i:=by
     unfold zbz zeo;rw[List.takeWhile_cons_of_pos (by simpa using hp)];simp
    rw[e];refine List.pairwise_cons.2 ⟨fun q hq=>?_,ih h2⟩;rcases List.mem_cons.1 ((zru L s i).mem_iff.1 hq) with rfl | hq
    · exact Nat.le_of_lt hp
    · exact h1 q hq
  · have e:zbz (p :: L) s i=(s,i) :: p :: L:=by
     unfold zbz zeo;rw[List.takeWhile_cons_of_neg (by simpa using hp)];simp
    rw[e];refine List.pairwise_cons.2 ⟨fun q hq=>?_,h⟩;rcases List.mem_cons.1 hq with rfl | hq
    · simp only;omega
    · have:=h1 q hq;simp only;omega
theorem zn5 {L:List Seg} (h:L.Pairwise fun p q=>p.1.1≤q.1.1) (i:Nat):∀(l:List Iv),(zbt L l i).Pairwise (fun p q=>p.1.1≤q.1.1)∧(zbt L l i).Perm (L++l.map fun s=>(s,i)):=by
 intro l
 induction l generalizing L with
 | nil=>exact⟨h,by simp[zbt]⟩
 | cons s l ih=>
  have e:zbt L (s :: l) i=zbt (zbz L s i) l i:=rfl;rw[e];obtain⟨h1,h2⟩:=ih (z9l h s i);refine⟨h1,h2.trans ?_⟩;rw[List.map_cons];exact((zru L s i).append_right _).trans List.perm_middle.symm
theorem zep (k:Kno):∀d,d≤k.length→(k7 k d).Pairwise (fun p q=>p.1.1≤q.1.1)∧((k7 k d).map (·.1)).Perm (zat (k.take d))∧∀p∈k7 k d,p.2<d∧p.1∈(za k p.2).1
 | 0,_=>⟨List.Pairwise.nil,by simp[k7,zat],fun p h=>by cases h⟩
 | d+1,h=>by
   obtain⟨h1,h2,h3⟩:=zep k d (by omega);obtain⟨g1,g2⟩:=zn5 h1 d (za k d).1;refine⟨g1,?_,fun p hp=>?_⟩
   · rw[zrs (by omega)];refine(g2.map _).trans ?_;rw[List.map_append,List.map_map];refine(h2.append_right _).trans ?_;simp[Function.comp_def]
   · rcases List.mem_append.1 (g2.mem_iff.1 hp) with h | h
     · have:=h3 p h;exact⟨by omega,this.2⟩
     · obtain⟨s,hs,rfl⟩:=List.mem_map.1 h;exact⟨Nat.lt_succ_self _,hs⟩
theorem zrv {α:Type} {f:α→Nat}:∀{l m:List α},l.Perm m→l.Pairwise (fun a b=>f a≤f b)→m.Pairwise (fun a b=>f a≤f b)→(∀a∈l,∀b∈l,f a=f b→a=b)→l=m
 | [],m,hp,_,_,_=>hp.nil_eq
 | a :: l,[],hp,_,_,_=>by have:=hp.length_eq;simp at this
 | a :: l,b :: m,hp,hl,hm,hu=>by
   obtain⟨l1,l2⟩:=List.pairwise_cons.1 hl;obtain⟨m1,m2⟩:=List.pairwise_cons.1 hm;have ha:a∈b :: m:=hp.mem_iff.1 List.mem_cons_self;have hb:b∈a :: l:=hp.mem_iff.2 List.mem_cons_self
   have e:a=b:=by
    refine hu a List.mem_cons_self b hb (Nat.le_antisymm ?_ ?_)
    · rcases List.mem_cons.1 hb with rfl | h
      · exact Nat.le_refl _
      · exact l1 b h
    · rcases List.mem_cons.1 ha with rfl | h
      · exact Nat.le_refl _
      · exact m1 a h
   subst e;rw[zrv hp.cons_inv l2 m2 (fun x hx y hy=>hu x (List.mem_cons_of_mem _ hx) y (List.mem_cons_of_mem _ hy))]
theorem z9m {l:List Iv} (h:zit l):l.Pairwise fun s t=>s.1≤t.1:=by
 rw[List.pairwise_iff_getElem];intro i j hi hj hij;have:=h i j hij hj;rwa [jg hi,jg hj] at this
theorem zxj {k:Kno} (hc:CanK k) {i:Nat} (hi:i<k.length) {s:Iv} (hs:s∈(za k i).1):zen k s.1=i:=by
 have hmi:=yh hi;have hx:=(zk8 (hc.items _ hmi).1 hs).1;unfold zen
 have:j7 (fun i=>if mem (za k i).1 s.1=true then some i else none) k.length=some i:=by
  refine zbb hi (fun j hj=>if_neg fun hm=>?_) (if_pos hx);have hmj:=yh (k:=k) (i:=j) (by omega);have e:=hc.apart _ hmi _ hmj s.1 hx hm;have hl:=List.pairwise_iff_getElem.1 hc.asc j i (by omega) hi hj;rw[←qm (by omega),←qm hi,e] at hl;unfold zae at hl;rw[zjt] at hl;cases hl
 rw[this];rfl
theorem zxk {l:List Iv} (h:Good l) {s t:Iv} (hs:s∈l) (ht:t∈l) (e:s.1=t.1):s=t:=by
 obtain⟨i,hi,rfl⟩:=List.getElem_of_mem hs;obtain⟨j,hj,rfl⟩:=List.getElem_of_mem ht;rw[←jg hi,←jg hj] at*;have hi2:=(zel h i hi).1;have hj2:=(zel h j hj).1;rcases Nat.lt_trichotomy i j with h2 | h2 | h2
 · have:=zjx h h2 hj;omega
 · rw[h2]
 · have:=zjx h h2 hi;omega
theorem zxl {k:Kno} (hc:CanK k) {l:List Iv} (hp:l.Perm (zat k)) (ha:zit l):l=(zk k).map (·.1)∧(l.map fun s=>zen k s.1)=(zk k).map (·.2):=by
 obtain⟨h1,h2,h3⟩:=zep k k.length (Nat.le_refl _);rw[List.take_length] at h2
 have e:l=(zk k).map (·.1):=by
  refine zrv (f:=(·.1)) (hp.trans h2.symm) (z9m ha) (List.pairwise_map.2 h1) fun s hs t ht e=>?_
  obtain⟨f,hf,hsf⟩:=zn1.1 (hp.mem_iff.1 hs);obtain⟨g,hg,htg⟩:=zn1.1 (hp.mem_iff.1 ht);have x1:=(zk8 (hc.items f hf).1 hsf).1;have x2:=(zk8 (hc.items g hg).1 htg).1;rw[←e] at x2;have e2:=hc.apart f hf g hg s.1 x1 x2;subst e2;exact zxk (hc.items f hf).1 hsf htg e
 refine⟨e,?_⟩;rw[e,List.map_map];refine List.map_congr_left fun p hp'=>?_
 obtain⟨g1,g2⟩:=h3 p hp';exact zxj hc g1 g2
end
section
open Go.RowKit
def yi (L:List Seg):List Iv:=L.map (·.1)
def qn (L:List Seg):List Nat:=L.map (·.2)
structure Own2 (w:World) (base:Nat) (L:List Seg) (v u:Value):Prop where
 ivs:w.ownsRow base 135 2 v L.length (ivC (yi L))
 idx:w.ownsRow base 3 1 u L.length (qi (qn L))
 nil:L=[]→v=.slice none 0 0∧u=.slice none 0 0
theorem Own2.below {w w':World} {base:Nat} {L:List Seg} {v u:Value} (h:Own2 w base L v u) (hb:Below w.heap.size w w'):Own2 w' base L v u:=⟨zm h.ivs hb,zm h.idx hb,h.nil⟩
theorem zn6 (L:List Seg) (l:List Iv) (i:Nat):(zbt L l i).length=L.length+l.length:=by
 induction l generalizing L with
 | nil=>rfl
 | cons s l ih=>
  have e:zbt L (s :: l) i=zbt (zbz L s i) l i:=rfl;rw[e,ih,zlj,List.length_cons];omega
theorem zfv (k:Kno):∀d,d≤k.length→(k7 k d).length=yg (k.take d)
 | 0,_=>rfl
 | d+1,h=>by
   rw[k7,zn6,zfv k d (by omega),List.take_succ_eq_append_getElem (by omega),zw6,qm (by omega)];simp[yg]
theorem zcz {w:World} {base sz n:Nat} {T:TypeId} {v:Value} {xs:List Value} (h:w.ownsRow base T sz v n xs) (hn:0<n):∃g cap,v=.slice (some ⟨g,0,none⟩) n cap∧base≤g∧g<w.heap.size∧n≤cap∧cap≤maxLen:=by
 rcases h.2 with ⟨_,h0⟩ | ⟨g,cap,cur,hv,hg,hh,hnc,hcm,_⟩
 · omega
 · exact⟨g,cap,hv,hg,(Array.getElem?_eq_some_iff.1 hh).1,hnc,hcm⟩
end
section
open Go.RowKit
attribute [local go_sem] y9
theorem z9n (ao al x:Nat) (w:World) (h:al+x<18446744073709551616) (ha:ao<1000):
 Calls Tryz.prog 298 #[.agg #[.int .u64 (ao:Int),.int .u64 (al:Int)],.agg #[.int .u64 0,.int .u64 (x:Int)]] w fun e w'=>e=.returned (.agg #[.int .u64 (ao:Int),.int .u64 ((al+x:Nat):Int)])∧Below w.heap.size w w':=by
 have k1:IntKind.u64.wrap ((al:Int)+(x:Int))=((al+x:Nat):Int):=by rw[IntKind.wrap_u64];omega
 have k2:decide (((al+x:Nat):Int)<(al:Int))=false:=by rw[decide_eq_false_iff_not];omega
 have k3:decide (al+x<al)=false:=by rw[decide_eq_false_iff_not];omega
 clear h;go_enter Tryz.func298,Tryz.ntmps298;go_wp2_with fail;exact bodyPost_ret (v:=.agg #[.int .u64 (ao:Int),.int .u64 ((al+x:Nat):Int)]) (by simp[results,Tryz.results298,go_sem]) rfl ⟨rfl,((((Below.refl _ _).alloc (Nat.le_refl _) _).alloc (by simp) _).alloc (by simp;omega) _).alloc (by simp;omega) _⟩
theorem z9o (ao al x:Nat) (w:World) (h:¬al+x<18446744073709551616) (ha:ao<1000) (h1:al<18446744073709551616) (h2:x<18446744073709551616):
 Calls Tryz.prog 298 #[.agg #[.int .u64 (ao:Int),.int .u64 (al:Int)],.agg #[.int .u64 0,.int .u64 (x:Int)]] w fun e w'=>e=.returned (.agg #[.int .u64 ((ao+1:Nat):Int),.int .u64 ((al+x - 18446744073709551616:Nat):Int)])∧Below w.heap.size w w':=by
 have k1:IntKind.u64.wrap ((al:Int)+(x:Int))=((al+x - 18446744073709551616:Nat):Int):=by rw[IntKind.wrap_u64];omega
 have k2:decide (((al+x - 18446744073709551616:Nat):Int)<(al:Int))=true:=by rw[decide_eq_true_iff];omega
 have k3:decide (al+x - 18446744073709551616<al)=true:=by rw[decide_eq_true_iff];omega
 clear h h1 h2;generalize al+x - 18446744073709551616=y at*;go_enter Tryz.func298,Tryz.ntmps298;go_wp2_with fail;exact bodyPost_ret (v:=.agg #[.int .u64 ((ao+1:Nat):Int),.int .u64 (y:Int)]) (by simp[results,Tryz.results298,go_sem]) rfl ⟨rfl,((((Below.refl _ _).alloc (Nat.le_refl _) _).alloc (by simp) _).alloc (by simp;omega) _).alloc (by simp;omega) _⟩
def zag (s:Nat):Value:=if s<18446744073709551616 then .tuple #[.int .u64 ((s:Nat):Int),.bool true] else .tuple #[.int .u64 0,.bool false]
theorem zxm (l:List Nat) (k:Nat) (h:k<l.length):(l.take (k+1)).sum=(l.take k).sum+nth l k:=by
 rw[znk l k h,List.sum_append];simp
set_option maxRecDepth 20000 in
theorem z9p (A:Option Addr) (n cp:Nat) (l:List Nat) (w:World) (hR:Rd w 1 A n (zi l)) (hl:l.length=n) (h64:∀x∈l,x<18446744073709551616) (hn:n≤10):
 Calls Tryz.prog 259 #[.slice A n cp] w fun e w'=>e=.returned (zag l.sum)∧Below w.heap.size w w':=by
 have HR:=hid hR;have Hl:=hid hl;have H64:=hid h64;clear hR hl h64;go_enter Tryz.func259,Tryz.ntmps259;go_wp2_with fail;have Hb0:=hid ((Below.refl w.heap.size w).alloc (Nat.le_refl _) (.cells #[.int .u64 0,.int .u64 0] 389));have Hr0:=hid (y7 w 389 [.int .u64 0,.int .u64 0]);generalize w.alloc (.cells #[.int .u64 0,.int .u64 0] 389)=w0 at*;obtain⟨g,hg⟩:∃g,g=w.heap.size:=⟨_,rfl⟩;have Hg:=hid hg;rw[←hg] at Hr0 Hb0 ⊢;clear hg;go_loopw [6,9] (fun _ i wr=>∃k ao al:Nat,k≤n∧i=.int .i64 k∧Below g w wr∧Hid (Row wr g 389 [.int .u64 (ao:Int),.int .u64 (al:Int)])∧Hid (ao≤k∧al<18446744073709551616∧ao*18446744073709551616+al=(l.take k).sum)) (fun _ i _=>n - (intOf i).toNat)
 case atStart=>exact⟨0,0,0,by omega,rfl,Hb0.out,Hr0.out,Nat.le_refl _,by omega,rfl⟩
 case round=>
  obtain⟨k,ao,al,hk,rfl,hb,hr,hs⟩:=hrel;have Hb:=hid hb;clear hb;have q0:=hr.out.cell 0 rfl;have q1:=hr.out.cell 1 rfl;have z0:=hr.out.fz 0;have z1:=hr.out.fz 1;obtain⟨s1,s2,s3⟩:=hs.out;have Hs3:=hid s3;have s1':ao<1000:=by omega
  have Hs1:=hid s1;have Hs2:=hid s2;clear s3 s1 s2 hs;by_cases hkn:k<n
  · obtain⟨bb,oo,rfl,hc⟩:=(HR.out.below (show Below w.heap.size w wr from by rw[←Hg.out];exact Hb.out)).2 (by omega);have qx:=hc k _ (ze2 l k (by rw[Hl.out];exact hkn));have hxl:=H64.out _ (zce (show k<l.length by rw[Hl.out];exact hkn));have Hst:=hid (zxm l k (by rw[Hl.out];exact hkn));clear hc;generalize nth l k=x at*;have Hx:=hid hxl;clear hxl;by_cases hlo:al+x<18446744073709551616
    · have HP:=hid (z9n ao al x wr hlo s1');have Hlo:=hid hlo;clear hlo;go_wp2_with fail;refine HP.out.mono ?_;rintro e w2 ⟨rfl,hb2⟩;have Hr2:=hid (((hr.out.later hb2).set 0 (.int .u64 (ao:Int))).set 1 (.int .u64 ((al+x:Nat):Int)));have f0:=(hr.out.later hb2).fz 0;have f1:=(hr.out.later hb2).fz 1;have p0:=(hr.out.later hb2).cell 0 rfl;have p1:=(hr.out.later hb2).cell 1 rfl;have Hb2:=hid (((Hb.out.trans (hb2.mono (Nat.le_trans (Nat.le_of_eq Hg.out) (by have:=hr.out.lt;have:=Hg.out;omega)))).setCell (p:=⟨g,0,none⟩) (Nat.le_refl _) (.int .u64 (ao:Int))).setCell (p:=⟨g,1,none⟩) (Nat.le_refl _) (.int .u64 ((al+x:Nat):Int)));clear hb2;go_wp2_with fail;go_roundw
      case rel=>exact⟨k+1,ao,al+x,by omega,by go_num,Hb2.out,Hr2.out,by have:=Hs1.out;omega,Hlo.out,by rw[Hst.out,←Hs3.out];omega⟩
      case measure=>simp[intOf];omega
    · have HP:=hid (z9o ao al x wr hlo s1' Hs2.out Hx.out);have Hlo:=hid hlo;clear hlo;go_wp2_with fail;refine HP.out.mono ?_;rintro e w2 ⟨rfl,hb2⟩;have Hr2:=hid (((hr.out.later hb2).set 0 (.int .u64 ((ao+1:Nat):Int))).set 1 (.int .u64 ((al+x - 18446744073709551616:Nat):Int)));have f0:=(hr.out.later hb2).fz 0;have f1:=(hr.out.later hb2).fz 1;have p0:=(hr.out.later hb2).cell 0 rfl;have p1:=(hr.out.later hb2).cell 1 rfl;have Hb2:=hid (((Hb.out.trans (hb2.mono (Nat.le_trans (Nat.le_of_eq Hg.out) (by have:=hr.out.lt;have:=Hg.out;omega)))).setCell (p:=⟨g,0,none⟩) (Nat.le_refl _) (.int .u64 ((ao+1:Nat):Int))).setCell (p:=⟨g,1,none⟩) (Nat.le_refl _) (.int .u64 ((al+x - 18446744073709551616:Nat):Int)));have Hy:=hid (show ao+1≤k+1∧al+x - 18446744073709551616<18446744073709551616∧(ao+1)*18446744073709551616+(al+x - 18446744073709551616)=ao*18446744073709551616+al+x from by have:=Hs2.out;have:=Hx.out;have:=Hlo.out;have:=Hs1.out;omega);clear hb2;generalize al+x - 18446744073709551616=y at*;generalize ao+1=ao1 at*;go_wp2_with fail;go_roundw
      case rel=>exact⟨k+1,ao1,y,by omega,by go_num,Hb2.out,Hr2.out,Hy.out.1,Hy.out.2.1,by rw[Hst.out,←Hs3.out];exact Hy.out.2.2⟩
      case measure=>simp[intOf];omega
  · obtain rfl:k=n:=by omega
    have Htk:=hid (show (l.take k).sum=l.sum from by rw[List.take_of_length_le (by rw[Hl.out];exact Nat.le_refl _)]);have Hbf:=hid (show Below w.heap.size w wr from by rw[←Hg.out];exact Hb.out);by_cases hz:ao=0
    · subst hz
      have Hs:=hid (show zag l.sum=.tuple #[.int .u64 ((al:Nat):Int),.bool true] from by
       have:=Hs3.out;have:=Hs2.out;rw[←Htk.out,←Hs3.out];unfold zag;rw[if_pos (by omega)];simp)
      go_wp2_with fail;go_ret2;exact⟨by rw[Hs.out];rfl,Hbf.out⟩
    · have h0:(0:Nat)<ao:=by omega
      have Hs:=hid (show zag l.sum=.tuple #[.int .u64 0,.bool false] from by
       rw[←Htk.out,←Hs3.out];unfold zag;rw[if_neg (by omega)])
      clear hz;go_wp2_with fail;go_ret2;exact⟨by rw[Hs.out];rfl,Hbf.out⟩
end
section
def zq (l:List Nat):List Nat:=l.flatMap yp
def vz (l:List Iv) (a i:Nat):Nat:=if i=0 then (zb l 0).1 else (zb l i).1 - (zb l (i - 1)).2 - 1 - a
def zal (l:List Iv) (a:Nat):Nat→List Nat
 | 0=>[]
 | d+1=>zal l a d++[vz l a d,(zb l d).2 - (zb l d).1]
def zau (l:List Iv) (a:Nat):List Nat:=zal l a l.length
def zdg (l:List Iv) (a:Nat):Prop:=∀i,i<l.length→(zb l i).1≤(zb l i).2∧(0<i→(zb l (i - 1)).2+1+a≤(zb l i).1)
theorem zgn (l:List Iv) (a:Nat):∀d,(zal l a d).length=2*d
 | 0=>rfl
 | d+1=>by rw[zal,List.length_append,zgn l a d];simp;omega
theorem zn7 {l:List Iv} {a:Nat} (h:zo l):∀d,d≤l.length→∀x∈zal l a d,x<18446744073709551616
 | 0,_,x,hx=>by cases hx
 | d+1,hd,x,hx=>by
   rw[zal] at hx;rcases List.mem_append.1 hx with hx | hx
   · exact zn7 h d (by omega) x hx
   · have h1:=h _ (zbo (show d<l.length from hd));simp at hx;rcases hx with rfl | rfl
     · unfold vz;split
       · rename_i e;rw[e] at h1;exact h1.1
       · omega
     · omega
theorem zrw {l:List Iv} (h:Good l):zdg l 1:=fun i hi=>by
 have:=zel h i hi;exact⟨this.1,fun h0=>by have:=this.2 h0;omega⟩
def zdv (v:Vec) (i:Nat):Nat:=if i=0 then (zg v 0).1 else (zg v i).1 - (zg v (i - 1)).1 - 1
def zam (v:Vec) (i:Nat):List Nat:=[zdv v i,(zg v i).2.1,(zg v i).2.2.length]++zau (zg v i).2.2 1
def jn (v:Vec):Nat→List Nat
 | 0=>[v.length]
 | d+1=>jn v d++zam v d
def zan (v:Vec):List Nat:=jn v v.length
def qv (c:Kno):Nat→List Nat
 | 0=>[c.length]
 | d+1=>qv c d++zan (za c d).2
def vt (l:List Iv) (x:List Nat):Nat→List Nat
 | 0=>[l.length]
 | d+1=>vt l x d++[vz l 0 d,(zb l d).2 - (zb l d).1,nth x d]
def zn (c:Kno):List Nat:=qv c c.length++vt ((zk c).map (·.1)) ((zk c).map (·.2)) (zk c).length
end
section
open Go.RowKit Go.Shelf
attribute [local go_sem] Oper.semAt_some zfp
theorem z9q (B:Nat) (y:Value) (xs:List Nat) (i:Nat) (s1 s2:Value) (w:World) (ho:w.ownsRow B 3 1 y xs.length (qi xs)) (hB:B≤w.heap.size) (hn:xs.length≤1000):
 Calls Tryz.prog 253 #[y,.int .i64 ((i:Nat):Int),.agg #[s1,s2]] w fun e w'=>(∃v,e=.returned v∧w'.ownsRow B 3 1 v (xs++[i]).length (qi (xs++[i])))∧Below B w w':=by
 have hal:Below w.heap.size w (w.alloc (.cells #[s1,s2] 127)):=(Below.refl _ _).alloc (Nat.le_refl _) _;have Ho:=hid (zm ho hal);have Hal:=hid (hal.mono hB);have Hlt:=hid ((zm ho hal).lt);obtain⟨ao,co,rfl⟩:=jh ho;clear ho hal;go_enter Tryz.func253,Tryz.ntmps253;go_wp2_with (at_builtin;refine zwv rfl (.tmp 7) (.tmp 9) rfl rfl B _ _ xs rfl (Ho.out.alloc _) _ 1 _ [i] rfl (yq (zh _ _ _ (by simp)) rfl rfl) (by omega) (by simp;omega) ?_;intro v' w8 ho8 hg8);go_ret;refine⟨⟨v',rfl,?_⟩,Below.grown (B:=B) (Hal.out.alloc (by simp;omega) _) hg8 (by simp;omega) (fun k hk=>(Hlt.out k hk).1)⟩;rw[List.length_append];exact ho8
set_option maxRecDepth 20000 in
theorem z9r (w0 w:World) (bk bt:Nat) (a:Option Addr) (m c t:Nat) (k:Kno) (hE:Frags w0 a m c k) (hG:∀f∈k,Good f.1∧f.1.length≤1000000) (hb0:Below w0.heap.size w0 w) (hm:m≤500)
 (hbk:w.heap[bk]?=some (.cells #[.slice a m c] 48)) (hbt:w.heap[bt]?=some (.cells #[.int .u64 t] 64)):
 Calls Tryz.prog 252 #[.func (.func 254) #[] #[.pointer (some ⟨bk,0,none⟩),.pointer (some ⟨bt,0,none⟩)],.slice none 0 0,.func (.func 253) #[] #[]] w fun e w'=>
  (∃y,e=.returned y∧w'.ownsRow w.heap.size 3 1 y (zx k t).length (qi (zx k t)))∧Below w.heap.size w w':=by
 have Hml:=hid (show (zx k t).length≤500 from by
  have:=znq k t k.length;have h2:zx k t=zbl k t k.length:=rfl;rw[h2];have:=hE.len;omega)
 have hbkl:=(Array.getElem?_eq_some_iff.1 hbk).1;have hbtl:=(Array.getElem?_eq_some_iff.1 hbt).1;have hs0:=hb0.size;refine(callsIn_wide (n:=3)).1 ?_;refine callsIn_of_wp_marks Tryz.func252 rfl trivial ?_ rfl;simp only[Tryz.ntmps252,List.size_toArray,List.length_cons,List.length_nil,Nat.reduceAdd,Nat.reduceSub,Array.replicate_succ,Array.replicate_zero,List.push_toArray,List.append_toArray,List.nil_append,List.cons_append];refine wpIn_wide.2 ?_;go_wp2;refine(wpIn_wide (n:=3)).1 ?_;obtain⟨C0,hC0⟩:∃C0:Obj,C0=.cells #[.slice none 0 0] 79:=⟨_,rfl⟩;obtain⟨C1,hC1⟩:∃C1:Obj,C1=.cells #[.func (.func 253) #[] #[]] 341:=⟨_,rfl⟩;rw[←hC0,←hC1];obtain⟨wl,hwl⟩:∃wl:World,wl=(w.alloc C0).alloc C1:=⟨_,rfl⟩;rw[←hwl];have hsz:wl.heap.size=w.heap.size+2:=by rw[hwl];simp
 have hbw:Below w.heap.size w wl:=by
  rw[hwl];exact((Below.refl _ w).alloc (Nat.le_refl _) C0).alloc (by simp) C1
 have e0:wl.heap[w.heap.size]?=some C0:=by rw[hwl];exact jv (qa rfl)
 have e1:wl.heap[w.heap.size+1]?=some C1:=by rw[hwl];exact qa (by simp)
 clear hwl
 refine zlb (n:=3) (gf:=254) (lb:= #[.pointer (some ⟨bk,0,none⟩),.pointer (some ⟨bt,0,none⟩)]) rfl (enters_of Tryz.func254 (by kernel_rfl) rfl)
  (zxh (3 - 1) w0 wl bk bt a m c t k hE hG (hb0.trans (hbw.mono hs0)) hm ((hbw.block _ hbkl).trans hbk) ((hbw.block _ hbtl).trans hbt))
  (fun x=>rfl) (fun k hk=>hk.elim) (fun k hk=>by omega)
  (fun pre W=>Below w.heap.size w W∧W.heap[w.heap.size+1]?=some C1∧∃v,W.heap[w.heap.size]?=some (.cells #[v] 79)∧W.ownsRow (w.heap.size+4) 3 1 v (pre.map (·.1)).length (qi (pre.map (·.1))))
  (fun _ _ _=>False) ?hI (fun _ _ _ _ h _=>h) ⟨hbw,e1,.slice none 0 0,by rw[e0,hC0],World.ownsRow_nil ..⟩ ?round ?done ?stop
 case hI=>
  rintro s A B ⟨h4,h1,v,h2,h3⟩ hk;have hs:=h4.size;exact⟨h4.trans (hk.toBelow (fun k hk'=>⟨id,by omega,by omega⟩) (by omega)),(hk.row _ (Array.getElem?_eq_some_iff.1 h1).1 ⟨id,by omega,by omega⟩).trans h1,v,(hk.row _ (Array.getElem?_eq_some_iff.1 h2).1 ⟨id,by omega,by omega⟩).trans h2,j8 h3 (fun k hk1 hk2=>hk.row k hk2 ⟨id,by omega,by omega⟩)⟩
 case round=>
  rintro pre ⟨i,s1,s2⟩ W ⟨⟨rest,hV⟩,hsl⟩ ⟨h4,h1,y,h2,h3⟩ hsW;obtain⟨⟨a1,n1,z1,e1',-⟩,a2,n2,z2,e2',-⟩:=hsl (i,s1,s2) (by simp);simp only at e1' e2';subst e1' e2';clear hsl;rw[hsz] at hsW ⊢
  have hlen:(pre.map (·.1)).length+1≤500:=by
   have:=Hml.out;rw[hV,List.length_append,List.map_append,List.length_append] at this;simp at this ⊢;omega
  clear hsz hbw e0 e1 hC0 hV hE hG hbk hbt hb0;simp only[zn4];obtain⟨q,hq⟩:∃q:Nat,q=W.heap.size:=⟨_,rfl⟩
  gi_wp2
  refine⟨(Kept.refl _ W).alloc _,fun W2 hk2 hs2=>?_⟩
  try rw[World.size_alloc] at hs2
  have k1:Kept (fun k=>k≠w.heap.size+2+1) W W2:=((Kept.refl _ W).alloc _).trans hk2;have b1:W2.heap[w.heap.size+1]?=some C1:=(k1.row _ (Array.getElem?_eq_some_iff.1 h1).1 (by omega)).trans h1;have b2:W2.heap[w.heap.size]?=some (.cells #[y] 79):=(k1.row _ (Array.getElem?_eq_some_iff.1 h2).1 (by omega)).trans h2;have b4:W2.heap[q]?=some (.cells #[.slice a1 n1 z1,.slice a2 n2 z2] 127):=by rw[hq];exact(hk2.row _ (by simp) (by omega)).trans (qa rfl)
  have B3:=hid (j8 h3 (fun k hk1 hk2=>k1.row k hk2 (by omega)));have B4:=hid (h4.trans (k1.toBelow (n:=w.heap.size) (fun k hk'=>by omega) h4.size));rw[←hq];have hB4:w.heap.size+4≤W2.heap.size:=by omega
  have Hb1:=hid b1;have Hb2:=hid b2;rw[hC1] at b1;have c0:=ji b1;have c1:=ji b2;have c2:W2.cell? ⟨q,0,none⟩=some (.slice a1 n1 z1):=ym (i:=0) b4 rfl;have c3:W2.cell? ⟨q,1,none⟩=some (.slice a2 n2 z2):=ym (i:=1) b4 rfl;have HC1:=hid hC1;clear k1 hk2 hs2 h1 h2 h3 h4 b1 b2 b4 hq hsW hC1;have hF:=hid (z9q (w.heap.size+4) y (pre.map (·.1)) i (.slice a1 n1 z1) (.slice a2 n2 z2) W2 B3.out hB4 (by omega))
  gi_wp2_with fail
  refine(CallsIn.inRound _ (callsIn_wide.2 hF.out)).mono ?_;rintro e w3 ⟨⟨v,rfl,ho3⟩,hb3⟩;have d2:=(hb3.block _ (by omega)).trans Hb2.out;have d1:=(hb3.block _ (by omega)).trans Hb1.out;have q5:=ji d2;have q6:=zbx d2;have Hd2:=hid d2;have Hd1:=hid d1;have Ho3:=hid ho3;have Hb3:=hid hb3;obtain⟨av,cv,rfl⟩:=jh ho3;clear c0 c1 c2 c3 d1 d2 ho3 hb3
  gi_wp2
  refine⟨?_,?_,?_,_,zd6 Hd2.out,?_⟩
  · exact((zwp Hb3.out).mono (fun k _ hk=>by omega)).setCell (fun _=>by simp only;omega) _
  · exact(B4.out.trans (Hb3.out.mono (by omega))).setCell (Nat.le_refl _) _
  · have h:=Hd1.out;rw[HC1.out] at h;exact(Below.heap_setCell _ _ _ _ (by simp)).trans h
  · have h:=j8 Ho3.out (w':=w3.setCell ⟨w.heap.size,0,none⟩ (.slice av (pre.map (·.1)++[i]).length cv)) (fun k hk1 hk2=>Below.heap_setCell _ _ _ _ (by simp only;omega));simpa using h
 case done=>
  rintro ps W ⟨hS,-⟩ ⟨h4,h1,y,h2,h3⟩ hK;have q1:=ji h2;rw[←hS] at h3;have H3:=hid h3;have H4:=hid h4;clear h1 h2 h3 h4 e0 e1 hS
  gi_wp2
  go_wp2;refine⟨by simp,.inl ⟨_,_,rfl,run_takeDeferred hK,?_⟩⟩;refine⟨_,results_tmp rfl _ _ _,⟨y,rfl,?_⟩,?_⟩
  · refine qt (j8 H3.out (fun k hk1 hk2=>World.putObj_heap_other (by omega))) (by omega)
  · exact(Kept.refl (fun k=>k<w.heap.size) W).putObj (fun _ h=>by have h':wl.heap.size<w.heap.size:=h;omega) _ |>.toBelow (fun _ h=>h) H4.out.size |> H4.out.trans
 case stop=>
  rintro c pre W hV h;exact h.elim
theorem zrx (a:Option Addr) (m c t:Nat) (k:Kno) (w:World) (hE:Frags w a m c k) (hG:∀f∈k,Good f.1∧f.1.length≤1000000) (hm:m≤500):
 Calls Tryz.prog 194 #[.slice a m c,.int .u64 t] w fun e w'=>
  (∃y,e=.returned y∧w'.ownsRow w.heap.size 3 1 y (zx k t).length (qi (zx k t)))∧Below w.heap.size w w':=by
 have hal:Below w.heap.size w ((w.alloc (.cells #[.slice a m c] 48)).alloc (.cells #[.int .u64 t] 64)):=((Below.refl _ _).alloc (Nat.le_refl _) _).alloc (by simp) _;have hC:=hid (z9r w ((w.alloc (.cells #[.slice a m c] 48)).alloc (.cells #[.int .u64 t] 64)) w.heap.size (w.heap.size+1) a m c t k hE hG hal hm (jv (qa rfl)) (qa (by simp)));have Hal:=hid hal;clear hE hG hal;go_enter Tryz.func194,Tryz.ntmps194;go_wp2_with fail;refine(zxg a m c t _).mono ?_;rintro e w1 ⟨rfl,rfl⟩;go_wp2_with fail;refine hC.out.mono ?_;rintro e w2 ⟨⟨y,rfl,ho⟩,hb⟩;have Ho:=hid ho;have Hb:=hid hb;clear ho hb;go_wp2;go_ret;exact⟨⟨y,rfl,qt Ho.out Hal.out.size⟩,Hal.out.trans (Hb.out.mono Hal.out.size)⟩
end
section
open Go.RowKit Go.Shelf
attribute [local go_sem] Oper.semAt_some zfp
theorem KeptT.refl (base:Nat) (T:TypeId→Prop) (A:World):KeptT base T A A:=⟨rfl,rfl,rfl,Nat.le_refl _,fun _ _ _=>rfl⟩
theorem KeptT.trans {base:Nat} {T:TypeId→Prop} {A B C:World} (h:KeptT base T A B) (k:KeptT base T B C):KeptT base T A C:=
 ⟨k.os.trans h.os,k.tape.trans h.tape,k.output.trans h.output,Nat.le_trans h.size k.size,fun i hi hp=>(k.row i (Nat.lt_of_lt_of_le hi h.size) (hp.imp id fun ⟨C,U,fr,hT,hr⟩=>⟨C,U,fr,hT,(h.row i hi (.inr ⟨C,U,fr,hT,hr⟩)).trans hr⟩)).trans (h.row i hi hp)⟩
theorem KeptT.of {base:Nat} {T:TypeId→Prop} {q:Nat→Prop} {A B:World} (h:Kept q A B) (s:Steady base T A B):KeptT base T A B:=⟨h.os,h.tape,h.output,h.size,s.row⟩
set_option maxRecDepth 20000 in
theorem zxn (a:Option Addr) (n c:Nat) (v:Vec) (w:World) (hE:Ents w a n c v) (hn:n≤1000000000000) (hN:(yj v).length≤1000000000000):
 Calls Tryz.prog 246 #[.slice a n c] w fun e w'=>
  (∃y,e=.returned y∧w'.ownsRow w.heap.size 64 1 y (yj v).length (zi (yj v)))∧Below w.heap.size w w':=by
 have HE:=hid hE;have HN:=hid hN;clear hE hN;refine(callsIn_wide (n:=3)).1 ?_;refine callsIn_of_wp_marks Tryz.func246 rfl trivial ?_ rfl;simp only[Tryz.ntmps246,List.size_toArray,List.length_cons,List.length_nil,Nat.reduceAdd,Nat.reduceSub,Array.replicate_succ,Array.replicate_zero,List.push_toArray,List.append_toArray,List.nil_append,List.cons_append];refine wpIn_wide.2 ?_;go_wp2_with (go_at_call 292;refine(z9h _ _ _ _).mono ?_;rintro e w1 ⟨rfl,rfl⟩);refine(wpIn_wide (n:=3)).1 ?_;obtain⟨C0,hC0⟩:∃C0:Obj,C0=.cells #[.slice none 0 0] 62:=⟨_,rfl⟩;obtain⟨C1,hC1⟩:∃C1:Obj,C1=.cells #[.slice a n c] 125:=⟨_,rfl⟩;rw[←hC0,←hC1];have hs1:(w.alloc C0).heap.size=w.heap.size+1:=by simp
 obtain⟨wl,hwl⟩:∃wl:World,wl=(w.alloc C0).alloc C1:=⟨_,rfl⟩;rw[←hwl]
 try rw[hs1]
 have hsz:wl.heap.size=w.heap.size+2:=by rw[hwl];simp
 have hbw:Below w.heap.size w wl:=by
  rw[hwl];exact((Below.refl _ w).alloc (Nat.le_refl _) C0).alloc (by simp) C1
 have e0:wl.heap[w.heap.size]?=some C0:=by rw[hwl];exact jv (qa rfl)
 have e1:wl.heap[w.heap.size+1]?=some C1:=by rw[hwl];exact qa (by simp)
 clear hwl
 refine z85 (n:=3) (gf:=317) (lb:= #[.pointer (some ⟨w.heap.size+1,0,none⟩)]) rfl (enters_of Tryz.func317 (by kernel_rfl) rfl)
  (z9i (3 - 1) w wl (w.heap.size+1) a n c v HE.out hbw (by rw[e1,hC1]) hn)
  (fun x=>rfl) (fun k hk=>hk.elim) ?hput
  (fun pre W=>Below w.heap.size w W∧∃v,W.heap[w.heap.size]?=some (.cells #[v] 62)∧W.ownsRow (w.heap.size+4) 64 1 v pre.length (zi pre))
  (fun _ _ _=>False) ?hI (fun _ _ _ _ h _=>h) ⟨hbw,.slice none 0 0,by rw[e0,hC0],World.ownsRow_nil ..⟩ ?round ?done ?stop
 case hput=>
  intro A B r o hA hk;rw[hsz] at hA ⊢;refine⟨hk.os,hk.tape,hk.output,by simpa using hk.size,fun k hk1 hp=>?_⟩;refine(World.putObj_heap_other ?_).trans (hk.row k hk1 hp);rintro rfl;rcases hp with h | ⟨C,U,fr,_,h⟩
  · omega
  · rw[hA] at h;cases h
 case hI=>
  rintro s A B ⟨h4,v,h2,h3⟩ hk;have hs:=h4.size;exact⟨h4.trans (hk.toBelow (fun k hk'=>⟨id,by omega,by omega⟩) (by omega)),v,(hk.row _ (Array.getElem?_eq_some_iff.1 h2).1 ⟨id,by omega,by omega⟩).trans h2,j8 h3 (fun k hk1 hk2=>hk.row k hk2 ⟨id,by omega,by omega⟩)⟩
 case round=>
  rintro pre x W ⟨rest,hV⟩ ⟨h4,y,h2,h3⟩ hsW ⟨rl,hrl⟩;rw[hsz] at hsW hrl ⊢
  have hlen:pre.length+1≤1000000000000:=by
   have:=HN.out;rw[hV,List.length_append,List.length_append,List.length_singleton] at this;omega
  clear hsz hbw e0 e1 hC0 hC1 hV
  gi_wp2
  refine⟨Kept.refl _ W,fun W2 hk2 hs2=>?_⟩;have b2:W2.heap[w.heap.size]?=some (.cells #[y] 62):=(hk2.row _ (Array.getElem?_eq_some_iff.1 h2).1 (by omega)).trans h2;have B3:=hid (j8 h3 (fun k hk1 hk2'=>hk2.row k hk2' (by omega)));have B4:=hid (h4.trans (hk2.toBelow (n:=w.heap.size) (fun k hk'=>by omega) h4.size))
  have hst:Steady w.heap.size zli W W2:=⟨hk2.size,fun k hk hp=>hk2.row k hk (by
   rintro rfl;rcases hp with h | ⟨C,U,fr,_,h⟩
   · omega
   · rw[hrl] at h;cases h)⟩
  have K2:=hid (And.intro hk2 hst);have hB4:w.heap.size+4≤W2.heap.size:=by omega
  clear hk2 h2 h3 h4 hs2 hst hrl;have hB2:=B4.out.size;obtain⟨ao,co,rfl⟩:=jh B3.out;have q1:=ji b2;have q2:=zbx b2;have Hb2:=hid b2;clear b2;obtain⟨v',w5,hr,ho,hgr⟩:=zhf (w.heap.size+4) (.slice ao pre.length co) pre.length pre (B3.out.alloc (.cells #[.int .u64 x] 64)) (some ⟨W2.heap.size,0,none⟩) 1 1 [x] (yq (zh _ _ _ rfl) rfl rfl) (by omega) (by simp;omega);obtain⟨g',cap',rfl⟩:=ownsRow_succ ho;have hne:some w.heap.size≠(.slice ao pre.length co:Value).ownBlock:=fun e=>by have:=(B3.out.lt _ e.symm).1;omega
  have e5:w5.heap[w.heap.size]?=some (.cells #[.slice ao pre.length co] 62):=(hgr.block _ (by simp;omega) hne).trans (jv Hb2.out);have q5:=ji e5;have q6:=zbx e5;have He5:=hid e5;have Ho:=hid ho;have Hgr:=hid hgr;clear e5 ho hgr hne
  gi_wp2_with (gi_at_builtin;refine zk4 rfl _ _ 62 rfl _ _ rfl rfl _ _ hr ?_)
  refine⟨?_,⟨?_,_,zd6 He5.out,?_⟩,?_⟩
  · exact(((Kept.refl _ W2).alloc _).grown Hgr.out (fun k hk _=>by have:=(B3.out.lt k hk).1;omega)).setCell (fun _=>by simp only;omega) _
  · exact((B4.out.alloc B4.out.size _).grown Hgr.out (by simp;omega) (fun k hk=>by have:=(B3.out.lt k hk).1;omega)).setCell (by simp only;omega) _
  · have h:=j8 Ho.out (w':=w5.setCell ⟨w.heap.size,0,none⟩ (.slice (some ⟨g',0,none⟩) (pre.length+1) cap')) (fun k hk1 hk2=>Below.heap_setCell _ _ _ _ (by simp only;omega));rw[List.length_append];exact h
  · have s1:Steady w.heap.size zli W2 (W2.alloc (.cells #[.int .u64 x] 64)):=.of_below ((Below.refl _ _).alloc (Nat.le_refl _) _);have s2:Steady w.heap.size zli (W2.alloc (.cells #[.int .u64 x] 64)) w5:=Steady.grown (qt (b:=w.heap.size) (B3.out.alloc _) (by omega)) Hgr.out (by rintro(h | h | h) <;> cases h);have s3:Steady w.heap.size zli w5 (w5.setCell ⟨w.heap.size,0,none⟩ (.slice (some ⟨g',0,none⟩) (pre.length+1) cap')):=Steady.setCell (a:=⟨w.heap.size,0,none⟩) He5.out (Nat.le_refl _) (by rintro(h | h | h) <;> cases h);refine KeptT.of (q:=fun _=>False) (K2.out.1.mono (fun _ _ h=>h.elim) |>.trans ?_) (((K2.out.2.trans s1).trans s2).trans s3);exact(((Kept.refl _ W2).alloc _).grown Hgr.out (fun k hk _ h=>h)).setCell (fun _ h=>h) _
 case done=>
  rintro ps W rfl ⟨h4,y,h2,h3⟩ hK;have q1:=ji h2;have H3:=hid h3;have H4:=hid h4;clear h2 h3 h4 e0 e1
  gi_wp2
  go_wp2;refine⟨by simp,.inl ⟨_,_,rfl,run_takeDeferred hK,?_⟩⟩;refine⟨_,results_tmp rfl _ _ _,⟨y,rfl,?_⟩,?_⟩
  · refine qt (j8 H3.out (fun k hk1 hk2=>World.putObj_heap_other (by omega))) (by omega)
  · exact(Kept.refl (fun k=>k<w.heap.size) W).putObj (fun _ h=>by have h':wl.heap.size<w.heap.size:=h;omega) _ |>.toBelow (fun _ h=>h) H4.out.size |> H4.out.trans
 case stop=>
  rintro c pre W hV h;exact h.elim
end
section
def ze6 (l:List Int) (k:Nat):Int:=l.getD k 0
theorem zn8 {l:List Int} {k:Nat} (h:k<l.length):ze6 l k=l[k]:=by simp[ze6,h]
def kd (l:List Vec) (k:Nat):Vec:=l.getD k []
theorem zgo {l:List Vec} {k:Nat} (h:k<l.length):kd l k=l[k]:=by simp[kd,h]
theorem zry {l:List Vec} {k:Nat} (h:k<l.length):kd l k∈l:=by rw[zgo h];exact List.getElem_mem h
def itB (l:List Iv) (ix:List Int) (i:Nat):Nat→List Iv
 | 0=>[]
 | d+1=>itB l ix i d++if ze6 ix d=(i:Int) then [zb l d] else []
def zj1 (vs:List Vec) (l:List Iv) (ix:List Int) (d:Nat):Kno:=(List.range vs.length).map fun i=>(itB l ix i d,kd vs i)
def zn9 (vs:List Vec) (l:List Iv) (ix:List Int):Kno:=zj1 vs l ix l.length
theorem z9s {k:Kno} (hc:CanK k) {i j:Nat} (hi:i<k.length) (hj:j<k.length) (e:za k i=za k j):i=j:=by
 have one:∀{i j:Nat},i<j→j<k.length→za k i=za k j→False:=fun {i j} hij hj e=>by
  have hl:=List.pairwise_iff_getElem.1 hc.asc i j (by omega) hj hij;rw[←qm (by omega),←qm hj,e] at hl;unfold zae at hl;rw[zjt] at hl;cases hl
 rcases Nat.lt_trichotomy i j with h | h | h
 · exact(one h hj e).elim
 · exact h
 · exact(one h hi e.symm).elim
def zrz (p q:Seg):Prop:=(p.1.2<q.1.1∧(p.2=q.2→p.1.2+1<q.1.1))∨(q.1.2<p.1.1∧(p.2=q.2→q.1.2+1<p.1.1))
theorem z9t {p q:Seg} (h:zrz p q):zrz q p:=by
 rcases h with ⟨h1,h2⟩ | ⟨h1,h2⟩
 · exact .inr ⟨h1,fun e=>h2 e.symm⟩
 · exact .inl ⟨h1,fun e=>h2 e.symm⟩
theorem zxo {l:List Iv} (h:Good l):l.Pairwise fun s t=>s.2+1<t.1:=by
 rw[List.pairwise_iff_getElem];intro i j hi hj hij;have:=zjx h hij hj;rwa [jg hi,jg hj] at this
theorem z9u {k:Kno} (hc:CanK k) {i j:Nat} (hi:i<k.length) (hj:j<k.length) (hij:i≠j) {s t:Iv} (hs:s∈(za k i).1) (ht:t∈(za k j).1):s.2<t.1∨t.2<s.1:=by
 have h1:=(hc.items _ (yh hi)).1.ok s hs;have h2:=(hc.items _ (yh hj)).1.ok t ht;rcases Nat.lt_or_ge s.2 t.1 with h | h
 · exact .inl h
 rcases Nat.lt_or_ge t.2 s.1 with h' | h'
 · exact .inr h'
 exfalso;refine hij (z9s hc hi hj (hc.apart _ (yh hi) _ (yh hj) (max s.1 t.1) (mem_iff.2 ⟨s,hs,?_,?_⟩) (mem_iff.2 ⟨t,ht,?_,?_⟩))) <;> omega
theorem zxp {k:Kno} (hc:CanK k):∀d,d≤k.length→(k7 k d).Pairwise zrz
 | 0,_=>List.Pairwise.nil
 | d+1,h=>by
   obtain⟨h1,h2,h3⟩:=zep k d (by omega);obtain⟨-,g2⟩:=zn5 h1 d (za k d).1;have e:k7 k (d+1)=zbt (k7 k d) (za k d).1 d:=rfl;rw[e];refine(List.Perm.pairwise_iff (fun {x y} h=>z9t h) g2).2 (List.pairwise_append.2 ⟨zxp hc d (by omega),?_,fun p hp q hq=>?_⟩)
   · refine List.pairwise_map.2 ((zxo (hc.items _ (yh h)).1).imp fun {s t} hst=>.inl ⟨?_,fun _=>hst⟩);simp only;omega
   · obtain⟨t,ht,rfl⟩:=List.mem_map.1 hq;obtain⟨p1,p2⟩:=h3 p hp;have hne:p.2≠d:=by omega
     rcases z9u hc (by omega:p.2<k.length) h hne p2 ht with hh | hh
     · exact .inl ⟨hh,fun e=>absurd e hne⟩
     · exact .inr ⟨hh,fun e=>absurd e hne⟩
theorem zxq {k:Kno} (hc:CanK k):(zk k).Pairwise fun p q=>p.1.2<q.1.1∧(p.2=q.2→p.1.2+1<q.1.1):=by
 obtain⟨h1,h2,h3⟩:=zep k k.length (Nat.le_refl _);have h4:=zxp hc k.length (Nat.le_refl _);have ok:∀p∈zk k,p.1.1≤p.1.2:=fun p hp=>(hc.items _ (yh (h3 p hp).1)).1.ok _ (h3 p hp).2
 rw[List.pairwise_iff_getElem] at h1 h4 ⊢;intro i j hi hj hij;have e1:=h1 i j hi hj hij;have o1:=ok _ (List.getElem_mem hi);have o2:=ok _ (List.getElem_mem hj);unfold zk at o1 o2 ⊢;rcases h4 i j hi hj hij with h | h
 · exact h
 · exact absurd h.1 (by omega)
def zaz (k:Kno):List Iv:=(zk k).map (·.1)
def zj2 (k:Kno):List Int:=(zk k).map fun p=>(p.2:Int)
theorem ziv (k:Kno):(zaz k).length=(zk k).length:=by simp[zaz]
theorem z9v (k:Kno):(zj2 k).length=(zk k).length:=by simp[zj2]
theorem zoa {k:Kno} {i:Nat} (h:i<(zk k).length):zb (zaz k) i=(zk k)[i].1:=by rw[jg (by rw[ziv];exact h)];simp[zaz]
theorem z9w {k:Kno} {i:Nat} (h:i<(zk k).length):ze6 (zj2 k) i=((zk k)[i].2:Int):=by rw[zn8 (by rw[z9v];exact h)];simp[zj2]
theorem zxr (k:Kno) (i:Nat):∀d,d≤(zk k).length→itB (zaz k) (zj2 k) i d=(((zk k).take d).filter fun p=>decide (p.2=i)).map (·.1)
 | 0,_=>by simp[itB]
 | d+1,h=>by
   rw[itB,zxr k i d (by omega),zoa h,z9w h,List.take_succ_eq_append_getElem h,List.filter_append,List.map_append];congr 1;by_cases e:(zk k)[d].2=i
   · rw[if_pos (by omega),List.filter_cons_of_pos (by simpa using e)];rfl
   · rw[if_neg (by omega),List.filter_cons_of_neg (by simpa using e)];rfl
theorem zxs (k:Kno) (i:Nat):∀d,d≤k.length→(((k7 k d).filter fun p=>decide (p.2=i)).map (·.1)).Perm (if i<d then (za k i).1 else [])
 | 0,_=>by simp[k7]
 | d+1,h=>by
   obtain⟨h1,h2,h3⟩:=zep k d (by omega);obtain⟨-,g2⟩:=zn5 h1 d (za k d).1;have e:k7 k (d+1)=zbt (k7 k d) (za k d).1 d:=rfl;rw[e];refine((g2.filter _).map _).trans ?_;rw[List.filter_append,List.map_append];have ih:=zxs k i d (by omega);refine(ih.append_right _).trans ?_;by_cases hd:d=i
   · subst hd;rw[if_neg (by omega),if_pos (by omega),List.filter_eq_self.2 (fun a ha=>by obtain⟨s,_,rfl⟩:=List.mem_map.1 ha;simp),List.map_map];simp[Function.comp_def]
   · rw[List.filter_eq_nil_iff.2 (fun a ha=>by obtain⟨s,_,rfl⟩:=List.mem_map.1 ha;simpa using hd)];by_cases hi:i<d
     · rw[if_pos hi,if_pos (by omega)];simp
     · rw[if_neg hi,if_neg (by omega)];simp
theorem z9x {k:Kno} (hc:CanK k):zn9 (k.map (·.2)) (zaz k) (zj2 k)=k:=by
 obtain⟨h1,h2,h3⟩:=zep k k.length (Nat.le_refl _);unfold zn9 zj1;refine List.ext_getElem (by simp) fun i hi hi'=>?_
 rw[List.getElem_map,List.getElem_range,ziv,zxr k i _ (Nat.le_refl _),List.take_length];have hp:=zxs k i k.length (Nat.le_refl _);rw[if_pos hi'] at hp;have hgood:=(hc.items _ (yh hi')).1
 have e:((zk k).filter fun p=>decide (p.2=i)).map (·.1)=(za k i).1:=by
  refine zrv (f:=(·.1)) hp (List.pairwise_map.2 (h1.filter _)) ?_ fun s hs t ht e=>?_
  · refine(zxo hgood).imp_of_mem fun {s t} hs ht hst=>?_
    have:=hgood.ok s hs;omega
  · exact zxk hgood (hp.mem_iff.1 hs) (hp.mem_iff.1 ht) e
 rw[e,zgo (by simpa using hi'),List.getElem_map,qm hi']
theorem zxt (vs:List Vec) (l:List Iv) (ix:List Int) (d:Nat):(zj1 vs l ix d).length=vs.length:=by simp[zj1]
theorem z9y {vs:List Vec} {l:List Iv} {ix:List Int} {d i:Nat} (h:i<vs.length):za (zj1 vs l ix d) i=(itB l ix i d,kd vs i):=by
 rw[qm (by rw[zxt];exact h)];simp[zj1]
theorem zr0 (l:List Iv) (ix:List Int) (i:Nat):∀d,(itB l ix i d).length≤d
 | 0=>by simp[itB]
 | d+1=>by
   have:=zr0 l ix i d;rw[itB,List.length_append];split <;> simp <;> omega
theorem zxu {l:List Iv} {ix:List Int} {i:Nat} {s:Iv}:∀{d},d≤l.length→s∈itB l ix i d→s∈l
 | 0,_,h=>by cases h
 | d+1,hd,h=>by
   rw[itB] at h;rcases List.mem_append.1 h with h | h
   · exact zxu (by omega) h
   · split at h
     · rw[List.mem_singleton] at h;rw[h];exact zbo hd
     · cases h
