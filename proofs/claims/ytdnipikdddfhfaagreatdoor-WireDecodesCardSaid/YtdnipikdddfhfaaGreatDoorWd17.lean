/- Part 17. -/
import Derived.LoopN
import Derived.Test.YtdnipikdddfhfaaGreatDoorWd16
set_option linter.unusedVariables false
set_option maxHeartbeats 16000000
namespace Go.Proofs.YtdnipikdddfhfaaGreatDoor
open Lib (hid)
section
open Go.RowKit Go.Shelf
attribute [local go_sem] Oper.semAt_some zdy
theorem zzf (B:Nat) (y:Value) (xs:List Nat) (i:Nat) (s1 s2:Value) (w:World) (ho:w.ownsRow B 3 1 y xs.length (qo xs)) (hB:B≤w.heap.size) (hn:xs.length≤1000):
 Calls Tryz.prog 250 #[y,.int .i64 ((i:Nat):Int),.agg #[s1,s2]] w fun e w'=>(∃v,e=.returned v∧w'.ownsRow B 3 1 v (xs++[i]).length (qo (xs++[i])))∧Below B w w':=by
 have hal:Below w.heap.size w (w.alloc (.cells #[s1,s2] 97)):=(Below.refl _ _).alloc (Nat.le_refl _) _;have Ho:=hid (qc ho hal);have Hal:=hid (hal.mono hB);have Hlt:=hid ((qc ho hal).lt);obtain⟨ao,co,rfl⟩:=jz ho;clear ho hal;go_enter Tryz.func250,Tryz.ntmps250;go_wp2_with (at_builtin;refine zvn rfl (.tmp 7) (.tmp 9) rfl rfl B _ _ xs rfl (Ho.out.alloc _) _ 1 _ [i] rfl (vy (yp _ _ _ (by simp)) rfl rfl) (by omega) (by simp;omega) ?_;intro v' w8 ho8 hg8);go_ret;refine⟨⟨v',rfl,?_⟩,Below.grown (B:=B) (Hal.out.alloc (by simp;omega) _) hg8 (by simp;omega) (fun k hk=>(Hlt.out k hk).1)⟩;rw[List.length_append];exact ho8
set_option maxRecDepth 20000 in
theorem zzg (w0 w:World) (bk bt:Nat) (a:Option Addr) (m c t:Nat) (k:Kno) (hE:Frags w0 a m c k) (hG:∀f∈k,Good f.1∧f.1.length≤1000000) (hb0:Below w0.heap.size w0 w) (hm:m≤500)
 (hbk:w.heap[bk]?=some (.cells #[.slice a m c] 27)) (hbt:w.heap[bt]?=some (.cells #[.int .u64 t] 43)):
 Calls Tryz.prog 249 #[.func (.func 251) #[] #[.pointer (some ⟨bk,0,none⟩),.pointer (some ⟨bt,0,none⟩)],.slice none 0 0,.func (.func 250) #[] #[]] w fun e w'=>
  (∃y,e=.returned y∧w'.ownsRow w.heap.size 3 1 y (zq k t).length (qo (zq k t)))∧Below w.heap.size w w':=by
 have Hml:=hid (show (zq k t).length≤500 from by
  have:=zkj k t k.length;have h2:zq k t=kx k t k.length:=rfl;rw[h2];have:=hE.len;omega)
 have hbkl:=(Array.getElem?_eq_some_iff.1 hbk).1;have hbtl:=(Array.getElem?_eq_some_iff.1 hbt).1;have hs0:=hb0.size;refine(callsIn_wide (n:=3)).1 ?_;refine callsIn_of_wp_marks Tryz.func249 rfl trivial ?_ rfl;simp only[Tryz.ntmps249,List.size_toArray,List.length_cons,List.length_nil,Nat.reduceAdd,Nat.reduceSub,Array.replicate_succ,Array.replicate_zero,List.push_toArray,List.append_toArray,List.nil_append,List.cons_append];refine wpIn_wide.2 ?_;go_wp2;refine(wpIn_wide (n:=3)).1 ?_;obtain⟨C0,hC0⟩:∃C0:Obj,C0=.cells #[.slice none 0 0] 60:=⟨_,rfl⟩;obtain⟨C1,hC1⟩:∃C1:Obj,C1=.cells #[.func (.func 250) #[] #[]] 343:=⟨_,rfl⟩;rw[←hC0,←hC1];obtain⟨wl,hwl⟩:∃wl:World,wl=(w.alloc C0).alloc C1:=⟨_,rfl⟩;rw[←hwl];have hsz:wl.heap.size=w.heap.size+2:=by rw[hwl];simp
 have hbw:Below w.heap.size w wl:=by
  rw[hwl];exact((Below.refl _ w).alloc (Nat.le_refl _) C0).alloc (by simp) C1
 have e0:wl.heap[w.heap.size]?=some C0:=by rw[hwl];exact qg (yh rfl)
 have e1:wl.heap[w.heap.size+1]?=some C1:=by rw[hwl];exact yh (by simp)
 clear hwl
 refine zgy (n:=3) (gf:=251) (lb:= #[.pointer (some ⟨bk,0,none⟩),.pointer (some ⟨bt,0,none⟩)]) rfl (enters_of Tryz.func251 (by kernel_rfl) rfl)
  (zpp (3 - 1) w0 wl bk bt a m c t k hE hG (hb0.trans (hbw.mono hs0)) hm ((hbw.block _ hbkl).trans hbk) ((hbw.block _ hbtl).trans hbt))
  (fun x=>rfl) (fun k hk=>hk.elim) (fun k hk=>by omega)
  (fun pre W=>Below w.heap.size w W∧W.heap[w.heap.size+1]?=some C1∧∃v,W.heap[w.heap.size]?=some (.cells #[v] 60)∧W.ownsRow (w.heap.size+4) 3 1 v (pre.map (·.1)).length (qo (pre.map (·.1))))
  (fun _ _ _=>False) ?hI (fun _ _ _ _ h _=>h) ⟨hbw,e1,.slice none 0 0,by rw[e0,hC0],World.ownsRow_nil ..⟩ ?round ?done ?stop
 case hI=>
  rintro s A B ⟨h4,h1,v,h2,h3⟩ hk;have hs:=h4.size;exact⟨h4.trans (hk.toBelow (fun k hk'=>⟨id,by omega,by omega⟩) (by omega)),(hk.row _ (Array.getElem?_eq_some_iff.1 h1).1 ⟨id,by omega,by omega⟩).trans h1,v,(hk.row _ (Array.getElem?_eq_some_iff.1 h2).1 ⟨id,by omega,by omega⟩).trans h2,qk h3 (fun k hk1 hk2=>hk.row k hk2 ⟨id,by omega,by omega⟩)⟩
 case round=>
  rintro pre ⟨i,s1,s2⟩ W ⟨⟨rest,hV⟩,hsl⟩ ⟨h4,h1,y,h2,h3⟩ hsW;obtain⟨⟨a1,n1,z1,e1',-⟩,a2,n2,z2,e2',-⟩:=hsl (i,s1,s2) (by simp);simp only at e1' e2';subst e1' e2';clear hsl;rw[hsz] at hsW ⊢
  have hlen:(pre.map (·.1)).length+1≤500:=by
   have:=Hml.out;rw[hV,List.length_append,List.map_append,List.length_append] at this;simp at this ⊢;omega
  clear hsz hbw e0 e1 hC0 hV hE hG hbk hbt hb0;simp only[zhw];obtain⟨q,hq⟩:∃q:Nat,q=W.heap.size:=⟨_,rfl⟩
  gi_wp2
  refine⟨(Kept.refl _ W).alloc _,fun W2 hk2 hs2=>?_⟩
  try rw[World.size_alloc] at hs2
  have k1:Kept (fun k=>k≠w.heap.size+2+1) W W2:=((Kept.refl _ W).alloc _).trans hk2;have b1:W2.heap[w.heap.size+1]?=some C1:=(k1.row _ (Array.getElem?_eq_some_iff.1 h1).1 (by omega)).trans h1;have b2:W2.heap[w.heap.size]?=some (.cells #[y] 60):=(k1.row _ (Array.getElem?_eq_some_iff.1 h2).1 (by omega)).trans h2;have b4:W2.heap[q]?=some (.cells #[.slice a1 n1 z1,.slice a2 n2 z2] 97):=by rw[hq];exact(hk2.row _ (by simp) (by omega)).trans (yh rfl)
  have B3:=hid (qk h3 (fun k hk1 hk2=>k1.row k hk2 (by omega)));have B4:=hid (h4.trans (k1.toBelow (n:=w.heap.size) (fun k hk'=>by omega) h4.size));rw[←hq];have hB4:w.heap.size+4≤W2.heap.size:=by omega
  have Hb1:=hid b1;have Hb2:=hid b2;rw[hC1] at b1;have c0:=yz b1;have c1:=yz b2;have c2:W2.cell? ⟨q,0,none⟩=some (.slice a1 n1 z1):=zx (i:=0) b4 rfl;have c3:W2.cell? ⟨q,1,none⟩=some (.slice a2 n2 z2):=zx (i:=1) b4 rfl;have HC1:=hid hC1;clear k1 hk2 hs2 h1 h2 h3 h4 b1 b2 b4 hq hsW hC1;have hF:=hid (zzf (w.heap.size+4) y (pre.map (·.1)) i (.slice a1 n1 z1) (.slice a2 n2 z2) W2 B3.out hB4 (by omega))
  gi_wp2_with fail
  refine(CallsIn.inRound _ (callsIn_wide.2 hF.out)).mono ?_;rintro e w3 ⟨⟨v,rfl,ho3⟩,hb3⟩;have d2:=(hb3.block _ (by omega)).trans Hb2.out;have d1:=(hb3.block _ (by omega)).trans Hb1.out;have q5:=yz d2;have q6:=k9 d2;have Hd2:=hid d2;have Hd1:=hid d1;have Ho3:=hid ho3;have Hb3:=hid hb3;obtain⟨av,cv,rfl⟩:=jz ho3;clear c0 c1 c2 c3 d1 d2 ho3 hb3
  gi_wp2
  refine⟨?_,?_,?_,_,zb0 Hd2.out,?_⟩
  · exact((zmy Hb3.out).mono (fun k _ hk=>by omega)).setCell (fun _=>by simp only;omega) _
  · exact(B4.out.trans (Hb3.out.mono (by omega))).setCell (Nat.le_refl _) _
  · have h:=Hd1.out;rw[HC1.out] at h;exact(Below.heap_setCell _ _ _ _ (by simp)).trans h
  · have h:=qk Ho3.out (w':=w3.setCell ⟨w.heap.size,0,none⟩ (.slice av (pre.map (·.1)++[i]).length cv)) (fun k hk1 hk2=>Below.heap_setCell _ _ _ _ (by simp only;omega));simpa using h
 case done=>
  rintro ps W ⟨hS,-⟩ ⟨h4,h1,y,h2,h3⟩ hK;have q1:=yz h2;rw[←hS] at h3;have H3:=hid h3;have H4:=hid h4;clear h1 h2 h3 h4 e0 e1 hS
  gi_wp2
  go_wp2;refine⟨by simp,.inl ⟨_,_,rfl,run_takeDeferred hK,?_⟩⟩;refine⟨_,results_tmp rfl _ _ _,⟨y,rfl,?_⟩,?_⟩
  · refine vz (qk H3.out (fun k hk1 hk2=>World.putObj_heap_other (by omega))) (by omega)
  · exact(Kept.refl (fun k=>k<w.heap.size) W).putObj (fun _ h=>by have h':wl.heap.size<w.heap.size:=h;omega) _ |>.toBelow (fun _ h=>h) H4.out.size |> H4.out.trans
 case stop=>
  rintro c pre W hV h;exact h.elim
theorem zpy (a:Option Addr) (m c t:Nat) (k:Kno) (w:World) (hE:Frags w a m c k) (hG:∀f∈k,Good f.1∧f.1.length≤1000000) (hm:m≤500):
 Calls Tryz.prog 211 #[.slice a m c,.int .u64 t] w fun e w'=>
  (∃y,e=.returned y∧w'.ownsRow w.heap.size 3 1 y (zq k t).length (qo (zq k t)))∧Below w.heap.size w w':=by
 have hal:Below w.heap.size w ((w.alloc (.cells #[.slice a m c] 27)).alloc (.cells #[.int .u64 t] 43)):=((Below.refl _ _).alloc (Nat.le_refl _) _).alloc (by simp) _;have hC:=hid (zzg w ((w.alloc (.cells #[.slice a m c] 27)).alloc (.cells #[.int .u64 t] 43)) w.heap.size (w.heap.size+1) a m c t k hE hG hal hm (qg (yh rfl)) (yh (by simp)));have Hal:=hid hal;clear hE hG hal;go_enter Tryz.func211,Tryz.ntmps211;go_wp2_with fail;refine(zpo a m c t _).mono ?_;rintro e w1 ⟨rfl,rfl⟩;go_wp2_with fail;refine hC.out.mono ?_;rintro e w2 ⟨⟨y,rfl,ho⟩,hb⟩;have Ho:=hid ho;have Hb:=hid hb;clear ho hb;go_wp2;go_ret;exact⟨⟨y,rfl,vz Ho.out Hal.out.size⟩,Hal.out.trans (Hb.out.mono Hal.out.size)⟩
end
section
abbrev Seg:=Iv×Nat
def zf4 (L:List Seg) (x:Nat):Nat:=(L.takeWhile fun p=>decide (p.1.1<x)).length
def zbg (L:List Seg) (s:Iv) (i:Nat):List Seg:=L.take (zf4 L s.1)++(s,i) :: L.drop (zf4 L s.1)
def zb3 (L:List Seg) (l:List Iv) (i:Nat):List Seg:=l.foldl (fun L s=>zbg L s i) L
def zav (k:Kno):Nat→List Seg
 | 0=>[]
 | d+1=>zb3 (zav k d) (zb k d).1 d
def zi (k:Kno):List Seg:=zav k k.length
theorem zkt (L:List Seg) (s:Iv) (i:Nat):(zbg L s i).Perm ((s,i) :: L):=by
 unfold zbg;refine List.perm_middle.trans ?_;rw[List.take_append_drop]
theorem zzh (L:List Seg) (s:Iv) (i:Nat):(zbg L s i).length=L.length+1:=by rw[(zkt L s i).length_eq,List.length_cons]
theorem zzi {L:List Seg} (h:L.Pairwise fun p q=>p.1.1≤q.1.1) (s:Iv) (i:Nat):(zbg L s i).Pairwise fun p q=>p.1.1≤q.1.1:=by
 induction L with
 | nil=>simp[zbg,zf4]
 | cons p L ih=>
  obtain⟨h1,h2⟩:=List.pairwise_cons.1 h;by_cases hp:p.1.1<s.1
  · have e:zbg (p :: L) s i=p :: zbg L s i:=by
     unfold zbg zf4;rw[List.takeWhile_cons_of_pos (by simpa using hp)];simp
    rw[e];refine List.pairwise_cons.2 ⟨fun q hq=>?_,ih h2⟩;rcases List.mem_cons.1 ((zkt L s i).mem_iff.1 hq) with rfl | hq
    · exact Nat.le_of_lt hp
    · exact h1 q hq
  · have e:zbg (p :: L) s i=(s,i) :: p :: L:=by
     unfold zbg zf4;rw[List.takeWhile_cons_of_neg (by simpa using hp)];simp
    rw[e];refine List.pairwise_cons.2 ⟨fun q hq=>?_,h⟩;rcases List.mem_cons.1 hq with rfl | hq
    · simp only;omega
    · have:=h1 q hq;simp only;omega
theorem zku {L:List Seg} (h:L.Pairwise fun p q=>p.1.1≤q.1.1) (i:Nat):∀(l:List Iv),(zb3 L l i).Pairwise (fun p q=>p.1.1≤q.1.1)∧(zb3 L l i).Perm (L++l.map fun s=>(s,i)):=by
 intro l
 induction l generalizing L with
 | nil=>exact⟨h,by simp[zb3]⟩
 | cons s l ih=>
  have e:zb3 L (s :: l) i=zb3 (zbg L s i) l i:=rfl;rw[e];obtain⟨h1,h2⟩:=ih (zzi h s i);refine⟨h1,h2.trans ?_⟩;rw[List.map_cons];exact((zkt L s i).append_right _).trans List.perm_middle.symm
theorem zcg (k:Kno):∀d,d≤k.length→(zav k d).Pairwise (fun p q=>p.1.1≤q.1.1)∧((zav k d).map (·.1)).Perm (jv (k.take d))∧∀p∈zav k d,p.2<d∧p.1∈(zb k p.2).1
 | 0,_=>⟨List.Pairwise.nil,by simp[zav,jv],fun p h=>by cases h⟩
 | d+1,h=>by
   obtain⟨h1,h2,h3⟩:=zcg k d (by omega);obtain⟨g1,g2⟩:=zku h1 d (zb k d).1;refine⟨g1,?_,fun p hp=>?_⟩
   · rw[zkr (by omega)];refine(g2.map _).trans ?_;rw[List.map_append,List.map_map];refine(h2.append_right _).trans ?_;simp[Function.comp_def]
   · rcases List.mem_append.1 (g2.mem_iff.1 hp) with h | h
     · have:=h3 p h;exact⟨by omega,this.2⟩
     · obtain⟨s,hs,rfl⟩:=List.mem_map.1 h;exact⟨Nat.lt_succ_self _,hs⟩
theorem zkv {α:Type} {f:α→Nat}:∀{l m:List α},l.Perm m→l.Pairwise (fun a b=>f a≤f b)→m.Pairwise (fun a b=>f a≤f b)→(∀a∈l,∀b∈l,f a=f b→a=b)→l=m
 | [],m,hp,_,_,_=>hp.nil_eq
 | a :: l,[],hp,_,_,_=>by have:=hp.length_eq;simp at this
 | a :: l,b :: m,hp,hl,hm,hu=>by
   obtain⟨l1,l2⟩:=List.pairwise_cons.1 hl;obtain⟨m1,m2⟩:=List.pairwise_cons.1 hm;have ha:a∈b :: m:=hp.mem_iff.1 List.mem_cons_self;have hb:b∈a :: l:=hp.mem_iff.2 List.mem_cons_self
   have e:a=b:=by
    refine hu a List.mem_cons_self b hb (Nat.le_antisymm ?_ ?_)
    · rcases List.mem_cons.1 hb with rfl | h
      · exact Nat.le_refl _
      · exact l1 b h
    · rcases List.mem_cons.1 ha with rfl | h
      · exact Nat.le_refl _
      · exact m1 a h
   subst e;rw[zkv hp.cons_inv l2 m2 (fun x hx y hy=>hu x (List.mem_cons_of_mem _ hx) y (List.mem_cons_of_mem _ hy))]
theorem zzj {l:List Iv} (h:zds l):l.Pairwise fun s t=>s.1≤t.1:=by
 rw[List.pairwise_iff_getElem];intro i j hi hj hij;have:=h i j hij hj;rwa [yw hi,yw hj] at this
theorem zpz {k:Kno} (hc:CanK k) {i:Nat} (hi:i<k.length) {s:Iv} (hs:s∈(zb k i).1):zbp k s.1=i:=by
 have hmi:=yx hi;have hx:=(zfs (hc.items _ hmi).1 hs).1;unfold zbp
 have:jy (fun i=>if mem (zb k i).1 s.1=true then some i else none) k.length=some i:=by
  refine zcq hi (fun j hj=>if_neg fun hm=>?_) (if_pos hx);have hmj:=yx (k:=k) (i:=j) (by omega);have e:=hc.apart _ hmi _ hmj s.1 hx hm;have hl:=List.pairwise_iff_getElem.1 hc.asc j i (by omega) hi hj;rw[←ym (by omega),←ym hi,e] at hl;unfold kk at hl;rw[zg3] at hl;cases hl
 rw[this];rfl
theorem zp0 {l:List Iv} (h:Good l) {s t:Iv} (hs:s∈l) (ht:t∈l) (e:s.1=t.1):s=t:=by
 obtain⟨i,hi,rfl⟩:=List.getElem_of_mem hs;obtain⟨j,hj,rfl⟩:=List.getElem_of_mem ht;rw[←yw hi,←yw hj] at*;have hi2:=(zbj h i hi).1;have hj2:=(zbj h j hj).1;rcases Nat.lt_trichotomy i j with h2 | h2 | h2
 · have:=zeu h h2 hj;omega
 · rw[h2]
 · have:=zeu h h2 hi;omega
theorem zp1 {k:Kno} (hc:CanK k) {l:List Iv} (hp:l.Perm (jv k)) (ha:zds l):l=(zi k).map (·.1)∧(l.map fun s=>zbp k s.1)=(zi k).map (·.2):=by
 obtain⟨h1,h2,h3⟩:=zcg k k.length (Nat.le_refl _);rw[List.take_length] at h2
 have e:l=(zi k).map (·.1):=by
  refine zkv (f:=(·.1)) (hp.trans h2.symm) (zzj ha) (List.pairwise_map.2 h1) fun s hs t ht e=>?_
  obtain⟨f,hf,hsf⟩:=zhx.1 (hp.mem_iff.1 hs);obtain⟨g,hg,htg⟩:=zhx.1 (hp.mem_iff.1 ht);have x1:=(zfs (hc.items f hf).1 hsf).1;have x2:=(zfs (hc.items g hg).1 htg).1;rw[←e] at x2;have e2:=hc.apart f hf g hg s.1 x1 x2;subst e2;exact zp0 (hc.items f hf).1 hsf htg e
 refine⟨e,?_⟩;rw[e,List.map_map];refine List.map_congr_left fun p hp'=>?_
 obtain⟨g1,g2⟩:=h3 p hp';exact zpz hc g1 g2
end
section
open Go.RowKit
set_option maxRecDepth 20000 in
theorem zzk (a:Option Addr) (n cap:Nat) (v:Vec) (w:World) (hE:Ents w a n cap v) (hC:CanV v) (hF:VecFits v):
 Calls Tryz.prog 173 #[.slice a n cap] w fun x w'=>(∃y,x=.returned y∧OwnV w' w.heap.size y v)∧Below w.heap.size w w':=by
 have HE:=hid hE;have HF:=hid hF;have HC:=hid hC;have Hl:=hid hE.len;have hm:n≤9223372036854775807:=Nat.le_trans hE.room hE.most;have hn3:n≤300:=by rw[←hE.len];exact hF.len
 clear hE hF hC;go_enter Tryz.func173,Tryz.ntmps173;go_wp2;go_loopw [3,5,6,7,10] (fun y _ _ _ i wr=>∃k:Nat,k≤n∧i=.int .i64 k∧Below w.heap.size w wr∧Hid (OwnV wr w.heap.size y (v.take k))) (fun _ _ _ _ i _=>n - (intOf i).toNat)
 case atStart=>exact⟨0,by omega,rfl,Below.refl _ _,by rw[List.take_zero];exact zjz _ _⟩
 case round=>
  obtain⟨k,hk,rfl,hb,ho⟩:=hrel;have Hb:=hid hb;clear hb;by_cases hkn:k<n
  · have hkv:k<v.length:=by rw[Hl.out];exact hkn
    have HEr:=hid (HE.out.below Hb.out);obtain⟨bb,oo,rfl⟩:=HEr.out.some (by omega);have Hlt:=hid (HE.out.lt (ze v k) (kn hkv));have Hho:=hid (HF.out.holes (ze v k) (kn hkv));have hce:=HC.out.ent (ze v k) (kn hkv);have Hst:=hid (show v.take (k+1)=v.take k++[ze v k] from by rw[List.take_succ_eq_append_getElem hkv,ja hkv]);have HoL:=hid (show (v.take k).length≤300 from by rw[List.length_take];omega);obtain⟨x,m,c,hq⟩:=HEr.out.fix hkn;obtain⟨q1,q2,q3,q4⟩:=hq _ (Below.refl _ _);have hal:Below wr.heap.size wr (wr.alloc (.cells #[.int .u64 (ze v k).1,.int .u64 (ze v k).2.1,.slice x m c] 93)):=(Below.refl _ _).alloc (Nat.le_refl _) _;have hD:=hid (zyx (ze v k) x m c _ (q4.below hal) hce (by rw[←q4.len];have:=Hho.out;omega));have HX:=hid (zd2 wr (.int .u64 (ze v k).1) (.int .u64 (ze v k).2.1) (.slice x m c) 93 _ (Below.refl _ _));have Hal:=hid hal;clear hal hce q4 hq;generalize v.take k=T at*;have h0:(0:Int)≤k:=by omega
    have h04:(k:Int)<(n:Int):=by omega
    have hx:=HX.out;generalize ze v k=e at*;obtain⟨er,em,eh⟩:=e;simp only at q1 q2 q3 hx Hal;obtain⟨x0,x1,x2⟩:=hx;clear HX;go_wp2_with fail;refine hD.out.mono ?_;rintro z w1 ⟨hz,hb1⟩;obtain⟨sa,sc,rfl,hs⟩:=zxo hz Hlt.out.holes;simp only at hs;have Hs:=hid (hs 0);have Hb1:=hid (Hb.out.trans ((Hal.out.trans (hb1.mono Hal.out.size)).mono Hb.out.size));have Ho1:=hid (ho.out.below (Hal.out.trans (hb1.mono Hal.out.size)))
    have hal2:Below w1.heap.size w1 ((w1.alloc (.cells #[.int .u64 er,.int .u64 em,.slice sa eh.length sc] 93)).alloc (.cells #[.int .u64 er,.int .u64 em,.slice sa eh.length sc] 93)):=
     ((Below.refl w1.heap.size w1).alloc (Nat.le_refl _) _).alloc (by simp) _
    have Hal2:=hid hal2;clear hb1 hs hz hal2 x0 x1 x2;go_wp2_with (at_builtin;refine zx6 rfl (.tmp 20) (.tmp 22) rfl rfl w.heap.size _ T rfl (Ho1.out.below Hal2.out) _ 1 (er,em,eh) sa eh.length sc (Hs.out.steady (P:=fun _=>True) (.of_below Hal2.out) trivial) rfl (vy (yp _ _ _ (by simp)) rfl rfl) (by have:=HoL.out;omega) (by have:=Hb1.out.size;simp;omega) ?_;intro v' w7 ho7 hg7 _);have Hb7:=hid (Below.grown (Hb1.out.trans (Hal2.out.mono Hb1.out.size)) hg7 (by have:=Hb1.out.size;have:=Hal2.out.size;omega) (fun k hk=>(Ho1.out.lt k hk).1));go_roundw
    case rel=>exact⟨k+1,by omega,by go_num,Hb7.out,by first | (rw[Hst.out];exact ho7) | (trace_state;fail)⟩
    case measure=>simp[intOf];omega
  · obtain rfl:k=n:=by omega
    have Ho:=hid ho.out;rw[show v.take k=v from List.take_of_length_le (by rw[Hl.out];exact Nat.le_refl _)] at Ho;go_wp2;go_ret;exact⟨⟨_,rfl,Ho.out⟩,Hb.out⟩
theorem zhy {l:List Nat} {k:Nat} (h:k<l.length):l.drop k=nth l k :: l.drop (k+1):=by
 rw[List.drop_eq_getElem_cons h];congr 1;simp[nth,h]
theorem zp2 {p q:List Nat} {k:Nat} (hp:k<p.length) (hq:k<q.length):qh (p.drop k) (q.drop k)=if nth p k<nth q k then -1 else if nth q k<nth p k then 1 else qh (p.drop (k+1)) (q.drop (k+1)):=by
 rw[zhy hp,zhy hq]
 rfl
theorem zkw {p q:List Nat} {k:Nat} (hp:k≤p.length) (hq:k≤q.length) (h:k=p.length∨k=q.length):qh (p.drop k) (q.drop k)=if p.length<q.length then -1 else if q.length<p.length then 1 else 0:=by
 rcases h with rfl | rfl
 · rw[List.drop_length];by_cases hl:p.length<q.length
   · rw[if_pos hl,zhy hl];rfl
   · have:q.drop p.length=[]:=List.drop_eq_nil_of_le (by omega);rw[if_neg hl,if_neg (by omega),this];rfl
 · rw[List.drop_length];by_cases hl:q.length<p.length
   · rw[if_neg (by omega),if_pos hl,zhy hl];rfl
   · have:p.drop q.length=[]:=List.drop_eq_nil_of_le (by omega);rw[if_neg (by omega),if_neg hl,this];rfl
set_option maxRecDepth 20000 in
theorem zzl (a d:Option Addr) (n c n' c':Nat) (v u:Vec) (w:World) (hE:Ents w a n c v) (hF:Ents w d n' c' u) (hN:(zl v).length≤1000000000000) (hM:(zl u).length≤1000000000000)
 (hpl:∀x∈zl v,x<18446744073709551616) (hql:∀x∈zl u,x<18446744073709551616):
 Calls Tryz.prog 97 #[.slice a n c,.slice d n' c'] w fun x w'=>x=.returned (.int .i64 (zw v u))∧Below w.heap.size w w':=by
 have HF:=hid hF;have HN:=hid hN;have HM:=hid hM;have Hpl:=hid hpl;have Hql:=hid hql;have hC:=hid (zpt a n c v w hE hN);have hD:=hid (fun w' (h:Below w.heap.size w w')=>zpt d n' c' u w' (hF.below h) hM);have Hcv:=hid (show zw v u=qh (zl v) (zl u) from rfl);clear hE hF hN hM hpl hql;generalize zl v=P at*;generalize zl u=R at*;generalize zw v u=z at*;go_enter Tryz.func97,Tryz.ntmps97;go_wp2_with fail;refine hC.out.mono ?_;rintro e w1 ⟨⟨y,rfl,ho1⟩,hb1⟩;have Hb1:=hid hb1;obtain⟨aP,cP,rfl,hU1⟩:=zco ho1 Hpl.out;clear hb1 ho1;have HU1:=hid hU1;clear hU1;go_wp2_with fail;refine(hD.out _ Hb1.out).mono ?_;rintro e w2 ⟨⟨y,rfl,ho2⟩,hb2⟩;have Hb2:=hid (Hb1.out.trans (hb2.mono Hb1.out.size));obtain⟨aR,cR,rfl,hU2⟩:=zco ho2 Hql.out;have HUp:=hid (HU1.out.below hb2);clear hb2 ho2;have HUr:=hid hU2;clear hU2 HU1 hC hD;obtain⟨N,hN⟩:∃N,N=P.length:=⟨_,rfl⟩;obtain⟨M,hM⟩:∃M,M=R.length:=⟨_,rfl⟩;rw[←hN] at HN HUp ⊢;rw[←hM] at HM HUr ⊢;have HNl:=hid hN;have HMl:=hid hM;have hNm:N≤9223372036854775807:=Nat.le_trans HUp.out.room HUp.out.most;clear hN hM;go_wp2;go_loopw [7] (fun i wr=>∃k:Nat,k≤N∧k≤M∧i=.int .i64 k∧Below w2.heap.size w2 wr∧Hid (z=qh (P.drop k) (R.drop k))) (fun i _=>N - (intOf i).toNat)
 case atStart=>exact⟨0,by omega,by omega,rfl,Below.refl _ _,(by simpa using Hcv.out:z=qh (P.drop 0) (R.drop 0))⟩
 case round=>
  obtain⟨k,hkN,hkM,rfl,hb,ht⟩:=hrel;have Hb:=hid hb;clear hb;have Hbw:=hid (Hb2.out.trans (Hb.out.mono Hb2.out.size));have h0:(0:Int)≤k:=by omega
  by_cases h1:k<N
  · by_cases h2:k<M
    · have hst:=zp2 (p:=P) (q:=R) (k:=k) (by rw[←HNl.out];exact h1) (by rw[←HMl.out];exact h2);have Hst:=hid (ht.out.trans hst);obtain⟨b1,o1,rfl,hc1⟩:=(HUp.out.below Hb.out).cells (by omega);obtain⟨b2,o2,rfl,hc2⟩:=(HUr.out.below Hb.out).cells (by omega);have q1:=hc1 k h1;have q2:=hc2 k h2;clear hst hc1 hc2;generalize nth P k=x at*;generalize nth R k=y at*;have h01:(k:Int)<(N:Int):=by omega
      have h02:(k:Int)<(M:Int):=by omega
      have hcP:=HUp.out.room;have hcR:=HUr.out.room;by_cases hxy:x<y
      · have hd1:decide ((x:Int)<(y:Int))=true:=by rw[decide_eq_true_iff];omega
        have hd2:decide (x<y)=true:=by rw[decide_eq_true_iff];omega
        rw[if_pos hxy] at Hst;clear hxy;go_wp2;go_quiet (fail);go_wp2;go_ret;exact⟨by rw[Hst.out];rfl,by first | exact Hbw.out | exact zy Hbw.out _⟩
      · have hd1:decide ((x:Int)<(y:Int))=false:=by rw[decide_eq_false_iff_not];omega
        have hd2:decide (x<y)=false:=by rw[decide_eq_false_iff_not];omega
        rw[if_neg hxy] at Hst;by_cases hyx:y<x
        · have hd3:decide ((y:Int)<(x:Int))=true:=by rw[decide_eq_true_iff];omega
          have hd4:decide (y<x)=true:=by rw[decide_eq_true_iff];omega
          rw[if_pos hyx] at Hst;clear hxy hyx;go_wp2;go_quiet (fail);go_wp2;go_quiet (fail);go_wp2;go_ret;exact⟨by rw[Hst.out];rfl,by first | exact Hbw.out | exact zy Hbw.out _ | exact zy (zy Hbw.out _) _⟩
        · have hd3:decide ((y:Int)<(x:Int))=false:=by rw[decide_eq_false_iff_not];omega
          have hd4:decide (y<x)=false:=by rw[decide_eq_false_iff_not];omega
          rw[if_neg hyx] at Hst;clear hxy hyx;go_wp2;go_quiet (fail);go_wp2;go_quiet (fail);go_wp2;go_roundw
          case rel=>exact⟨k+1,by omega,by omega,by go_num,by first | exact Hb.out | exact zy Hb.out _ | exact zy (zy Hb.out _) _,Hst.out⟩
          case measure=>simp[intOf];omega
    · obtain rfl:k=M:=by omega
      have Hz:=hid (ht.out.trans (zkw (by rw[←HNl.out];omega) (by rw[←HMl.out];omega) (.inr HMl.out)));rw[←HNl.out,←HMl.out,if_neg (by omega),if_pos h1] at Hz;have hd1:decide ((N:Int)<(k:Int))=false:=by rw[decide_eq_false_iff_not];omega
      have hd2:decide ((k:Int)<(N:Int))=true:=by rw[decide_eq_true_iff];omega
      go_wp2;go_ret;exact⟨by rw[Hz.out];rfl,Hbw.out⟩
  · obtain rfl:k=N:=by omega
    have Hz:=hid (ht.out.trans (zkw (by rw[←HNl.out];omega) (by rw[←HMl.out];omega) (.inl HNl.out)));rw[←HNl.out,←HMl.out] at Hz;by_cases h2:k<M
    · rw[if_pos h2] at Hz;have hd1:decide ((k:Int)<(M:Int))=true:=by rw[decide_eq_true_iff];omega
      go_wp2;go_ret;exact⟨by rw[Hz.out];rfl,Hbw.out⟩
    · rw[if_neg h2,if_neg (by omega)] at Hz;have hd1:decide ((k:Int)<(M:Int))=false:=by rw[decide_eq_false_iff_not];omega
      have hd2:decide ((M:Int)<(k:Int))=false:=by rw[decide_eq_false_iff_not];omega
      go_wp2;go_ret;exact⟨by rw[Hz.out];rfl,Hbw.out⟩
theorem zp3 {v:Vec} (h:VecFits v):(zl v).length≤1000000000000:=by
 have h1:=h.len
 have:∀u:Vec,(∀e∈u,e.2.2.length≤500)→(u.flatMap qz).length≤u.length*1003:=by
  intro u
  induction u with
  | nil=>intro _;simp
  | cons e u ih=>
   intro hu;have h2:=ih fun f hf=>hu f (List.mem_cons_of_mem _ hf)
   have h3:=hu e List.mem_cons_self;rw[List.flatMap_cons,List.length_append,List.length_cons];simp only[qz,List.length_cons,zf3];omega
 have h4:=this v h.holes;unfold zl;rw[List.length_cons];omega
theorem zf5 (e:Ent):(qz e).length=3+2*e.2.2.length:=by
 simp only[qz,List.length_cons,zf3];omega
theorem zp4 {v:Vec} {e:Ent} (h:e∈v):(qz e).length+v.length≤(v.flatMap qz).length+1:=by
 induction v with
 | nil=>cases h
 | cons f v ih=>
  rw[List.flatMap_cons,List.length_append,List.length_cons];rcases List.mem_cons.1 h with rfl | h
  · have:v.length≤(v.flatMap qz).length:=by
     clear ih h
     induction v with
     | nil=>exact Nat.le_refl _
     | cons g v ih=>rw[List.flatMap_cons,List.length_append,List.length_cons,zf5];omega
    omega
  · have:=ih h;have:=zf5 f;omega
theorem zhz {v:Vec} (h:LtV v) (hn:(zl v).length≤1000000000000):∀x∈zl v,x<18446744073709551616:=by
 intro x hx;have hc:(zl v).length=(v.flatMap qz).length+1:=rfl;simp only[zl,List.mem_cons,List.mem_flatMap,qz,qf,List.not_mem_nil,or_false] at hx;rcases hx with rfl | ⟨e,he,hx⟩
 · cases v with
   | nil=>decide
   | cons e v=>have:=zp4 (List.mem_cons_self (a:=e) (l:=v));omega
 · have h1:=zp4 he;have h2:=zf5 e;rcases hx with rfl | rfl | rfl | ⟨s,hs,rfl | rfl⟩
   · exact(h e he).rep
   · exact(h e he).max
   · omega
   · exact((h e he).holes s hs).1
   · exact((h e he).holes s hs).2
end
section
open Go.RowKit Go.Shelf
attribute [local go_sem] Oper.semAt_some zdy
structure KeptT (base:Nat) (T:TypeId→Prop) (A B:World):Prop where
 os:B.os=A.os
 tape:B.tape=A.tape
 output:B.output=A.output
 size:A.heap.size≤B.heap.size
 row:∀k,k<A.heap.size→(k<base∨∃C U fr,T U∧A.heap[k]?=some (.cells C U fr))→B.heap[k]?=A.heap[k]?
theorem KeptT.toBelow {base:Nat} {T:TypeId→Prop} {A B:World} (h:KeptT base T A B) (hb:base≤A.heap.size):Below base A B:=⟨h.os,h.tape,h.output,h.size,fun k hk=>h.row k (by omega) (.inl hk)⟩
theorem KeptT.typed {base:Nat} {T:TypeId→Prop} {A B:World} (h:KeptT base T A B) {k:Nat} {C:Array Value} {U:TypeId} {fr:Nat×Nat} (hT:T U) (hr:A.heap[k]?=some (.cells C U fr)):B.heap[k]?=some (.cells C U fr):=
 (h.row k (Array.getElem?_eq_some_iff.1 hr).1 (.inr ⟨C,U,fr,hT,hr⟩)).trans hr
def zf6 (T:TypeId):Prop:=T=89∨T=93∨T=95
theorem zzm {P:Program} {w:World} (ty:TypeId) (cs:Array Value) (k len:Nat) (e:TypeId) (ik:IntKind) (v:Value)
 (hu:P.underlying ty=some (.array len e)) (hk:k<len) (he:P.underlying e=some (.int ik)) (hi:(P.info? e).map (·.size)=some 1) (hv:cs[k]?=some v):
 (Instr.index ty (.agg cs) (.int .i64 (k:Int))).run P w=.ok v w:=by
 cases hq:P.info? e with
 | none=>simp[hq] at hi
 | some i=>
  have hsz:i.size=1:=by simpa [hq] using hi
  simp only[Instr.index,asIntOf,Sem.run_bind,Sem.run_pure,Result.andThen_ok,run_underlying hu];have hk':0≤(k:Int)∧(k:Int)<(len:Int):=⟨by omega,by omega⟩;simp[Sem.run_bind,part,isAgg,sizeOf,typeInfo,run_underlying he,hq,hsz,hv,hk']
theorem zzn (a:Option Addr) (n c:Nat) (w:World):Calls Tryz.prog 233 #[.slice a n c] w fun e w'=>
 e=.returned (.func (.func 262) #[] #[.pointer (some ⟨w.heap.size,0,none⟩)])∧w'=w.alloc (.cells #[.slice a n c] 95):=by
 go_enter Tryz.func233,Tryz.ntmps233;go_wp2;go_ret;exact⟨rfl,rfl⟩
set_option maxRecDepth 100000 in
theorem zzo (n:Nat) (w0 w:World) (ba:Nat) (a:Option Addr) (m c:Nat) (v:Vec) (hE:Ents w0 a m c v) (hb0:Below w0.heap.size w0 w)
 (hbx:w.heap[ba]?=some (.cells #[.slice a m c] 95)) (hm:m≤1000000000000):
 zm5 n Tryz.prog 262 #[.pointer (some ⟨ba,0,none⟩)] (fun x=> #[.int .u64 ((x:Nat):Int)]) (fun pre=>∃rest,zl v=pre++rest) (fun xs=>xs=zl v)
  (fun _=>False) (KeptT w0.heap.size zf6) w:=by
 intro l J Jx W hl hW hJ hJx hY h0;have H0:=hid (hb0.trans (hW.mono hb0.size));have Hbx:=hid ((hW.block ba (Array.getElem?_eq_some_iff.1 hbx).1).trans hbx);have HE:=hid hE;have Hlen:=hid hE.len;have HJ:=hid (fun s A B (h:J s A) (hb:Below A.heap.size A B)=>hJ s A B h ((Kept.refl _ A).below hb));have HY:=hid hY;have Hj0:=hid h0;clear hE hb0 hbx hW hJ hJx hY h0 hl;refine callsIn_of_wp Tryz.func262 rfl trivial ?_ rfl;simp only[Tryz.ntmps262,List.size_toArray,List.length_cons,List.length_nil,Nat.reduceAdd,Nat.reduceSub,Array.replicate_succ,Array.replicate_zero,List.push_toArray,List.append_toArray,List.nil_append,List.cons_append];have hwm:IntKind.u64.wrap (m:Int)=(m:Int):=by rw[IntKind.wrap_u64];omega
 have q1:=yz Hbx.out;have hV0:zl v=[m]++v.flatMap qz:=by unfold zl;rw[Hlen.out];rfl
 obtain⟨fn,tmps,assign,body,hy,hR⟩:=HY.out [] m W ⟨_,hV0⟩ Hj0.out;clear hV0
 gi_wp2
 first | refine hR.mono ?_ | refine⟨fun h=>(by cases h),hR.mono ?_⟩
 rintro e W3 (⟨rfl,hJ3,hk3⟩ | ⟨rfl,hJx3⟩)
 · have H3:=hid (H0.out.trans (hk3.toBelow H0.out.size));have Hbx3:=hid (hk3.typed (.inr (.inr rfl)) Hbx.out)
   have HJ3:=hid (show J (ke v 0) W3 from by
    have e:ke v 0=[]++[m]:=by unfold ke;rw[Hlen.out];rfl
    rw[e];exact hJ3)
   clear hk3 hJ3 hy hR q1;have q1:=yz Hbx3.out
   gi_wp2
   clear q1
   gi_loopw [4,6,8,17,30,41] (fun _ _ _ i _ _ wr=>∃k:Nat,k≤m∧i=.int .i64 k∧Hid (Below w0.heap.size w0 wr∧wr.heap[ba]?=some (.cells #[.slice a m c] 95)∧J (ke v k) wr)) (fun _ _ _ i _ _ _=>m - (intOf i).toNat)
   case atStart=>exact⟨0,by omega,rfl,H3.out,Hbx3.out,HJ3.out⟩
   case round=>
    obtain⟨k,hk,rfl,hinv⟩:=hrel;by_cases hkm:k<m
    · have hkv:k<v.length:=by rw[Hlen.out];exact hkm
      obtain⟨bb,oo,rfl⟩:=HE.out.some (by omega);obtain⟨x,d,cd,hq⟩:=HE.out.fix hkm;obtain⟨q1,q2,q3,-⟩:=hq wr hinv.out.1;have HIv:=hid (fun w' (h:Below w0.heap.size w0 w')=>(hq w' h).2.2.2);have Hst:=hid (zpq hkv)
      have Hnum:=hid (show zl v=ke v (k+1)++(v.drop (k+1)).flatMap qz from by
       unfold zl ke;rw[List.cons_append,←List.flatMap_append,List.take_append_drop])
      clear hq;obtain⟨P1,hP1⟩:∃P1,ke v (k+1)=P1:=⟨_,rfl⟩;rw[hP1] at Hst Hnum;have HP1:=hid hP1;clear hP1;generalize ke v k=P at*;generalize (v.drop (k+1)).flatMap qz=rest at*;generalize ze v k=e at*;obtain⟨er,em,eh⟩:=e;simp only at q1 q2 q3 HIv Hst;have hlv:=(HIv.out w0 (Below.refl _ _)).len;have hdm:d≤9223372036854775807:=Nat.le_trans (HIv.out w0 (Below.refl _ _)).room (HIv.out w0 (Below.refl _ _)).most;have Hlv:=hid hlv;have hwd:IntKind.u64.wrap (d:Int)=(d:Int):=by rw[IntKind.wrap_u64];omega
      have h0k:(0:Int)≤k:=by omega
      have h04:(k:Int)<(m:Int):=by omega
      obtain⟨b4,hb4⟩:∃b4,b4=wr.heap.size:=⟨_,rfl⟩;have hrow:(wr.alloc (.cells #[.int .u64 er,.int .u64 em,.slice x d cd] 93)).heap[b4]?=some (.cells #[.int .u64 er,.int .u64 em,.slice x d cd] 93):=by rw[hb4];exact yh rfl
      have hal:Below wr.heap.size wr (wr.alloc (.cells #[.int .u64 er,.int .u64 em,.slice x d cd] 93)):=(Below.refl _ _).alloc (Nat.le_refl _) _
      have Hinv:=hid (show Below w0.heap.size w0 (wr.alloc (.cells #[.int .u64 er,.int .u64 em,.slice x d cd] 93))∧(wr.alloc (.cells #[.int .u64 er,.int .u64 em,.slice x d cd] 93)).heap[ba]?=some (.cells #[.slice (some ⟨bb,oo,none⟩) m c] 95)∧J P (wr.alloc (.cells #[.int .u64 er,.int .u64 em,.slice x d cd] 93)) from
       ⟨hinv.out.1.trans (hal.mono hinv.out.1.size),qg hinv.out.2.1,HJ.out _ _ _ hinv.out.2.2 hal⟩)
      have Hrow:=hid hrow;clear hrow hal hlv hinv
      gi_wp2
      rw[←hb4];have Hb4e:=hid hb4;clear hb4
      gi_loopw [6,30] (fun _ i wr=>∃z:Nat,z≤3∧i=.int .i64 z∧Hid (Below w0.heap.size w0 wr∧wr.heap[ba]?=some (.cells #[.slice (some ⟨bb,oo,none⟩) m c] 95)∧wr.heap[b4]?=some (.cells #[.int .u64 er,.int .u64 em,.slice x d cd] 93)∧J (P++[er,em,d].take z) wr)) (fun _ i _=>3 - (intOf i).toNat)
      case atStart=>exact⟨0,by omega,rfl,Hinv.out.1,Hinv.out.2.1,Hrow.out,by simpa using Hinv.out.2.2⟩
      case round=>
       obtain⟨z,hz,rfl,hinv⟩:=hrel;by_cases hz3:z<3
       · have hV:zl v=P++[er,em,d].take z++[nth [er,em,d] z]++([er,em,d].drop (z+1)++qf eh++rest):=by
          rw[Hnum.out,Hst.out];simp only[qz,Hlv.out];have hcs:z=0∨z=1∨z=2:=by omega
          rcases hcs with rfl | rfl | rfl <;> simp[nth]
         have htk:P++[er,em,d].take z++[nth [er,em,d] z]=P++[er,em,d].take (z+1):=by
          have hcs:z=0∨z=1∨z=2:=by omega
          rcases hcs with rfl | rfl | rfl <;> simp[nth]
         have Htk:=hid htk;obtain⟨fn,tmps,assign,body,hy,hR⟩:=HY.out _ _ wr ⟨_,hV⟩ hinv.out.2.2.2
         have hidx:(#[Value.int .u64 er,.int .u64 em,.int .u64 d]:Array Value)[z]?=some (.int .u64 ((nth [er,em,d] z:Nat):Int)):=by
          have hcs:z=0∨z=1∨z=2:=by omega
          rcases hcs with rfl | rfl | rfl <;> rfl
         have Hv:=hid hV;have hz0:(0:Int)≤z:=by omega
         have hzi:(z:Int)<3:=by omega
         have hix:=fun w'=>zzm (P:=Tryz.prog) (w:=w') 354 #[Value.int .u64 er,.int .u64 em,.int .u64 d] z 3 43 .u64 _ Tryz.underlying354 hz3 Tryz.underlying43 (by kernel_rfl) hidx
         clear hV htk hidx;generalize nth [er,em,d] z=y at*
         gi_wp2
         first | refine hR.mono ?_ | refine⟨fun h=>(by cases h),hR.mono ?_⟩
         rintro e W4 (⟨rfl,hJ4,hk4⟩ | ⟨rfl,hJx4⟩)
         · have H4:=hid (show Below w0.heap.size w0 W4∧W4.heap[ba]?=some (.cells #[.slice (some ⟨bb,oo,none⟩) m c] 95)∧W4.heap[b4]?=some (.cells #[.int .u64 er,.int .u64 em,.slice x d cd] 93)∧J (P++[er,em,d].take (z+1)) W4 from
            ⟨hinv.out.1.trans (hk4.toBelow hinv.out.1.size),hk4.typed (.inr (.inr rfl)) hinv.out.2.1,hk4.typed (.inr (.inl rfl)) hinv.out.2.2.1,by rw[←Htk.out];exact hJ4⟩)
           clear hJ4 hk4 hy hR hix
           gi_wp2
           go_roundw
           case rel=>exact⟨z+1,by omega,by go_num,H4.out⟩
           case measure=>simp[intOf];omega
         · have HX:=hid (show ∃pre,(∃rest,zl v=pre++rest)∧Jx pre W4 from⟨_,⟨_,Hv.out⟩,hJx4⟩);clear hJx4 hy hR hix
           gi_wp2
           go_wp2;refine bodyPost_ret (results_none rfl _ _ _) rfl ?_;exact⟨⟨_,rfl⟩,.inr HX.out⟩
       · obtain rfl:z=3:=by omega
         have e3:[er,em,d].take 3=[er,em,d]:=rfl;rw[e3] at hinv;have hr4:=zhm hinv.out.2.2.1;have z0:=hr4.1;have z1:=hr4.2.1;have z2:=hr4.2.2.1;clear hr4 e3
         gi_wp2
         clear z0 z1 z2
         gi_loopw [8,41] (fun _ i wr=>∃z:Nat,z≤d∧i=.int .i64 z∧Hid (Below w0.heap.size w0 wr∧wr.heap[ba]?=some (.cells #[.slice (some ⟨bb,oo,none⟩) m c] 95)∧J (P++[er,em,d]++qf (eh.take z)) wr)) (fun _ i _=>d - (intOf i).toNat)
         case atStart=>exact⟨0,by omega,rfl,hinv.out.1,hinv.out.2.1,by simpa [qf] using hinv.out.2.2.2⟩
         case round=>
          clear hinv;obtain⟨z,hz,rfl,hinv⟩:=hrel;by_cases hzd:z<d
          · have hzl:z<eh.length:=by rw[Hlv.out];exact hzd
            obtain⟨hb,ho,rfl,hc⟩:=(HIv.out w0 (Below.refl _ _)).cells (by omega);obtain⟨c1,c2⟩:=hc z hzd;have c1:=(hinv.out.1.cell (p:=⟨hb,ho+z*2,none⟩) (zh c1)).trans c1;have c2:=(hinv.out.1.cell (p:=⟨hb,ho+z*2+1,none⟩) (zh c2)).trans c2;clear hc;have hsn:=zps eh z hzl
            have hall:qf eh=qf (eh.take (z+1))++qf (eh.drop (z+1)):=by
             unfold qf;rw[←List.flatMap_append,List.take_append_drop]
            generalize za eh z=s at*;obtain⟨sx,sy⟩:=s;simp only at c1 c2 hsn
            have hV1:zl v=P++[er,em,d]++qf (eh.take z)++[sx]++([sy]++qf (eh.drop (z+1))++rest):=by
             rw[Hnum.out,Hst.out];simp only[qz,Hlv.out];rw[hall,hsn];simp
            have hV2:zl v=P++[er,em,d]++qf (eh.take z)++[sx]++[sy]++(qf (eh.drop (z+1))++rest):=by
             rw[hV1];simp
            have Hsn:=hid (show P++[er,em,d]++qf (eh.take z)++[sx]++[sy]=P++[er,em,d]++qf (eh.take (z+1)) from by rw[hsn];simp);have HV1:=hid hV1;have HV2:=hid hV2;obtain⟨b8,hb8⟩:∃b8,b8=wr.heap.size:=⟨_,rfl⟩;have hal:Below wr.heap.size wr (wr.alloc (.cells #[.int .u64 sx,.int .u64 sy] 89)):=(Below.refl _ _).alloc (Nat.le_refl _) _;have hrow8:(wr.alloc (.cells #[.int .u64 sx,.int .u64 sy] 89)).heap[b8]?=some (.cells #[.int .u64 sx,.int .u64 sy] 89):=by rw[hb8];exact yh rfl
            obtain⟨fn,tmps,assign,body,hy,hR⟩:=HY.out _ _ (wr.alloc (.cells #[.int .u64 sx,.int .u64 sy] 89)) ⟨_,hV1⟩ (HJ.out _ _ _ hinv.out.2.2 hal);have Hinv:=hid (show Below w0.heap.size w0 (wr.alloc (.cells #[.int .u64 sx,.int .u64 sy] 89))∧(wr.alloc (.cells #[.int .u64 sx,.int .u64 sy] 89)).heap[ba]?=some (.cells #[.slice (some ⟨bb,oo,none⟩) m c] 95) from⟨hinv.out.1.trans (hal.mono hinv.out.1.size),qg hinv.out.2.1⟩);have Hrow8:=hid hrow8;have Hb8:=hid hb8;have h0z:(0:Int)≤z:=by omega
            have h0d:(z:Int)<(d:Int):=by omega
            clear hV1 hV2 hsn hall hal hrow8 hb8
            gi_wp2
            first | refine hR.mono ?_ | refine⟨fun h=>(by cases h),hR.mono ?_⟩
            rintro e W4 (⟨rfl,hJ4,hk4⟩ | ⟨rfl,hJx4⟩)
            · have h48:=hk4.typed (.inl rfl) Hrow8.out;have y1:=zx (i:=1) h48 rfl;rw[Hb8.out] at y1;have H4:=hid (show Below w0.heap.size w0 W4∧W4.heap[ba]?=some (.cells #[.slice (some ⟨bb,oo,none⟩) m c] 95) from⟨Hinv.out.1.trans (hk4.toBelow Hinv.out.1.size),hk4.typed (.inr (.inr rfl)) Hinv.out.2⟩);obtain⟨fn2,tmps2,assign2,body2,hy2,hR2⟩:=HY.out _ _ W4 ⟨_,HV2.out⟩ hJ4;clear hk4 h48 hy hR hJ4 c1 c2
              gi_wp2
              first | refine hR2.mono ?_ | refine⟨fun h=>(by cases h),hR2.mono ?_⟩
              rintro e W5 (⟨rfl,hJ5,hk5⟩ | ⟨rfl,hJx5⟩)
              · have H5:=hid (show Below w0.heap.size w0 W5∧W5.heap[ba]?=some (.cells #[.slice (some ⟨bb,oo,none⟩) m c] 95)∧J (P++[er,em,d]++qf (eh.take (z+1))) W5 from⟨H4.out.1.trans (hk5.toBelow H4.out.1.size),hk5.typed (.inr (.inr rfl)) H4.out.2,by rw[←Hsn.out];exact hJ5⟩);clear hk5 hJ5 hy2 hR2 y1
                gi_wp2
                refine⟨⟨_,_,_,_,_,_,_,_,_,_,_,_,_,_,_,_,_,_,⟨z+1,by omega,?_,H5.out⟩,rfl⟩,?_⟩
                · go_num
                · simp[intOf];omega
              · have HX:=hid (show ∃pre,(∃rest,zl v=pre++rest)∧Jx pre W5 from⟨_,⟨_,HV2.out⟩,hJx5⟩);clear hJx5 hy2 hR2 y1
                gi_wp2
                go_wp2;refine bodyPost_ret (results_none rfl _ _ _) rfl ?_;exact⟨⟨_,rfl⟩,.inr HX.out⟩
            · have HX:=hid (show ∃pre,(∃rest,zl v=pre++rest)∧Jx pre W4 from⟨_,⟨_,HV1.out⟩,hJx4⟩);clear hJx4 hy hR c1 c2
              gi_wp2
              go_wp2;refine bodyPost_ret (results_none rfl _ _ _) rfl ?_;exact⟨⟨_,rfl⟩,.inr HX.out⟩
          · obtain rfl:z=d:=by omega
            have H5:=hid (show Below w0.heap.size w0 wr∧wr.heap[ba]?=some (.cells #[.slice (some ⟨bb,oo,none⟩) m c] 95)∧J (ke v (k+1)) wr from⟨hinv.out.1,hinv.out.2.1,by
             have e:P++[er,em,z]++qf (eh.take z)=P1:=by
              rw[Hst.out,List.take_of_length_le (by rw[Hlv.out];exact Nat.le_refl _),List.append_assoc];simp only[qz,Hlv.out]
              rfl
             rw[HP1.out,←e];exact hinv.out.2.2⟩)
            clear hinv
            gi_wp2
            go_roundw
            case rel=>exact⟨k+1,by omega,by go_num,H5.out⟩
            case measure=>simp[intOf];omega
    · obtain rfl:k=m:=by omega
      have hJk:=hinv.out.2.2;rw[←Hlen.out,zpr] at hJk;have HJk:=hid hJk;clear hJk
      gi_wp2
      refine bodyPost_end (results_none rfl _ _ _) rfl ?_;exact⟨⟨_,rfl⟩,.inl ⟨_,rfl,HJk.out⟩⟩
 · have HX:=hid (show ∃pre,(∃rest,zl v=pre++rest)∧Jx pre W3 from⟨[]++[m],⟨v.flatMap qz,by unfold zl;rw[Hlen.out];rfl⟩,hJx3⟩)
   gi_wp2
   refine bodyPost_ret (results_none rfl _ _ _) rfl ?_;exact⟨⟨_,rfl⟩,.inr HX.out⟩
end
