/- Walks and laws, joined: Wb08. -/
import Derived.Maps.Own
import Derived.Maps.OwnOps
import Derived.Maps.OwnSet
import Derived.Maps.RangeWalk
import Derived.Maps.Ext
import Derived.Test.YtdnjfnofjaoajaaGreatDoorWb07
set_option linter.unusedVariables false
namespace Go.Proofs.YtdnjfnofjaoajaaGreatDoor
section
def za (k:Kno) (i:Nat):Frg:=k.getD i ([],[])
theorem ym {k:Kno} {i:Nat} (h:i<k.length):za k i=k[i]:=by simp[za,h]
theorem yb {k:Kno} {i:Nat} (h:i<k.length):za k i∈k:=by rw[ym h];exact List.getElem_mem h
def zw (k:Kno) (x:Nat):List Nat:=(List.range k.length).filter fun i=>mem (za k i).1 x
theorem zhz {k:Kno} {x i:Nat}:i∈zw k x↔i<k.length∧mem (za k i).1 x=true:=by
 unfold zw;rw[List.mem_filter,List.mem_range]
theorem zrl {k:Kno} {x y:Nat} (h:∀f∈k,mem f.1 x=mem f.1 y):zw k x=zw k y:=by
 unfold zw;refine List.filter_congr fun i hi=>?_
 exact h _ (yb (List.mem_range.1 hi))
theorem zrm {k:Kno} {x y:Nat} (h:zw k x=zw k y):∀f∈k,mem f.1 x=mem f.1 y:=by
 intro f hf;obtain⟨i,hi,rfl⟩:=List.getElem_of_mem hf;rw[←ym hi,Bool.eq_iff_iff];have e:i∈zw k x↔i∈zw k y:=by rw[h]
 rw[zhz,zhz] at e;exact⟨fun hx=>(e.1 ⟨hi,hx⟩).2,fun hx=>(e.2 ⟨hi,hx⟩).2⟩
theorem zrn {k:Kno} {x:Nat}:zw k x=[]↔∀f∈k,mem f.1 x=false:=by
 constructor
 · intro h f hf;obtain⟨i,hi,rfl⟩:=List.getElem_of_mem hf;rw[←ym hi,←Bool.not_eq_true];intro hx;have:i∈zw k x:=zhz.2 ⟨hi,hx⟩;rw[h] at this;cases this
 · intro h;rw[List.eq_nil_iff_forall_not_mem];intro i hi;obtain⟨h1,h2⟩:=zhz.1 hi;rw[h _ (yb h1)] at h2;cases h2
def jh (k:Kno):List Nat:=zcs (qd (k.map (·.1)))
def zx (k:Kno):List Nat:=(jh k).filter fun x=>decide (x=0) || decide (zw k (x - 1)≠zw k x)
theorem zro (k:Kno):Asc (jh k):=zeq _
theorem zkc {k:Kno} {y:Nat}:y∈jh k↔y=0∨∃f∈k,y∈yh f.1:=by
 unfold jh;rw[zdl];simp[qd]
theorem znh {k:Kno} (hk:LtK k):∀y∈jh k,y<18446744073709551616:=by
 intro y hy;rcases zkc.1 hy with rfl | ⟨f,hf,h⟩
 · omega
 · exact zfo (hk f hf).items y h
theorem z0w {l:List Nat} (p:Nat→Bool) (h:Asc l):Asc (l.filter p):=by
 induction l with
 | nil=>trivial
 | cons a l ih=>
  rw[List.filter_cons];split
  · exact zd0 (fun x hx=>h.lower x (List.mem_filter.1 hx).1) (ih h.tail)
  · exact ih h.tail
theorem zd9 (k:Kno):Asc (zx k):=z0w _ (zro k)
theorem zh0 {k:Kno} {y:Nat}:y∈zx k↔y∈jh k∧(y=0∨zw k (y - 1)≠zw k y):=by
 unfold zx;rw[List.mem_filter,Bool.or_eq_true,decide_eq_true_iff,decide_eq_true_iff]
theorem zkd (k:Kno):0∈zx k:=zh0.2 ⟨zkc.2 (.inl rfl),.inl rfl⟩
theorem zni {k:Kno} (hk:LtK k):∀y∈zx k,y<18446744073709551616:=fun y hy=>znh hk y (zh0.1 hy).1
theorem z0x {k:Kno} (hk:LtK k) {x:Nat} (h0:0<x) (hx:x<18446744073709551616) (h:x∉zx k):zw k x=zw k (x - 1):=by
 by_cases ha:x∈jh k
 · refine Decidable.by_contra fun hne=>h (zh0.2 ⟨ha,.inr fun e=>hne e.symm⟩)
 · refine zrl fun f hf=>zfn (hk f hf).items (by omega) hx fun y hy hyx=>?_
   have:y=x:=by omega
   subst this;exact ha (zkc.2 (.inr ⟨f,hf,hy⟩))
theorem zke {k:Kno} (hk:LtK k) {c:Nat}:∀(x:Nat),c≤x→x<18446744073709551616→(∀y∈zx k,¬(c<y∧y≤x))→zw k x=zw k c
 | 0,hc,_,_=>by have:c=0:=by omega
                subst this;rfl
 | x+1,hc,hx,h=>by
   by_cases e:c=x+1
   · subst e;rfl
   · rw[z0x hk (by omega) hx (fun hm=>h _ hm ⟨by omega,Nat.le_refl _⟩),Nat.add_sub_cancel];exact zke hk x (by omega) (by omega) fun y hy hyx=>h y hy ⟨hyx.1,by omega⟩
def inK (k:Kno) (x:Nat):Bool:=decide (zw k x≠[])
def jz (k:Kno):List Iv:=(yx (inK k) (zx k)).filterMap fun p=>if p.2=true then some p.1 else none
def qt (k:Kno):Kno:=(jz k).map fun s=>([s],atK k s.1)
theorem zh1 {k:Kno} (hk:LtK k) {s:Iv} (hs:s∈jz k):s.1≤s.2∧s.2<18446744073709551616∧∀x,s.1≤x→x≤s.2→zw k x=zw k s.1:=by
 obtain⟨p,hp,he⟩:=List.mem_filterMap.1 hs;obtain⟨i,hi,rfl⟩:=List.getElem_of_mem hp;rw[zav] at hi;have e:=zgf (inK k) hi;rw[List.getElem?_eq_getElem (by rw[zav];exact hi)] at e;have e':=Option.some.inj e;rw[e'] at he;have hA:=zd9 k;have hL:=zni hk;have h0:=hL _ (za5 hi);by_cases h1:i+1<(zx k).length
 · rw[if_pos h1] at he;by_cases hin:inK k (nth (zx k) i)=true
   · have he3:=Option.some.inj ((if_pos hin).symm.trans he);clear he;subst he3;have h2:=zco hA (i:=i) (j:=i+1) (by omega) h1;have h3:=hL _ (za5 h1);refine⟨by simp only;omega,by simp only;omega,fun x hx1 hx2=>?_⟩;simp only at hx1 hx2 ⊢;refine zke hk x hx1 (by omega) fun y hy hyx=>?_
     obtain⟨j,hj,rfl⟩:=zml hy;rcases Nat.lt_trichotomy j i with h | h | h
     · have:=zco hA h hi;omega
     · subst h;omega
     · by_cases ej:j=i+1
       · subst ej;omega
       · have:=zco hA (i:=i+1) (j:=j) (by omega) hj;omega
   · exact absurd ((if_neg hin).symm.trans he) (by simp)
 · rw[if_neg h1] at he;by_cases hin:inK k (nth (zx k) i)=true
   · have he3:=Option.some.inj ((if_pos hin).symm.trans he);clear he;subst he3;refine⟨by simp only;omega,by simp only;omega,fun x hx1 hx2=>?_⟩;simp only at hx1 hx2 ⊢;refine zke hk x hx1 (by omega) fun y hy hyx=>?_
     obtain⟨j,hj,rfl⟩:=zml hy;rcases Nat.lt_trichotomy j i with h | h | h
     · have:=zco hA h hi;omega
     · subst h;omega
     · omega
   · exact absurd ((if_neg hin).symm.trans he) (by simp)
theorem zrp (f:Nat→Bool):∀{l:List Nat},Asc l→(l.Pairwise (· <·))→(yx f l).Pairwise fun p q=>p.1.2<q.1.1
 | [],_,_=>List.Pairwise.nil
 | [a],_,_=>by simp[yx]
 | a :: b :: r,h,hp=>by
   rw[yx];obtain⟨p1,p2⟩:=List.pairwise_cons.1 hp;refine List.pairwise_cons.2 ⟨fun q hq=>?_,zrp f h.tail p2⟩;obtain⟨i,hi,rfl⟩:=List.getElem_of_mem hq;rw[zav] at hi;have e:=zgf f hi;rw[List.getElem?_eq_getElem (by rw[zav];exact hi)] at e;have e':=Option.some.inj e;rw[e'];have hm:=za5 hi
   have hb:b≤nth (b :: r) i:=by
    rcases List.mem_cons.1 hm with e | hm
    · omega
    · have:=h.tail.lower _ hm;omega
   have hab:=p1 b (List.mem_cons_self ..);split <;> (simp only;omega)
theorem zrq:∀{l:List Nat},Asc l→l.Pairwise (· <·)
 | [],_=>List.Pairwise.nil
 | a :: l,h=>List.pairwise_cons.2 ⟨h.lower,zrq h.tail⟩
theorem z0y (k:Kno):(jz k).Pairwise fun s t=>s.2<t.1:=by
 have h:=zrp (inK k) (zd9 k) (zrq (zd9 k));unfold jz;refine List.Pairwise.filterMap _ (fun p q hpq s hs t ht=>?_) h;split at hs
 · split at ht
   · cases hs;cases ht;exact hpq
   · cases ht
 · cases hs
theorem zrr (f:Nat→Bool):∀{l:List Nat} {x:Nat},Asc l→(∀a,l.head?=some a→a≤x)→l≠[]→x<18446744073709551616→∃p∈yx f l,p.1.1≤x∧x≤p.1.2∧p.2=f p.1.1
 | [],x,_,_,h,_=>absurd rfl h
 | [a],x,_,h,_,hx=>⟨((a,18446744073709551615),f a),by simp[yx],h a rfl,by simp only;omega,rfl⟩
 | a :: b :: r,x,hA,h,_,hx=>by
   rw[yx];by_cases hb:b≤x
   · obtain⟨p,hp,h1⟩:=zrr f (l:=b :: r) (x:=x) hA.tail (fun c hc=>by cases hc;exact hb) (by simp) hx;exact⟨p,List.mem_cons_of_mem _ hp,h1⟩
   · have ha:=h a rfl;exact⟨((a,b - 1),f a),List.mem_cons_self ..,ha,by simp only;omega,rfl⟩
theorem z0z (k:Kno):∀a,(zx k).head?=some a→a=0:=by
 intro a ha;have h0:=zkd k;have hA:=zd9 k
 cases hs:zx k with
 | nil=>rw[hs] at h0;cases h0
 | cons b l=>
  rw[hs] at ha h0 hA;cases ha;rcases List.mem_cons.1 h0 with e | e
  · exact e.symm
  · have:=hA.lower 0 e;omega
theorem z00 {k:Kno} (hk:LtK k) {x:Nat} (h:zw k x≠[]):∃s∈jz k,s.1≤x∧x≤s.2:=by
 have hx:x<18446744073709551616:=by
  refine Nat.lt_of_not_le fun hge=>h (zrn.2 fun f hf=>zho (hk f hf).items hge)
 obtain⟨p,hp,h1,h2,h3⟩:=zrr (inK k) (l:=zx k) (x:=x) (zd9 k) (fun a ha=>by rw[z0z k a ha];exact Nat.zero_le _) (List.ne_nil_of_mem (zkd k)) hx
 have hc:inK k p.1.1=true:=by
  obtain⟨i,hi,rfl⟩:=List.getElem_of_mem hp;have hi':=hi;rw[zav] at hi';have e:=zgf (inK k) hi';rw[List.getElem?_eq_getElem hi] at e;have e':=Option.some.inj e;rw[e'] at h1 h2 ⊢
  have hcx:zw k x=zw k (nth (zx k) i):=by
   have hA:=zd9 k;refine zke hk x (by split at h1 <;> exact h1) hx fun y hy hyx=>?_
   obtain⟨j,hj,rfl⟩:=zml hy;rcases Nat.lt_trichotomy j i with g | g | g
   · have:=zco hA g hi';omega
   · subst g;omega
   · split at h2
     · rename_i g1;simp only at h2;have g2:=zco hA (i:=i) (j:=i+1) (by omega) g1;by_cases ej:j=i+1
       · subst ej;omega
       · have:=zco hA (i:=i+1) (j:=j) (by omega) hj;omega
     · omega
  have hne:zw k (nth (zx k) i)≠[]:=by rw[←hcx];exact h
  unfold inK;split <;> exact decide_eq_true hne
 exact⟨p.1,List.mem_filterMap.2 ⟨p,hp,by rw[if_pos (h3.trans hc)]⟩,h1,h2⟩
theorem zrs {k:Kno} {x y:Nat} (h:zw k x=zw k y) (r c:Nat):kr k x r c=kr k y r c:=by
 rw[Bool.eq_iff_iff,zdm,zdm];have e:=zrm h;constructor
 · rintro⟨f,hf,h1,h2⟩;exact⟨f,hf,by rw[←e f hf];exact h1,h2⟩
 · rintro⟨f,hf,h1,h2⟩;exact⟨f,hf,by rw[e f hf];exact h1,h2⟩
theorem zrt {k:Kno} (hk:LtK k):
 (∀f∈qt k,∃s:Iv,f.1=[s]∧s.1≤s.2∧s.2<18446744073709551616∧CanV f.2∧LtV f.2)∧
 (qt k).Pairwise (fun f g=>∀x,mem f.1 x=true→mem g.1 x=true→False)∧
 ∀x r c,kr (qt k) x r c=kr k x r c:=by
 refine⟨fun f hf=>?_,?_,fun x r c=>?_⟩
 · obtain⟨s,hs,rfl⟩:=List.mem_map.1 hf;obtain⟨h1,h2,_⟩:=zh1 hk hs;exact⟨s,rfl,h1,h2,(zc1 hk s.1).1,(zc1 hk s.1).2.1⟩
 · unfold qt;rw[List.pairwise_map];refine(z0y k).imp fun {s t} hst x hx hy=>?_
   simp[mem] at hx hy;omega
 · rw[Bool.eq_iff_iff];constructor
   · intro h;obtain⟨f,hf,h1,h2⟩:=zdm.1 h;obtain⟨s,hs,rfl⟩:=List.mem_map.1 hf;simp[mem] at h1;obtain⟨_,_,h3⟩:=zh1 hk hs;rw[zrs (h3 x h1.1 h1.2)];rw[←(zc1 hk s.1).2.2];exact h2
   · intro h
     have hne:zw k x≠[]:=by
      intro e;obtain⟨f,hf,h1,_⟩:=zdm.1 h;rw[zrn.1 e f hf] at h1;cases h1
     obtain⟨s,hs,h1,h2⟩:=z00 hk hne;obtain⟨_,_,h3⟩:=zh1 hk hs;refine zdm.2 ⟨([s],atK k s.1),List.mem_map.2 ⟨s,hs,rfl⟩,by simp[mem];omega,?_⟩;show ju (atK k s.1) r c=true;rw[(zc1 hk s.1).2.2,←zrs (h3 x h1 h2)];exact h
end
section
open Go.RowKit
theorem zcc (w:World) (x y z:Value) (T:TypeId) (w':World) (h:Below (w.alloc (.cells #[x,y,z] T)).heap.size (w.alloc (.cells #[x,y,z] T)) w'):
 w'.cell? ⟨w.heap.size,0,none⟩=some x∧w'.cell? ⟨w.heap.size,1,none⟩=some y∧w'.cell? ⟨w.heap.size,2,none⟩=some z:=by
 have hrow:(w.alloc (.cells #[x,y,z] T)).heap[w.heap.size]?=some (.cells #[x,y,z] T):=z7 rfl
 exact⟨(h.cell (p:=⟨w.heap.size,0,none⟩) (by simp)).trans (zu (i:=0) hrow rfl),
  (h.cell (p:=⟨w.heap.size,1,none⟩) (by simp)).trans (zu (i:=1) hrow rfl),
  (h.cell (p:=⟨w.heap.size,2,none⟩) (by simp)).trans (zu (i:=2) hrow rfl)⟩
theorem Ents.at {w:World} {b o n cap:Nat} {v:Vec} (h:Ents w (some ⟨b,o,none⟩) n cap v) {k:Nat} (hk:k<n):∀w',Below w.heap.size w w'→
 w'.cell? ⟨b,o+k*3,none⟩=some (.int .u64 (((zc v k).1:Nat):Int))∧w'.cell? ⟨b,o+k*3+1,none⟩=some (.int .u64 (((zc v k).2.1:Nat):Int))∧
  ∃x m c,w'.cell? ⟨b,o+k*3+2,none⟩=some (.slice x m c)∧Ivs w' x m c (zc v k).2.2:=by
 intro w' hb;obtain⟨b',o',hs,hc⟩:=h.cells (by omega);cases hs;obtain⟨h1,h2,x,m,c,h3,h4⟩:=hc k hk;exact⟨(hb.cell (p:=⟨b,o+k*3,none⟩) (ze h1)).trans h1,(hb.cell (p:=⟨b,o+k*3+1,none⟩) (ze h2)).trans h2,x,m,c,(hb.cell (p:=⟨b,o+k*3+2,none⟩) (ze h3)).trans h3,h4.below hb⟩
theorem Ents.fix {w:World} {b o n cap:Nat} {v:Vec} (h:Ents w (some ⟨b,o,none⟩) n cap v) {k:Nat} (hk:k<n):∃x m c,∀w',Below w.heap.size w w'→
 w'.cell? ⟨b,o+k*3,none⟩=some (.int .u64 (((zc v k).1:Nat):Int))∧w'.cell? ⟨b,o+k*3+1,none⟩=some (.int .u64 (((zc v k).2.1:Nat):Int))∧
  w'.cell? ⟨b,o+k*3+2,none⟩=some (.slice x m c)∧Ivs w' x m c (zc v k).2.2:=by
 obtain⟨b',o',hs,hc⟩:=h.cells (by omega);cases hs;obtain⟨h1,h2,x,m,c,h3,h4⟩:=hc k hk;exact⟨x,m,c,fun w' hb=>⟨(hb.cell (p:=⟨b,o+k*3,none⟩) (ze h1)).trans h1,(hb.cell (p:=⟨b,o+k*3+1,none⟩) (ze h2)).trans h2,(hb.cell (p:=⟨b,o+k*3+2,none⟩) (ze h3)).trans h3,h4.below hb⟩⟩
theorem Ents.some {w:World} {a:Option Addr} {n cap:Nat} {v:Vec} (h:Ents w a n cap v) (hn:0<n):∃b o,a=some ⟨b,o,none⟩:=by
 obtain⟨b,o,ha,-⟩:=h.cells hn;exact⟨b,o,ha⟩
def zey (v:Vec) (r:Nat):Option Nat:=qj (fun i=>if (zc v i).1=r then some i else none) v.length
def zax (o:Option Nat):Int:=match o with | some i=>(i:Int) | none=> -1
theorem zru {v:Vec} {r i:Nat} (h:zey v r=some i):i<v.length∧(zc v i).1=r:=by
 obtain⟨k,h1,-,h3⟩:=zd6 h;split at h3
 · rename_i h4;cases h3;exact⟨h1,h4⟩
 · cases h3
theorem z01 {v:Vec} {r:Nat} (h:zey v r=none):∀e∈v,e.1≠r:=by
 intro e he hr;obtain⟨i,hi,rfl⟩:=List.getElem_of_mem he;have:=zd5 h i hi;rw[qn hi,if_pos hr] at this;cases this
def Row (w:World) (g:Nat) (T:TypeId) (C:List Value):Prop:=w.heap[g]?=some (.cells C.toArray T)
theorem Row.lt {w:World} {g:Nat} {T:TypeId} {C:List Value} (h:Row w g T C):g<w.heap.size:=(Array.getElem?_eq_some_iff.1 h).1
theorem Row.cell {w:World} {g:Nat} {T:TypeId} {C:List Value} (h:Row w g T C) (i:Nat) {v:Value} (hv:C[i]?=some v):w.cell? ⟨g,i,none⟩=some v:=by
 unfold Row at h;simp[World.cell?,h,hv]
theorem Row.fz {w:World} {g:Nat} {T:TypeId} {C:List Value} (h:Row w g T C) (i:Nat):w.frozen? ⟨g,i,none⟩=false:=by
 unfold Row at h;simp[World.frozen?,h]
theorem Row.set {w:World} {g:Nat} {T:TypeId} {C:List Value} (h:Row w g T C) (i:Nat) (v:Value):Row (w.setCell ⟨g,i,none⟩ v) g T (C.set i v):=by
 have:=heap_setCell_same w g i C.toArray T v h;unfold Row;rw[this];simp
theorem Row.same {w w':World} {g:Nat} {T:TypeId} {C:List Value} (h:Row w g T C) (hk:w'.heap[g]?=w.heap[g]?):Row w' g T C:=hk.trans h
theorem Row.other {w:World} {g:Nat} {T:TypeId} {C:List Value} (h:Row w g T C) {a:Addr} (ha:g≠a.block) (v:Value):Row (w.setCell a v) g T C:=h.same (heap_setCell_other w a g v ha)
theorem Row.below {w w':World} {g n:Nat} {T:TypeId} {C:List Value} (h:Row w g T C) (hb:Below n w w') (hg:g<n):Row w' g T C:=h.same (hb.block g hg)
theorem Row.later {w w':World} {g:Nat} {T:TypeId} {C:List Value} (h:Row w g T C) (hb:Below w.heap.size w w'):Row w' g T C:=h.below hb h.lt
theorem Row.grown {w w':World} {g:Nat} {T:TypeId} {C:List Value} {r:Option Nat} (h:Row w g T C) (hg:w.grownBy w' r) (hr:some g≠r):Row w' g T C:=h.same (hg.block g h.lt hr)
theorem Row.drew {w:World} {g:Nat} {T:TypeId} {C:List Value} (h:Row w g T C) (n:Nat):Row (w.drewN n) g T C:=h
theorem zcd (w:World) (T:TypeId) (C:List Value):Row (w.alloc (.cells C.toArray T)) w.heap.size T C:=heap_alloc_new w _
theorem Row.steady {w w':World} {base g:Nat} {T:TypeId} {C:List Value} {P:TypeId→Prop} (h:Row w g T C) (hs:Steady base P w w') (hT:P T∨g<base):Row w' g T C:=
 h.same (hs.row g h.lt (hT.symm.imp id fun hP=>⟨_,_,_,hP,h⟩))
theorem za7 (w:World) (g i:Nat) (v:Value):w.grownBy (w.setCell ⟨g,i,none⟩ v) (some g):=
 ⟨rfl,rfl,rfl,by simp,fun k hk hne=>heap_setCell_other w ⟨g,i,none⟩ k v (fun e=>hne (by simp[e]))⟩
theorem zgl (w:World) (r:Option Nat):w.grownBy w r:=⟨rfl,rfl,rfl,Nat.le_refl _,fun _ _ _=>rfl⟩
theorem za8 {w w':World} {r:Option Nat} (h:w.grownBy w' r) {a:Addr} (v:Value) (ha:w.heap.size≤a.block∨some a.block=r):w.grownBy (w'.setCell a v) r:=
 ⟨h.os,h.tape,h.output,by simpa using h.size,fun k hk hne=>(heap_setCell_other w' a k v (fun e=>by
  rcases ha with h' | h'
  · omega
  · exact hne (by rw[←h',e]))).trans (h.block k hk hne)⟩
end
section
def zb2 (e:Ent) (i:Nat):Option (Nat×Nat):=if e.2.1<(zb e.2.2 i).2 then some (4,i) else none
def ckE (e:Ent):Option (Nat×Nat):=match ck e.2.2 with | some x=>some x | none=>qj (zb2 e) e.2.2.length
def zc2 (v:Vec) (i:Nat):Option (Nat×Nat):=match ckE (zc v i) with | some x=>some (x.1,i) | none=>if 0<i∧(zc v i).1≤(zc v (i - 1)).1 then some (3,i) else none
def ckV (v:Vec):Option (Nat×Nat):=qj (zc2 v) v.length
def zc3 (k:Kno) (i:Nat):Option (Nat×Nat):=match ck (za k i).1 with | some x=>some (x.1,i) | none=>match ckV (za k i).2 with | some x=>some (x.1,i) | none=>none
def ckF (k:Kno):Option (Nat×Nat):=qj (zc3 k) k.length
theorem zh2 {l:List Iv} {x:Nat×Nat} (h:ck l=some x):x.1≠0:=by
 obtain⟨k,-,-,h3⟩:=zd6 h;unfold zbm at h3;split at h3
 · cases h3;simp
 · split at h3 <;> cases h3;simp
theorem zkf {e:Ent} {x:Nat×Nat} (h:ckE e=some x):x.1≠0:=by
 unfold ckE at h;split at h
 · rename_i y hy;cases h;exact zh2 hy
 · obtain⟨k,-,-,h3⟩:=zd6 h;unfold zb2 at h3;split at h3 <;> cases h3;simp
theorem zkg {v:Vec} {x:Nat×Nat} (h:ckV v=some x):x.1≠0:=by
 obtain⟨k,-,-,h3⟩:=zd6 h;unfold zc2 at h3;split at h3
 · rename_i y hy;cases h3;have:=zkf hy;exact this
 · split at h3 <;> cases h3;simp
theorem zh3 {e:Ent}:ckE e=none↔Good e.2.2∧∀s∈e.2.2,s.2≤e.2.1:=by
 unfold ckE
 cases h:ck e.2.2 with
 | some x=>
  simp only[reduceCtorEq,false_iff];intro h2
  rw[zj1.2 h2.1] at h;cases h
 | none=>
  simp only;constructor
  · intro h2;refine⟨zj1.1 h,fun s hs=>?_⟩;obtain⟨i,hi,rfl⟩:=List.getElem_of_mem hs;have:=zd5 h2 i hi;unfold zb2 at this;split at this
    · cases this
    · rename_i h3;rw[qf hi] at h3;omega
  · rintro⟨-,h2⟩;refine k7 fun i hi=>?_
    unfold zb2;rw[if_neg];have:=h2 _ (zaa hi);omega
theorem zkh {v:Vec}:ckV v=none↔v.Pairwise kd∧∀e∈v,ckE e=none:=by
 constructor
 · intro h;have hi:=zd5 h
   have h1:∀i,i<v.length→ckE (zc v i)=none∧(0<i→(zc v (i - 1)).1<(zc v i).1):=fun i hi'=>by
    have:=hi i hi';unfold zc2 at this;split at this
    · cases this
    · rename_i h2;refine⟨h2,fun h0=>?_⟩;split at this
      · cases this
      · omega
   refine⟨?_,fun e he=>?_⟩
   · rw[List.pairwise_iff_getElem];intro i j hi' hj hij;unfold kd
     have step:∀d,i+d+1<v.length→(zc v i).1<(zc v (i+d+1)).1:=by
      intro d
      induction d with
      | zero=>intro hd;have:=(h1 (i+1) hd).2 (by omega);simpa using this
      | succ d ih=>
       intro hd;have a:=ih (by omega);have b:=(h1 (i+(d+1)+1) hd).2 (by omega);rw[show i+(d+1)+1 - 1=i+d+1 by omega] at b;omega
     have:=step (j - i - 1) (by omega);rw[show i+(j - i - 1)+1=j by omega,qn hi',qn hj] at this;exact this
   · obtain⟨i,hi',rfl⟩:=List.getElem_of_mem he;have:=(h1 i hi').1;rwa [qn hi'] at this
 · rintro⟨h1,h2⟩;refine k7 fun i hi=>?_
   unfold zc2;rw[h2 _ (jb hi)];simp only;rw[if_neg];rintro⟨h0,h3⟩;rw[List.pairwise_iff_getElem] at h1;have:=h1 (i - 1) i (by omega) hi (by omega);unfold kd at this;rw[qn hi,qn (show i - 1<v.length by omega)] at h3;omega
theorem zez {k:Kno}:ckF k=none↔∀f∈k,Good f.1∧ckV f.2=none:=by
 constructor
 · intro h f hf;obtain⟨i,hi,rfl⟩:=List.getElem_of_mem hf;have:=zd5 h i hi;unfold zc3 at this;rw[ym hi] at this;split at this
   · cases this
   · rename_i h1;split at this
     · cases this
     · rename_i h2;exact⟨zj1.1 h1,h2⟩
 · intro h;refine k7 fun i hi=>?_
   have:=h _ (yb hi);unfold zc3;rw[zj1.2 this.1,this.2]
def ve (e:Ent):Bool:=decide (ckE e=none) && !mem e.2.2 e.2.1
theorem zrv {e:Ent}:ve e=true↔CanE e:=by
 unfold ve;rw[Bool.and_eq_true,decide_eq_true_iff,zh3,Bool.not_eq_true'];constructor
 · rintro⟨⟨h1,h2⟩,h3⟩;exact⟨h1,h2,h3⟩
 · rintro⟨h1,h2,h3⟩;exact⟨⟨h1,h2⟩,h3⟩
def za9 (v:Vec):Bool:=decide (ckV v=none) && v.all ve
theorem znj {v:Vec}:za9 v=true↔CanV v:=by
 unfold za9;rw[Bool.and_eq_true,decide_eq_true_iff,zkh,List.all_eq_true];constructor
 · rintro⟨⟨h1,h2⟩,h3⟩;exact⟨h1,fun e he=>zrv.1 (h3 e he)⟩
 · rintro⟨h1,h2⟩;exact⟨⟨h1,fun e he=>zh3.2 ⟨(h2 e he).good,(h2 e he).below⟩⟩,fun e he=>zrv.2 (h2 e he)⟩
def ke:Kno→Frg→Kno
 | [],f=>[f]
 | g :: k,f=>if yk g.2 f.2= -1 then g :: ke k f else if yk g.2 f.2=0 then (opL gOr g.1 f.1,f.2) :: k else f :: g :: k
def qg:Kno→Vec→Nat
 | [],_=>0
 | g :: k,v=>if yk g.2 v= -1 then qg k v+1 else 0
def zbg:Kno→Vec→Bool
 | [],_=>false
 | g :: k,v=>if yk g.2 v= -1 then zbg k v else decide (yk g.2 v=0)
theorem znk:∀(k:Kno) (v:Vec),qg k v≤k.length
 | [],_=>Nat.le_refl _
 | g :: k,v=>by
   rw[qg];have:=znk k v;split
   · simp only[List.length_cons];omega
   · exact Nat.zero_le _
theorem zki:∀{k:Kno} {v:Vec} (h:qg k v<k.length),yk (za k (qg k v)).2 v≠ -1∧zbg k v=decide (yk (za k (qg k v)).2 v=0)
 | [],v,h=>by simp at h
 | g :: k,v,h=>by
   rw[qg] at h ⊢;rw[zbg];split at h
   · rename_i hc;rw[if_pos hc,if_pos hc];exact zki (k:=k) (v:=v) (by simpa using h)
   · rename_i hc;rw[if_neg hc,if_neg hc];exact⟨hc,rfl⟩
theorem zkj:∀{k:Kno} {v:Vec} (h:qg k v=k.length),zbg k v=false
 | [],v,h=>rfl
 | g :: k,v,h=>by
   rw[qg] at h;rw[zbg];split at h
   · rename_i hc;rw[if_pos hc];exact zkj (by simpa using h)
   · simp at h
theorem zh4:∀{k:Kno} {v:Vec} {i:Nat},i≤k.length→(∀j,j<i→yk (za k j).2 v= -1)→(i<k.length→yk (za k i).2 v≠ -1)→i=qg k v
 | [],v,i,hi,_,_=>by simp at hi;rw[hi,qg]
 | g :: k,v,0,hi,h1,h2=>by
   have h3:yk g.2 v≠ -1:=h2 (by simp)
   rw[qg,if_neg h3]
 | g :: k,v,i+1,hi,h1,h2=>by
   have h3:yk g.2 v= -1:=h1 0 (by omega);rw[qg,if_pos h3];have:=zh4 (k:=k) (v:=v) (i:=i) (by simpa using hi) (fun j hj=>h1 (j+1) (by omega)) (fun h=>h2 (by simpa using h));omega
theorem znl:∀{k:Kno} {f:Frg},zbg k f.2=true→ke k f=k.set (qg k f.2) (opL gOr (za k (qg k f.2)).1 f.1,f.2)
 | [],f,h=>by simp[zbg] at h
 | g :: k,f,h=>by
   rw[zbg] at h;rw[ke,qg];split at h
   · rename_i hc;rw[if_pos hc,if_pos hc,znl h];rfl
   · rename_i hc;rw[if_neg hc,if_neg hc,if_pos (of_decide_eq_true h)];rfl
theorem zkk:∀{k:Kno} {f:Frg},zbg k f.2=false→ke k f=k.take (qg k f.2)++f :: k.drop (qg k f.2)
 | [],f,h=>rfl
 | g :: k,f,h=>by
   rw[zbg] at h;rw[ke,qg];split at h
   · rename_i hc;rw[if_pos hc,if_pos hc,zkk h];rfl
   · rename_i hc;rw[if_neg hc,if_neg hc,if_neg (of_decide_eq_false h)];rfl
structure GrpF (f:Frg):Prop where
 good:Good f.1
 some:f.1≠[]
 items:zq f.1
 can:CanV f.2
 any:f.2≠[]
 vec:LtV f.2
def zcu (k:Kno) (x:Nat) (v:Vec):Prop:=∃h∈k,mem h.1 x=true∧h.2=v
theorem z02 {a b:List Iv} (ha:zq a) (hb:zq b) (hg:Good b) (hn:b≠[]):opL gOr a b≠[]:=by
 intro h;obtain⟨x,hx⟩:=zj3 hg hn;have:=(zai (g:=gOr) ha hb rfl).2.1 x;rw[h,hx,zbx] at this;simp[gOr] at this
theorem znm:∀{k:Kno} {f h:Frg},h∈ke k f→h.2=f.2∨∃g∈k,g.2=h.2
 | [],f,h,hh=>by simp[ke] at hh;exact .inl (by rw[hh])
 | g :: k,f,h,hh=>by
   rw[ke] at hh;split at hh
   · rcases List.mem_cons.1 hh with rfl | hh
     · exact .inr ⟨_,List.mem_cons_self ..,rfl⟩
     · rcases znm hh with e | ⟨g',hg',e⟩
       · exact .inl e
       · exact .inr ⟨g',List.mem_cons_of_mem _ hg',e⟩
   · split at hh
     · rcases List.mem_cons.1 hh with rfl | hh
       · exact .inl rfl
       · exact .inr ⟨h,List.mem_cons_of_mem _ hh,rfl⟩
     · rcases List.mem_cons.1 hh with rfl | hh
       · exact .inl rfl
       · exact .inr ⟨h,hh,rfl⟩
theorem znn:∀{k:Kno} {f:Frg},(∀g∈k,GrpF g)→k.Pairwise jy→GrpF f→
 (∀g∈ke k f,GrpF g)∧(ke k f).Pairwise jy∧∀x v,zcu (ke k f) x v↔zcu k x v∨(mem f.1 x=true∧f.2=v)
 | [],f,_,_,hf=>by
   refine⟨fun g hg=>?_,?_,fun x v=>?_⟩
   · simp[ke] at hg;subst hg;exact hf
   · simp[ke]
   · simp[ke,zcu]
 | g :: k,f,hk,hp,hf=>by
   obtain⟨p1,p2⟩:=List.pairwise_cons.1 hp;have hg:=hk g (List.mem_cons_self ..);have hk':∀g∈k,GrpF g:=fun g hg=>hk g (List.mem_cons_of_mem _ hg)
   rw[ke];by_cases h1:yk g.2 f.2= -1
   · rw[if_pos h1];obtain⟨i1,i2,i3⟩:=znn hk' p2 hf;refine⟨fun e he=>?_,List.pairwise_cons.2 ⟨fun e he=>?_,i2⟩,fun x v=>?_⟩
     · rcases List.mem_cons.1 he with rfl | he
       · exact hg
       · exact i1 e he
     · unfold jy;rcases znm he with e1 | ⟨g',hg',e1⟩
       · rw[e1];exact h1
       · rw[←e1];exact p1 g' hg'
     · have:=i3 x v;unfold zcu at this ⊢;simp only[List.mem_cons,exists_eq_or_imp,or_assoc];rw[this]
   · rw[if_neg h1];by_cases h2:yk g.2 f.2=0
     · rw[if_pos h2];have ev:=zq2 h2;obtain⟨o1,o2,o3⟩:=zai (g:=gOr) hg.items hf.items rfl;refine⟨fun e he=>?_,List.pairwise_cons.2 ⟨fun e he=>?_,p2⟩,fun x v=>?_⟩
       · rcases List.mem_cons.1 he with rfl | he
         · exact⟨o1,z02 hg.items hf.items hf.good hf.some,o3,hf.can,hf.any,hf.vec⟩
         · exact hk' e he
       · have:=p1 e he;unfold jy at this ⊢;simp only;rw[←ev];exact this
       · unfold zcu;simp only[List.mem_cons,exists_eq_or_imp,o2,gOr,Bool.or_eq_true,ev];constructor
         · rintro(⟨h | h,e⟩ | h)
           · exact .inl (.inl ⟨h,e⟩)
           · exact .inr ⟨h,e⟩
           · exact .inl (.inr h)
         · rintro((⟨h,e⟩ | h) | ⟨h,e⟩)
           · exact .inl ⟨.inl h,e⟩
           · exact .inr h
           · exact .inl ⟨.inr h,e⟩
     · rw[if_neg h2]
       have h3:yk f.2 g.2= -1:=by
        rw[z0m g.2 f.2];rcases zet g.2 f.2 with e | e | e
        · exact absurd e h1
        · exact absurd e h2
        · rw[e]
       refine⟨fun e he=>?_,List.pairwise_cons.2 ⟨fun e he=>?_,hp⟩,fun x v=>?_⟩
       · rcases List.mem_cons.1 he with rfl | he
         · exact hf
         · exact hk e he
       · rcases List.mem_cons.1 he with rfl | he
         · exact h3
         · exact zgj h3 (p1 e he)
       · unfold zcu;simp only[List.mem_cons,exists_eq_or_imp];constructor
         · rintro(h | h)
           · exact .inr h
           · exact .inl h
         · rintro(h | h)
           · exact .inr h
           · exact .inl h
def stepG (out:Kno) (f:Frg):Kno:=if jm f.2=[]∨f.1=[] then out else ke out (f.1,jm f.2)
def zce (k:Kno):Kno:=k.foldl stepG []
structure RawF (f:Frg):Prop where
 good:Good f.1
 lt:LtF f
theorem zrw {f:Frg} (h:RawF f) (h1:¬(jm f.2=[]∨f.1=[])):GrpF (f.1,jm f.2):=by
 obtain⟨c1,c2,_⟩:=zhx h.lt.vec h.lt.asc;exact⟨h.good,fun e=>h1 (.inr e),h.lt.items,c1,fun e=>h1 (.inl e),c2⟩
theorem zh5:∀{k out:Kno},(∀f∈k,RawF f)→(∀g∈out,GrpF g)→out.Pairwise jy→
 (∀g∈k.foldl stepG out,GrpF g)∧(k.foldl stepG out).Pairwise jy∧
   ∀x v,v≠[]→(zcu (k.foldl stepG out) x v↔zcu out x v∨∃d∈k,mem d.1 x=true∧jm d.2=v)
 | [],out,_,h2,h3=>⟨h2,h3,fun x v _=>by simp⟩
 | f :: k,out,h1,h2,h3=>by
   rw[List.foldl_cons];have hf:=h1 f (List.mem_cons_self ..);have hk:∀f∈k,RawF f:=fun g hg=>h1 g (List.mem_cons_of_mem _ hg)
   by_cases hc:jm f.2=[]∨f.1=[]
   · have e:stepG out f=out:=by unfold stepG;rw[if_pos hc]
     rw[e];obtain⟨k1,k2,k3⟩:=zh5 hk h2 h3;refine⟨k1,k2,fun x v hv=>?_⟩;rw[k3 x v hv];simp only[List.mem_cons,exists_eq_or_imp];constructor
     · rintro(h | h)
       · exact .inl h
       · exact .inr (.inr h)
     · rintro(h | ⟨h4,h5⟩ | h)
       · exact .inl h
       · rcases hc with e | e
         · exact absurd (h5.symm.trans e) hv
         · rw[e,zbx] at h4;cases h4
       · exact .inr h
   · have e:stepG out f=ke out (f.1,jm f.2):=by unfold stepG;rw[if_neg hc]
     rw[e];obtain⟨a1,a2,a3⟩:=znn h2 h3 (zrw hf hc);obtain⟨k1,k2,k3⟩:=zh5 hk a1 a2;refine⟨k1,k2,fun x v hv=>?_⟩;rw[k3 x v hv,a3];simp only[List.mem_cons,exists_eq_or_imp,or_assoc]
theorem z03 {k:Kno} {x r c:Nat}:kr k x r c=true↔∃v,zcu k x v∧ju v r c=true:=by
 rw[zdm];constructor
 · rintro⟨f,hf,h1,h2⟩;exact⟨f.2,⟨f,hf,h1,rfl⟩,h2⟩
 · rintro⟨v,⟨f,hf,h1,rfl⟩,h2⟩;exact⟨f,hf,h1,h2⟩
theorem zno {v:Vec} {r c:Nat} (h:ju v r c=true):v≠[]:=by
 intro e;subst e;simp[ju] at h
theorem z04 {k:Kno} (h:∀f∈k,RawF f):(∀g∈zce k,GrpF g)∧(zce k).Pairwise jy∧(∀x v,v≠[]→(zcu (zce k) x v↔∃d∈k,mem d.1 x=true∧jm d.2=v))∧
 ∀x r c,kr (zce k) x r c=kr k x r c:=by
 obtain⟨h1,h2,h3⟩:=zh5 (out:=[]) h (fun g hg=>by cases hg) List.Pairwise.nil
 have h4:∀x v,v≠[]→(zcu (zce k) x v↔∃d∈k,mem d.1 x=true∧jm d.2=v):=fun x v hv=>by
  unfold zce;rw[h3 x v hv];simp[zcu]
 refine⟨h1,h2,h4,fun x r c=>?_⟩;rw[Bool.eq_iff_iff,z03,zdm];constructor
 · rintro⟨v,hv,hk⟩;obtain⟨d,hd,d1,rfl⟩:=(h4 x v (zno hk)).1 hv;exact⟨d,hd,d1,by rw[←(zhx (h d hd).lt.vec (h d hd).lt.asc).2.2];exact hk⟩
 · rintro⟨d,hd,d1,hk⟩;rw[←(zhx (h d hd).lt.vec (h d hd).lt.asc).2.2] at hk;exact⟨_,(h4 x _ (zno hk)).2 ⟨d,hd,d1,rfl⟩,hk⟩
def zh (k:Kno):Kno:=zce (qt k)
theorem z05 {k:Kno} (h:k.Pairwise (fun f g=>∀x,mem f.1 x=true→mem g.1 x=true→False)) {f g:Frg} (hf:f∈k) (hg:g∈k) {x:Nat} (h1:mem f.1 x=true) (h2:mem g.1 x=true):f=g:=by
 induction k with
 | nil=>cases hf
 | cons a k ih=>
  obtain⟨p,q⟩:=List.pairwise_cons.1 h;rcases List.mem_cons.1 hf with rfl | hf2
  · rcases List.mem_cons.1 hg with e | hg2
    · exact e.symm
    · exact(p g hg2 x h1 h2).elim
  · rcases List.mem_cons.1 hg with rfl | hg2
    · exact(p f hf2 x h2 h1).elim
    · exact ih q hf2 hg2
theorem z06 {s:Iv} (h:s.1≤s.2):Good [s]:=h
theorem zkl {k:Kno} (hk:LtK k):∀f∈qt k,RawF f:=by
 intro f hf;obtain⟨s,h1,h2,h3,h4,h5⟩:=(zrt hk).1 f hf;refine⟨by rw[h1];exact z06 h2,⟨by rw[h1];exact zer (by omega) h3,h5,h4.asc⟩⟩
theorem zh6 {k:Kno} (hk:LtK k):CanK (zh k)∧LtK (zh k)∧∀x r c,kr (zh k) x r c=kr k x r c:=by
 obtain⟨r1,r2,r3⟩:=zrt hk;obtain⟨g1,g2,g3,g4⟩:=z04 (zkl hk);refine⟨⟨fun f hf=>⟨(g1 f hf).good,(g1 f hf).some⟩,fun f hf=>⟨(g1 f hf).can,(g1 f hf).any⟩,fun f hf g hg x hx hy=>?_,g2⟩,fun f hf=>⟨(g1 f hf).items,(g1 f hf).vec,(g1 f hf).can.asc⟩,fun x r c=>?_⟩
 · obtain⟨d,hd,d1,d2⟩:=(g3 x f.2 (g1 f hf).any).1 ⟨f,hf,hx,rfl⟩;obtain⟨e,he,e1,e2⟩:=(g3 x g.2 (g1 g hg).any).1 ⟨g,hg,hy,rfl⟩;have:=z05 r2 hd he d1 e1;subst this;exact zm2 g2 hf hg (d2.symm.trans e2)
 · unfold zh;rw[g4,r3]
end
section
open Go.RowKit
def brk (k:Kno) (i:Nat) (B:List Iv) (n:Nat):Bool:=match n with
 | 0=>decide ((za k i).1=[]∨(za k i).2=[])
 | 1=> !za9 (za k i).2
 | 2=> !zbz (za k i).1 B
 | _=>decide (0<i∧yk (za k (i - 1)).2 (za k i).2≠ -1)
def zc4 (n:Nat):Nat:=match n with | 0=>9 | 1=>10 | 2=>10 | _=>3
attribute [local go_sem] vq
end
section
open Go.RowKit Go.Maps
def zP:Value:=.agg #[.slice none 0 0,.slice none 0 0]
def zrx:Value→Bool
 | .slice _ _ _=>true
 | _=>false
def z07:List Value→Bool
 | [x,y]=>zrx x && zrx y
 | _=>false
def isP:Value→Bool
 | .agg cs=>z07 cs.toList
 | _=>false
def rP (v:Value):Option (DataW Value×List MemPlace):=if isP v=true then some (.held v,[]) else none
theorem zry (a:Option Addr) (n c:Nat) (a':Option Addr) (n' c':Nat):rP (.agg #[.slice a n c,.slice a' n' c'])=some (.held (.agg #[.slice a n c,.slice a' n' c']),[]):=rfl
theorem z08 {v u:Value} {ps:List MemPlace} (h:rP v=some (.held u,ps)):v=u:=by
 unfold rP at h;split at h
 · simp at h;exact h.1
 · cases h
theorem wfU {x:Nat} (h:x<18446744073709551616):(Lit.int .u64 (x:Int)).wf=true:=by
 simp[Lit.wf,IntKind.min,IntKind.max,IntKind.signed,IntKind.bits];omega
theorem z09 {n:Int} (h:(Lit.int .u64 n).wf=true):∃x:Nat,n=(x:Int)∧x<18446744073709551616:=by
 simp[Lit.wf,IntKind.min,IntKind.max,IntKind.signed,IntKind.bits] at h;exact⟨n.toNat,by omega,by omega⟩
theorem zc5:Maps.Keyed Tryz.prog 52:=int_keyed Tryz.underlying52
theorem zfu {x:Nat} (h:x<18446744073709551616):keyOf Tryz.prog 52 (.int .u64 (x:Int))=some (.int .u64 (x:Int)):=keyOf_int_mk Tryz.underlying52 (wfU h)
theorem z1a (w:World):(zeroValue 357).run Tryz.prog w=.ok zP w:=by kernel_rfl
theorem znp {w:World} {ops:Array Oper} {rest:List Oper} {o:Oper} {a:Act} {Q:Exit→Act→World→Prop} (hg:o.guard=none) (m x:Operand) (t:TypeId) (hop:o.op=Op.lookup t m x false)
 (ht:Tryz.prog.underlying t=some (.map 52 357)) (b n:Nat) (D:DataW Value) (hm:a.eval m=.map (some b)) (hown:w.ownsMap Tryz.prog 52 rP b n D)
 (r:Nat) (hr:r<18446744073709551616) (hx:a.eval x=.int .u64 (r:Int)) (u:Value) (hat:D.atKey (.int .u64 (r:Int)) (.held zP)=.held u)
 (h:wpList Tryz.prog ops Q rest (a.put o.dst u) w):wpList Tryz.prog ops Q (o :: rest) a w:=by
 refine wpList_plain hg fun K' hK'=>?_
 obtain⟨v,ps,hrun,hv⟩:=hown.lookup zc5 ht (z1a w) (zd:=.held zP) (zp:=[]) rfl (zfu hr);rw[hat] at hv;obtain rfl:=z08 hv;unfold Oper.wp;simp[execOp,hop,hm,hx,hrun,Result.andThen];exact hK' _ _ h
structure PairS (w:World) (base B n:Nat) (D:DataW Value) (S:List Nat) (G1 G2:Nat→List Iv):Prop where
 own:w.ownsMap Tryz.prog 52 rP B n D
 keys:∀r:Nat,Maps.has D (.int .u64 (r:Int))=decide (r∈S)
 vals:∀r:Nat,∃a n c a' n' c',D.atKey (.int .u64 (r:Int)) (.held zP)=.held (.agg #[.slice a n c,.slice a' n' c'])∧IvsT w base a n c (G1 r)∧IvsT w base a' n' c' (G2 r)
theorem zrz (w:World) (base:Nat):IvsT w base none 0 0 []:=⟨zgd w,fun h=>by omega⟩
theorem PairS.start (w:World) (base:Nat):PairS (w.alloc (.map #[] 0)) base w.heap.size 0 (.map []) [] (fun _=>[]) (fun _=>[]):=
 ⟨World.ownsMap_made _ _ _ _,fun r=>rfl,fun r=>⟨none,0,0,none,0,0,rfl,zrz _ _,zrz _ _⟩⟩
theorem PairS.steady {w w':World} {base B n:Nat} {D:DataW Value} {S:List Nat} {G1 G2:Nat→List Iv} (h:PairS w base B n D S G1 G2) (hs:Steady base zb1 w w') (hm:w'.ownsMap Tryz.prog 52 rP B n D):PairS w' base B n D S G1 G2:=
 ⟨hm,h.keys,fun r=>by
  obtain⟨a,n,c,a',n',c',h1,h2,h3⟩:=h.vals r;exact⟨a,n,c,a',n',c',h1,h2.steady hs rfl,h3.steady hs rfl⟩⟩
theorem zfv {r x:Nat} (h:r≠x):Lit.int .u64 (r:Int)≠Lit.int .u64 (x:Int):=fun e=>h (by cases e;rfl)
theorem PairS.put {w w':World} {base B n m r:Nat} {D:DataW Value} {S:List Nat} {G1 G2:Nat→List Iv} (h:PairS w base B n D S G1 G2) (hs:Steady base zb1 w w') {a:Option Addr} {k c:Nat} {a':Option Addr} {k' c':Nat} {L L':List Iv}
 (h1:IvsT w' base a k c L) (h2:IvsT w' base a' k' c' L') (hown:w'.ownsMap Tryz.prog 52 rP B m (D.put (.int .u64 (r:Int)) (.held (.agg #[.slice a k c,.slice a' k' c'])))):
 PairS w' base B m (D.put (.int .u64 (r:Int)) (.held (.agg #[.slice a k c,.slice a' k' c']))) (S++[r]) (fun x=>if x=r then L else G1 x) (fun x=>if x=r then L' else G2 x):=by
 have hI:=h.own.isMap;have hk:∀x:Nat,WideAt.IsKeyLit (.int .u64 (x:Int)):=fun _=>trivial
 refine⟨hown,fun x=>?_,fun x=>?_⟩
 · by_cases e:x=r
   · subst e;rw[has_put_same hI (hk _)];simp
   · rw[has_put_other (zfv e),h.keys x];simp[e]
 · by_cases e:x=r
   · subst e;exact⟨a,k,c,a',k',c',atKey_put_same hI (hk _) _ _,by simpa using h1,by simpa using h2⟩
   · obtain⟨a1,n1,c1,a2,n2,c2,h3,h4,h5⟩:=h.vals x;exact⟨a1,n1,c1,a2,n2,c2,by rw[atKey_put_other (zfv e)];exact h3,by simpa [e] using h4.steady hs rfl,by simpa [e] using h5.steady hs rfl⟩
theorem PairS.congr {w:World} {base B n:Nat} {D:DataW Value} {S S':List Nat} {G1 G2 G1' G2':Nat→List Iv} (h:PairS w base B n D S G1 G2) (hS:∀r,r∈S↔r∈S') (h1:∀r,G1 r=G1' r) (h2:∀r,G2 r=G2' r):PairS w base B n D S' G1' G2':=
 ⟨h.own,fun r=>by rw[h.keys r];simp[hS r],fun r=>by rw[←h1,←h2];exact h.vals r⟩
theorem zr0 {w w':World} {base B n:Nat} {D:DataW Value} (h:w.ownsMap Tryz.prog 52 rP B n D) (hB:base≤B) (hg:w.grownBy w' (some B)) (P:TypeId→Prop):Steady base P w w':=by
 obtain⟨es,clock,hb,-⟩:=h;refine⟨hg.size,fun k hk hp=>hg.block k hk fun e=>?_⟩;cases e;rcases hp with h' | ⟨C,T,fr,hT,h'⟩
 · omega
 · rw[hb] at h';cases h'
theorem zbq {w w':World} (h:Below w.heap.size w w'):w.grownBy w' none:=⟨h.os,h.tape,h.output,h.size,fun k hk _=>h.block k hk⟩
theorem zr1 {v:Vec} (hA:v.Pairwise kd) {j:Nat} (hj:j<v.length) (r:Nat):yi (v.take (j+1)) r=if r=(zc v j).1 then qz (zc v j) else yi (v.take j) r:=by
 have hs:v.take (j+1)=v.take j++[zc v j]:=by rw[List.take_succ_eq_append_getElem hj,qn hj]
 unfold yi;rw[hs,List.find?_append];by_cases e:r=(zc v j).1
 · have hn:(v.take j).find? (fun e=>decide (e.1=r))=none:=by
    rw[List.find?_eq_none];intro x hx;obtain⟨i,hi,rfl⟩:=List.getElem_of_mem hx;rw[List.length_take] at hi;have:=List.pairwise_iff_getElem.1 hA i j (by omega) hj (by omega);rw[List.getElem_take];rw[qn hj] at e;have h2:(v[i]'(by omega)).1<v[j].1:=this;simp only[decide_eq_true_eq];omega
   rw[hn,if_pos e];simp[e]
 · rw[if_neg e]
   have h2:[zc v j].find? (fun e=>decide (e.1=r))=none:=by
    rw[List.find?_eq_none];intro x hx;rw[List.mem_singleton] at hx;subst hx;simp only[decide_eq_true_eq];omega
   rw[h2];cases (v.take j).find? (fun e=>decide (e.1=r)) <;> rfl
theorem zr2 {v:Vec} {j:Nat} (hj:j<v.length):(v.take (j+1)).map (·.1)=(v.take j).map (·.1)++[(zc v j).1]:=by
 rw[List.take_succ_eq_append_getElem hj,qn hj,List.map_append];rfl
theorem zkm {P:Program} {w:World} {ops:Array Oper} {rest:List Oper} {o:Oper} {a:Act} {Q:Exit→Act→World→Prop} (ty:TypeId) (x ix:Operand)
 (ho:o.op=.index ty x ix) (hg:o.guard=none) (cs:Array Value) (k len:Nat) (e e':TypeId) (v:Value)
 (hx:a.eval x=.agg cs) (hix:a.eval ix=.int .i64 (k:Int)) (hu:P.underlying ty=some (.array len e)) (hk:k<len) (he:P.underlying e=some (.slice e')) (hi:(P.info? e).map (·.size)=some 1)
 (hv:cs[k]?=some v) (h:wpList P ops Q rest (a.put o.dst v) w):wpList P ops Q (o :: rest) a w:=by
 refine wpList_plain hg fun K hK=>?_
 cases hq:P.info? e with
 | none=>simp[hq] at hi
 | some i=>
  have hsz:i.size=1:=by simpa [hq] using hi
  unfold Oper.wp execOp;simp only[ho,hx,hix,Instr.index,asIntOf,Sem.run_bind,Sem.run_pure,Result.andThen_ok,run_underlying hu];have hk':0≤(k:Int)∧(k:Int)<(len:Int):=⟨by omega,by omega⟩;simp[Sem.run_bind,part,isAgg,sizeOf,typeInfo,run_underlying he,hq,hsz,hv,hk'];exact hK _ _ h
theorem zr3:(Tryz.prog.info? 83).map (·.size)=some 1:=by kernel_rfl
theorem zr4:(Tryz.prog.info? 81).map (·.size)=some 1:=by kernel_rfl
theorem znq {H:Type} {w:World} {ops:Array Oper} {rest:List Oper} {o:Oper} {a:Act} {Q:Exit→Act→World→Prop} (hg:o.guard=none) (it:Operand) (hop:o.op=Op.next it false) (R:Value→Option (DataW H×List MemPlace))
 (b r n:Nat) (D:DataW H) (left:Lit→Bool) (cnt:Nat) (hit:a.eval it=.pointer (some ⟨r,0,none⟩)) (h:w.ranges Tryz.prog 52 R b r n D left cnt)
 (hDone:(∀kl,left kl=false)→wpList Tryz.prog ops Q rest (a.put o.dst (.tuple #[.bool false])) w)
 (hMore:∀(x:Nat) (u:Value) (w':World) (cnt':Nat),x<18446744073709551616→left (.int .u64 (x:Int))=true→Maps.has D (.int .u64 (x:Int))=true→
   w'.ranges Tryz.prog 52 R b r n D (fun z=>left z && !z.sameKey (.int .u64 (x:Int))) cnt'→cnt'<cnt→w.grownBy w' (some r)→w'.heap.size=w.heap.size→
   (Instr.entry (.pointer (some ⟨r,0,none⟩))).run Tryz.prog w'=.ok (.tuple #[.int .u64 (x:Int),u]) w'→wpList Tryz.prog ops Q rest (a.put o.dst (.tuple #[.bool true,.int .u64 (x:Int),u])) w'):
 wpList Tryz.prog ops Q (o :: rest) a w:=by
 refine wpList_plain hg fun K' hK'=>?_
 unfold Oper.wp;rcases h.next zc5 o.type with ⟨h0,hl,hrun⟩ | ⟨key,v,kl,y,w',cnt',hkey,hlk,hv,hat,hrun,hrg,hlt,hgr,hsz,hen⟩
 · simp[execOp,hop,hit,hrun,Result.andThen];exact hK' _ _ (hDone hl)
 · obtain⟨x,rfl,rfl,hwx⟩:=Maps.keyOf_int_inv Tryz.underlying52 hkey;obtain⟨x,rfl,hx⟩:=z09 hwx;simp[execOp,hop,hit,hrun,Result.andThen];exact hK' _ _ (hMore x v w' cnt' hx hlk (has_true_of_atKey hat) hrg hlt hgr hsz hen)
theorem z1b {p:Nat→Prop} {base:Nat} {P:TypeId→Prop} {w w':World} (h:Kept p w w') (hp:∀k,k<w.heap.size→(k<base∨∃C T fr,P T∧w.heap[k]?=some (.cells C T fr))→p k):Steady base P w w':=
 ⟨h.size,fun k hk h2=>h.row k hk (hp k hk h2)⟩
theorem znr {v:Vec} (hl:LtV v) (r:Nat):Good (yi v r):=by
 unfold yi;split
 · rename_i e he;exact(zes (hl e (List.mem_of_find?_eq_some he))).1
 · trivial
theorem z1c {H:Type} {P:Program} {k:TypeId} {R:Value→Option (DataW H×List MemPlace)} {w w':World} {b r n:Nat} {D:DataW H} {left:Lit→Bool} {cnt:Nat} (h:w.ranges P k R b r n D left cnt)
 (hb:w'.heap[b]?=w.heap[b]?) (hr:w'.heap[r]?=w.heap[r]?):w'.ranges P k R b r n D left cnt:=by
 obtain⟨es,clock,since,seen,c0,h1,h2,h3,h4,h5,h6⟩:=h;exact⟨es,clock,since,seen,c0,hb.trans h1,h2,h3,h4,hr.trans h5,h6⟩
end
end Go.Proofs.YtdnjfnofjaoajaaGreatDoor
