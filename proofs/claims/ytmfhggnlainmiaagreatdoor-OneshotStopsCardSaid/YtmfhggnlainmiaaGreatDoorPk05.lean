/- Part 05. -/
import Derived.LoopN
import Derived.Laws.CopyOwn
import Derived.Lib.Overlaps
import Derived.Lib.AppendZerosOnto
import Derived.Shelf.RegionOpenPlain
import Derived.Sort.WalkA
import Derived.Sort.WalkA6
import Derived.Sort.WalkB3
import Derived.Sort.WalkC4
import Derived.Sort.WalkD2
import Derived.Sort.Walk7
import Derived.Sort.Walk11
import Derived.Sort.Walk13
import Derived.Sort.WalkA14
import Derived.Sort.AssemblyPlain
import Derived.Shelf.SlSortCmp.WholeK
import Derived.Ground.SlsfProg
import Derived.Test.YtmfhggnlainmiaaGreatDoorPk04
set_option linter.unusedVariables false
set_option maxHeartbeats 16000000
namespace Go.Proofs.YtmfhggnlainmiaaGreatDoor
open Lib (hid)
section
open Go.RowKit Go.Shelf
def IvCell (w:World) (p:Addr) (l:List Iv):Prop:=∃x n c,w.cell? p=some (.slice x n c)∧Ivs w x n c l
def EnCell (w:World) (p:Addr) (v:Vec):Prop:=∃x n c,w.cell? p=some (.slice x n c)∧Ents w x n c v
theorem IvCell.below {w w':World} {p:Addr} {l:List Iv} (h:IvCell w p l) (hb:Below w.heap.size w w'):IvCell w' p l:=
 let ⟨x,n,c,h1,h2⟩:=h;⟨x,n,c,(hb.cell (zf h1)).trans h1,h2.below hb⟩
theorem EnCell.below {w w':World} {p:Addr} {v:Vec} (h:EnCell w p v) (hb:Below w.heap.size w w'):EnCell w' p v:=
 let ⟨x,n,c,h1,h2⟩:=h;⟨x,n,c,(hb.cell (zf h1)).trans h1,h2.below hb⟩
structure Frags (w:World) (a:Option Addr) (n cap:Nat) (k:Kno):Prop where
 len:k.length=n
 room:n≤cap
 most:cap≤9223372036854775807
 nilc:a=none→cap=0
 cells:0<n→∃b o,a=some ⟨b,o,none⟩∧∀i,i<n→IvCell w ⟨b,o+i*2,none⟩ (za k i).1∧EnCell w ⟨b,o+i*2+1,none⟩ (za k i).2
theorem Frags.below {w w':World} {a:Option Addr} {n cap:Nat} {k:Kno} (h:Frags w a n cap k) (hb:Below w.heap.size w w'):Frags w' a n cap k:=by
 refine⟨h.len,h.room,h.most,h.nilc,fun hn=>?_⟩;obtain⟨b,o,ha,hc⟩:=h.cells hn;exact⟨b,o,ha,fun i hi=>⟨(hc i hi).1.below hb,(hc i hi).2.below hb⟩⟩
theorem zhj (w:World):Frags w none 0 0 []:=⟨rfl,by omega,by omega,fun _=>rfl,fun h=>by omega⟩
theorem Frags.lt {w:World} {a:Option Addr} {n cap:Nat} {k:Kno} (h:Frags w a n cap k) {i:Nat} (hi:i<n):zo (za k i).1∧LtV (za k i).2:=by
 obtain⟨b,o,-,hc⟩:=h.cells (by omega);obtain⟨⟨_,_,_,_,h1⟩,⟨_,_,_,_,h2⟩⟩:=hc i hi;exact⟨h1.lt,h2.lt⟩
theorem Frags.all {w:World} {a:Option Addr} {n cap:Nat} {k:Kno} (h:Frags w a n cap k):∀f∈k,zo f.1∧LtV f.2:=by
 intro f hf;obtain⟨i,hi,rfl⟩:=List.getElem_of_mem hf;have:=h.lt (i:=i) (by rw[←h.len];exact hi);rwa [qm hi] at this
structure EntsT (w:World) (base:Nat) (a:Option Addr) (n c:Nat) (v:Vec):Prop where
 len:v.length=n
 lt:LtV v
 room:n≤c
 most:c≤9223372036854775807
 nilc:a=none→c=0
 row:0<n→∀p,a=some p→zhg w base 137 p.block
 cells:0<n→∃b o,a=some ⟨b,o,none⟩∧∀i,i<n→w.cell? ⟨b,o+i*3,none⟩=some (.int .u64 (((zg v i).1:Nat):Int))∧w.cell? ⟨b,o+i*3+1,none⟩=some (.int .u64 (((zg v i).2.1:Nat):Int))∧
  ∃x k c,w.cell? ⟨b,o+i*3+2,none⟩=some (.slice x k c)∧IvsT w base x k c (zg v i).2.2
theorem EntsT.ents {w:World} {base:Nat} {a:Option Addr} {n c:Nat} {v:Vec} (h:EntsT w base a n c v):Ents w a n c v:=by
 refine⟨h.len,h.lt,h.room,h.most,h.nilc,fun hn=>?_⟩;obtain⟨b,o,ha,hc⟩:=h.cells hn;refine⟨b,o,ha,fun i hi=>?_⟩;obtain⟨h1,h2,x,k,d,h3,h4⟩:=hc i hi;exact⟨h1,h2,x,k,d,h3,h4.ivs⟩
theorem zw1 (w:World) (base:Nat):EntsT w base none 0 0 []:=⟨rfl,by simp,by omega,by omega,fun _=>rfl,fun h=>by omega,fun h=>by omega⟩
theorem EntsT.steady {w w':World} {base:Nat} {P:TypeId→Prop} {a:Option Addr} {n c:Nat} {v:Vec} (h:EntsT w base a n c v) (hs:Steady base P w w') (h1:P 135) (h2:P 137):EntsT w' base a n c v:=by
 refine⟨h.len,h.lt,h.room,h.most,h.nilc,fun hn p hp=>?_,fun hn=>?_⟩
 · obtain⟨b,o,ha,hc⟩:=h.cells hn;rw[ha] at hp;cases hp;exact(znu (h.row hn _ ha) (zf (hc 0 hn).1) hs h2).1
 · obtain⟨b,o,ha,hc⟩:=h.cells hn;obtain⟨-,hrow⟩:=znu (h.row hn _ ha) (zf (hc 0 hn).1) hs h2;refine⟨b,o,ha,fun i hi=>?_⟩;obtain⟨e1,e2,x,k,d,e3,e4⟩:=hc i hi
   exact⟨(World.cell?_of_block (a:=⟨b,o+i*3,none⟩) hrow).trans e1,(World.cell?_of_block (a:=⟨b,o+i*3+1,none⟩) hrow).trans e2,x,k,d,
    (World.cell?_of_block (a:=⟨b,o+i*3+2,none⟩) hrow).trans e3,e4.steady hs h1⟩
theorem zw2 {w:World} {base base':Nat} {T:TypeId} {b:Nat} (h:zhg w base T b) (hb:base≤base'):zhg w base' T b:=h.imp (fun h=>by omega) id
theorem IvsT.raise {w:World} {base base':Nat} {a:Option Addr} {n c:Nat} {l:List Iv} (h:IvsT w base a n c l) (hb:base≤base'):IvsT w base' a n c l:=⟨h.ivs,fun hn p hp=>zw2 (h.row hn p hp) hb⟩
theorem EntsT.raise {w:World} {base base':Nat} {a:Option Addr} {n c:Nat} {v:Vec} (h:EntsT w base a n c v) (hb:base≤base'):EntsT w base' a n c v:=by
 refine⟨h.len,h.lt,h.room,h.most,h.nilc,fun hn p hp=>zw2 (h.row hn p hp) hb,fun hn=>?_⟩;obtain⟨b,o,ha,hc⟩:=h.cells hn;refine⟨b,o,ha,fun i hi=>?_⟩;obtain⟨e1,e2,x,k,d,e3,e4⟩:=hc i hi;exact⟨e1,e2,x,k,d,e3,e4.raise hb⟩
theorem OwnV.entsT {w:World} {base base':Nat} {x:Value} {v:Vec} (h:OwnV w base x v) (hl:LtV v):∃a c,x=.slice a v.length c∧EntsT w base' a v.length c v:=by
 obtain⟨ss,ho,hs⟩:=h;have ho2:=ho;rcases ho.2 with ⟨rfl,h0⟩ | ⟨g,cap,cur,rfl,hg,hh,hnc,hcm,_⟩
 · rw[h0];have:v=[]:=List.length_eq_zero_iff.1 h0;subst this;exact⟨none,0,rfl,zw1 w base'⟩
 · refine⟨_,_,rfl,rfl,hl,hnc,by unfold maxLen at hcm;omega,(by intro h;cases h),fun hn p hp=>?_,fun hn=>⟨g,0,rfl,fun i hi=>?_⟩⟩
   · cases hp;exact .inr ⟨_,_,hh⟩
   obtain⟨e1,e2,e3⟩:=zrn hs.1 hi;obtain⟨a,n,c,h1,h2⟩:=hs.2 i hi;rw[h1] at e3;have c1:=ho2.cells (g:=g) rfl _ _ e1;have c2:=ho2.cells (g:=g) rfl _ _ e2;have c3:=ho2.cells (g:=g) rfl _ _ e3;rw[qg] at c1 c2 c3;exact⟨c1,by rw[Nat.add_assoc];exact c2,a,n,c,by rw[Nat.add_assoc];exact c3,h2.raise (Nat.zero_le _)⟩
def qs (ss:List (Value×Value)):List Value:=ss.flatMap fun p=>[p.1,p.2]
theorem znz (ss ts:List (Value×Value)):qs (ss++ts)=qs ss++qs ts:=by simp[qs]
theorem zj0:∀{ss:List (Value×Value)} {i:Nat} {p:Value×Value},ss[i]?=some p→(qs ss)[i*2]?=some p.1∧(qs ss)[i*2+1]?=some p.2
 | [],i,p,h=>by simp at h
 | s :: ss,0,p,h=>by simp at h;subst h;exact⟨rfl,rfl⟩
 | s :: ss,i+1,p,h=>by
   have:=zj0 (ss:=ss) (i:=i) (p:=p) (by simpa using h);have e1:qs (s :: ss)=s.1 :: s.2 :: qs ss:=rfl;rw[e1,show (i+1)*2=i*2+1+1 by omega,show i*2+1+1+1=(i*2+1)+1+1 by omega];simpa using this
def IvSl (w:World) (base:Nat) (x:Value) (l:List Iv):Prop:=∃a n c,x=.slice a n c∧IvsT w base a n c l
def EnSl (w:World) (base:Nat) (x:Value) (v:Vec):Prop:=∃a n c,x=.slice a n c∧EntsT w base a n c v
theorem IvSl.steady {w w':World} {base:Nat} {P:TypeId→Prop} {x:Value} {l:List Iv} (h:IvSl w base x l) (hs:Steady base P w w') (h1:P 135):IvSl w' base x l:=
 let ⟨a,n,c,e,h⟩:=h;⟨a,n,c,e,h.steady hs h1⟩
theorem EnSl.steady {w w':World} {base:Nat} {P:TypeId→Prop} {x:Value} {v:Vec} (h:EnSl w base x v) (hs:Steady base P w w') (h1:P 135) (h2:P 137):EnSl w' base x v:=
 let ⟨a,n,c,e,h⟩:=h;⟨a,n,c,e,h.steady hs h1 h2⟩
theorem IvSl.raise {w:World} {base base':Nat} {x:Value} {l:List Iv} (h:IvSl w base x l) (hb:base≤base'):IvSl w base' x l:=
 let ⟨a,n,c,e,h⟩:=h;⟨a,n,c,e,h.raise hb⟩
theorem EnSl.raise {w:World} {base base':Nat} {x:Value} {v:Vec} (h:EnSl w base x v) (hb:base≤base'):EnSl w base' x v:=
 let ⟨a,n,c,e,h⟩:=h;⟨a,n,c,e,h.raise hb⟩
def PartsT (w:World) (base:Nat) (k:Kno) (ss:List (Value×Value)):Prop:=ss.length=k.length∧∀i,i<k.length→∃p,ss[i]?=some p∧IvSl w base p.1 (za k i).1∧EnSl w base p.2 (za k i).2
theorem PartsT.steady {w w':World} {base:Nat} {P:TypeId→Prop} {k:Kno} {ss:List (Value×Value)} (h:PartsT w base k ss) (hs:Steady base P w w') (h1:P 135) (h2:P 137):PartsT w' base k ss:=
 ⟨h.1,fun i hi=>let ⟨p,e,h3,h4⟩:=h.2 i hi;⟨p,e,h3.steady hs h1,h4.steady hs h1 h2⟩⟩
theorem PartsT.raise {w:World} {base base':Nat} {k:Kno} {ss:List (Value×Value)} (h:PartsT w base k ss) (hb:base≤base'):PartsT w base' k ss:=
 ⟨h.1,fun i hi=>let ⟨p,e,h3,h4⟩:=h.2 i hi;⟨p,e,h3.raise hb,h4.raise hb⟩⟩
theorem z88 {k j:Kno} {i:Nat} (h:i<k.length):za (k++j) i=za k i:=by
 rw[qm (by rw[List.length_append];omega),qm h,List.getElem_append_left h]
theorem z89 {k j:Kno} {i:Nat} (h:i<j.length):za (k++j) (k.length+i)=za j i:=by
 rw[qm (by rw[List.length_append];omega),qm h,List.getElem_append_right (by omega)];simp
theorem PartsT.append {w:World} {base:Nat} {k j:Kno} {ss ts:List (Value×Value)} (h:PartsT w base k ss) (h':PartsT w base j ts):PartsT w base (k++j) (ss++ts):=by
 refine⟨by simp[h.1,h'.1],fun i hi=>?_⟩;by_cases hv:i<k.length
 · obtain⟨p,e,h1,h2⟩:=h.2 i hv;refine⟨p,by rw[List.getElem?_append_left (by rw[h.1];exact hv)];exact e,?_⟩;rw[z88 hv];exact⟨h1,h2⟩
 · obtain⟨d,rfl⟩:∃d,i=k.length+d:=⟨i - k.length,by omega⟩;have hd:d<j.length:=by rw[List.length_append] at hi;omega
   obtain⟨p,e,h1,h2⟩:=h'.2 d hd;refine⟨p,by rw[List.getElem?_append_right (by rw[h.1];omega),h.1,Nat.add_sub_cancel_left];exact e,?_⟩;rw[z89 hd];exact⟨h1,h2⟩
theorem PartsT.take {w:World} {base:Nat} {k:Kno} {ss:List (Value×Value)} (h:PartsT w base k ss) (n:Nat):PartsT w base (k.take n) (ss.take n):=by
 refine⟨by simp[h.1],fun i hi=>?_⟩;have hi2:i<k.length∧i<n:=by rw[List.length_take] at hi;omega
 obtain⟨p,e,h1⟩:=h.2 i hi2.1;refine⟨p,by rw[List.getElem?_take,if_pos hi2.2];exact e,?_⟩;have:za (k.take n) i=za k i:=by rw[qm hi,qm hi2.1,List.getElem_take]
 rw[this];exact h1
theorem PartsT.drop {w:World} {base:Nat} {k:Kno} {ss:List (Value×Value)} (h:PartsT w base k ss) (n:Nat):PartsT w base (k.drop n) (ss.drop n):=by
 refine⟨by simp[h.1],fun i hi=>?_⟩;have hi2:n+i<k.length:=by rw[List.length_drop] at hi;omega
 obtain⟨p,e,h1⟩:=h.2 (n+i) hi2;refine⟨p,by rw[List.getElem?_drop];exact e,?_⟩;have:za (k.drop n) i=za k (n+i):=by rw[qm hi,qm hi2,List.getElem_drop]
 rw[this];exact h1
theorem PartsT.set {w:World} {base:Nat} {k:Kno} {ss:List (Value×Value)} {n:Nat} {f:Frg} {x y:Value} (h:PartsT w base k ss) (h1:IvSl w base x f.1) (h2:EnSl w base y f.2):PartsT w base (k.set n f) (ss.set n (x,y)):=by
 refine⟨by simp[h.1],fun i hi=>?_⟩;have hi':i<k.length:=by simpa using hi
 obtain⟨p,e,h3⟩:=h.2 i hi';by_cases e:n=i
 · subst e;refine⟨(x,y),by rw[List.getElem?_set_self (by rw[h.1];exact hi')],?_⟩;have:za (k.set n f) n=f:=by rw[qm hi];simp
   rw[this];exact⟨h1,h2⟩
 · refine⟨p,by rw[List.getElem?_set_ne e];assumption,?_⟩;have:za (k.set n f) i=za k i:=by rw[qm hi,qm hi',List.getElem_set_ne e]
   rw[this];exact h3
def OwnK (w:World) (base inner:Nat) (x:Value) (k:Kno):Prop:=∃ss,w.ownsRow base 127 2 x k.length (qs ss)∧PartsT w inner k ss
def jw (T:TypeId):Prop:=T=135∨T=137∨T=127
theorem zd8 {w w':World} {base inner sz n:Nat} {P:TypeId→Prop} {T:TypeId} {x:Value} {xs:List Value} (ho:w.ownsRow base T sz x n xs) (hs:Steady inner P w w') (h1:P T):w'.ownsRow base T sz x n xs:=by
 refine⟨ho.1,?_⟩;rcases ho.2 with h' | ⟨g,cap,cur,hv,hg,hr,rest⟩
 · exact .inl h'
 · exact .inr ⟨g,cap,cur,hv,hg,(hs.row g (Array.getElem?_eq_some_iff.1 hr).1 (.inr ⟨_,_,_,h1,hr⟩)).trans hr,rest⟩
theorem OwnK.steady {w w':World} {base inner:Nat} {P:TypeId→Prop} {x:Value} {k:Kno} (h:OwnK w base inner x k) (hs:Steady inner P w w') (h1:P 135) (h2:P 137) (h3:P 127):OwnK w' base inner x k:=
 let ⟨ss,ho,hh⟩:=h;⟨ss,zd8 ho hs h3,hh.steady hs h1 h2⟩
theorem OwnK.below {w w':World} {base inner:Nat} {x:Value} {k:Kno} (h:OwnK w base inner x k) (hb:Below w.heap.size w w'):OwnK w' base inner x k:=
 h.steady (P:=fun _=>True) (.of_below hb) trivial trivial trivial
theorem OwnK.lower {w:World} {base base' inner:Nat} {x:Value} {k:Kno} (h:OwnK w base inner x k) (hb:base'≤base):OwnK w base' inner x k:=
 let ⟨ss,ho,hh⟩:=h;⟨ss,qt ho hb,hh⟩
theorem OwnK.raise {w:World} {base inner inner':Nat} {x:Value} {k:Kno} (h:OwnK w base inner x k) (hb:inner≤inner'):OwnK w base inner' x k:=
 let ⟨ss,ho,hh⟩:=h;⟨ss,ho,hh.raise hb⟩
theorem OwnK.frags {w:World} {base inner:Nat} {x:Value} {k:Kno} (h:OwnK w base inner x k):∃a c,x=.slice a k.length c∧Frags w a k.length c k:=by
 obtain⟨ss,ho,hs⟩:=h;have ho2:=ho;rcases ho.2 with ⟨rfl,h0⟩ | ⟨g,cap,cur,rfl,hg,hh,hnc,hcm,_⟩
 · rw[h0];have:k=[]:=List.length_eq_zero_iff.1 h0;subst this;exact⟨none,0,rfl,zhj w⟩
 · refine⟨_,_,rfl,rfl,hnc,by unfold maxLen at hcm;omega,(by intro h;cases h),fun hn=>⟨g,0,rfl,fun i hi=>?_⟩⟩;obtain⟨p,e,⟨a1,n1,m1,p1,i1⟩,⟨a2,n2,m2,p2,i2⟩⟩:=hs.2 i hi;obtain⟨e1,e2⟩:=zj0 e;rw[p1] at e1;rw[p2] at e2;have c1:=ho2.cells (g:=g) rfl _ _ e1;have c2:=ho2.cells (g:=g) rfl _ _ e2;rw[qg] at c1 c2;exact⟨⟨a1,n1,m1,c1,i1.ivs⟩,⟨a2,n2,m2,by rw[Nat.add_assoc];exact c2,i2.ents⟩⟩
theorem Tryz.info_frg:(Tryz.prog.info? 127).map (fun i=>(i.zero,i.size,i.bytes))=some (some (.agg #[.slice none 0 0,.slice none 0 0]),2,48):=by kernel_rfl
theorem PartsT.one {w:World} {base:Nat} {k:Kno} {ss:List (Value×Value)} (h:PartsT w base k ss):∀u∈qs ss,u.oneCell'=true:=by
 intro u hu;simp only[qs,List.mem_flatMap] at hu;obtain⟨p,hp,hu⟩:=hu;obtain⟨i,hi,rfl⟩:=List.getElem_of_mem hp;obtain⟨q,e,⟨_,_,_,h1,_⟩,⟨_,_,_,h2,_⟩⟩:=h.2 i (by rw[←h.1];exact hi);rw[List.getElem?_eq_getElem hi] at e;cases e;simp only[List.mem_cons,List.not_mem_nil,or_false] at hu;rcases hu with rfl | rfl
 · rw[h1];rfl
 · rw[h2];rfl
end
section
open Go.RowKit
def Row (w:World) (g:Nat) (T:TypeId) (C:List Value):Prop:=w.heap[g]?=some (.cells C.toArray T)
theorem Row.lt {w:World} {g:Nat} {T:TypeId} {C:List Value} (h:Row w g T C):g<w.heap.size:=(Array.getElem?_eq_some_iff.1 h).1
theorem Row.cell {w:World} {g:Nat} {T:TypeId} {C:List Value} (h:Row w g T C) (i:Nat) {v:Value} (hv:C[i]?=some v):w.cell? ⟨g,i,none⟩=some v:=by
 unfold Row at h;simp[World.cell?,h,hv]
theorem Row.fz {w:World} {g:Nat} {T:TypeId} {C:List Value} (h:Row w g T C) (i:Nat):w.frozen? ⟨g,i,none⟩=false:=by
 unfold Row at h;simp[World.frozen?,h]
theorem Row.set {w:World} {g:Nat} {T:TypeId} {C:List Value} (h:Row w g T C) (i:Nat) (v:Value):Row (w.setCell ⟨g,i,none⟩ v) g T (C.set i v):=by
 have:=heap_setCell_same w g i C.toArray T v h;unfold Row;rw[this];simp
theorem Row.same {w w':World} {g:Nat} {T:TypeId} {C:List Value} (h:Row w g T C) (hk:w'.heap[g]?=w.heap[g]?):Row w' g T C:=hk.trans h
theorem Row.other {w:World} {g:Nat} {T:TypeId} {C:List Value} (h:Row w g T C) {a:Addr} (ha:g≠a.block) (v:Value):Row (w.setCell a v) g T C:=h.same (heap_setCell_other w a g v ha)
theorem Row.below {w w':World} {g n:Nat} {T:TypeId} {C:List Value} (h:Row w g T C) (hb:Below n w w') (hg:g<n):Row w' g T C:=h.same (hb.block g hg)
theorem Row.later {w w':World} {g:Nat} {T:TypeId} {C:List Value} (h:Row w g T C) (hb:Below w.heap.size w w'):Row w' g T C:=h.below hb h.lt
theorem Row.grown {w w':World} {g:Nat} {T:TypeId} {C:List Value} {r:Option Nat} (h:Row w g T C) (hg:w.grownBy w' r) (hr:some g≠r):Row w' g T C:=h.same (hg.block g h.lt hr)
theorem Row.drew {w:World} {g:Nat} {T:TypeId} {C:List Value} (h:Row w g T C) (n:Nat):Row (w.drewN n) g T C:=h
theorem y7 (w:World) (T:TypeId) (C:List Value):Row (w.alloc (.cells C.toArray T)) w.heap.size T C:=heap_alloc_new w _
theorem Row.steady {w w':World} {base g:Nat} {T:TypeId} {C:List Value} {P:TypeId→Prop} (h:Row w g T C) (hs:Steady base P w w') (hT:P T∨g<base):Row w' g T C:=
 h.same (hs.row g h.lt (hT.symm.imp id fun hP=>⟨_,_,_,hP,h⟩))
theorem qh (w:World) (g i:Nat) (v:Value):w.grownBy (w.setCell ⟨g,i,none⟩ v) (some g):=
 ⟨rfl,rfl,rfl,by simp,fun k hk hne=>heap_setCell_other w ⟨g,i,none⟩ k v (fun e=>hne (by simp[e]))⟩
theorem vy (w:World) (r:Option Nat):w.grownBy w r:=⟨rfl,rfl,rfl,Nat.le_refl _,fun _ _ _=>rfl⟩
theorem z9a {w w':World} {r:Option Nat} (h:w.grownBy w' r) (n:Nat):w.grownBy (w'.drewN n) r:=⟨h.os,h.tape,h.output,h.size,h.block⟩
theorem vg {w w' w2:World} {r:Option Nat} (h:w.grownBy w' r) (hb:Below w'.heap.size w' w2):w.grownBy w2 r:=
 zw h ⟨hb.os,hb.tape,hb.output,hb.size,fun k hk _=>hb.block k hk⟩
theorem yz {w w':World} {r:Option Nat} (h:w.grownBy w' r) {a:Addr} (v:Value) (ha:w.heap.size≤a.block∨some a.block=r):w.grownBy (w'.setCell a v) r:=
 ⟨h.os,h.tape,h.output,by simpa using h.size,fun k hk hne=>(heap_setCell_other w' a k v (fun e=>by
  rcases ha with h' | h'
  · omega
  · exact hne (by rw[←h',e]))).trans (h.block k hk hne)⟩
theorem Frags.fix {w:World} {b o n cap:Nat} {k:Kno} (h:Frags w (some ⟨b,o,none⟩) n cap k) {i:Nat} (hi:i<n):∃x m c y m' c',∀w',Below w.heap.size w w'→
 w'.cell? ⟨b,o+i*2,none⟩=some (.slice x m c)∧Ivs w' x m c (za k i).1∧w'.cell? ⟨b,o+i*2+1,none⟩=some (.slice y m' c')∧Ents w' y m' c' (za k i).2:=by
 obtain⟨b',o',hs,hc⟩:=h.cells (by omega);cases hs;obtain⟨⟨x,m,c,h1,h2⟩,⟨y,m',c',h3,h4⟩⟩:=hc i hi;exact⟨x,m,c,y,m',c',fun w' hb=>⟨(hb.cell (p:=⟨b,o+i*2,none⟩) (zf h1)).trans h1,h2.below hb,(hb.cell (p:=⟨b,o+i*2+1,none⟩) (zf h3)).trans h3,h4.below hb⟩⟩
theorem Frags.some {w:World} {a:Option Addr} {n cap:Nat} {k:Kno} (h:Frags w a n cap k) (hn:0<n):∃b o,a=some ⟨b,o,none⟩:=by
 obtain⟨b,o,ha,-⟩:=h.cells hn;exact⟨b,o,ha⟩
def zbp (v:Vec) (k:Nat):List Nat:=v.length :: (v.take k).flatMap ko
theorem zw3 {v:Vec} {k:Nat} (h:k<v.length):zbp v (k+1)=zbp v k++ko (zg v k):=by
 unfold zbp;rw[List.take_succ_eq_append_getElem h,List.flatMap_append,j0 h];simp
theorem zw4 (v:Vec):zbp v v.length=yj v:=by unfold zbp yj;rw[List.take_length]
theorem zw5 (l:List Iv) (k:Nat) (h:k<l.length):ve (l.take (k+1))=ve (l.take k)++[(zb l k).1,(zb l k).2]:=by
 unfold ve;rw[List.take_succ_eq_append_getElem h,List.flatMap_append,jg h];simp
theorem zle (l:List Iv):(ve l).length=2*l.length:=by
 unfold ve
 induction l with
 | nil=>rfl
 | cons s l ih=>simp only[List.flatMap_cons,List.length_append,ih,List.length_cons,List.length_nil];omega
theorem OwnK.form {w:World} {base inner:Nat} {x:Value} {k:Kno} (h:OwnK w base inner x k):
 (x=.slice none 0 0∧k=[])∨∃g c ss,x=.slice (some ⟨g,0,none⟩) k.length c∧base≤g∧g<w.heap.size∧k.length≤c∧c≤maxLen∧w.ownsRow base 127 2 (.slice (some ⟨g,0,none⟩) k.length c) k.length (qs ss)∧PartsT w inner k ss:=by
 obtain⟨ss,ho,hh⟩:=h;have ho2:=ho;rcases ho.2 with ⟨rfl,h0⟩ | ⟨g,cap,cur,rfl,hg,hr,hnc,hcm,_⟩
 · exact .inl ⟨rfl,List.length_eq_zero_iff.1 h0⟩
 · exact .inr ⟨g,cap,ss,rfl,hg,(Array.getElem?_eq_some_iff.1 hr).1,hnc,hcm,ho2,hh⟩
def yg:Kno→Nat
 | []=>0
 | f :: k=>f.1.length+yg k
theorem zw6:∀(k j:Kno),yg (k++j)=yg k+yg j
 | [],j=>by simp[yg]
 | f :: k,j=>by rw[List.cons_append,yg,yg,zw6 k j];omega
end
section
open Go.RowKit Go.Maps
structure Met (D:DataW Value) (left:Lit→Bool) (L:List Nat):Prop where
 asc:Asc L
 mem:∀x:Nat,x∈L↔(Maps.has D (.int .u64 (x:Int))=true∧left (.int .u64 (x:Int))=false)
theorem Met.start (D:DataW Value):Met D (Maps.has D) []:=⟨trivial,fun x=>by cases Maps.has D (.int .u64 (x:Int)) <;> simp⟩
theorem z9b (x y:Nat):Lit.sameKey (.int .u64 (x:Int)) (.int .u64 (y:Int))=decide (x=y):=by
 by_cases e:x=y
 · subst e;simp[WideAt.sameKey_self (show WideAt.IsKeyLit (.int .u64 (x:Int)) from trivial)]
 · rw[sameKey_ne (zhi e),decide_eq_false e]
theorem Met.step {D:DataW Value} {left:Lit→Bool} {L:List Nat} (h:Met D left L) {x:Nat} (hh:Maps.has D (.int .u64 (x:Int))=true):Met D (fun z=>left z && !z.sameKey (.int .u64 (x:Int))) (ky L x):=by
 refine⟨ziu h.asc,fun y=>?_⟩;rw[zhc,h.mem y,z9b];by_cases e:y=x
 · subst e;simp[hh]
 · simp[e]
theorem Met.all {D:DataW Value} {left:Lit→Bool} {L S:List Nat} (h:Met D left L) (hl:∀kl,left kl=false) (hS:Asc S) (hk:∀r:Nat,Maps.has D (.int .u64 (r:Int))=decide (r∈S)):L=S:=
 zjp h.asc hS fun x=>by rw[h.mem x,hk x,hl];simp
theorem Met.sub {D:DataW Value} {left:Lit→Bool} {L S:List Nat} (h:Met D left L) (hk:∀r:Nat,Maps.has D (.int .u64 (r:Int))=decide (r∈S)):∀x∈L,x∈S:=fun x hx=>by
 have h2:=((h.mem x).1 hx).1;rw[hk x] at h2;simpa using h2
theorem Met.len {D:DataW Value} {left:Lit→Bool} {L S:List Nat} (h:Met D left L) (hk:∀r:Nat,Maps.has D (.int .u64 (r:Int))=decide (r∈S)):L.length≤S.length:=
 ze1 h.asc (fun x hx=>h.sub hk x hx)
end
section
open Go.RowKit
def LstTo (w:World) (k:Kno) (d:Nat) (xs:List Value):Prop:=xs.length=d∧∀i,i<d→∃x m c,xs[i]?=some (.slice x m c)∧∀w',Below w.heap.size w w'→Ivs w' x m c (za k i).1
theorem LstTo.snoc {w:World} {k:Kno} {d:Nat} {xs:List Value} {x:Option Addr} {m c:Nat} (h:LstTo w k d xs) (hI:∀w',Below w.heap.size w w'→Ivs w' x m c (za k d).1):LstTo w k (d+1) (xs++[.slice x m c]):=by
 refine⟨by simp[h.1],fun i hi=>?_⟩;by_cases e:i=d
 · subst e;exact⟨x,m,c,by rw[List.getElem?_append_right (by rw[h.1];omega),h.1];simp,hI⟩
 · obtain⟨x',m',c',h1,h2⟩:=h.2 i (by omega);exact⟨x',m',c',by rw[List.getElem?_append_left (by rw[h.1];omega)];exact h1,h2⟩
theorem LstTo.rls {w w':World} {k:Kno} {n:Nat} {xs:List Value} {v:Value} (h:LstTo w k n xs) (hn:k.length=n) (hb:Below w.heap.size w w') (ho:w'.ownsRow w.heap.size 123 1 v n xs):∃a c,v=.slice a n c∧Rls w' a n c (k.map (·.1)):=by
 have ho2:=ho;rcases ho.2 with ⟨rfl,h0⟩ | ⟨g,cap,cur,rfl,hg,hh,hnc,hcm,_⟩
 · rw[h0] at hn ⊢;exact⟨none,0,rfl,by simpa using hn,by omega,by omega,fun _=>rfl,fun h=>by omega⟩
 · refine⟨_,_,rfl,by simpa using hn,hnc,by unfold maxLen at hcm;omega,(by intro h;cases h),fun h0=>⟨g,0,rfl,fun i hi=>?_⟩⟩;obtain⟨x,m,c,e,h2⟩:=h.2 i hi;have hI:=h2 w' hb;have c1:=ho2.cells (g:=g) rfl _ _ e;rw[qg] at c1
   have hk:(k.map (·.1)).getD i []=(za k i).1:=by
    have hi':i<k.length:=by omega
    rw[qm hi',List.getD_eq_getElem?_getD,List.getElem?_map,List.getElem?_eq_getElem hi']
    rfl
   rw[hk];refine⟨x,c,?_,by rw[hI.len];exact hI⟩;rw[hI.len];exact c1
theorem zw7 (a:Option Addr) (n cap:Nat) (l:List Iv) (w:World) (hI:Ivs w a n cap l) (hD:Door w):
 Calls Tryz.prog 173 #[.slice a n cap] w fun e w'=>e=.returned (zy (qk (ck l)))∧Below w.heap.size w w':=by
 have HD:=hid hD;clear hD;have HI:=hid hI;have Hl:=hid hI.len;have hm:n≤9223372036854775807:=Nat.le_trans hI.room hI.most;clear hI;go_enter Tryz.func173,Tryz.ntmps173;go_wp2;go_loopw [3,4,5,8] (fun _ _ _ i wr=>∃k:Nat,k≤n∧i=.int .i64 k∧Below w.heap.size w wr∧Hid (∀j,j<k→zdf l j=none)) (fun _ _ _ i _=>n - (intOf i).toNat)
 case atStart=>exact⟨0,by omega,rfl,Below.refl _ _,fun j h=>by omega⟩
 case round=>
  obtain⟨k,hk,rfl,hb,ht⟩:=hrel;have Hb:=hid hb;clear hb;by_cases hkn:k<n
  · obtain⟨bb,oo,rfl,hcell⟩:=(HI.out.below Hb.out).cells (by omega);obtain⟨hc1,hc2⟩:=hcell k hkn;have Hcell:=hid hcell;clear hcell;have Hlt:=hid (HI.out.lt (zb l k) (zbo (by rw[Hl.out];exact hkn)));have hin:zdf l k=if (zb l k).2<(zb l k).1 then some (2,k) else if 0<k∧ju (zb l (k - 1)) (zb l k)≠0 then some (3,k) else none:=rfl;generalize hs:zb l k=s at*;have Hs:=hid hs;clear hs;by_cases h2:s.2<s.1
    · rw[if_pos h2] at hin;have Hr:=hid (show ck l=some (2,k) from zbb (by rw[Hl.out];exact hkn) ht.out hin);clear hin;have hC:=hid (fun w=>zwo s w);rw[if_pos h2] at hC;clear h2;go_wp2_with fail;refine(hC.out _).mono ?_;rintro e w1 ⟨rfl,hb1⟩;have Hb1:=hid ((Hb.out.alloc Hb.out.size _).trans (hb1.mono (Below.size (Hb.out.alloc Hb.out.size _))));clear hb1;simp only[zy];go_wp2_with fail;refine(zcy (some (2,none)) _ (HD.out.below (Nat.le_refl _) Hb1.out)).mono ?_;rintro e w2 ⟨rfl,hb2⟩;have Hb2:=hid (Hb1.out.trans (hb2.mono Hb1.out.size));clear hb2;simp only[je];go_wp2_with fail;refine(zaf 2 k _).mono ?_;rintro e w3 ⟨rfl,rfl⟩;go_wp2_with fail;go_ret;exact⟨by rw[Hr.out];rfl,Hb2.out⟩
    · rw[if_neg h2] at hin;have hC:=hid (fun w=>zwo s w);rw[if_neg h2] at hC;clear h2;by_cases hk0:0<k
      · obtain⟨hp1,hp2⟩:=Hcell.out (k - 1) (by omega);have Hpl:=hid (HI.out.lt (zb l (k - 1)) (zbo (by rw[Hl.out];omega)));generalize hp:zb l (k - 1)=p at*;have Hp:=hid hp;clear hp;have hR:=hid (fun w=>zrl p s w Hpl.out Hlt.out);have hg:decide (0<(k:Int))=true:=by rw[decide_eq_true_iff];omega
        have hsub:IntKind.i64.wrap ((k:Int) - 1)=(k:Int) - 1:=by rw[IntKind.wrap_i64];omega
        have h01:0≤(k:Int) - 1:=by omega
        have h02:((k:Int) - 1).toNat=k - 1:=by omega
        have h03:(k:Int) - 1<(n:Int):=by omega
        have Hin:=hid hin;clear hin;go_wp2_with fail;refine(hC.out _).mono ?_;rintro e w1 ⟨rfl,hb1⟩;have Hbb:=hid ((Below.refl _ _).alloc (Nat.le_refl _) (.cells #[.int .u64 s.1,.int .u64 s.2] 135) |>.trans (hb1.mono (by simp)));have hz1:=hb1.size;have hq1:=(Hbb.out.cell (p:=⟨bb,oo+(k - 1)*2,none⟩) (zf hp1)).trans hp1;have hq2:=(Hbb.out.cell (p:=⟨bb,oo+(k - 1)*2+1,none⟩) (zf hp2)).trans hp2;have hq3:=hb1.cell (p:=⟨wr.heap.size,0,none⟩) (by simp);have hq4:=hb1.cell (p:=⟨wr.heap.size,1,none⟩) (by simp);simp only[World.cell?_alloc_mark] at hq3 hq4;simp at hq3 hq4;have Hb1:=hid (Hb.out.trans (Hbb.out.mono Hb.out.size));clear hb1;simp only[zy];clear hp1 hp2 hc1 hc2;go_wp2_with fail;refine jl (by kernel_rfl) (by kernel_rfl) ?_
        repeat (go_big_quiet_step ((intro hw;first
         | rfl
         | (go_at_call 236;exact jt hw (hR.out _))
         | (have q1:=(hw.cell (p:=⟨bb,oo+(k - 1)*2,none⟩) (zf hq1)).trans hq1
            have q2:=(hw.cell (p:=⟨bb,oo+(k - 1)*2+1,none⟩) (zf hq2)).trans hq2;have q3:=(hw.cell (p:=⟨wr.heap.size,0,none⟩) (zf hq3)).trans hq3;have q4:=(hw.cell (p:=⟨wr.heap.size,1,none⟩) (zf hq4)).trans hq4;go_simp;first | rfl | exact⟨rfl,hw⟩ | (trace_state;fail)))))
        refine wpQuiet_nil ?_;intro w3 hb3;have Hb3:=hid (Hb1.out.trans (hb3.mono Hb1.out.size));clear hb3;clear hq1 hq2 hq3 hq4 h01 h02 h03 hsub hg hz1;have Hkn:=hid hkn;by_cases hr0:ju p s=0
        · have Hr:=hid (show zdf l k=none from by rw[Hin.out,if_neg (by intro h;exact h.2 hr0)]);rw[hr0];clear hr0;go_wp2;go_roundw
          case rel=>exact⟨k+1,by omega,by go_num,Hb3.out,fun j hj=>by
           rcases Nat.lt_or_ge j k with h | h
           · exact ht.out j h
           · rw[show j=k from(by omega)];exact Hr.out⟩
          case measure=>simp[intOf];omega
        · have Hr:=hid (show ck l=some (3,k) from zbb (by rw[Hl.out];exact hkn) ht.out (by rw[Hin.out,if_pos ⟨hk0,hr0⟩]));have hne:(((ju p s:Nat):Int) != 0)=true:=by rw[bne_iff_ne];omega
          generalize ju p s=r at*;clear hr0;go_wp2_with fail;refine(zaf 3 k _).mono ?_;rintro e w3 ⟨rfl,rfl⟩;go_wp2_with fail;go_ret;exact⟨by rw[Hr.out];rfl,Hb3.out⟩
      · obtain rfl:k=0:=by omega
        have Hr:=hid (show zdf l 0=none from by rw[hin,if_neg (by omega)]);clear hin hk0;simp only[Nat.zero_mul,Nat.add_zero] at hc1 hc2;rw[show ((0:Nat):Int)=0 from rfl];go_wp2_with fail;refine(hC.out _).mono ?_;rintro e w1 ⟨rfl,hb1⟩;have Hb1:=hid ((Hb.out.alloc Hb.out.size _).trans (hb1.mono (Below.size (Hb.out.alloc Hb.out.size _))));clear hb1;simp only[zy];go_wp2_with fail;refine jl (by kernel_rfl) (by kernel_rfl) ?_;repeat (go_big_quiet_step ((intro hw;first | rfl | (trace_state;fail))))
        refine wpQuiet_nil ?_;intro w3 hb3;have Hb3:=hid (Hb1.out.trans (hb3.mono Hb1.out.size));clear hb3;go_wp2;go_roundw
        case rel=>exact⟨1,by omega,by go_num,Hb3.out,fun j hj=>by rw[show j=0 from(by omega)];exact Hr.out⟩
        case measure=>simp[intOf];omega
  · obtain rfl:k=n:=by omega
    go_wp2;go_ret;exact⟨by rw[show ck l=none from zbs (by rw[Hl.out];exact ht.out)];rfl,Hb.out⟩
theorem zrp {w:World} {ops:Array Oper} {rest:List Oper} {o:Oper} {a:Act} {Q:Exit→Act→World→Prop} (hgd:o.guard=none) (s x:Operand)
 (ho:o.op=.call { callee:=.builtin .append,args:= #[s,x],argTypes:= #[62,62] }) (hty:o.type=62)
 (base:Nat) (v:Value) (n:Nat) (xs:List Nat) (hs:a.eval s=v) (hown:w.ownsRow base 64 1 v n (zi xs)) (A:Option Addr) (m c:Nat) (l:List Nat) (hx:a.eval x=.slice A m c) (hr:Rd w 1 A m (zi l)) (hb:n+m≤1000000) (hbase:base≤w.heap.size)
 (h:∀v' w',w'.ownsRow base 64 1 v' (n+m) (zi (xs++l))→w.grownBy w' v.ownBlock→wpList Tryz.prog ops Q rest (a.put o.dst v') w'):wpList Tryz.prog ops Q (o :: rest) a w:=by
 obtain⟨v',w',hrun,h1,h2⟩:=zhf base v n xs hown A m c l hr (by omega) hbase;exact qf _ _ _ ho (by simp[Region.wanted,hgd]) _ _ hs hx v' w' (by rw[hty];exact hrun) (h v' w' h1 h2)
theorem OwnV.lt {w:World} {base:Nat} {v:Value} {vs:Vec} (h:OwnV w base v vs):∀k,v.ownBlock=some k→base≤k∧k<w.heap.size:=by
 obtain⟨ss,ho,-⟩:=h;exact fun k hk=>ho.lt k hk
theorem OwnK.lt {w:World} {base inner:Nat} {v:Value} {k:Kno} (h:OwnK w base inner v k):∀j,v.ownBlock=some j→base≤j∧j<w.heap.size:=by
 obtain⟨ss,ho,-⟩:=h;exact fun j hj=>ho.lt j hj
end
section
open Go.RowKit Go.Maps
def rB (v:Value):Option (DataW Value×List MemPlace):=
 match v with
 | .bool b=>some (.lit (.bool b),[])
 | _=>none
structure SetS (w:World) (B n:Nat) (D:DataW Value) (S:Nat→Prop):Prop where
 own:w.ownsMap Tryz.prog 64 rB B n D
 keys:∀r:Nat,Maps.has D (.int .u64 (r:Int))=true↔S r
theorem SetS.put {w w':World} {B n m x:Nat} {D:DataW Value} {S S':Nat→Prop} (h:SetS w B n D S) (hown:w'.ownsMap Tryz.prog 64 rB B m (D.put (.int .u64 (x:Int)) (.lit (.bool true)))) (hS:∀r,S' r↔S r∨r=x):SetS w' B m (D.put (.int .u64 (x:Int)) (.lit (.bool true))) S':=by
 refine⟨hown,fun r=>?_⟩;rw[hS r];by_cases e:r=x
 · subst e;rw[has_put_same h.own.isMap (show WideAt.IsKeyLit (.int .u64 (r:Int)) from trivial)];simp
 · rw[has_put_other (zhi e),h.keys r];simp[e]
theorem SetS.kept {w w':World} {B n:Nat} {D:DataW Value} {S:Nat→Prop} (h:SetS w B n D S) (hb:Below w.heap.size w w'):SetS w' B n D S:=⟨h.own.kept (zcq hb) (by simp),h.keys⟩
theorem SetS.congr {w:World} {B n:Nat} {D:DataW Value} {S S':Nat→Prop} (h:SetS w B n D S) (hS:∀r,S r↔S' r):SetS w B n D S':=⟨h.own,fun r=>(h.keys r).trans (hS r)⟩
theorem zw8 {H:Type} {P:Program} (w:World) {ops:Array Oper} {rest:List Oper} {o:Oper} {a:Act} {Q:Exit→Act→World→Prop}
 (hg:o.guard=none) (m x v:Operand) (t:TypeId) (hop:o.op=Op.insert t m x v)
 (k e:TypeId) (K:Keyed P k) (ht:P.underlying t=some (.map k e)) (R:Value→Option (DataW H×List MemPlace)) (b n:Nat) (D:DataW H)
 (hm:a.eval m=.map (some b)) (hown:w.ownsMap P k R b n D) (hn:n<maxLen) (key val:Value) (kl:Lit) (hx:a.eval x=key) (hv:a.eval v=val) (hkey:keyOf P k key=some kl)
 (d:DataW H) (ps:List MemPlace) (hval:R val=some (d,ps))
 (hK:∀w',w'.ownsMap P k R b (n+1) (D.put kl d)→w.grownBy w' (some b)→wpList P ops Q rest (a.put o.dst undef) w'):
 wpList P ops Q (o :: rest) a w:=by
 refine wpList_plain hg fun K' hK'=>?_
 obtain⟨w',hrun,r1,r2⟩:=hown.update K ht hn hkey hval;unfold Oper.wp;simp[execOp,hop,hm,hx,hv,hrun,Result.andThen];exact hK' _ _ (hK w' r1 r2)
structure Sift (k:Kno) (D:DataW Value) (left:Lit→Bool):Prop where
 keys:∀r:Nat,Maps.has D (.int .u64 (r:Int))=true↔(r∈ki k∧(left (.int .u64 (r:Int))=true∨r∈yb k))
theorem zrq (x y:Nat):Lit.sameKey (.int .u64 (x:Int)) (.int .u64 (y:Int))=decide (x=y):=by
 by_cases e:x=y
 · subst e;simp[WideAt.sameKey_self (show WideAt.IsKeyLit (.int .u64 (x:Int)) from trivial)]
 · rw[sameKey_ne (zhi e),decide_eq_false e]
theorem Sift.start {k:Kno} {D:DataW Value} (h:∀r:Nat,Maps.has D (.int .u64 (r:Int))=true↔r∈ki k):Sift k D (Maps.has D):=
 ⟨fun r=>by rw[h r];constructor
            · exact fun hr=>⟨hr,.inl hr⟩
            · exact fun hr=>hr.1⟩
theorem Sift.drop {k:Kno} {D:DataW Value} {left:Lit→Bool} (h:Sift k D left) {x:Nat} (hx:x∉yb k):Sift k (D.del (.int .u64 (x:Int))) (fun z=>left z && !z.sameKey (.int .u64 (x:Int))):=by
 refine⟨fun r=>?_⟩;rw[zrq];by_cases e:r=x
 · subst e;rw[has_del_same];simp[hx]
 · rw[has_del_other (zhi e),h.keys r];simp[e]
theorem Sift.all {k:Kno} {D:DataW Value} {left:Lit→Bool} (h:Sift k D left) (hl:∀kl,left kl=false) (r:Nat):Maps.has D (.int .u64 (r:Int))=true↔r∈yb k:=by
 rw[h.keys r,hl];constructor
 · rintro⟨-,h1 | h1⟩
   · cases h1
   · exact h1
 · exact fun h1=>⟨(zk6.1 h1).1,.inr h1⟩
structure Coll (D:DataW Value) (left:Lit→Bool) (L:List Nat):Prop where
 nodup:L.Nodup
 mem:∀x:Nat,x∈L↔(Maps.has D (.int .u64 (x:Int))=true∧left (.int .u64 (x:Int))=false)
theorem Coll.start (D:DataW Value):Coll D (Maps.has D) []:=⟨List.nodup_nil,fun x=>by cases Maps.has D (.int .u64 (x:Int)) <;> simp⟩
theorem Coll.step {D:DataW Value} {left:Lit→Bool} {L:List Nat} (h:Coll D left L) {x:Nat} (hh:Maps.has D (.int .u64 (x:Int))=true) (hl:left (.int .u64 (x:Int))=true):Coll D (fun z=>left z && !z.sameKey (.int .u64 (x:Int))) (L++[x]):=by
 have hn:x∉L:=fun hx=>by
  have:=((h.mem x).1 hx).2;rw[hl] at this;cases this
 refine⟨List.nodup_append.2 ⟨h.nodup,by simp,fun a ha b hb=>by simp at hb;subst hb;exact fun e=>hn (e ▸ ha)⟩,fun y=>?_⟩;rw[List.mem_append,List.mem_singleton,h.mem y,zrq];by_cases e:y=x
 · subst e;simp[hh]
 · simp[e]
end
section
open Go.RowKit
theorem zn0 {l:List Nat} {k:Nat} (h:k<l.length):l.drop k=nth l k :: l.drop (k+1):=by
 rw[List.drop_eq_getElem_cons h];congr 1;simp[nth,h]
theorem zw9 {p q:List Nat} {k:Nat} (hp:k<p.length) (hq:k<q.length):vm (p.drop k) (q.drop k)=if nth p k<nth q k then -1 else if nth q k<nth p k then 1 else vm (p.drop (k+1)) (q.drop (k+1)):=by
 rw[zn0 hp,zn0 hq]
 rfl
theorem zrr {p q:List Nat} {k:Nat} (hp:k≤p.length) (hq:k≤q.length) (h:k=p.length∨k=q.length):vm (p.drop k) (q.drop k)=if p.length<q.length then -1 else if q.length<p.length then 1 else 0:=by
 rcases h with rfl | rfl
 · rw[List.drop_length];by_cases hl:p.length<q.length
   · rw[if_pos hl,zn0 hl];rfl
   · have:q.drop p.length=[]:=List.drop_eq_nil_of_le (by omega);rw[if_neg hl,if_neg (by omega),this];rfl
 · rw[List.drop_length];by_cases hl:q.length<p.length
   · rw[if_neg (by omega),if_pos hl,zn0 hl];rfl
   · have:p.drop q.length=[]:=List.drop_eq_nil_of_le (by omega);rw[if_neg (by omega),if_neg hl,this];rfl
theorem zlf (e:Ent):(ko e).length=3+2*e.2.2.length:=by
 simp only[ko,List.length_cons,zle];omega
theorem zxa {v:Vec} {e:Ent} (h:e∈v):(ko e).length+v.length≤(v.flatMap ko).length+1:=by
 induction v with
 | nil=>cases h
 | cons f v ih=>
  rw[List.flatMap_cons,List.length_append,List.length_cons];rcases List.mem_cons.1 h with rfl | h
  · have:v.length≤(v.flatMap ko).length:=by
     clear ih h
     induction v with
     | nil=>exact Nat.le_refl _
     | cons g v ih=>rw[List.flatMap_cons,List.length_append,List.length_cons,zlf];omega
    omega
  · have:=ih h;have:=zlf f;omega
theorem zlg {v:Vec} (h:LtV v) (hn:(yj v).length≤1000000000000):∀x∈yj v,x<18446744073709551616:=by
 intro x hx;have hc:(yj v).length=(v.flatMap ko).length+1:=rfl;simp only[yj,List.mem_cons,List.mem_flatMap,ko,ve,List.not_mem_nil,or_false] at hx;rcases hx with rfl | ⟨e,he,hx⟩
 · cases v with
   | nil=>decide
   | cons e v=>have:=zxa (List.mem_cons_self (a:=e) (l:=v));omega
 · have h1:=zxa he;have h2:=zlf e;rcases hx with rfl | rfl | rfl | ⟨s,hs,rfl | rfl⟩
   · exact(h e he).rep
   · exact(h e he).max
   · omega
   · exact((h e he).holes s hs).1
   · exact((h e he).holes s hs).2
end
section
def zat (k:Kno):List Iv:=k.flatMap (·.1)
theorem zrs {k:Kno} {d:Nat} (h:d<k.length):zat (k.take (d+1))=zat (k.take d)++(za k d).1:=by
 unfold zat;rw[List.take_succ_eq_append_getElem h,List.flatMap_append,qm h];simp
theorem zn1 {k:Kno} {s:Iv}:s∈zat k↔∃f∈k,s∈f.1:=by unfold zat;exact List.mem_flatMap
def zen (k:Kno) (x:Nat):Nat:=(j7 (fun i=>if mem (za k i).1 x=true then some i else none) k.length).getD 0
end
section
open Go.RowKit
theorem z9c (n:Nat):(madeCells (Value.int .i64 0).cells (n*1)).toList=qi (List.replicate n 0):=by
 apply List.ext_getElem?;intro i;by_cases h:i<n
 · simp[madeCells,qi,Value.cells,h,Nat.mod_one]
 · simp[madeCells,qi,h]
theorem zxb (w:World) (base n:Nat) (hn:n≤1000000) (hb:base≤w.heap.size):
 ∃w',(Instr.makeSlice 79 (.int .i64 (n:Int)) (.int .i64 (n:Int))).run Tryz.prog w=.ok (.slice (some ⟨w.heap.size,0,none⟩) n n) w'∧w'.ownsRow base 3 1 (.slice (some ⟨w.heap.size,0,none⟩) n n) n (qi (List.replicate n 0))∧Below w.heap.size w w':=by
 obtain⟨i,hi,hz⟩:=Option.map_eq_some_iff.1 Tryz.info_int;simp only[Prod.mk.injEq] at hz;obtain⟨h1,h2,h3⟩:=hz;obtain⟨w',hr,ho,hg⟩:=run_make_full (P:=Tryz.prog) w base 79 3 i _ 1 Tryz.underlying79 hi h1 h2 .i64 .i64 n (by rw[h3];omega) (by unfold maxLen;omega) hb;rw[z9c] at ho;exact⟨w',hr,ho,(Below.refl _ _).grown hg (Nat.le_refl _) (by intro k h;cases h)⟩
def z9d (base:Nat) (ss:List Value):Prop:=∀p n c,Value.slice (some p) n c∈ss→0<n→base≤p.block
def OwnV2 (w:World) (base:Nat) (x:Value) (v:Vec):Prop:=∃ss,w.ownsRow base 137 3 x v.length (zcp v ss)∧HolesT w 0 v ss∧z9d base ss
theorem OwnV2.toOwnV {w:World} {base:Nat} {x:Value} {v:Vec} (h:OwnV2 w base x v):OwnV w base x v:=let ⟨ss,h1,h2,_⟩:=h;⟨ss,h1,h2⟩
theorem OwnV2.lower {w:World} {base base':Nat} {x:Value} {v:Vec} (h:OwnV2 w base x v) (hb:base'≤base):OwnV2 w base' x v:=by
 obtain⟨ss,ho,hh,ha⟩:=h;exact⟨ss,qt ho hb,hh,fun p n c h1 h2=>Nat.le_trans hb (ha p n c h1 h2)⟩
theorem OwnV2.lt {w:World} {base:Nat} {v:Value} {vs:Vec} (h:OwnV2 w base v vs):∀k,v.ownBlock=some k→base≤k∧k<w.heap.size:=h.toOwnV.lt
theorem zxc {w w':World} {a:Option Addr} {n c:Nat} {l:List Iv} (h:IvsT w 0 a n c l) (hs:0<n→∀p,a=some p→p.block<w.heap.size→w'.heap[p.block]?=w.heap[p.block]?):IvsT w' 0 a n c l:=by
 refine⟨⟨h.ivs.len,h.ivs.lt,h.ivs.room,h.ivs.most,h.ivs.nilc,fun hn=>?_⟩,fun hn p hp=>?_⟩
 · obtain⟨b,o,ha,hc⟩:=h.ivs.cells hn;have hrow:=hs hn _ ha (zf (hc 0 hn).1);exact⟨b,o,ha,fun i hi=>⟨(World.cell?_of_block (a:=⟨b,o+i*2,none⟩) hrow).trans (hc i hi).1,(World.cell?_of_block (a:=⟨b,o+i*2+1,none⟩) hrow).trans (hc i hi).2⟩⟩
 · obtain⟨b,o,ha,hc⟩:=h.ivs.cells hn;have hrow:=hs hn _ ha (zf (hc 0 hn).1);rw[ha] at hp;cases hp;rcases h.row hn _ ha with h' | ⟨C,fr,h'⟩
   · omega
   · exact .inr ⟨C,fr,hrow.trans h'⟩
theorem OwnV2.same {w w':World} {base:Nat} {x:Value} {v:Vec} (h:OwnV2 w base x v) (hk:∀k,base≤k→k<w.heap.size→w'.heap[k]?=w.heap[k]?):OwnV2 w' base x v:=by
 obtain⟨ss,ho,hh,ha⟩:=h;refine⟨ss,j8 ho hk,⟨hh.1,fun i hi=>?_⟩,ha⟩;obtain⟨a,n,c,h1,h2⟩:=hh.2 i hi;exact⟨a,n,c,h1,zxc h2 fun hn p hp hw=>hk _ (ha p n c (by rw[←hp];exact List.mem_of_getElem? h1) hn) hw⟩
theorem OwnV2.below {w w':World} {base:Nat} {x:Value} {v:Vec} (h:OwnV2 w base x v) (hb:Below w.heap.size w w'):OwnV2 w' base x v:=h.same fun k _ hk=>hb.block k hk
