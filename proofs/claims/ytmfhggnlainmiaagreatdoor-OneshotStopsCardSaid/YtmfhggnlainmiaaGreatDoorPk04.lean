/- Part 04. -/
import Derived.Maps.Own
import Derived.Maps.OwnOps
import Derived.Maps.OwnSet
import Derived.Maps.RangeWalk
import Derived.Maps.Ext
import Derived.Test.YtmfhggnlainmiaaGreatDoorPk03
set_option linter.unusedVariables false
namespace Go.Proofs.YtmfhggnlainmiaaGreatDoor
section
open Go.RowKit Go.Shelf
def zg (v:Vec) (i:Nat):Ent:=v.getD i (0,0,[])
theorem j0 {v:Vec} {i:Nat} (h:i<v.length):zg v i=v[i]:=by simp[zg,h]
theorem vq {v:Vec} {i:Nat} (h:i<v.length):zg v i∈v:=by rw[j0 h];exact List.getElem_mem h
structure Ents (w:World) (a:Option Addr) (n cap:Nat) (v:Vec):Prop where
 len:v.length=n
 lt:LtV v
 room:n≤cap
 most:cap≤9223372036854775807
 nilc:a=none→cap=0
 cells:0<n→∃b o,a=some ⟨b,o,none⟩∧∀i,i<n→w.cell? ⟨b,o+i*3,none⟩=some (.int .u64 (((zg v i).1:Nat):Int))∧w.cell? ⟨b,o+i*3+1,none⟩=some (.int .u64 (((zg v i).2.1:Nat):Int))∧
  ∃x k c,w.cell? ⟨b,o+i*3+2,none⟩=some (.slice x k c)∧Ivs w x k c (zg v i).2.2
theorem Ents.below {w w':World} {a:Option Addr} {n cap:Nat} {v:Vec} (h:Ents w a n cap v) (hb:Below w.heap.size w w'):Ents w' a n cap v:=by
 refine⟨h.len,h.lt,h.room,h.most,h.nilc,fun hn=>?_⟩;obtain⟨b,o,ha,hc⟩:=h.cells hn;refine⟨b,o,ha,fun i hi=>?_⟩;obtain⟨h1,h2,x,k,c,h3,h4⟩:=hc i hi;exact⟨(hb.cell (p:=⟨b,o+i*3,none⟩) (zf h1)).trans h1,(hb.cell (p:=⟨b,o+i*3+1,none⟩) (zf h2)).trans h2,x,k,c,(hb.cell (p:=⟨b,o+i*3+2,none⟩) (zf h3)).trans h3,h4.below hb⟩
theorem zww (w:World):Ents w none 0 0 []:=⟨rfl,by simp,by omega,by omega,fun _=>rfl,fun h=>by omega⟩
def zhg (w:World) (base:Nat) (T:TypeId) (b:Nat):Prop:=b<base∨∃C fr,w.heap[b]?=some (.cells C T fr)
structure Steady (base:Nat) (P:TypeId→Prop) (w w':World):Prop where
 size:w.heap.size≤w'.heap.size
 row:∀k,k<w.heap.size→(k<base∨∃C T fr,P T∧w.heap[k]?=some (.cells C T fr))→w'.heap[k]?=w.heap[k]?
theorem Steady.of_below {base:Nat} {P:TypeId→Prop} {w w':World} (h:Below w.heap.size w w'):Steady base P w w':=⟨h.size,fun k hk _=>h.block k hk⟩
theorem Steady.trans {base:Nat} {P:TypeId→Prop} {a b c:World} (h:Steady base P a b) (k:Steady base P b c):Steady base P a c:=
 ⟨Nat.le_trans h.size k.size,fun i hi hp=>(k.row i (Nat.lt_of_lt_of_le hi h.size) (hp.imp id fun ⟨C,T,fr,hT,hr⟩=>⟨C,T,fr,hT,(h.row i hi (.inr ⟨C,T,fr,hT,hr⟩)).trans hr⟩)).trans (h.row i hi hp)⟩
theorem Steady.weak {base:Nat} {P Q:TypeId→Prop} {w w':World} (h:Steady base P w w') (hq:∀T,Q T→P T):Steady base Q w w':=⟨h.size,fun k hk hp=>h.row k hk (hp.imp id fun ⟨C,T,fr,hT,hr⟩=>⟨C,T,fr,hq T hT,hr⟩)⟩
theorem Steady.lower {base base':Nat} {P:TypeId→Prop} {w w':World} (h:Steady base P w w') (hb:base'≤base):Steady base' P w w':=⟨h.size,fun k hk hp=>h.row k hk (hp.imp (fun h=>by omega) id)⟩
theorem Steady.grown {base sz n:Nat} {P:TypeId→Prop} {w w':World} {e:TypeId} {v:Value} {xs:List Value} (ho:w.ownsRow base e sz v n xs) (hg:w.grownBy w' v.ownBlock) (he:¬P e):Steady base P w w':=by
 refine⟨hg.size,fun k hk hp=>hg.block k hk fun hr=>?_⟩;rcases ho.2 with ⟨rfl,_⟩ | ⟨g,cap,cur,rfl,hb,hh,_⟩
 · simp[Value.ownBlock] at hr
 · simp[Value.ownBlock] at hr;subst hr;rcases hp with h | ⟨C,T,fr,hT,h⟩
   · omega
   · rw[hh] at h;cases h;exact he hT
theorem Steady.setCell {base:Nat} {P:TypeId→Prop} {w:World} {a:Addr} {u:Value} {e:TypeId} {C:Array Value} {fr:Nat×Nat} (h:w.heap[a.block]?=some (.cells C e fr)) (hb:base≤a.block) (he:¬P e):Steady base P w (w.setCell a u):=by
 refine⟨by simp[World.setCell],fun k hk hp=>Below.heap_setCell _ _ _ _ fun hr=>?_⟩;subst hr;rcases hp with h' | ⟨C',T,fr',hT,h'⟩
 · omega
 · rw[h] at h';cases h';exact he hT
def zde (T:TypeId):Prop:=T=135
def zb8 (T:TypeId):Prop:=T=135∨T=137
theorem znu {w w':World} {base:Nat} {T:TypeId} {P:TypeId→Prop} {b:Nat} (h:zhg w base T b) (hb:b<w.heap.size) (hs:Steady base P w w') (hT:P T):zhg w' base T b∧w'.heap[b]?=w.heap[b]?:=by
 rcases h with h | ⟨C,fr,h⟩
 · exact⟨.inl h,hs.row b hb (.inl h)⟩
 · have:=hs.row b hb (.inr ⟨C,T,fr,hT,h⟩);exact⟨.inr ⟨C,fr,this.trans h⟩,this⟩
structure IvsT (w:World) (base:Nat) (a:Option Addr) (n c:Nat) (l:List Iv):Prop where
 ivs:Ivs w a n c l
 row:0<n→∀p,a=some p→zhg w base 135 p.block
theorem IvsT.steady {w w':World} {base:Nat} {P:TypeId→Prop} {a:Option Addr} {n c:Nat} {l:List Iv} (h:IvsT w base a n c l) (hs:Steady base P w w') (hP:P 135):IvsT w' base a n c l:=by
 refine⟨⟨h.ivs.len,h.ivs.lt,h.ivs.room,h.ivs.most,h.ivs.nilc,fun hn=>?_⟩,fun hn p hp=>?_⟩
 · obtain⟨b,o,ha,hc⟩:=h.ivs.cells hn;have hb:=zf (hc 0 hn).1;obtain⟨-,hrow⟩:=znu (h.row hn _ ha) hb hs hP;exact⟨b,o,ha,fun i hi=>⟨(World.cell?_of_block (a:=⟨b,o+i*2,none⟩) hrow).trans (hc i hi).1,(World.cell?_of_block (a:=⟨b,o+i*2+1,none⟩) hrow).trans (hc i hi).2⟩⟩
 · obtain⟨b,o,ha,hc⟩:=h.ivs.cells hn;rw[ha] at hp;cases hp;exact(znu (h.row hn _ ha) (zf (hc 0 hn).1) hs hP).1
theorem IvsT.lower {w:World} {base base':Nat} {a:Option Addr} {n c:Nat} {l:List Iv} (h:IvsT w base a n c l) (hr:∀b,zhg w base 135 b→zhg w base' 135 b):IvsT w base' a n c l:=⟨h.ivs,fun hn p hp=>hr _ (h.row hn p hp)⟩
theorem ze3 {w:World} {base base' n:Nat} {v:Value} {l:List Iv} (h:w.ownsRow base 135 2 v n (ivC l)) (hl:zo l):∃a c,v=.slice a n c∧IvsT w base' a n c l:=by
 obtain⟨a,c,rfl,hI⟩:=za2 h hl;refine⟨a,c,rfl,hI,fun hn p hp=>?_⟩;rcases h.2 with ⟨h',_⟩ | ⟨g,cap,cur,h',_,hh,_⟩
 · cases h';cases hp
 · simp only[Value.slice.injEq] at h';obtain⟨rfl,_⟩:=h';cases hp;exact .inr ⟨_,_,hh⟩
def zcp (v:Vec) (ss:List Value):List Value:=(v.zip ss).flatMap fun p=>[.int .u64 ((p.1.1:Nat):Int),.int .u64 ((p.1.2.1:Nat):Int),p.2]
theorem znv:∀{v:Vec} {ss:List Value},ss.length=v.length→(zcp v ss).length=v.length*3
 | [],_,_=>by simp[zcp]
 | e :: v,[],h=>by simp at h
 | e :: v,s :: ss,h=>by
   have:=znv (v:=v) (ss:=ss) (by simpa using h);simp only[zcp,List.zip_cons_cons,List.flatMap_cons,List.length_append,List.length_cons,List.length_nil] at this ⊢;omega
theorem znw {v u:Vec} {ss ts:List Value} (h:ss.length=v.length):zcp (v++u) (ss++ts)=zcp v ss++zcp u ts:=by
 unfold zcp;rw[List.zip_append h.symm,List.flatMap_append]
theorem zrn:∀{v:Vec} {ss:List Value} {i:Nat},ss.length=v.length→i<v.length→
 (zcp v ss)[i*3]?=some (.int .u64 (((zg v i).1:Nat):Int))∧(zcp v ss)[i*3+1]?=some (.int .u64 (((zg v i).2.1:Nat):Int))∧(zcp v ss)[i*3+2]?=ss[i]?
 | [],_,i,_,h=>by simp at h
 | e :: v,[],i,h,_=>by simp at h
 | e :: v,s :: ss,0,_,_=>⟨rfl,rfl,rfl⟩
 | e :: v,s :: ss,i+1,h,hi=>by
   have:=zrn (v:=v) (ss:=ss) (i:=i) (by simpa using h) (by simpa using hi);have e1:zcp (e :: v) (s :: ss)=.int .u64 ((e.1:Nat):Int) :: .int .u64 ((e.2.1:Nat):Int) :: s :: zcp v ss:=rfl;rw[e1,show (i+1)*3=i*3+1+1+1 by omega,show i*3+1+1+1+1=(i*3+1)+1+1+1 by omega,show i*3+1+1+1+2=(i*3+2)+1+1+1 by omega];simpa [zg] using this
def HolesT (w:World) (base:Nat) (v:Vec) (ss:List Value):Prop:=ss.length=v.length∧∀i,i<v.length→∃a n c,ss[i]?=some (.slice a n c)∧IvsT w base a n c (zg v i).2.2
theorem HolesT.steady {w w':World} {base:Nat} {P:TypeId→Prop} {v:Vec} {ss:List Value} (h:HolesT w base v ss) (hs:Steady base P w w') (hP:P 135):HolesT w' base v ss:=
 ⟨h.1,fun i hi=>let ⟨a,n,c,h1,h2⟩:=h.2 i hi;⟨a,n,c,h1,h2.steady hs hP⟩⟩
theorem zwx (w:World) (base:Nat):HolesT w base [] []:=⟨rfl,fun i hi=>by simp at hi⟩
theorem HolesT.snoc {w:World} {base:Nat} {v:Vec} {ss:List Value} {e:Ent} {a:Option Addr} {n c:Nat} (h:HolesT w base v ss) (hI:IvsT w base a n c e.2.2):HolesT w base (v++[e]) (ss++[.slice a n c]):=by
 refine⟨by simp[h.1],fun i hi=>?_⟩;by_cases hv:i<v.length
 · obtain⟨x,k,d,h1,h2⟩:=h.2 i hv;refine⟨x,k,d,by rw[List.getElem?_append_left (by rw[h.1];exact hv)];exact h1,?_⟩;have:zg (v++[e]) i=zg v i:=by rw[j0 hi,j0 hv,List.getElem_append_left hv]
   rw[this];exact h2
 · have hiv:i=v.length:=by simp at hi;omega
   subst hiv;refine⟨a,n,c,by rw[List.getElem?_append_right (by rw[h.1];omega),h.1];simp,?_⟩;have:zg (v++[e]) v.length=e:=by simp[zg]
   rw[this];exact hI
def OwnV (w:World) (base:Nat) (x:Value) (v:Vec):Prop:=∃ss,w.ownsRow base 137 3 x v.length (zcp v ss)∧HolesT w 0 v ss
theorem zjz (w:World) (base:Nat):OwnV w base (.slice none 0 0) []:=⟨[],World.ownsRow_nil ..,zwx w 0⟩
theorem OwnV.steady {w w':World} {base:Nat} {P:TypeId→Prop} {x:Value} {v:Vec} (h:OwnV w base x v) (hs:Steady base P w w') (h1:P 135) (h2:P 137):OwnV w' base x v:=by
 obtain⟨ss,ho,hh⟩:=h;refine⟨ss,⟨ho.1,?_⟩,hh.steady (hs.lower (Nat.zero_le _)) h1⟩;rcases ho.2 with h' | ⟨g,cap,cur,hv,hg,hr,rest⟩
 · exact .inl h'
 · exact .inr ⟨g,cap,cur,hv,hg,(hs.row g (Array.getElem?_eq_some_iff.1 hr).1 (.inr ⟨_,_,_,h2,hr⟩)).trans hr,rest⟩
theorem OwnV.below {w w':World} {base:Nat} {x:Value} {v:Vec} (h:OwnV w base x v) (hb:Below w.heap.size w w'):OwnV w' base x v:=
 h.steady (P:=fun _=>True) (.of_below hb) trivial trivial
theorem OwnV.ents {w:World} {base:Nat} {x:Value} {v:Vec} (h:OwnV w base x v) (hl:LtV v):∃a c,x=.slice a v.length c∧Ents w a v.length c v:=by
 obtain⟨ss,ho,hs⟩:=h;have ho2:=ho;rcases ho.2 with ⟨rfl,h0⟩ | ⟨g,cap,cur,rfl,hg,hh,hnc,hcm,_⟩
 · rw[h0];have:v=[]:=List.length_eq_zero_iff.1 h0;subst this;exact⟨none,0,rfl,zww w⟩
 · refine⟨_,_,rfl,rfl,hl,hnc,by unfold maxLen at hcm;omega,(by intro h;cases h),fun hn=>⟨g,0,rfl,fun i hi=>?_⟩⟩;obtain⟨e1,e2,e3⟩:=zrn hs.1 hi;obtain⟨a,n,c,h1,h2⟩:=hs.2 i hi;rw[h1] at e3;have c1:=ho2.cells (g:=g) rfl _ _ e1;have c2:=ho2.cells (g:=g) rfl _ _ e2;have c3:=ho2.cells (g:=g) rfl _ _ e3;rw[qg] at c1 c2 c3;exact⟨c1,by rw[Nat.add_assoc];exact c2,a,n,c,by rw[Nat.add_assoc];exact c3,h2.ivs⟩
theorem OwnV.lower {w:World} {base base':Nat} {x:Value} {v:Vec} (h:OwnV w base x v) (hb:base'≤base):OwnV w base' x v:=by
 obtain⟨ss,ho,hh⟩:=h;exact⟨ss,qt ho hb,hh⟩
theorem Tryz.info_ent:(Tryz.prog.info? 137).map (fun i=>(i.zero,i.size,i.bytes))=some (some (.agg #[.int .u64 0,.int .u64 0,.slice none 0 0]),3,40):=by kernel_rfl
end
section
open Go.RowKit
theorem zd7 (w:World) (x y z:Value) (T:TypeId) (w':World) (h:Below (w.alloc (.cells #[x,y,z] T)).heap.size (w.alloc (.cells #[x,y,z] T)) w'):
 w'.cell? ⟨w.heap.size,0,none⟩=some x∧w'.cell? ⟨w.heap.size,1,none⟩=some y∧w'.cell? ⟨w.heap.size,2,none⟩=some z:=by
 have hrow:(w.alloc (.cells #[x,y,z] T)).heap[w.heap.size]?=some (.cells #[x,y,z] T):=qa rfl
 exact⟨(h.cell (p:=⟨w.heap.size,0,none⟩) (by simp)).trans (ym (i:=0) hrow rfl),
  (h.cell (p:=⟨w.heap.size,1,none⟩) (by simp)).trans (ym (i:=1) hrow rfl),
  (h.cell (p:=⟨w.heap.size,2,none⟩) (by simp)).trans (ym (i:=2) hrow rfl)⟩
theorem Ents.at {w:World} {b o n cap:Nat} {v:Vec} (h:Ents w (some ⟨b,o,none⟩) n cap v) {k:Nat} (hk:k<n):∀w',Below w.heap.size w w'→
 w'.cell? ⟨b,o+k*3,none⟩=some (.int .u64 (((zg v k).1:Nat):Int))∧w'.cell? ⟨b,o+k*3+1,none⟩=some (.int .u64 (((zg v k).2.1:Nat):Int))∧
  ∃x m c,w'.cell? ⟨b,o+k*3+2,none⟩=some (.slice x m c)∧Ivs w' x m c (zg v k).2.2:=by
 intro w' hb;obtain⟨b',o',hs,hc⟩:=h.cells (by omega);cases hs;obtain⟨h1,h2,x,m,c,h3,h4⟩:=hc k hk;exact⟨(hb.cell (p:=⟨b,o+k*3,none⟩) (zf h1)).trans h1,(hb.cell (p:=⟨b,o+k*3+1,none⟩) (zf h2)).trans h2,x,m,c,(hb.cell (p:=⟨b,o+k*3+2,none⟩) (zf h3)).trans h3,h4.below hb⟩
theorem Ents.fix {w:World} {b o n cap:Nat} {v:Vec} (h:Ents w (some ⟨b,o,none⟩) n cap v) {k:Nat} (hk:k<n):∃x m c,∀w',Below w.heap.size w w'→
 w'.cell? ⟨b,o+k*3,none⟩=some (.int .u64 (((zg v k).1:Nat):Int))∧w'.cell? ⟨b,o+k*3+1,none⟩=some (.int .u64 (((zg v k).2.1:Nat):Int))∧
  w'.cell? ⟨b,o+k*3+2,none⟩=some (.slice x m c)∧Ivs w' x m c (zg v k).2.2:=by
 obtain⟨b',o',hs,hc⟩:=h.cells (by omega);cases hs;obtain⟨h1,h2,x,m,c,h3,h4⟩:=hc k hk;exact⟨x,m,c,fun w' hb=>⟨(hb.cell (p:=⟨b,o+k*3,none⟩) (zf h1)).trans h1,(hb.cell (p:=⟨b,o+k*3+1,none⟩) (zf h2)).trans h2,(hb.cell (p:=⟨b,o+k*3+2,none⟩) (zf h3)).trans h3,h4.below hb⟩⟩
theorem Ents.some {w:World} {a:Option Addr} {n cap:Nat} {v:Vec} (h:Ents w a n cap v) (hn:0<n):∃b o,a=some ⟨b,o,none⟩:=by
 obtain⟨b,o,ha,-⟩:=h.cells hn;exact⟨b,o,ha⟩
theorem zby {w':World} {g:Nat} {x y z:Value} {T:TypeId} (hr:w'.heap[g]?=some (.cells #[x,y,z] T)):
 w'.cell? ⟨g,0,none⟩=some x∧w'.cell? ⟨g,1,none⟩=some y∧w'.cell? ⟨g,2,none⟩=some z∧w'.frozen? ⟨g,0,none⟩=false∧w'.frozen? ⟨g,1,none⟩=false∧w'.frozen? ⟨g,2,none⟩=false:=
 ⟨ym (i:=0) hr rfl,ym (i:=1) hr rfl,ym (i:=2) hr rfl,by simp[World.frozen?,hr],by simp[World.frozen?,hr],by simp[World.frozen?,hr]⟩
def j7 {α:Type} (f:Nat→Option α) (n:Nat):Option α:=(List.range n).findSome? f
theorem zbb {α:Type} {f:Nat→Option α} {n k:Nat} {x:α} (hk:k<n) (h:∀j,j<k→f j=none) (hx:f k=some x):j7 f n=some x:=by
 unfold j7
 induction n with
 | zero=>omega
 | succ n ih=>
  rw[List.range_succ,List.findSome?_append];by_cases e:k=n
  · subst e
    have h0:(List.range k).findSome? f=none:=by
     rw[List.findSome?_eq_none_iff];intro j hj;exact h j (by simpa using hj)
    rw[h0];simp[hx]
  · rw[ih (by omega)]
    rfl
theorem zbs {α:Type} {f:Nat→Option α} {n:Nat} (h:∀j,j<n→f j=none):j7 f n=none:=by
 unfold j7;rw[List.findSome?_eq_none_iff];intro j hj;exact h j (by simpa using hj)
theorem zgi {α:Type} {f:Nat→Option α} {n:Nat} (h:j7 f n=none):∀j,j<n→f j=none:=by
 unfold j7 at h;rw[List.findSome?_eq_none_iff] at h;intro j hj;exact h j (by simpa using hj)
theorem zgj {α:Type} {f:Nat→Option α} {n:Nat} {x:α} (h:j7 f n=some x):∃k,k<n∧(∀j,j<k→f j=none)∧f k=some x:=by
 induction n with
 | zero=>cases h
 | succ n ih=>
  unfold j7 at h ih;rw[List.range_succ,List.findSome?_append] at h
  cases e:(List.range n).findSome? f with
  | some y=>
   rw[e] at h ih;obtain⟨k,h1,h2,h3⟩:=ih h
   exact⟨k,by omega,h2,h3⟩
  | none=>
   rw[e] at h;refine⟨n,by omega,zgi e,?_⟩;simpa using h
def zdf (l:List Iv) (i:Nat):Option (Nat×Nat):=
 if (zb l i).2<(zb l i).1 then some (2,i) else if 0<i∧ju (zb l (i - 1)) (zb l i)≠0 then some (3,i) else none
def ck (l:List Iv):Option (Nat×Nat):=j7 (zdf l) l.length
def qk:Option (Nat×Nat)→Err
 | none=>none
 | some (c,i)=>some ((c:Int),some (i:Int))
end
section
open Go.RowKit Go.Shelf
def zro {α:Type} (n:Nat) (P:Program) (g:Nat) (lb:Array Value) (encs:α→Array Value) (V S:List α→Prop) (R p:Nat→Prop) (w:World):Prop:=
 ∀(l:Nat) (J Jx:List α→World→Prop) (W:World),w.heap.size≤l→Below w.heap.size w W→
  (∀s A B,J s A→Kept (fun k=>¬R k) A B→J s B)→(∀s A B,Jx s A→Kept (fun k=>¬R k) A B→Jx s B)→
  (∀pre x W1,V (pre++[x])→J pre W1→YieldAt Fence.wide (n - 1) P l (encs x) W1 fun e W'=>
    (e=.returned (.bool true)∧J (pre++[x]) W'∧Kept p W1 W')∨(e=.returned (.bool false)∧Jx (pre++[x]) W'))→
  J [] W→
  CallsIn Fence.wide n P g (#[.func (.yield l) #[] #[]]++lb) W fun e W'=>(∃v,e=.returned v)∧((∃xs,S xs∧J xs W')∨(∃pre,V pre∧Jx pre W'))
def z83 {α:Type} (D:Nat) (p:Nat→Prop) (I:List α→World→Prop) (Ix:Code→List α→World→Prop) (xs:List α) (W:World):Exit→Act→World→Prop
 | .normal,_,W'=>Kept (fun k=>p k∨k=D∨k=D+1) W W'∧I xs W'
 | .ret,_,W'=>Kept (fun k=>k=D∨k=D+1) W W'∧Ix .ret xs W'
 | .exit id,_,W'=>Kept (fun k=>k=D∨k=D+1) W W'∧Ix (.exit id) xs W'
 | .goto t,_,W'=>Kept (fun k=>k=D∨k=D+1) W W'∧Ix (.goto t) xs W'
 | .panic _,_,_=>False
 | .outgrown,_,_=>False
theorem zlb {α:Type} {n:Nat} {P:Program} {g:Operand} {ps:Array Tmp} {assign body:Code} {Q:Exit→Act→World→Prop} {a:Act} {w:World}
 {gf:Nat} {lb:Array Value} (hg:a.eval g=.func (.func gf) #[] lb) (eg:∀args w,(callFunc gf args).run P w=.ok (.enter gf args) w)
 {encs:α→Array Value} {V S:List α→Prop} {R p:Nat→Prop} (hseq:zro (n - 1) P gf lb encs V S R p w) (hps:∀x,(encs x).size=ps.size)
 (hR:∀k,R k→k<w.heap.size) (hp:∀k,p k→k<w.heap.size)
 (I:List α→World→Prop) (Ix:Code→List α→World→Prop)
 (hI:∀s A B,I s A→Kept (fun k=>¬R k∧k≠w.heap.size∧k≠w.heap.size+1) A B→I s B)
 (hIx:∀c s A B,Ix c s A→Kept (fun k=>¬R k∧k≠w.heap.size∧k≠w.heap.size+1) A B→Ix c s B)
 (h0:I [] w)
 (hround:∀pre x W,V (pre++[x])→I pre W→w.heap.size+2≤W.heap.size→
   assign.wpIn (Fence.wide.inRound (w.heap.size+1)) (n - 1 - 1) P (Exit.then (fun a₁ W₁=>Kept (fun k=>p k∨k=w.heap.size∨k=w.heap.size+1) W W₁∧
    ∀W₂,Kept (fun k=>k≠w.heap.size+1) W₁ W₂→W₂.heap.size=W₁.heap.size→body.wpIn (Fence.wide.inRound (w.heap.size+1)) (n - 1 - 1) P (z83 w.heap.size p I Ix (pre++[x]) W₂) a₁ W₂) (fun _ _ _=>False))
    { tmps:=(ps.zip (encs x)).foldl (fun t (u,v)=>t.setIfInBounds u v) a.tmps,defers:=[] } W)
 (hdone:∀(xs:List α) (W:World),S xs→I xs W→W.heap[w.heap.size]?=some (.deferred (some []))→Q .normal { a with defers:={ target:=.collected w.heap.size,args:= #[] } :: a.defers } W)
 (hstop:∀(c:Code) (pre:List α) (W:World),V pre→Ix c pre W→W.heap[w.heap.size]?=some (.deferred (some []))→c.wpIn Fence.wide n P Q { a with defers:={ target:=.collected w.heap.size,args:= #[] } :: a.defers } W):
 (Code.rangeFunc g ps assign body).wpIn Fence.wide n P Q a w:=by
 refine wpIn_rangeFunc fun fn hfn=>?_
 obtain⟨D,hD⟩:∃D,D=w.heap.size:=⟨_,rfl⟩;obtain⟨rec,hrec⟩:∃rec:LoopState→Option Code→Loop,rec=fun st pe=>{ state:=st,pending:=pe,fn,tmps:=a.tmps,params:=ps,assign,body,defers:=D }:=⟨_,rfl⟩
 obtain⟨W1,hW1⟩:∃W1,(w.alloc (.deferred (some []))).alloc (.loop (rec .ready none))=W1:=⟨_,rfl⟩;have hsize:W1.heap.size=D+2:=by rw[←hW1,hD];simp
 have hL:W1.heap[D+1]?=some (.loop (rec .ready none)):=by
  rw[←hW1,hD];have h:=World.alloc_heap_new (w.alloc (.deferred (some []))) (.loop (rec .ready none));rwa [World.size_alloc] at h
 have hK:W1.heap[D]?=some (.deferred (some [])):=by
  rw[←hW1,hD];exact(Below.heap_alloc _ _ _ (by simp)).trans (World.alloc_heap_new w _)
 have hkW:Kept (fun _=>True) w W1:=by rw[←hW1];exact((Kept.refl _ w).alloc _).alloc _
 have hI1:I [] W1:=hI _ _ _ h0 (hkW.mono fun _ _ _=>trivial)
 refine⟨D+1,[{ target:=.collected D,args:= #[] }],W1,{ target:=.fn (.func gf) lb,args:= #[.func (.yield (D+1)) #[] #[]] },W1,gf,
  #[.func (.yield (D+1)) #[] #[]]++lb,W1,?_,?_,fun _ _=>trivial,?_,(fun h=>by cases h),?_⟩
 · rw[←hW1,hrec,hD];exact run_enterLoop_outer _ _ _ _ _
 · simp only[resolve,hg];simp[go_sem]
 · simp[invoke,go_sem,eg]
 have hbook:∀{A B:World},Kept (fun k=>¬R k) A B→Kept (fun k=>¬R k∧k≠w.heap.size∧k≠w.heap.size+1) A B:=fun h=>h.mono fun k _ hk=>hk.1
 have hnR:¬R D∧¬R (D+1):=⟨fun h=>by have:=hR _ h;omega,fun h=>by have:=hR _ h;omega⟩;have hnp:¬p D∧¬p (D+1):=⟨fun h=>by have:=hp _ h;omega,fun h=>by have:=hp _ h;omega⟩
 have hrow:∀{A B:World} {k:Nat} {o:Obj} {u:Nat→Prop},Kept u A B→u k→A.heap[k]?=some o→B.heap[k]?=some o:=fun h hu ho=>
  (h.row _ (Array.getElem?_eq_some_iff.1 ho).1 hu).trans ho
 have hturn:∀{s:List α} {A:World} {o:Obj},I s A→I s (A.putObj (D+1) o):=fun {s A o} h=>hI _ _ _ h ((Kept.refl _ A).putObj (fun _ e=>e.2.2 (by rw[hD])) o)
 have hturnx:∀{c:Code} {s:List α} {A:World} {o:Obj},Ix c s A→Ix c s (A.putObj (D+1) o):=fun {c s A o} h=>hIx _ _ _ _ h ((Kept.refl _ A).putObj (fun _ e=>e.2.2 (by rw[hD])) o)
 refine(hseq (D+1)
  (fun pre W=>I pre W∧W.heap[D+1]?=some (.loop (rec .ready none))∧W.heap[D]?=some (.deferred (some []))∧D+2≤W.heap.size)
  (fun pre W=>∃c,Ix c pre W∧W.heap[D+1]?=some (.loop (rec .done (some c)))∧W.heap[D]?=some (.deferred (some [])))
  W1 (by omega) (hkW.toBelow (fun _ _=>trivial) (Nat.le_refl _))
  (fun s A B hs h=>⟨hI _ _ _ hs.1 (hbook h),hrow h hnR.2 hs.2.1,hrow h hnR.1 hs.2.2.1,Nat.le_trans hs.2.2.2 h.size⟩)
  (fun s A B hs h=>by obtain⟨c,h1,h2,h3⟩:=hs;exact⟨c,hIx _ _ _ _ h1 (hbook h),hrow h hnR.2 h2,hrow h hnR.1 h3⟩)
  ?_ ⟨hI1,hL,hK,by omega⟩).mono ?_
 · rintro pre x W hV ⟨hi,hl,hk,hsz⟩;have hy:=run_yield (P:=P) (args:=encs x) hl (by rw[hrec];exact hps x);rw[hrec] at hy;refine⟨fn,_,assign,body,hy,roundIn_of_wpIn hfn ?_⟩;rw[hD];refine wpIn_mono (hround pre x W hV hi (by omega)) ?_;rintro e a₁ Wa hq
   cases e with
   | normal=>
    obtain⟨hka,hbody⟩:=hq;have hl1:Wa.heap[D+1]?=some (.loop (rec .ready none)):=hrow hka (by rw[hD];exact .inr (.inr rfl)) hl;have hk1:Wa.heap[D]?=some (.deferred (some [])):=hrow hka (by rw[hD];exact .inr (.inl rfl)) hk;rw[←hD];refine⟨_,run_beginRound hl1 (by rw[hrec]),?_⟩;obtain⟨Wb,hWb⟩:∃Wb,Wb=Wa.putObj (D+1) (.loop { rec .ready none with state:=.busy }):=⟨_,rfl⟩;rw[←hWb];have hlt:D+1<Wa.heap.size:=(Array.getElem?_eq_some_iff.1 hl1).1;have hl2:Wb.heap[D+1]?=some (.loop { rec .ready none with state:=.busy }):=by rw[hWb];exact World.putObj_heap_same hlt
    have hk2:Wb.heap[D]?=some (.deferred (some [])):=by rw[hWb];exact(World.putObj_heap_other (by omega)).trans hk1
    have hab:Kept (fun k=>k≠w.heap.size+1) Wa Wb:=by rw[hWb];exact(Kept.refl _ Wa).putObj (fun _ e=>e (by rw[hD])) _
    have hb2:=hbody Wb hab (by rw[hWb];simp);rw[←hD] at hb2;refine wpIn_mono hb2 ?_
    have fin:∀(jump:Option Code) (W3:World),Kept (fun k=>k=D∨k=D+1) Wb W3→
     (Instr.endRound (D+1) jump).run P W3=.ok (.bool jump.isNone) (W3.putObj (D+1) (.loop (rec (if jump.isNone then .ready else .done) jump)))∧
     (W3.putObj (D+1) (.loop (rec (if jump.isNone then .ready else .done) jump))).heap[D+1]?=some (.loop (rec (if jump.isNone then .ready else .done) jump))∧
     (W3.putObj (D+1) (.loop (rec (if jump.isNone then .ready else .done) jump))).heap[D]?=some (.deferred (some []))∧D+2≤W3.heap.size:=by
     intro jump W3 h3;have hl3:=hrow h3 (.inr rfl) hl2;have hk3:=hrow h3 (.inl rfl) hk2;have hlt3:=(Array.getElem?_eq_some_iff.1 hl3).1;have hr:=run_endRound (P:=P) jump hl3;rw[hrec] at hr ⊢;exact⟨hr,World.putObj_heap_same hlt3,(World.putObj_heap_other (by omega)).trans hk3,by omega⟩
    have small:∀{W3:World},Kept (fun k=>p k∨k=D∨k=D+1) Wb W3→Kept (fun k=>k=D∨k=D+1) Wb W3:=fun h=>h.mono fun _ _ hk=>.inr hk
    rintro e a3 W3 hp3
    cases e with
    | normal=>
     obtain⟨h3,hi3⟩:=hp3;obtain⟨e1,e2,e3,e4⟩:=fin none W3 (small h3);refine⟨_,_,e1,.inl ⟨rfl,⟨hturn hi3,e2,e3,by simpa using e4⟩,?_⟩⟩;have k1:Kept p W Wa:=hka.mono fun _ _ hk=>.inl hk
     have k2:Kept p Wa Wb:=hab.mono fun k _ hk e=>hnp.2 (by rw[hD];exact e ▸ hk)
     have k3:Kept p Wb W3:=h3.mono fun _ _ hk=>.inl hk
     exact((k1.trans k2).trans k3).putObj (fun _ hk=>hnp.2 hk) _
    | ret=>
     obtain⟨h3,hi3⟩:=hp3;obtain⟨e1,e2,e3,_⟩:=fin (some .ret) W3 h3
     exact⟨_,_,e1,.inr ⟨rfl,.ret,hturnx hi3,e2,e3⟩⟩
    | exit id=>
     obtain⟨h3,hi3⟩:=hp3;obtain⟨e1,e2,e3,_⟩:=fin (some (.exit id)) W3 h3
     exact⟨_,_,e1,.inr ⟨rfl,.exit id,hturnx hi3,e2,e3⟩⟩
    | goto t=>
     obtain⟨h3,hi3⟩:=hp3;obtain⟨e1,e2,e3,_⟩:=fin (some (.goto t)) W3 h3
     exact⟨_,_,e1,.inr ⟨rfl,.goto t,hturnx hi3,e2,e3⟩⟩
    | panic ch=>exact hp3.elim
    | outgrown=>exact hp3.elim
   | exit id=>exact hq.elim
   | goto t=>exact hq.elim
   | ret=>exact hq.elim
   | panic ch=>exact hq.elim
   | outgrown=>exact hq.elim
 · rintro e W2 ⟨⟨v,rfl⟩,(⟨xs,hS,hi,hl,hk,_⟩ | ⟨pre,hV,c,hi,hl,hk⟩)⟩
   · have hr:=run_endLoop (P:=P) hl (by rw[hrec];simp);rw[hrec] at hr;refine⟨none,_,hr,?_⟩;have:=hdone xs _ hS (hturn hi (o:=.loop { rec .ready none with state:=.exhausted })) (by rw[←hD];exact(World.putObj_heap_other (by omega)).trans hk);rw[hrec] at this;rw[hD] at this ⊢;exact this
   · have hr:=run_endLoop (P:=P) hl (by rw[hrec];simp);rw[hrec] at hr;refine⟨some c,_,hr,?_⟩;have:=hstop c pre _ hV (hturnx hi (o:=.loop { rec .done (some c) with state:=.exhausted })) (by rw[←hD];exact(World.putObj_heap_other (by omega)).trans hk);rw[hrec] at this;rw[hD] at this ⊢;exact this
def zwy {α:Type} (n:Nat) (P:Program) (g:Nat) (lb:Array Value) (encs:α→Array Value) (V S:List α→Prop) (R:Nat→Prop) (Rel:World→World→Prop) (w:World):Prop:=
 ∀(l:Nat) (J Jx:List α→World→Prop) (W:World),w.heap.size≤l→Below w.heap.size w W→
  (∀s A B,J s A→Kept (fun k=>¬R k) A B→J s B)→(∀s A B,Jx s A→Kept (fun k=>¬R k) A B→Jx s B)→
  (∀pre x W1,V (pre++[x])→J pre W1→YieldAt Fence.wide (n - 1) P l (encs x) W1 fun e W'=>
    (e=.returned (.bool true)∧J (pre++[x]) W'∧Rel W1 W')∨(e=.returned (.bool false)∧Jx (pre++[x]) W'))→
  J [] W→
  CallsIn Fence.wide n P g (#[.func (.yield l) #[] #[]]++lb) W fun e W'=>(∃v,e=.returned v)∧((∃xs,S xs∧J xs W')∨(∃pre,V pre∧Jx pre W'))
def z84 {α:Type} (D:Nat) (Rel:World→World→Prop) (I:List α→World→Prop) (Ix:Code→List α→World→Prop) (xs:List α) (W0 W:World):Exit→Act→World→Prop
 | .normal,_,W'=>Kept (fun k=>k=D∨k=D+1) W W'∧I xs W'∧Rel W0 W'
 | .ret,_,W'=>Kept (fun k=>k=D∨k=D+1) W W'∧Ix .ret xs W'
 | .exit id,_,W'=>Kept (fun k=>k=D∨k=D+1) W W'∧Ix (.exit id) xs W'
 | .goto t,_,W'=>Kept (fun k=>k=D∨k=D+1) W W'∧Ix (.goto t) xs W'
 | .panic _,_,_=>False
 | .outgrown,_,_=>False
theorem z85 {α:Type} {n:Nat} {P:Program} {g:Operand} {ps:Array Tmp} {assign body:Code} {Q:Exit→Act→World→Prop} {a:Act} {w:World}
 {gf:Nat} {lb:Array Value} (hg:a.eval g=.func (.func gf) #[] lb) (eg:∀args w,(callFunc gf args).run P w=.ok (.enter gf args) w)
 {encs:α→Array Value} {V S:List α→Prop} {R:Nat→Prop} {Rel:World→World→Prop} (hseq:zwy (n - 1) P gf lb encs V S R Rel w) (hps:∀x,(encs x).size=ps.size)
 (hR:∀k,R k→k<w.heap.size) (hput:∀(A B:World) (r:Loop) (o:Obj),A.heap[w.heap.size+1]?=some (.loop r)→Rel A B→Rel A (B.putObj (w.heap.size+1) o))
 (I:List α→World→Prop) (Ix:Code→List α→World→Prop)
 (hI:∀s A B,I s A→Kept (fun k=>¬R k∧k≠w.heap.size∧k≠w.heap.size+1) A B→I s B)
 (hIx:∀c s A B,Ix c s A→Kept (fun k=>¬R k∧k≠w.heap.size∧k≠w.heap.size+1) A B→Ix c s B)
 (h0:I [] w)
 (hround:∀pre x W,V (pre++[x])→I pre W→w.heap.size+2≤W.heap.size→(∃r,W.heap[w.heap.size+1]?=some (.loop r))→
   assign.wpIn (Fence.wide.inRound (w.heap.size+1)) (n - 1 - 1) P (Exit.then (fun a₁ W₁=>Kept (fun k=>k=w.heap.size∨k=w.heap.size+1) W W₁∧
    ∀W₂,Kept (fun k=>k≠w.heap.size+1) W₁ W₂→W₂.heap.size=W₁.heap.size→body.wpIn (Fence.wide.inRound (w.heap.size+1)) (n - 1 - 1) P (z84 w.heap.size Rel I Ix (pre++[x]) W W₂) a₁ W₂) (fun _ _ _=>False))
    { tmps:=(ps.zip (encs x)).foldl (fun t (u,v)=>t.setIfInBounds u v) a.tmps,defers:=[] } W)
 (hdone:∀(xs:List α) (W:World),S xs→I xs W→W.heap[w.heap.size]?=some (.deferred (some []))→Q .normal { a with defers:={ target:=.collected w.heap.size,args:= #[] } :: a.defers } W)
 (hstop:∀(c:Code) (pre:List α) (W:World),V pre→Ix c pre W→W.heap[w.heap.size]?=some (.deferred (some []))→c.wpIn Fence.wide n P Q { a with defers:={ target:=.collected w.heap.size,args:= #[] } :: a.defers } W):
 (Code.rangeFunc g ps assign body).wpIn Fence.wide n P Q a w:=by
 refine wpIn_rangeFunc fun fn hfn=>?_
 obtain⟨D,hD⟩:∃D,D=w.heap.size:=⟨_,rfl⟩;obtain⟨rec,hrec⟩:∃rec:LoopState→Option Code→Loop,rec=fun st pe=>{ state:=st,pending:=pe,fn,tmps:=a.tmps,params:=ps,assign,body,defers:=D }:=⟨_,rfl⟩
 obtain⟨W1,hW1⟩:∃W1,(w.alloc (.deferred (some []))).alloc (.loop (rec .ready none))=W1:=⟨_,rfl⟩;have hsize:W1.heap.size=D+2:=by rw[←hW1,hD];simp
 have hL:W1.heap[D+1]?=some (.loop (rec .ready none)):=by
  rw[←hW1,hD];have h:=World.alloc_heap_new (w.alloc (.deferred (some []))) (.loop (rec .ready none));rwa [World.size_alloc] at h
 have hK:W1.heap[D]?=some (.deferred (some [])):=by
  rw[←hW1,hD];exact(Below.heap_alloc _ _ _ (by simp)).trans (World.alloc_heap_new w _)
 have hkW:Kept (fun _=>True) w W1:=by rw[←hW1];exact((Kept.refl _ w).alloc _).alloc _
 have hI1:I [] W1:=hI _ _ _ h0 (hkW.mono fun _ _ _=>trivial)
 refine⟨D+1,[{ target:=.collected D,args:= #[] }],W1,{ target:=.fn (.func gf) lb,args:= #[.func (.yield (D+1)) #[] #[]] },W1,gf,
  #[.func (.yield (D+1)) #[] #[]]++lb,W1,?_,?_,fun _ _=>trivial,?_,(fun h=>by cases h),?_⟩
 · rw[←hW1,hrec,hD];exact run_enterLoop_outer _ _ _ _ _
 · simp only[resolve,hg];simp[go_sem]
 · simp[invoke,go_sem,eg]
 have hbook:∀{A B:World},Kept (fun k=>¬R k) A B→Kept (fun k=>¬R k∧k≠w.heap.size∧k≠w.heap.size+1) A B:=fun h=>h.mono fun k _ hk=>hk.1
 have hnR:¬R D∧¬R (D+1):=⟨fun h=>by have:=hR _ h;omega,fun h=>by have:=hR _ h;omega⟩
 have hrow:∀{A B:World} {k:Nat} {o:Obj} {u:Nat→Prop},Kept u A B→u k→A.heap[k]?=some o→B.heap[k]?=some o:=fun h hu ho=>
  (h.row _ (Array.getElem?_eq_some_iff.1 ho).1 hu).trans ho
 have hturn:∀{s:List α} {A:World} {o:Obj},I s A→I s (A.putObj (D+1) o):=fun {s A o} h=>hI _ _ _ h ((Kept.refl _ A).putObj (fun _ e=>e.2.2 (by rw[hD])) o)
 have hturnx:∀{c:Code} {s:List α} {A:World} {o:Obj},Ix c s A→Ix c s (A.putObj (D+1) o):=fun {c s A o} h=>hIx _ _ _ _ h ((Kept.refl _ A).putObj (fun _ e=>e.2.2 (by rw[hD])) o)
 refine(hseq (D+1)
  (fun pre W=>I pre W∧W.heap[D+1]?=some (.loop (rec .ready none))∧W.heap[D]?=some (.deferred (some []))∧D+2≤W.heap.size)
  (fun pre W=>∃c,Ix c pre W∧W.heap[D+1]?=some (.loop (rec .done (some c)))∧W.heap[D]?=some (.deferred (some [])))
  W1 (by omega) (hkW.toBelow (fun _ _=>trivial) (Nat.le_refl _))
  (fun s A B hs h=>⟨hI _ _ _ hs.1 (hbook h),hrow h hnR.2 hs.2.1,hrow h hnR.1 hs.2.2.1,Nat.le_trans hs.2.2.2 h.size⟩)
  (fun s A B hs h=>by obtain⟨c,h1,h2,h3⟩:=hs;exact⟨c,hIx _ _ _ _ h1 (hbook h),hrow h hnR.2 h2,hrow h hnR.1 h3⟩)
  ?_ ⟨hI1,hL,hK,by omega⟩).mono ?_
 · rintro pre x W hV ⟨hi,hl,hk,hsz⟩;have hy:=run_yield (P:=P) (args:=encs x) hl (by rw[hrec];exact hps x);rw[hrec] at hy;refine⟨fn,_,assign,body,hy,roundIn_of_wpIn hfn ?_⟩;rw[hD];refine wpIn_mono (hround pre x W hV hi (by omega) ⟨_,by rw[←hD];exact hl⟩) ?_;rintro e a₁ Wa hq
   cases e with
   | normal=>
    obtain⟨hka,hbody⟩:=hq;have hl1:Wa.heap[D+1]?=some (.loop (rec .ready none)):=hrow hka (by rw[hD];exact .inr rfl) hl;have hk1:Wa.heap[D]?=some (.deferred (some [])):=hrow hka (by rw[hD];exact .inl rfl) hk;rw[←hD];refine⟨_,run_beginRound hl1 (by rw[hrec]),?_⟩;obtain⟨Wb,hWb⟩:∃Wb,Wb=Wa.putObj (D+1) (.loop { rec .ready none with state:=.busy }):=⟨_,rfl⟩;rw[←hWb];have hlt:D+1<Wa.heap.size:=(Array.getElem?_eq_some_iff.1 hl1).1;have hl2:Wb.heap[D+1]?=some (.loop { rec .ready none with state:=.busy }):=by rw[hWb];exact World.putObj_heap_same hlt
    have hk2:Wb.heap[D]?=some (.deferred (some [])):=by rw[hWb];exact(World.putObj_heap_other (by omega)).trans hk1
    have hab:Kept (fun k=>k≠w.heap.size+1) Wa Wb:=by rw[hWb];exact(Kept.refl _ Wa).putObj (fun _ e=>e (by rw[hD])) _
    have hb2:=hbody Wb hab (by rw[hWb];simp);rw[←hD] at hb2;refine wpIn_mono hb2 ?_
    have fin:∀(jump:Option Code) (W3:World),Kept (fun k=>k=D∨k=D+1) Wb W3→
     (Instr.endRound (D+1) jump).run P W3=.ok (.bool jump.isNone) (W3.putObj (D+1) (.loop (rec (if jump.isNone then .ready else .done) jump)))∧
     (W3.putObj (D+1) (.loop (rec (if jump.isNone then .ready else .done) jump))).heap[D+1]?=some (.loop (rec (if jump.isNone then .ready else .done) jump))∧
     (W3.putObj (D+1) (.loop (rec (if jump.isNone then .ready else .done) jump))).heap[D]?=some (.deferred (some []))∧D+2≤W3.heap.size:=by
     intro jump W3 h3;have hl3:=hrow h3 (.inr rfl) hl2;have hk3:=hrow h3 (.inl rfl) hk2;have hlt3:=(Array.getElem?_eq_some_iff.1 hl3).1;have hr:=run_endRound (P:=P) jump hl3;rw[hrec] at hr ⊢;exact⟨hr,World.putObj_heap_same hlt3,(World.putObj_heap_other (by omega)).trans hk3,by omega⟩
    rintro e a3 W3 hp3
    cases e with
    | normal=>
     obtain⟨h3,hi3,hr3⟩:=hp3;obtain⟨e1,e2,e3,e4⟩:=fin none W3 h3
     exact⟨_,_,e1,.inl ⟨rfl,⟨hturn hi3,e2,e3,by simpa using e4⟩,by rw[hD];exact hput _ _ _ _ (by rw[←hD];exact hl) hr3⟩⟩
    | ret=>
     obtain⟨h3,hi3⟩:=hp3;obtain⟨e1,e2,e3,_⟩:=fin (some .ret) W3 h3
     exact⟨_,_,e1,.inr ⟨rfl,.ret,hturnx hi3,e2,e3⟩⟩
    | exit id=>
     obtain⟨h3,hi3⟩:=hp3;obtain⟨e1,e2,e3,_⟩:=fin (some (.exit id)) W3 h3
     exact⟨_,_,e1,.inr ⟨rfl,.exit id,hturnx hi3,e2,e3⟩⟩
    | goto t=>
     obtain⟨h3,hi3⟩:=hp3;obtain⟨e1,e2,e3,_⟩:=fin (some (.goto t)) W3 h3
     exact⟨_,_,e1,.inr ⟨rfl,.goto t,hturnx hi3,e2,e3⟩⟩
    | panic ch=>exact hp3.elim
    | outgrown=>exact hp3.elim
   | exit id=>exact hq.elim
   | goto t=>exact hq.elim
   | ret=>exact hq.elim
   | panic ch=>exact hq.elim
   | outgrown=>exact hq.elim
 · rintro e W2 ⟨⟨v,rfl⟩,(⟨xs,hS,hi,hl,hk,_⟩ | ⟨pre,hV,c,hi,hl,hk⟩)⟩
   · have hr:=run_endLoop (P:=P) hl (by rw[hrec];simp);rw[hrec] at hr;refine⟨none,_,hr,?_⟩;have:=hdone xs _ hS (hturn hi (o:=.loop { rec .ready none with state:=.exhausted })) (by rw[←hD];exact(World.putObj_heap_other (by omega)).trans hk);rw[hrec] at this;rw[hD] at this ⊢;exact this
   · have hr:=run_endLoop (P:=P) hl (by rw[hrec];simp);rw[hrec] at hr;refine⟨some c,_,hr,?_⟩;have:=hstop c pre _ hV (hturnx hi (o:=.loop { rec .done (some c) with state:=.exhausted })) (by rw[←hD];exact(World.putObj_heap_other (by omega)).trans hk);rw[hrec] at this;rw[hD] at this ⊢;exact this
end
section
def zdt (e:Ent) (i:Nat):Option (Nat×Nat):=if e.2.1<(zb e.2.2 i).2 then some (4,i) else none
def ckE (e:Ent):Option (Nat×Nat):=match ck e.2.2 with | some x=>some x | none=>j7 (zdt e) e.2.2.length
def ze4 (v:Vec) (i:Nat):Option (Nat×Nat):=match ckE (zg v i) with | some x=>some (x.1,i) | none=>if 0<i∧(zg v i).1≤(zg v (i - 1)).1 then some (3,i) else none
def ckV (v:Vec):Option (Nat×Nat):=j7 (ze4 v) v.length
def ze5 (k:Kno) (i:Nat):Option (Nat×Nat):=match ck (za k i).1 with | some x=>some (x.1,i) | none=>match ckV (za k i).2 with | some x=>some (x.1,i) | none=>none
def ckF (k:Kno):Option (Nat×Nat):=j7 (ze5 k) k.length
theorem zlc {l:List Iv} {x:Nat×Nat} (h:ck l=some x):x.1≠0:=by
 obtain⟨k,-,-,h3⟩:=zgj h;unfold zdf at h3;split at h3
 · cases h3;simp
 · split at h3 <;> cases h3;simp
theorem znx {e:Ent} {x:Nat×Nat} (h:ckE e=some x):x.1≠0:=by
 unfold ckE at h;split at h
 · rename_i y hy;cases h;exact zlc hy
 · obtain⟨k,-,-,h3⟩:=zgj h;unfold zdt at h3;split at h3 <;> cases h3;simp
theorem zny {v:Vec} {x:Nat×Nat} (h:ckV v=some x):x.1≠0:=by
 obtain⟨k,-,-,h3⟩:=zgj h;unfold ze4 at h3;split at h3
 · rename_i y hy;cases h3;have:=znx hy;exact this
 · split at h3 <;> cases h3;simp
end
section
open Go.RowKit Go.Maps
def zP:Value:=.agg #[.slice none 0 0,.slice none 0 0]
def zwz:Value→Bool
 | .slice _ _ _=>true
 | _=>false
def z86:List Value→Bool
 | [x,y]=>zwz x && zwz y
 | _=>false
def isP:Value→Bool
 | .agg cs=>z86 cs.toList
 | _=>false
def rP (v:Value):Option (DataW Value×List MemPlace):=if isP v=true then some (.held v,[]) else none
theorem wfU {x:Nat} (h:x<18446744073709551616):(Lit.int .u64 (x:Int)).wf=true:=by
 simp[Lit.wf,IntKind.min,IntKind.max,IntKind.signed,IntKind.bits];omega
theorem z87 {n:Int} (h:(Lit.int .u64 n).wf=true):∃x:Nat,n=(x:Int)∧x<18446744073709551616:=by
 simp[Lit.wf,IntKind.min,IntKind.max,IntKind.signed,IntKind.bits] at h;exact⟨n.toNat,by omega,by omega⟩
theorem zdu:Maps.Keyed Tryz.prog 64:=int_keyed Tryz.underlying64
theorem zhh {x:Nat} (h:x<18446744073709551616):keyOf Tryz.prog 64 (.int .u64 (x:Int))=some (.int .u64 (x:Int)):=keyOf_int_mk Tryz.underlying64 (wfU h)
structure PairS (w:World) (base B n:Nat) (D:DataW Value) (S:List Nat) (G1 G2:Nat→List Iv):Prop where
 own:w.ownsMap Tryz.prog 64 rP B n D
 keys:∀r:Nat,Maps.has D (.int .u64 (r:Int))=decide (r∈S)
 vals:∀r:Nat,∃a n c a' n' c',D.atKey (.int .u64 (r:Int)) (.held zP)=.held (.agg #[.slice a n c,.slice a' n' c'])∧IvsT w base a n c (G1 r)∧IvsT w base a' n' c' (G2 r)
theorem zw0 (w:World) (base:Nat):IvsT w base none 0 0 []:=⟨zjr w,fun h=>by omega⟩
theorem PairS.start (w:World) (base:Nat):PairS (w.alloc (.map #[] 0)) base w.heap.size 0 (.map []) [] (fun _=>[]) (fun _=>[]):=
 ⟨World.ownsMap_made _ _ _ _,fun r=>rfl,fun r=>⟨none,0,0,none,0,0,rfl,zw0 _ _,zw0 _ _⟩⟩
theorem PairS.steady {w w':World} {base B n:Nat} {D:DataW Value} {S:List Nat} {G1 G2:Nat→List Iv} (h:PairS w base B n D S G1 G2) (hs:Steady base zde w w') (hm:w'.ownsMap Tryz.prog 64 rP B n D):PairS w' base B n D S G1 G2:=
 ⟨hm,h.keys,fun r=>by
  obtain⟨a,n,c,a',n',c',h1,h2,h3⟩:=h.vals r;exact⟨a,n,c,a',n',c',h1,h2.steady hs rfl,h3.steady hs rfl⟩⟩
theorem zhi {r x:Nat} (h:r≠x):Lit.int .u64 (r:Int)≠Lit.int .u64 (x:Int):=fun e=>h (by cases e;rfl)
theorem PairS.put {w w':World} {base B n m r:Nat} {D:DataW Value} {S:List Nat} {G1 G2:Nat→List Iv} (h:PairS w base B n D S G1 G2) (hs:Steady base zde w w') {a:Option Addr} {k c:Nat} {a':Option Addr} {k' c':Nat} {L L':List Iv}
 (h1:IvsT w' base a k c L) (h2:IvsT w' base a' k' c' L') (hown:w'.ownsMap Tryz.prog 64 rP B m (D.put (.int .u64 (r:Int)) (.held (.agg #[.slice a k c,.slice a' k' c'])))):
 PairS w' base B m (D.put (.int .u64 (r:Int)) (.held (.agg #[.slice a k c,.slice a' k' c']))) (S++[r]) (fun x=>if x=r then L else G1 x) (fun x=>if x=r then L' else G2 x):=by
 have hI:=h.own.isMap;have hk:∀x:Nat,WideAt.IsKeyLit (.int .u64 (x:Int)):=fun _=>trivial
 refine⟨hown,fun x=>?_,fun x=>?_⟩
 · by_cases e:x=r
   · subst e;rw[has_put_same hI (hk _)];simp
   · rw[has_put_other (zhi e),h.keys x];simp[e]
 · by_cases e:x=r
   · subst e;exact⟨a,k,c,a',k',c',atKey_put_same hI (hk _) _ _,by simpa using h1,by simpa using h2⟩
   · obtain⟨a1,n1,c1,a2,n2,c2,h3,h4,h5⟩:=h.vals x;exact⟨a1,n1,c1,a2,n2,c2,by rw[atKey_put_other (zhi e)];exact h3,by simpa [e] using h4.steady hs rfl,by simpa [e] using h5.steady hs rfl⟩
theorem PairS.congr {w:World} {base B n:Nat} {D:DataW Value} {S S':List Nat} {G1 G2 G1' G2':Nat→List Iv} (h:PairS w base B n D S G1 G2) (hS:∀r,r∈S↔r∈S') (h1:∀r,G1 r=G1' r) (h2:∀r,G2 r=G2' r):PairS w base B n D S' G1' G2':=
 ⟨h.own,fun r=>by rw[h.keys r];simp[hS r],fun r=>by rw[←h1,←h2];exact h.vals r⟩
theorem zcq {w w':World} (h:Below w.heap.size w w'):w.grownBy w' none:=⟨h.os,h.tape,h.output,h.size,fun k hk _=>h.block k hk⟩
theorem zld {H:Type} {w:World} {ops:Array Oper} {rest:List Oper} {o:Oper} {a:Act} {Q:Exit→Act→World→Prop} (hg:o.guard=none) (it:Operand) (hop:o.op=Op.next it false) (R:Value→Option (DataW H×List MemPlace))
 (b r n:Nat) (D:DataW H) (left:Lit→Bool) (cnt:Nat) (hit:a.eval it=.pointer (some ⟨r,0,none⟩)) (h:w.ranges Tryz.prog 64 R b r n D left cnt)
 (hDone:(∀kl,left kl=false)→wpList Tryz.prog ops Q rest (a.put o.dst (.tuple #[.bool false])) w)
 (hMore:∀(x:Nat) (u:Value) (w':World) (cnt':Nat),x<18446744073709551616→left (.int .u64 (x:Int))=true→Maps.has D (.int .u64 (x:Int))=true→
   w'.ranges Tryz.prog 64 R b r n D (fun z=>left z && !z.sameKey (.int .u64 (x:Int))) cnt'→cnt'<cnt→w.grownBy w' (some r)→w'.heap.size=w.heap.size→
   (Instr.entry (.pointer (some ⟨r,0,none⟩))).run Tryz.prog w'=.ok (.tuple #[.int .u64 (x:Int),u]) w'→wpList Tryz.prog ops Q rest (a.put o.dst (.tuple #[.bool true,.int .u64 (x:Int),u])) w'):
 wpList Tryz.prog ops Q (o :: rest) a w:=by
 refine wpList_plain hg fun K' hK'=>?_
 unfold Oper.wp;rcases h.next zdu o.type with ⟨h0,hl,hrun⟩ | ⟨key,v,kl,y,w',cnt',hkey,hlk,hv,hat,hrun,hrg,hlt,hgr,hsz,hen⟩
 · simp[execOp,hop,hit,hrun,Result.andThen];exact hK' _ _ (hDone hl)
 · obtain⟨x,rfl,rfl,hwx⟩:=Maps.keyOf_int_inv Tryz.underlying64 hkey;obtain⟨x,rfl,hx⟩:=z87 hwx;simp[execOp,hop,hit,hrun,Result.andThen];exact hK' _ _ (hMore x v w' cnt' hx hlk (has_true_of_atKey hat) hrg hlt hgr hsz hen)
