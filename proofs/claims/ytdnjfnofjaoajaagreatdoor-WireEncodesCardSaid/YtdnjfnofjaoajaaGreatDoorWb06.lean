/- Walks and laws, joined: Wb06. -/
import Derived.Laws.StructEq
import Derived.Deep.QuietTactic
import Derived.Test.YtdnjfnofjaoajaaGreatDoorWb05
set_option linter.unusedVariables false
set_option maxHeartbeats 16000000
namespace Go.Proofs.YtdnjfnofjaoajaaGreatDoor
open Lib (hid)
section
open Go.RowKit
def jt (a b:Iv):Nat:=if a.2<b.1 then (if b.1 - a.2=1 then 1 else 0) else if b.2<a.1 then (if a.1 - b.2=1 then 3 else 4) else 2
theorem zqq {a b:Iv} (ha:a.1≤a.2) (hb:b.1≤b.2):qh a b=jt a b:=by
 unfold qh jt;repeat' split
 all_goals omega
def qj {α:Type} (f:Nat→Option α) (n:Nat):Option α:=(List.range n).findSome? f
theorem jg {α:Type} {f:Nat→Option α} {n k:Nat} {x:α} (hk:k<n) (h:∀j,j<k→f j=none) (hx:f k=some x):qj f n=some x:=by
 unfold qj
 induction n with
 | zero=>omega
 | succ n ih=>
  rw[List.range_succ,List.findSome?_append];by_cases e:k=n
  · subst e
    have h0:(List.range k).findSome? f=none:=by
     rw[List.findSome?_eq_none_iff];intro j hj;exact h j (by simpa using hj)
    rw[h0];simp[hx]
  · rw[ih (by omega)]
    rfl
theorem k7 {α:Type} {f:Nat→Option α} {n:Nat} (h:∀j,j<n→f j=none):qj f n=none:=by
 unfold qj;rw[List.findSome?_eq_none_iff];intro j hj;exact h j (by simpa using hj)
theorem zd5 {α:Type} {f:Nat→Option α} {n:Nat} (h:qj f n=none):∀j,j<n→f j=none:=by
 unfold qj at h;rw[List.findSome?_eq_none_iff] at h;intro j hj;exact h j (by simpa using hj)
theorem zd6 {α:Type} {f:Nat→Option α} {n:Nat} {x:α} (h:qj f n=some x):∃k,k<n∧(∀j,j<k→f j=none)∧f k=some x:=by
 induction n with
 | zero=>cases h
 | succ n ih=>
  unfold qj at h ih;rw[List.range_succ,List.findSome?_append] at h
  cases e:(List.range n).findSome? f with
  | some y=>
   rw[e] at h ih;obtain⟨k,h1,h2,h3⟩:=ih h
   exact⟨k,by omega,h2,h3⟩
  | none=>
   rw[e] at h;refine⟨n,by omega,zd5 e,?_⟩;simpa using h
def zbm (l:List Iv) (i:Nat):Option (Nat×Nat):=
 if (zb l i).2<(zb l i).1 then some (2,i) else if 0<i∧qh (zb l (i - 1)) (zb l i)≠0 then some (3,i) else none
def ck (l:List Iv):Option (Nat×Nat):=qj (zbm l) l.length
def yj:Option (Nat×Nat)→Err
 | none=>none
 | some (c,i)=>some ((c:Int),some (i:Int))
theorem zd7 (k:FuncId):Fence.wide.fn k=True:=rfl
theorem zhq {F:Fence} {n:Nat} {P:Program} {w:World} {ops:Array Oper} {rest:List Oper} {o:Oper} {a:Act} {Q:Exit→Act→World→Prop} (hg:o.guard=none) (s x:Operand) (t:TypeId)
 (hop:o.op=Op.call { callee:=Callee.builtin Builtin.append,args:= #[s,x],argTypes:= #[t,t] })
 (v u:Value) (hs:a.eval s=v) (hx:a.eval x=u) (v':Value) (w':World) (hrun:(Builtin.append_ #[t,t] o.type #[v,u]).run P w=.ok v' w')
 (h:wpListIn F n P ops Q rest (a.put o.dst v') w'):wpListIn F n P ops Q (o :: rest) a w:=by
 refine wpListIn_plain hg fun K hK=>?_
 unfold Oper.wpIn;refine⟨?_,?_⟩
 · simp[Oper.about,hop,resolve,Target.leads,Sem.run_pure]
 · rw[Oper.semAt_plain F _ _ (by rw[hop];intro c hc;cases hc)];simp[execOp,hop,resolve,invoke,builtin,hs,hx,hrun,Result.andThen];exact hK _ _ h
theorem zqr {a b:Iv} (ha:a.1≤a.2) (hb:b.1≤b.2):qh a b=1↔a.2+1=b.1:=by
 unfold qh;repeat' split
 all_goals omega
theorem z7 {w:World} {o:Obj} {k:Nat} (h:k=w.heap.size):(w.alloc o).heap[k]?=some o:=by subst h;exact World.alloc_heap_new w o
theorem qk {w:World} {o r:Obj} {k:Nat} (h:w.heap[k]?=some r):(w.alloc o).heap[k]?=some r:=(Below.heap_alloc w o k (Array.getElem?_eq_some_iff.1 h).1).trans h
theorem qr {w w':World} {base sz n:Nat} {e:TypeId} {v:Value} {xs:List Value} (h:w.ownsRow base e sz v n xs) (hk:∀k,base≤k→k<w.heap.size→w'.heap[k]?=w.heap[k]?):w'.ownsRow base e sz v n xs:=by
 refine⟨h.1,?_⟩;rcases h.2 with h2 | ⟨g,cap,cur,hv,hg,hh,r⟩
 · exact .inl h2
 · exact .inr ⟨g,cap,cur,hv,hg,(hk g hg (Array.getElem?_eq_some_iff.1 hh).1).trans hh,r⟩
end
section
theorem zj0:∀{l:List Iv},(∀i,i<l.length→(zb l i).1≤(zb l i).2∧(0<i→(zb l (i - 1)).2+1<(zb l i).1))→Good l
 | [],_=>trivial
 | [s],h=>(h 0 (by simp)).1
 | s :: t :: l,h=>by
   have h0:=(h 0 (by simp)).1;have h1:=(h 1 (by simp)).2 (by omega);refine⟨h0,h1,zj0 fun i hi=>?_⟩;have:=h (i+1) (by simpa using hi);refine⟨this.1,fun hi0=>?_⟩;obtain⟨j,rfl⟩:∃j,i=j+1:=⟨i - 1,by omega⟩;exact this.2 (by omega)
theorem zcr:∀{l:List Iv},Good l→∀i,i<l.length→(zb l i).1≤(zb l i).2∧(0<i→(zb l (i - 1)).2+1<(zb l i).1)
 | [],_,i,hi=>by simp at hi
 | [s],h,i,hi=>by
   obtain rfl:i=0:=by simpa using hi
   exact⟨h,by omega⟩
 | s :: t :: l,h,i,hi=>by
   obtain⟨h1,h2,h3⟩:=h
   cases i with
   | zero=>exact⟨h1,by omega⟩
   | succ i=>
    have:=zcr h3 i (by simpa using hi);refine⟨this.1,fun _=>?_⟩
    cases i with
    | zero=>exact h2
    | succ i=>exact this.2 (by omega)
theorem zqs {a b:Iv} (ha:a.1≤a.2) (hb:b.1≤b.2):qh a b=0↔a.2+1<b.1:=by
 rw[zqq ha hb];unfold jt;repeat' split
 all_goals omega
theorem zj1 {l:List Iv}:ck l=none↔Good l:=by
 constructor
 · intro h;have h':=zd5 h
   have ok:∀i,i<l.length→(zb l i).1≤(zb l i).2:=by
    intro i hi;have:=h' i hi;unfold zbm at this;split at this
    · cases this
    · omega
   refine zj0 fun i hi=>⟨ok i hi,fun h0=>?_⟩
   have:=h' i hi;unfold zbm at this;rw[if_neg (by have:=ok i hi;omega)] at this;split at this
   · cases this
   · rename_i h1
     have e:qh (zb l (i - 1)) (zb l i)=0:=by
      refine Classical.byContradiction fun h2=>h1 ⟨h0,h2⟩
     exact(zqs (ok (i - 1) (by omega)) (ok i hi)).1 e
 · intro h;have h':=zcr h;refine k7 fun i hi=>?_
   unfold zbm;rw[if_neg (by have:=(h' i hi).1;omega),if_neg];rintro⟨h1,h2⟩;exact h2 ((zqs (h' (i - 1) (by omega)).1 (h' i hi).1).2 ((h' i hi).2 h1))
abbrev Ent:=Nat×Nat×List Iv
abbrev Vec:=List Ent
abbrev Frg:=List Iv×Vec
abbrev Kno:=List Frg
abbrev zq (l:List Iv):Prop:=∀t∈l,t.1<18446744073709551616∧t.2<18446744073709551616
def jo:List Nat→Nat→List Nat
 | [],x=>[x]
 | a :: l,x=>if x<a then x :: a :: l else if x=a then a :: l else a :: jo l x
theorem zep:∀{l:List Nat} {x y:Nat},y∈jo l x↔y∈l∨y=x
 | [],x,y=>by simp[jo]
 | a :: l,x,y=>by
   rw[jo];split
   · simp only[List.mem_cons];constructor
     · rintro(h | h | h)
       · exact .inr h
       · exact .inl (.inl h)
       · exact .inl (.inr h)
     · rintro((h | h) | h)
       · exact .inr (.inl h)
       · exact .inr (.inr h)
       · exact .inl h
   · split
     · rename_i h;subst h;simp only[List.mem_cons];constructor
       · exact .inl
       · rintro(h | h)
         · exact h
         · exact .inl h
     · simp only[List.mem_cons,zep (l:=l)];constructor
       · rintro(h | h | h)
         · exact .inl (.inl h)
         · exact .inl (.inr h)
         · exact .inr h
       · rintro((h | h) | h)
         · exact .inl h
         · exact .inr (.inl h)
         · exact .inr (.inr h)
theorem zfs:∀{l:List Nat} {x:Nat},Asc l→Asc (jo l x)
 | [],x,_=>trivial
 | a :: l,x,h=>by
   rw[jo];split
   · rename_i hx
     exact zd0 (fun y hy=>by
      rcases List.mem_cons.1 hy with rfl | hy
      · exact hx
      · have:=h.lower y hy;omega) h
   · split
     · exact h
     · refine zd0 (fun y hy=>?_) (zfs h.tail);rcases zep.1 hy with hy | rfl
       · exact h.lower y hy
       · omega
def zcs (l:List Nat):List Nat:=l.foldl jo []
theorem zmw:∀{l acc:List Nat},Asc acc→Asc (l.foldl jo acc)∧∀y,y∈l.foldl jo acc↔y∈acc∨y∈l
 | [],acc,h=>⟨h,fun y=>by simp⟩
 | x :: l,acc,h=>by
   obtain⟨h1,h2⟩:=zmw (l:=l) (zfs (x:=x) h);refine⟨h1,fun y=>?_⟩;rw[List.foldl_cons,h2,zep,List.mem_cons,or_assoc]
theorem zeq (l:List Nat):Asc (zcs l):=(zmw (acc:=[]) trivial).1
theorem zdl (l:List Nat) (y:Nat):y∈zcs l↔y∈l:=by
 have:=(zmw (l:=l) (acc:=[]) trivial).2 y;unfold zcs;simpa using this
def opL (g:Bool→Bool→Bool) (a b:List Iv):List Iv:=qu (yx (fun x=>g (mem a x) (mem b x)) (zcs (qd [a,b]))) []
theorem zhr (a b:List Iv) (y:Nat):y∈qd [a,b]↔y=0∨y∈yh a∨y∈yh b:=by simp[qd]
theorem zai {g:Bool→Bool→Bool} {a b:List Iv} (ha:zq a) (hb:zq b) (h0:g false false=false):
 Good (opL g a b)∧(∀x,mem (opL g a b) x=g (mem a x) (mem b x))∧zq (opL g a b):=by
 have hS:=zdl (qd [a,b])
 have hl:∀x∈zcs (qd [a,b]),x<18446744073709551616:=fun x hx=>by
  rcases(zhr a b x).1 ((hS x).1 hx) with rfl | h | h
  · omega
  · exact zfo ha x h
  · exact zfo hb x h
 obtain⟨h1,h2⟩:=zze (f:=fun x=>g (mem a x) (mem b x)) (zeq (qd [a,b])) hl ((hS 0).2 (by simp[qd])) (fun c x hcx hx h=>by
  have e1:mem a x=mem a c:=zfn ha hcx hx fun y hy=>h y ((hS y).2 ((zhr a b y).2 (.inr (.inl hy))))
  have e2:mem b x=mem b c:=zfn hb hcx hx fun y hy=>h y ((hS y).2 ((zhr a b y).2 (.inr (.inr hy))))
  simp only[e1,e2]) (fun x hx=>by simp only[zho ha hx,zho hb hx,h0])
 refine⟨h1,h2,zjv (fun p hp=>?_) (by simp)⟩;obtain⟨i,hi,rfl⟩:=List.getElem_of_mem hp;rw[zav] at hi;have e:=zgf (fun x=>g (mem a x) (mem b x)) hi;rw[List.getElem?_eq_getElem (by rw[zav];exact hi)] at e;have e':=Option.some.inj e;rw[e'];have hn:=hl _ (za5 hi);split
 · rename_i h2;have:=hl _ (za5 h2);exact⟨hn,by simp only;omega⟩
 · exact⟨hn,by simp only;omega⟩
theorem z0c {g:Bool→Bool→Bool} {a b L:List Iv} (ha:zq a) (hb:zq b) (h0:g false false=false) (hG:Good L) (hm:∀x,mem L x=g (mem a x) (mem b x)):L=opL g a b:=
 zhh hG (zai ha hb h0).1 fun x=>by rw[hm,(zai ha hb h0).2.1]
def gOr (a b:Bool):Bool:=a || b
def kq (a b:Bool):Bool:=a && b
def jl (a b:Bool):Bool:=a && !b
def qz (e:Ent):List Iv:=opL jl [(0,e.2.1)] e.2.2
def ki (L:List Iv):Nat:=match L.getLast? with | some t=>t.2 | none=>0
def ofE (r:Nat) (L:List Iv):Option Ent:=if L=[] then none else some (r,ki L,opL jl [(0,ki L)] L)
structure LtE (e:Ent):Prop where
 rep:e.1<18446744073709551616
 max:e.2.1<18446744073709551616
 holes:zq e.2.2
theorem zer {a b:Nat} (ha:a<18446744073709551616) (hb:b<18446744073709551616):zq [(a,b)]:=by
 intro t ht;simp at ht;subst ht;exact⟨ha,hb⟩
theorem zes {e:Ent} (h:LtE e):Good (qz e)∧(∀c,mem (qz e) c=(decide (c≤e.2.1) && !mem e.2.2 c))∧zq (qz e):=by
 obtain⟨h1,h2,h3⟩:=zai (g:=jl) (zer (a:=0) (by omega) h.max) h.holes rfl;refine⟨h1,fun c=>?_,h3⟩;unfold qz;rw[h2];simp[jl,mem]
theorem z0d {L:List Iv} (h:Good L) (hne:L≠[]):mem L (ki L)=true∧∀c,mem L c=true→c≤ki L:=by
 rcases zcm L with rfl | ⟨l,t,rfl⟩
 · exact absurd rfl hne
 · obtain⟨h1,h2,h3⟩:=zjn h;have e:ki (l++[t])=t.2:=by simp[ki]
   rw[e];refine⟨mem_iff.2 ⟨t,by simp,h2,Nat.le_refl _⟩,fun c hc=>?_⟩;obtain⟨s,hs,k1,k2⟩:=mem_iff.1 hc;rcases List.mem_append.1 hs with hs | hs
   · have:=h3 s hs;omega
   · simp at hs;subst hs;exact k2
structure CanE (e:Ent):Prop where
 good:Good e.2.2
 below:∀s∈e.2.2,s.2≤e.2.1
 top:mem e.2.2 e.2.1=false
theorem zmx {L:List Iv} (hl:zq L):ki L<18446744073709551616:=by
 rcases zcm L with rfl | ⟨l,t,rfl⟩
 · simp[ki]
 · have e:ki (l++[t])=t.2:=by simp[ki]
   rw[e];exact(hl t (by simp)).2
theorem zmy {L:List Iv} (h:Good L) {s:Iv} (hs:s∈L):mem L s.2=true∧s.1≤s.2:=by
 obtain⟨i,hi,rfl⟩:=List.getElem_of_mem hs;have:=zcr h i hi;rw[qf hi] at this;exact⟨mem_iff.2 ⟨_,List.getElem_mem hi,this.1,Nat.le_refl _⟩,this.1⟩
theorem z0e {r:Nat} {L:List Iv} (hG:Good L) (hl:zq L) (hne:L≠[]):∃e,ofE r L=some e∧e.1=r∧CanE e∧zq e.2.2∧e.2.1<18446744073709551616∧∀c,(decide (c≤e.2.1) && !mem e.2.2 c)=mem L c:=by
 have ht:=zmx hl;obtain⟨h1,h2,h3⟩:=zai (g:=jl) (zer (a:=0) (by omega) ht) hl rfl;obtain⟨t1,t2⟩:=z0d hG hne;refine⟨(r,ki L,opL jl [(0,ki L)] L),by unfold ofE;rw[if_neg hne],rfl,⟨h1,fun s hs=>?_,?_⟩,h3,ht,fun c=>?_⟩
 · have:=(zmy h1 hs).1;rw[h2] at this;simp[jl,mem] at this;exact this.1
 · show mem (opL jl [(0,ki L)] L) (ki L)=false;rw[h2,t1];simp[jl]
 · show (decide (c≤ki L) && !mem (opL jl [(0,ki L)] L) c)=mem L c;rw[h2];have em:mem [(0,ki L)] c=decide (c≤ki L):=by simp[mem]
   rw[em];by_cases hc:mem L c=true
   · have hle:decide (c≤ki L)=true:=decide_eq_true (t2 c hc);rw[hc,hle];rfl
   · have hc':mem L c=false:=by simpa using hc
     rw[hc'];cases decide (c≤ki L) <;> rfl
theorem zqt {e e':Ent} (h:CanE e) (h':CanE e') (hr:e.1=e'.1) (hk:∀c,(decide (c≤e.2.1) && !mem e.2.2 c)=(decide (c≤e'.2.1) && !mem e'.2.2 c)):e=e':=by
 have k1:=hk e.2.1;rw[h.top] at k1;simp at k1;have k2:=hk e'.2.1;rw[h'.top] at k2;simp at k2;have hm:e.2.1=e'.2.1:=by omega
 have hh:e.2.2=e'.2.2:=zhh h.good h'.good fun x=>by
  by_cases hx:x≤e.2.1
  · have:=hk x;rw[←hm] at this;simp[hx] at this;cases hA:mem e.2.2 x <;> cases hB:mem e'.2.2 x <;> simp_all
  · have n1:mem e.2.2 x=false:=by
     rw[zfj];intro s hs hsx;have:=h.below s hs;omega
    have n2:mem e'.2.2 x=false:=by
     rw[zfj];intro s hs hsx;have:=h'.below s hs;omega
    rw[n1,n2]
 obtain⟨r,m,hs⟩:=e;obtain⟨r',m',hs'⟩:=e';simp only at hr hm hh;rw[hr,hm,hh]
end
section
open Go.RowKit Go.Shelf
attribute [local go_sem] Oper.semAt_some zd7
def zbz (a b:List Iv):Bool:=decide (opL kq a b=[])
end
section
open Go.RowKit
def zft (base:Nat) (v:Value) (n i:Nat) (cs ys:List Value) (w:World) (e:Ending) (w':World):Prop:=
 ∃v',e=.returned v'∧w'.ownsRow base 52 1 v' (n+1) (cs.take (i)++(ys++cs.drop (i)))∧w.grownBy w' v.ownBlock
theorem z0f {w:World} {ty:TypeId} {a b:Option Addr} {n c m d:Nat}:(Builtin.append_ #[50,50] ty #[.slice a n c,.slice b m d]).run Tryz.prog w=(Builtin.append_ #[50,50] ty #[.slice a n c,.slice b m d]).run Tryz.prog w:=by
 have h1:=Tryz.underlying50;have h2:=Tryz.underlying50
 rfl
set_option maxRecDepth 100000 in
theorem z0g (base:Nat) (v:Value) (n vb:Nat) (cs ys:List Value) (w:World) (ho:w.ownsRow base 52 1 v n cs) (hv:w.heap[vb]?=some (.cells ys.toArray 52 (0,0))) (hy:ys.length=1)
 (h1:∀u∈ys,u.oneCell'=true) (hn:n+1≤1000000) (hb:base≤w.heap.size):
 Calls Tryz.prog 284 #[v,.int .i64 n,.slice (some ⟨vb,0,none⟩) 1 1] w fun e w'=>zft base v n n cs ys w e w':=by
 have hr:Rd w 1 (some ⟨vb,0,none⟩) 1 ys:=⟨by omega,fun _=>⟨vb,0,rfl,fun j u hu=>by rw[Nat.zero_add];exact zdj hv (by simpa using hu)⟩⟩;have hrun:=fun ty=>zcp base 50 ty _ _ 1 8 Tryz.underlying50 Tryz.info_u64 rfl (by omega) v n cs ho (some ⟨vb,0,none⟩) 1 1 ys hr h1 (by unfold maxLen;omega) (by omega) hb
 obtain⟨v',w',hrun1,h2,h3⟩:=hrun 50;have hlen:=ho.1;have HR:=hid (show zft base v n n cs ys w (.returned v') w' from⟨v',rfl,by rw[List.take_of_length_le (by omega),List.drop_eq_nil_of_le (by omega),List.append_nil];exact h2,h3⟩)
 obtain⟨a,c,rfl⟩:∃a c,v=.slice a n c:=by
  rcases ho.2 with ⟨rfl,rfl⟩ | ⟨g,cap,cur,rfl,_⟩
  · exact⟨none,0,rfl⟩
  · exact⟨_,cap,rfl⟩
 have hrun2:(Builtin.append_ #[50,50] 50 #[.slice a n c,.slice (some ⟨vb,0,none⟩) 1 1]).run Tryz.prog w=.ok v' w':=by rw[z0f];exact hrun1
 have hnc:n≤c∧c≤9223372036854775807∧(a=none∨∃g,a=some ⟨g,0,none⟩):=by
  rcases ho.2 with ⟨h,rfl⟩ | ⟨g,cap,cur,h,_,_,h4,h5,_⟩
  · cases h;exact⟨Nat.le_refl _,by omega,.inl rfl⟩
  · cases h;unfold maxLen at h5;exact⟨h4,by omega,.inr ⟨g,rfl⟩⟩
 obtain⟨hnc,hc63,ha⟩:=hnc;clear hrun hrun1 h2 h3 ho hv hy h1 hr hlen;rcases ha with rfl | ⟨g,rfl⟩
 · go_enter Tryz.func284,Tryz.ntmps284;go_wp2_with (at_builtin;refine Lib.wpList_append_run _ rfl _ _ _ _ rfl _ _ rfl rfl _ _ hrun2 ?_);go_ret;exact HR.out
 · go_enter Tryz.func284,Tryz.ntmps284;go_wp2_with (at_builtin;refine Lib.wpList_append_run _ rfl _ _ _ _ rfl _ _ rfl rfl _ _ hrun2 ?_);all_goals (go_ret;exact HR.out)
theorem zqu {w:World} {base n c g:Nat} {cs:List Value} (ho:w.ownsRow base 52 1 (.slice (some ⟨g,0,none⟩) n c) n cs):
 ∃L:List Value,w.heap[g]?=some (.cells L.toArray 52 (0,0))∧L.length=c*1∧L.take (n*1)=cs∧n≤c∧c≤maxLen∧base≤g∧g<w.heap.size:=by
 rcases ho.2 with ⟨h,_⟩ | ⟨g',cap,cur,h,h1,h2,h3,h4,h5,h6⟩
 · cases h
 · cases h;exact⟨cur.toList,by simpa using h2,by simpa using h5,h6,h3,h4,h1,(Array.getElem?_eq_some_iff.1 h2).1⟩
set_option maxRecDepth 100000 in
theorem z0h (base g n c i vb:Nat) (cs ys:List Value) (w:World) (ho:w.ownsRow base 52 1 (.slice (some ⟨g,0,none⟩) n c) n cs) (hv:w.heap[vb]?=some (.cells ys.toArray 52 (0,0))) (hne:vb≠g) (hy:ys.length=1)
 (h1c:∀u∈cs,u.oneCell'=true) (h1:∀u∈ys,u.oneCell'=true) (hi:i<n) (hc:n+1≤c):
 Calls Tryz.prog 284 #[.slice (some ⟨g,0,none⟩) n c,.int .i64 i,.slice (some ⟨vb,0,none⟩) 1 1] w fun e w'=>zft base (.slice (some ⟨g,0,none⟩) n c) n i cs ys w e w':=by
 obtain⟨L,hg,hL,hcs,-,hcm,hbg,hgw⟩:=zqu ho;have hc63:c≤9223372036854775807:=by unfold maxLen at hcm;omega
 have hcl:=ho.1
 have hsz:(Tryz.prog.info? 52).map (·.size)=some 1:=by
  have h:=Tryz.info_u64
  cases hq:Tryz.prog.info? 52 with
  | none=>rw[hq] at h;cases h
  | some k=>rw[hq] at h;simp at h;simp[h]
 have hov:∀off lb cb,(callFunc 292 #[.slice (some ⟨vb,0,none⟩) 1 1,.slice (some ⟨g,off,none⟩) lb cb]).run Tryz.prog w=.ok (.value (.bool false)) w:=fun off lb cb=>by
  rw[run_callFunc_extern Tryz.func292 (by kernel_rfl) (by kernel_rfl) (by kernel_rfl) (e:=Extern.SlicesOverlaps.overlaps #[50,50] #[4]) (by kernel_rfl),
   Lib.run_overlaps_apart w 50 4 52 Tryz.underlying50 1 (zqa hsz) ⟨vb,0,none⟩ ⟨g,off,none⟩ 1 1 lb cb hne 52 52 ys.length L.length (by simp[World.shape?,hv]) (by simp[World.shape?,hg]) (by omega) (by simp[World.frozen?,hv]) (by simp[World.frozen?,hv])]
  rfl
 obtain⟨A,hA⟩:∃A,A=splice L ((i+1)) (cs.drop (i)):=⟨_,rfl⟩;have hAl:A.length=c*1:=by rw[hA,length_splice _ _ _ (by rw[List.length_drop];omega),hL]
 have hcp1:∀ty,(Builtin.copy_ #[50,50] ty #[.slice (some ⟨g,(i+1),none⟩) (n+1 - (i+1)) (c - (i+1)),.slice (some ⟨g,i,none⟩) (n+1 - i) (c - i)]).run Tryz.prog w.drew=.ok (goInt ((n - i:Nat):Int)) (w.drew.setRow g A.toArray):=fun ty=>by
  rw[hA];refine zel w.drew _ _ ty 52 1 g _ _ _ _ _ _ L 52 (cs.drop (i)) (n - i) Tryz.underlying50 hsz hg (by simp only[Nat.min_def];split <;> omega) (by rw[List.length_drop];omega) (fun j u hj=>?_) (by rw[List.length_drop];omega) (fun u hu=>h1c u (List.mem_of_mem_drop hu));rw[List.getElem?_drop] at hj;show w.cell? _=_;rw[yp];refine zdj hg ?_;rw[←hcs] at hj;rw[List.getElem?_take] at hj;split at hj
  · simpa using hj
  · exact absurd hj (by simp)
 obtain⟨W1,hW1⟩:∃W1,W1=w.drew.setRow g A.toArray:=⟨_,rfl⟩;have hg1:W1.heap[g]?=some (.cells A.toArray 52 (0,0)):=by rw[hW1];exact setRow_heap w.drew g _ _ _ _ hg
 have hv1:W1.heap[vb]?=some (.cells ys.toArray 52 (0,0)):=by rw[hW1];exact(setRow_other w.drew g vb _ hne).trans hv
 have hcp2:∀ty,(Builtin.copy_ #[50,50] ty #[.slice (some ⟨g,i,none⟩) (n+1 - i) (c - i),.slice (some ⟨vb,0,none⟩) 1 1]).run Tryz.prog W1=.ok (goInt ((1:Nat):Int)) (W1.setRow g (splice A (i) ys).toArray):=fun ty=>
  zel W1 _ _ ty 52 1 g _ _ _ _ _ _ A 52 ys 1 Tryz.underlying50 hsz hg1 (by simp only[Nat.min_def];split <;> omega) (by omega) (fun j u hj=>by rw[yp,Nat.zero_add];exact zdj hv1 (by simpa using hj)) (by omega) h1
 have hE:zft base (.slice (some ⟨g,0,none⟩) n c) n i cs ys w (.returned (.slice (some ⟨g,0,none⟩) (n+1) c)) (W1.setRow g (splice A (i) ys).toArray):=by
  refine⟨_,rfl,⟨by simp;omega,.inr ⟨g,c,_,rfl,hbg,setRow_heap W1 g _ _ _ _ hg1,hc,hcm,by rw[List.size_toArray,length_splice _ _ _ (show i+ys.length≤A.length by omega),hAl],?_⟩⟩,?_⟩
  · have h:=zqb L ys (i) (n*1) 1 (by omega) hy (by omega);rw[hcs] at h;rw[hA,show (i+1)=i+1 by omega,show (n+1)*1=n*1+1 by omega];simpa using h
  · refine⟨by rw[hW1];rfl,by rw[hW1];rfl,by rw[hW1];rfl,by rw[hW1];simp[World.setRow],fun k hk hkr=>?_⟩;have hkg:k≠g:=fun e=>hkr (by rw[e];rfl)
    rw[setRow_other W1 g k _ hkg,hW1];exact setRow_other w.drew g k _ hkg
 have HE:=hid hE;rw[←hW1] at hcp1;have HW1:=hid hW1;clear hE hW1 hg1 hv1 hA hAl ho hg hL hcs hcl hv hy h1c h1;have hz2:¬((i:Int)=(n:Int)):=by omega
 have hw1:IntKind.i64.wrap ((i:Int)+1)=(i:Int)+1:=by rw[IntKind.wrap_i64];omega
 have hin:i≤n:=by omega
 have hb2:¬(c=i+1):=by omega
 have hb4:¬(c=i):=by omega
 have hb1:(0:Int)≤(i:Int)+1:=by omega
 have hb3:(i:Int)≤(n:Int)+1:=by omega
 have htn:((i:Int)+1).toNat=i+1:=by omega
 go_enter Tryz.func284,Tryz.ntmps284;go_wp2_with (simp only[hov]);go_region_law (refine zjs rfl _ _ 50 50 rfl (.slice (some ⟨g,(i+1),none⟩) (n+1 - (i+1)) (c - (i+1))) (.slice (some ⟨g,i,none⟩) (n+1 - i) (c - i)) (by simp[Act.eval,Act.put] <;> omega) (by simp[Act.eval,Act.put] <;> omega) (hcp1 _) ?_)
 go_wp2_with (at_builtin;refine zjr rfl _ _ 50 50 rfl (.slice (some ⟨g,i,none⟩) (n+1 - i) (c - i)) (.slice (some ⟨vb,0,none⟩) 1 1) (by simp[Act.eval,Act.put] <;> omega) (by simp[Act.eval,Act.put]) (hcp2 _) ?_);go_ret;exact HE.out
set_option maxRecDepth 100000 in
theorem z0i (base g n c i vb:Nat) (cs ys:List Value) (w:World) (ho:w.ownsRow base 52 1 (.slice (some ⟨g,0,none⟩) n c) n cs) (hv:w.heap[vb]?=some (.cells ys.toArray 52 (0,0))) (hy:ys.length=1)
 (h1c:∀u∈cs,u.oneCell'=true) (h1:∀u∈ys,u.oneCell'=true) (hi:i<n) (hc:c<n+1) (hn:n+1≤1000000) (hb:base≤w.heap.size):
 Calls Tryz.prog 284 #[.slice (some ⟨g,0,none⟩) n c,.int .i64 i,.slice (some ⟨vb,0,none⟩) 1 1] w fun e w'=>zft base (.slice (some ⟨g,0,none⟩) n c) n i cs ys w e w':=by
 obtain⟨L,hg,hL,hcs,hnc,hcm,hbg,hgw⟩:=zqu ho;have hc63:c≤9223372036854775807:=by unfold maxLen at hcm;omega
 have hcl:=ho.1;have hvw:vb<w.heap.size:=(Array.getElem?_eq_some_iff.1 hv).1;obtain⟨i0,hi0,hz0,hzs,hzb⟩:=info_parts Tryz.info_u64;have hsz:(Tryz.prog.info? 52).map (·.size)=some 1:=by rw[hi0];simp[hzs]
 have hcell:∀j v,cs[j]?=some v→w.cell? ⟨g,j,none⟩=some v:=fun j v hj=>by
  refine zdj hg ?_;rw[←hcs,List.getElem?_take] at hj;split at hj
  · simpa using hj
  · exact absurd hj (by simp)
 have hold:(Builtin.firstCells i0.size i (.slice (some ⟨g,0,none⟩) i c)).run Tryz.prog w.drew=.ok (cs.take (i)).toArray w.drew:=by
  rw[hzs]
  exact run_firstCells_some w.drew 1 i ⟨g,0,none⟩ i c (cs.take (i)) (by rw[List.length_take];omega) (fun j v hj=>by
   rw[yp,Nat.zero_add];rw[List.getElem?_take] at hj;split at hj
   · exact hcell j v hj
   · cases hj)
 have hik:i+(n+1 - i)=n+1:=by omega
 obtain⟨G,hG⟩:∃G,G=grownCap w (n+1) c 52:=⟨_,rfl⟩;obtain⟨Z,hZ⟩:∃Z:List Value,Z=cs.take (i)++((Builtin.zeroCells (Value.cells (.int .u64 0)) (n+1 - i)).toList++(Builtin.zeroCells (Value.cells (.int .u64 0)) (G - (n+1))).toList):=⟨_,rfl⟩
 have hrz:∀ty,(Builtin.append_ #[50,3] ty #[.slice (some ⟨g,0,none⟩) i c,.int .i64 ((n:Int)+1 - (i:Int))]).run Tryz.prog w=
  .ok (.slice (some ⟨w.heap.size,0,none⟩) (n+1) G) (w.drew.alloc (.cells Z.toArray 52)):=fun ty=>by
  have h:=Lib.run_append_grow_zeros w 50 3 ty 52 i0 _ .i64 .i64 Tryz.underlying50 Tryz.underlying3 hi0 hz0 (some ⟨g,0,none⟩) i c (cs.take (i)) hold (n+1 - i) (by omega) (by omega) (by omega) (by omega) (by rw[hzb];omega) (by rw[hzb,hik];exact growslice_fits hc (by omega));rw[hik,←hG] at h
  have hZa:(cs.take (i)).toArray++Builtin.zeroCells (Value.cells (.int .u64 0)) (n+1 - i)++Builtin.zeroCells (Value.cells (.int .u64 0)) (G - (n+1))=Z.toArray:=by
   rw[hZ];apply Array.ext';simp
  rw[hZa] at h;rw[show (n:Int)+1 - (i:Int)=((n+1 - i:Nat):Int) by omega,h]
 have hGn:n+1≤G:=by rw[hG];exact grownCap_ge w _ _ _
 have hGm:G≤maxLen:=by rw[hG];exact grownCap_le_maxLen w (n+1) c 52 (by unfold maxLen;omega)
 have hG63:G≤9223372036854775807:=by unfold maxLen at hGm;omega
 have hZl:Z.length=G*1:=by
  have hz:∀k,(Builtin.zeroCells (Value.cells (.int .u64 0)) k).toList.length=k*1:=fun k=>by rw[Array.length_toList,size_zeroCells];rfl
  rw[hZ,List.length_append,List.length_append,List.length_take,hz,hz];omega
 have hZt:Z.take (i)=cs.take (i):=by
  rw[hZ,List.take_append_of_le_length (by rw[List.length_take];omega)];exact List.take_of_length_le (by rw[List.length_take];omega)
 obtain⟨W1,hW1⟩:∃W1,W1=w.drew.alloc (.cells Z.toArray 52):=⟨_,rfl⟩;rw[←hW1] at hrz;have n1:W1.heap[w.heap.size]?=some (.cells Z.toArray 52 (0,0)):=by rw[hW1];exact heap_alloc_new w.drew _
 have o1:∀k,k<w.heap.size→W1.heap[k]?=w.heap[k]?:=fun k hk=>by rw[hW1];exact Below.heap_alloc w.drew _ k hk
 have hcpA:∀ty,(Builtin.copy_ #[50,50] ty #[.slice (some ⟨w.heap.size,i,none⟩) (n+1 - i) (G - i),.slice (some ⟨vb,0,none⟩) 1 1]).run Tryz.prog W1=.ok (goInt ((1:Nat):Int)) (W1.setRow w.heap.size (splice Z (i) ys).toArray):=fun ty=>
  zel W1 _ _ ty 52 1 w.heap.size _ _ _ _ _ _ Z 52 ys 1 Tryz.underlying50 hsz n1 (by simp only[Nat.min_def];split <;> omega) (by omega) (fun j u hj=>by rw[yp,Nat.zero_add];exact zdj ((o1 vb hvw).trans hv) (by simpa using hj)) (by omega) h1
 obtain⟨W2,hW2⟩:∃W2,W2=W1.setRow w.heap.size (splice Z (i) ys).toArray:=⟨_,rfl⟩;rw[←hW2] at hcpA;have n2:W2.heap[w.heap.size]?=some (.cells (splice Z (i) ys).toArray 52 (0,0)):=by rw[hW2];exact setRow_heap W1 _ _ _ _ _ n1
 have o2:∀k,k<w.heap.size→W2.heap[k]?=w.heap[k]?:=fun k hk=>by rw[hW2];exact(setRow_other W1 _ k _ (by omega)).trans (o1 k hk)
 have hl2:(splice Z (i) ys).length=G*1:=by rw[length_splice _ _ _ (by omega),hZl]
 have hcpB:∀ty,(Builtin.copy_ #[50,50] ty #[.slice (some ⟨w.heap.size,(i+1),none⟩) (n+1 - (i+1)) (G - (i+1)),.slice (some ⟨g,i,none⟩) (n - i) (c - i)]).run Tryz.prog W2.drew=.ok (goInt ((n - i:Nat):Int)) (W2.drew.setRow w.heap.size (splice (splice Z (i) ys) ((i+1)) (cs.drop (i))).toArray):=fun ty=>by
  refine zel W2.drew _ _ ty 52 1 w.heap.size _ _ _ _ _ _ _ 52 (cs.drop (i)) (n - i) Tryz.underlying50 hsz n2 (by simp only[Nat.min_def];split <;> omega) (by rw[List.length_drop];omega) (fun j u hj=>?_) (by rw[List.length_drop];omega) (fun u hu=>h1c u (List.mem_of_mem_drop hu));rw[List.getElem?_drop] at hj;show W2.cell? _=_;rw[yp];have h:=hcell _ u hj;simp only[World.cell?,o2 g hgw] at h ⊢;exact h
 obtain⟨C,hC⟩:∃C,C=splice (splice Z (i) ys) ((i+1)) (cs.drop (i)):=⟨_,rfl⟩;have hl3:C.length=G*1:=by rw[hC,length_splice _ _ _ (by rw[List.length_drop];omega),hl2]
 have hCt:C.take ((n+1)*1)=cs.take (i)++(ys++cs.drop (i)):=by
  have h:=zqc Z ys cs (i) (n*1) 1 (by omega) hcl hy (by omega) hZt;rw[hC,show (i+1)=i+1 by omega,show (n+1)*1=n*1+1 by omega];exact h
 rw[←hC] at hcpB
 have hE:zft base (.slice (some ⟨g,0,none⟩) n c) n i cs ys w (.returned (.slice (some ⟨w.heap.size,0,none⟩) (n+1) G)) (W2.drew.setRow w.heap.size C.toArray):=by
  refine⟨_,rfl,⟨by simp;omega,.inr ⟨w.heap.size,G,_,rfl,hb,setRow_heap W2.drew _ _ _ _ _ n2,hGn,hGm,by rw[List.size_toArray,hl3],?_⟩⟩,?_⟩
  · simpa using hCt
  · refine⟨by rw[hW2,hW1];rfl,by rw[hW2,hW1];rfl,by rw[hW2,hW1];rfl,by rw[hW2,hW1];simp[World.setRow],fun k hk hkr=>?_⟩;rw[setRow_other W2.drew _ k _ (by omega)];exact o2 k hk
 have HE:=hid hE;obtain⟨W3,hW3⟩:∃W3,W3=W2.drew.setRow w.heap.size C.toArray:=⟨_,rfl⟩;rw[←hW3] at hcpB HE;obtain⟨N,hN⟩:∃N,N=w.heap.size:=⟨_,rfl⟩;have hgN:g≠N:=by omega
 have hvN:vb≠N:=by omega
 rw[←hN] at hcpA hcpB HE hrz;clear hE hW3 hN hC hl3 hCt hW2 n2 o2 hl2 hW1 n1 o1 hZ hZl hZt hG hold hcell hcl hcs hL hg ho hv hy h1c h1 hi0 hz0 hzs hzb hsz hb hcm hGm;have hz2:¬((i:Int)=(n:Int)):=by omega
 have hz3:(c:Int)<(n:Int)+1:=by omega
 have hGi:¬(G=i):=by omega
 have hGim:¬(G=i+1):=by omega
 have hci:¬(c=i):=by omega
 have hw1:IntKind.i64.wrap ((i:Int)+1)=(i:Int)+1:=by rw[IntKind.wrap_i64];omega
 have hb1:(0:Int)≤(i:Int)+1:=by omega
 have hin:i≤n:=by omega
 have htn:((i:Int)+1).toNat=i+1:=by omega
 have hb3:(i:Int)≤(n:Int):=by omega
 clear hik;go_enter Tryz.func284,Tryz.ntmps284
 go_wp2_with (first
  | (at_builtin;refine Lib.wpList_append_run _ rfl _ _ _ _ rfl _ _ rfl rfl _ _ (hrz _) ?_)
  | (at_builtin;refine zjr rfl _ _ 50 50 rfl (.slice (some ⟨N,i,none⟩) (n+1 - i) (G - i)) (.slice (some ⟨vb,0,none⟩) 1 1) (by simp[Act.eval,Act.put] <;> omega) (by simp[Act.eval,Act.put]) (hcpA _) ?_))
 go_region_law (refine zjs rfl _ _ 50 50 rfl (.slice (some ⟨N,(i+1),none⟩) (n+1 - (i+1)) (G - (i+1))) (.slice (some ⟨g,i,none⟩) (n - i) (c - i)) (by simp[Act.eval,Act.put] <;> omega) (by simp[Act.eval,Act.put] <;> omega) (hcpB _) ?_)
 go_wp2;go_ret;exact HE.out
theorem z0j (base:Nat) (v:Value) (n i vb:Nat) (cs ys:List Value) (w:World) (ho:w.ownsRow base 52 1 v n cs) (hv:w.heap[vb]?=some (.cells ys.toArray 52 (0,0))) (hne:v.ownBlock≠some vb) (hy:ys.length=1)
 (h1c:∀u∈cs,u.oneCell'=true) (h1:∀u∈ys,u.oneCell'=true) (hi:i≤n) (hn:n+1≤1000000) (hb:base≤w.heap.size):
 Calls Tryz.prog 284 #[v,.int .i64 i,.slice (some ⟨vb,0,none⟩) 1 1] w fun e w'=>zft base v n i cs ys w e w':=by
 by_cases hin:i=n
 · subst hin;exact z0g base v _ vb cs ys w ho hv hy h1 hn hb
 · rcases ho.2 with ⟨rfl,rfl⟩ | ⟨g,cap,cur,rfl,_,_,h4,_⟩
   · omega
   · by_cases hc:n+1≤cap
     · exact z0h base g n cap i vb cs ys w ho hv (fun e=>hne (by rw[e];rfl)) hy h1c h1 (by omega) hc
     · exact z0i base g n cap i vb cs ys w ho hv hy h1c h1 (by omega) (by omega) hn hb
end
section
def qw:List Nat→List Nat→Int
 | [],[]=>0
 | [],_ :: _=> -1
 | _ :: _,[]=>1
 | a :: l,b :: m=>if a<b then -1 else if b<a then 1 else qw l m
theorem zqv:∀(l:List Nat),qw l l=0
 | []=>rfl
 | a :: l=>by rw[qw,if_neg (Nat.lt_irrefl _),if_neg (Nat.lt_irrefl _),zqv l]
theorem zqw:∀{a b:List Nat},qw a b=0→a=b
 | [],[],_=>rfl
 | [],_ :: _,h=>by simp[qw] at h
 | _ :: _,[],h=>by simp[qw] at h
 | a :: l,b :: m,h=>by
   rw[qw] at h;split at h
   · cases h
   · split at h
     · cases h
     · have:=zqw h;have:a=b:=by omega
       subst this;congr
theorem zqx:∀(a b:List Nat),qw a b= -1∨qw a b=0∨qw a b=1
 | [],[]=>.inr (.inl rfl)
 | [],_ :: _=>.inl rfl
 | _ :: _,[]=>.inr (.inr rfl)
 | a :: l,b :: m=>by
   rw[qw];split
   · exact .inl rfl
   · split
     · exact .inr (.inr rfl)
     · exact zqx l m
theorem zqy:∀(a b:List Nat),qw b a= - qw a b
 | [],[]=>rfl
 | [],_ :: _=>rfl
 | _ :: _,[]=>rfl
 | a :: l,b :: m=>by
   rw[qw,qw];by_cases h1:a<b
   · rw[if_pos h1,if_neg (by omega),if_pos h1];rfl
   · by_cases h2:b<a
     · rw[if_pos h2,if_neg h1,if_pos h2]
     · rw[if_neg h1,if_neg h2,if_neg h2,if_neg h1,zqy l m]
theorem zqz:∀{a b c:List Nat},qw a b= -1→qw b c= -1→qw a c= -1
 | [],[],_,h,_=>by simp[qw] at h
 | [],_ :: _,[],_,h=>by simp[qw] at h
 | [],_ :: _,_ :: _,_,_=>rfl
 | _ :: _,[],_,h,_=>by simp[qw] at h
 | _ :: _,_ :: _,[],_,h=>by simp[qw] at h
 | a :: l,b :: m,c :: n,h1,h2=>by
   rw[qw] at h1 h2 ⊢;split at h1
   · split at h2
     · rw[if_pos (by omega)]
     · split at h2
       · cases h2
       · rw[if_pos (by omega)]
   · split at h1
     · cases h1
     · split at h2
       · rw[if_pos (by omega)]
       · split at h2
         · cases h2
         · rw[if_neg (by omega),if_neg (by omega),zqz h1 h2]
def qs (l:List Iv):List Nat:=l.flatMap fun s=>[s.1,s.2]
def kx (e:Ent):List Nat:=e.1 :: e.2.1 :: e.2.2.length :: qs e.2.2
def qa (v:Vec):List Nat:=v.length :: v.flatMap kx
theorem zq0:∀{l m:List Iv} {r s:List Nat},l.length=m.length→qs l++r=qs m++s→l=m∧r=s
 | [],[],r,s,_,h=>⟨rfl,by simpa [qs] using h⟩
 | [],_ :: _,_,_,h,_=>by simp at h
 | _ :: _,[],_,_,h,_=>by simp at h
 | (a,b) :: l,(c,d) :: m,r,s,hl,h=>by
   have e1:qs ((a,b) :: l)=a :: b :: qs l:=rfl;have e2:qs ((c,d) :: m)=c :: d :: qs m:=rfl;rw[e1,e2] at h;simp only[List.cons_append,List.cons.injEq] at h;obtain⟨rfl,rfl,h⟩:=h;obtain⟨rfl,rfl⟩:=zq0 (by simpa using hl) h;exact⟨rfl,rfl⟩
theorem z0k {e f:Ent} {r s:List Nat} (h:kx e++r=kx f++s):e=f∧r=s:=by
 obtain⟨a,b,l⟩:=e;obtain⟨c,d,m⟩:=f;simp only[kx,List.cons_append,List.cons.injEq] at h;obtain⟨rfl,rfl,hl,h⟩:=h;obtain⟨rfl,rfl⟩:=zq0 hl h;exact⟨rfl,rfl⟩
theorem zq1:∀{v u:Vec},v.length=u.length→v.flatMap kx=u.flatMap kx→v=u
 | [],[],_,_=>rfl
 | [],_ :: _,h,_=>by simp at h
 | _ :: _,[],h,_=>by simp at h
 | e :: v,f :: u,hl,h=>by
   rw[List.flatMap_cons,List.flatMap_cons] at h;obtain⟨rfl,h2⟩:=z0k h;rw[zq1 (by simpa using hl) h2]
theorem z0l {v u:Vec} (h:qa v=qa u):v=u:=by
 simp only[qa,List.cons.injEq] at h;exact zq1 h.1 h.2
def yk (a b:Vec):Int:=qw (qa a) (qa b)
theorem zgi (a:Vec):yk a a=0:=zqv _
theorem zq2 {a b:Vec} (h:yk a b=0):a=b:=z0l (zqw h)
theorem zet (a b:Vec):yk a b= -1∨yk a b=0∨yk a b=1:=zqx _ _
theorem z0m (a b:Vec):yk b a= - yk a b:=zqy _ _
theorem zgj {a b c:Vec} (h1:yk a b= -1) (h2:yk b c= -1):yk a c= -1:=zqz h1 h2
theorem zmz {α:Type} {lt:α→α→Prop} (irr:∀a,¬lt a a) (tr:∀a b c,lt a b→lt b c→lt a c):∀{l m:List α},l.Pairwise lt→m.Pairwise lt→(∀x,x∈l↔x∈m)→l=m
 | [],[],_,_,_=>rfl
 | [],b :: m,_,_,h=>by have:=(h b).2 (List.mem_cons_self ..);simp at this
 | a :: l,[],_,_,h=>by have:=(h a).1 (List.mem_cons_self ..);simp at this
 | a :: l,b :: m,h1,h2,h=>by
   obtain⟨p1,q1⟩:=List.pairwise_cons.1 h1;obtain⟨p2,q2⟩:=List.pairwise_cons.1 h2
   have e:a=b:=by
    rcases List.mem_cons.1 ((h a).1 (List.mem_cons_self ..)) with e | ha
    · exact e
    · rcases List.mem_cons.1 ((h b).2 (List.mem_cons_self ..)) with e | hb
      · exact e.symm
      · exact absurd (tr _ _ _ (p1 b hb) (p2 a ha)) (irr a)
   subst e;congr 1;refine zmz irr tr q1 q2 fun x=>?_
   constructor
   · intro hx;rcases List.mem_cons.1 ((h x).1 (List.mem_cons_of_mem _ hx)) with e | h'
     · subst e;exact absurd (p1 x hx) (irr x)
     · exact h'
   · intro hx;rcases List.mem_cons.1 ((h x).2 (List.mem_cons_of_mem _ hx)) with e | h'
     · subst e;exact absurd (p2 x hx) (irr x)
     · exact h'
def zbn (e:Ent) (c:Nat):Bool:=decide (c≤e.2.1) && !mem e.2.2 c
def ju (v:Vec) (r c:Nat):Bool:=v.any fun e=>decide (e.1=r) && zbn e c
theorem zca {v:Vec} {r c:Nat}:ju v r c=true↔∃e∈v,e.1=r∧zbn e c=true:=by simp[ju]
def kd (e f:Ent):Prop:=e.1<f.1
structure CanV (v:Vec):Prop where
 asc:v.Pairwise kd
 ent:∀e∈v,CanE e
theorem zm0 {e:Ent} (h:CanE e):zbn e e.2.1=true:=by
 unfold zbn;rw[h.top];simp
theorem zj2 {v:Vec} (h:v.Pairwise kd) {e f:Ent} (he:e∈v) (hf:f∈v) (hr:e.1=f.1):e=f:=by
 induction v with
 | nil=>simp at he
 | cons a v ih=>
  obtain⟨p,q⟩:=List.pairwise_cons.1 h;rcases List.mem_cons.1 he with rfl | he2
  · rcases List.mem_cons.1 hf with e | hf2
    · exact e.symm
    · have:=p f hf2;unfold kd at this;omega
  · rcases List.mem_cons.1 hf with rfl | hf2
    · have:=p e he2;unfold kd at this;omega
    · exact ih q he2 hf2
theorem zq3 {v u:Vec} (hv:CanV v) (hu:CanV u) (hk:∀r c,ju v r c=ju u r c) {e:Ent} (he:e∈v):e∈u:=by
 have h1:ju v e.1 e.2.1=true:=zca.2 ⟨e,he,rfl,zm0 (hv.ent e he)⟩;rw[hk] at h1;obtain⟨f,hf,hr,_⟩:=zca.1 h1
 have:e=f:=zqt (hv.ent e he) (hu.ent f hf) hr.symm fun c=>by
  rw[Bool.eq_iff_iff];constructor
  · intro h;have h2:ju u e.1 c=true:=by rw[←hk];exact zca.2 ⟨e,he,rfl,h⟩
    obtain⟨g,hg,hr2,hc⟩:=zca.1 h2;rw[zj2 hu.asc hf hg (by omega)];exact hc
  · intro h;have h2:ju v e.1 c=true:=by rw[hk];exact zca.2 ⟨f,hf,hr,h⟩
    obtain⟨g,hg,hr2,hc⟩:=zca.1 h2;rw[zj2 hv.asc he hg (by omega)];exact hc
 rw[this];exact hf
theorem zm1 {v u:Vec} (hv:CanV v) (hu:CanV u) (hk:∀r c,ju v r c=ju u r c):v=u:=
 zmz (lt:=kd) (fun a h=>Nat.lt_irrefl _ h) (fun a b c h1 h2=>Nat.lt_trans h1 h2) hv.asc hu.asc fun e=>⟨zq3 hv hu hk,zq3 hu hv fun r c=>(hk r c).symm⟩
def kr (k:Kno) (x r c:Nat):Bool:=k.any fun f=>mem f.1 x && ju f.2 r c
theorem zdm {k:Kno} {x r c:Nat}:kr k x r c=true↔∃f∈k,mem f.1 x=true∧ju f.2 r c=true:=by simp[kr]
def jy (f g:Frg):Prop:=yk f.2 g.2= -1
structure CanK (k:Kno):Prop where
 items:∀f∈k,Good f.1∧f.1≠[]
 vec:∀f∈k,CanV f.2∧f.2≠[]
 apart:∀f∈k,∀g∈k,∀x,mem f.1 x=true→mem g.1 x=true→f=g
 asc:k.Pairwise jy
theorem zm2 {k:Kno} (h:k.Pairwise jy) {f g:Frg} (hf:f∈k) (hg:g∈k) (hv:f.2=g.2):f=g:=by
 induction k with
 | nil=>simp at hf
 | cons a k ih=>
  obtain⟨p,q⟩:=List.pairwise_cons.1 h;rcases List.mem_cons.1 hf with rfl | hf2
  · rcases List.mem_cons.1 hg with e | hg2
    · exact e.symm
    · have:=p g hg2;unfold jy at this;rw[hv,zgi] at this;cases this
  · rcases List.mem_cons.1 hg with rfl | hg2
    · have:=p f hf2;unfold jy at this;rw[hv,zgi] at this;cases this
    · exact ih q hf2 hg2
theorem zj3 {l:List Iv} (h:Good l) (hne:l≠[]):∃x,mem l x=true:=by
 cases l with
 | nil=>exact absurd rfl hne
 | cons s l=>exact⟨s.2,(zmy h (s:=s) (by simp)).1⟩
end
section
open Go.RowKit
def zcb (base:Nat) (L:List Iv) (e:Ending) (w':World):Prop:=∃v,e=.returned v∧w'.ownsRow base 99 2 v L.length (ivC L)
abbrev ky (e:Ent) (s:Value):Value:=.agg #[.int .u64 ((e.1:Nat):Int),.int .u64 ((e.2.1:Nat):Int),s]
def zc0 (base:Nat) (o:Option Ent) (x:Ending) (w':World):Prop:=
 match o with
 | none=>x=.returned (.tuple #[ky (0,0,[]) (.slice none 0 0),.bool false])
 | some e=>∃s,x=.returned (.tuple #[ky e s,.bool true])∧w'.ownsRow base 99 2 s e.2.2.length (ivC e.2.2)
structure VecFits (v:Vec):Prop where
 len:v.length≤300
 holes:∀e∈v,e.2.2.length≤500
theorem zgk {w:World} {g:Nat} {s:Iv} {T:TypeId} (h:w.heap[g]?=some (.cells #[.int .u64 ((s.1:Nat):Int),.int .u64 ((s.2:Nat):Int)] T)) (hs:s.1<18446744073709551616∧s.2<18446744073709551616):Ivs w (some ⟨g,0,none⟩) 1 1 [s]:=by
 refine⟨rfl,fun t ht=>by simp at ht;subst ht;exact hs,Nat.le_refl _,by omega,(by intro e;cases e),fun _=>⟨g,0,rfl,fun i hi=>?_⟩⟩;obtain rfl:i=0:=by omega
 exact⟨by simp[World.cell?,h,zb],by simp[World.cell?,h,zb]⟩
theorem ks {w:World} {base sz n:Nat} {e:TypeId} {v:Value} {xs:List Value} (ho:w.ownsRow base e sz v n xs):∃a c,v=.slice a n c:=by
 rcases ho.2 with ⟨rfl,rfl⟩ | ⟨g,cap,cur,rfl,_⟩
 · exact⟨_,_,rfl⟩
 · exact⟨_,_,rfl⟩
end
end Go.Proofs.YtdnjfnofjaoajaaGreatDoor
