/- Part 59. -/
import Derived.Sort.LotD5
import Derived.Sort.Walk7a
import Derived.WalkMore
import Derived.Test.YtmfhggnlainmiaaGreatDoorPk58
import Derived.Test.YtmfhggnlainmiaaGreatDoorPk10
set_option linter.unusedVariables false
namespace Go.Proofs.YtmfhggnlainmiaaGreatDoor
section
open Go.RowKit
theorem z3a {base:Nat} {f:Ent} {x:Ending} {w':World} (h:zfg base (some f) x w') (hl:zo f.2.2):∃a c,x=.returned (.tuple #[zbm f (.slice a f.2.2.length c),.bool true])∧∀b,IvsT w' b a f.2.2.length c f.2.2:=by
 obtain⟨s,rfl,ho⟩:=h;obtain⟨a,c,rfl,h0⟩:=ze3 (base':=0) ho hl;exact⟨a,c,rfl,fun b=>h0.raise (Nat.zero_le _)⟩
end
section
open Go.RowKit Go.Shelf
attribute [local go_sem] Oper.semAt_some zfp
theorem zun {k:Kno} (h:LtK k) (x d:Nat):CanV (zbj k x d):=(zex (fun f hf=>h f (List.mem_of_mem_take hf)) x).1
end
section
open Go.RowKit Go.Shelf
theorem zmq (w:World) (base:Nat):PartsT w base [] []:=⟨rfl,fun i hi=>by simp at hi⟩
theorem zks {w:World} {base:Nat} {f:Frg} {x y:Value} (h1:IvSl w base x f.1) (h2:EnSl w base y f.2):PartsT w base [f] [(x,y)]:=
 ⟨rfl,fun i hi=>by obtain rfl:i=0:=by simpa using hi
                   exact⟨(x,y),rfl,h1,h2⟩⟩
theorem zqa (w:World) (base inner:Nat):OwnK w base inner (.slice none 0 0) []:=⟨[],World.ownsRow_nil ..,zmq w inner⟩
theorem yhm {w:World} (base inner:Nat) (x:Value) (k j:Kno) (hown:OwnK w base inner x k) (ts:List (Value×Value)) (hp:PartsT w inner j ts) (A:Option Addr) (cA:Nat)
 (hr:Rd w 2 A j.length (qs ts)) (hb:k.length+j.length≤1000000) (hbase:base≤w.heap.size) (hin:inner≤base):
 ∃x' w',(Builtin.append_ #[48,48] 48 #[x,.slice A j.length cA]).run Tryz.prog w=.ok x' w'∧OwnK w' base inner x' (k++j)∧w.grownBy w' x.ownBlock∧Steady base zb8 w w':=by
 obtain⟨ss,ho,hh⟩:=hown;obtain⟨x',w',h1,h2,h3⟩:=zcf base _ _ _ _ 2 48 Tryz.underlying48 Tryz.info_frg rfl (by omega) x k.length _ ho A j.length cA _ hr hp.one (by unfold maxLen;omega) (by omega) hbase;have hs:Steady base zb8 w w':=.grown ho h3 (by rintro(h | h) <;> cases h);refine⟨x',w',h1,⟨ss++ts,?_,(hh.append hp).steady (hs.lower hin) (.inl rfl) (.inr rfl)⟩,h3,hs⟩;rw[znz,List.length_append];exact h2
end
section
open Go.RowKit
theorem zuo (k:Kno) (x:Kno) (l:List Iv):yg (l.map fun s=>([s],atK k s.1))=l.length:=by
 induction l with
 | nil=>rfl
 | cons s l ih=>rw[List.map_cons,yg,ih,List.length_cons];simp;omega
end
section
theorem zup (k:Kno):(jk (k.map (·.1))).length≤1+yg k*2:=by
 unfold jk;rw[List.length_cons]
 induction k with
 | nil=>simp[yg]
 | cons f k ih=>
  rw[List.map_cons,List.flatMap_cons,List.length_append,yg];have:=zjc f.1;omega
theorem z3b (k:Kno) (x d:Nat):zbj k x d=zbj k x (min d k.length):=by
 unfold zbj;rw[List.take_eq_take_min]
theorem zqb {v:Vec}:ckV v=none↔v.Pairwise zay∧∀e∈v,ckE e=none:=by
 constructor
 · intro h;have hi:=zgi h
   have h1:∀i,i<v.length→ckE (zg v i)=none∧(0<i→(zg v (i - 1)).1<(zg v i).1):=fun i hi'=>by
    have:=hi i hi';unfold ze4 at this;split at this
    · cases this
    · rename_i h2;refine⟨h2,fun h0=>?_⟩;split at this
      · cases this
      · omega
   refine⟨?_,fun e he=>?_⟩
   · rw[List.pairwise_iff_getElem];intro i j hi' hj hij;unfold zay
     have step:∀d,i+d+1<v.length→(zg v i).1<(zg v (i+d+1)).1:=by
      intro d
      induction d with
      | zero=>intro hd;have:=(h1 (i+1) hd).2 (by omega);simpa using this
      | succ d ih=>
       intro hd;have a:=ih (by omega);have b:=(h1 (i+(d+1)+1) hd).2 (by omega);rw[show i+(d+1)+1 - 1=i+d+1 by omega] at b;omega
     have:=step (j - i - 1) (by omega);rw[show i+(j - i - 1)+1=j by omega,j0 hi',j0 hj] at this;exact this
   · obtain⟨i,hi',rfl⟩:=List.getElem_of_mem he;have:=(h1 i hi').1;rwa [j0 hi'] at this
 · rintro⟨h1,h2⟩;refine zbs fun i hi=>?_
   unfold ze4;rw[h2 _ (vq hi)];simp only;rw[if_neg];rintro⟨h0,h3⟩;rw[List.pairwise_iff_getElem] at h1;have:=h1 (i - 1) i (by omega) hi (by omega);unfold zay at this;rw[j0 hi,j0 (show i - 1<v.length by omega)] at h3;omega
theorem zjg {k:Kno}:ckF k=none↔∀f∈k,Good f.1∧ckV f.2=none:=by
 constructor
 · intro h f hf;obtain⟨i,hi,rfl⟩:=List.getElem_of_mem hf;have:=zgi h i hi;unfold ze5 at this;rw[qm hi] at this;split at this
   · cases this
   · rename_i h1;split at this
     · cases this
     · rename_i h2;exact⟨zp5.1 h1,h2⟩
 · intro h;refine zbs fun i hi=>?_
   have:=h _ (yh hi);unfold ze5;rw[zp5.2 this.1,this.2]
end
section
open Go.RowKit
theorem zjh {v:Vec} (h:VecFits v):(yj v).length≤1000000000000:=by
 have h1:=h.len
 have:∀u:Vec,(∀e∈u,e.2.2.length≤500)→(u.flatMap ko).length≤u.length*1003:=by
  intro u
  induction u with
  | nil=>intro _;simp
  | cons e u ih=>
   intro hu;have h2:=ih fun f hf=>hu f (List.mem_cons_of_mem _ hf)
   have h3:=hu e List.mem_cons_self;rw[List.flatMap_cons,List.length_append,List.length_cons];simp only[ko,List.length_cons,zle];omega
 have h4:=this v h.holes;unfold yj;rw[List.length_cons];omega
theorem zuq {w:World} {ops:Array Oper} {rest:List Oper} {o:Oper} {a:Act} {Q:Exit→Act→World→Prop} (hgd:o.guard=none) (s x:Operand)
 (ho:o.op=.call { callee:=.builtin .append,args:= #[s,x],argTypes:= #[125,125] }) (hty:o.type=125)
 (base:Nat) (v:Value) (vs:Vec) (hs:a.eval s=v) (hown:OwnV w base v vs) (A:Option Addr) (c:Nat) (e:Ent) (ea:Option Addr) (en ec:Nat) (hI:IvsT w 0 ea en ec e.2.2) (hx:a.eval x=.slice A 1 c)
 (hr:Rd w 3 A 1 [.int .u64 ((e.1:Nat):Int),.int .u64 ((e.2.1:Nat):Int),.slice ea en ec]) (hb:vs.length+1≤1000000) (hbase:base≤w.heap.size)
 (h:∀v' w',OwnV w' base v' (vs++[e])→w.grownBy w' v.ownBlock→Steady base zde w w'→wpList Tryz.prog ops Q rest (a.put o.dst v') w'):wpList Tryz.prog ops Q (o :: rest) a w:=by
 obtain⟨v',w',hrun,h1,h2,h3⟩:=yhi base v vs e hown ea en ec hI A c hr hb hbase;exact qf _ _ _ ho (by simp[Region.wanted,hgd]) _ _ hs hx v' w' (by rw[hty];exact hrun) (h v' w' h1 h2 h3)
theorem zfh {w:World} {ops:Array Oper} {o:Oper} {a:Act} {K:Act→World→Prop} {Q:Exit→Act→World→Prop} {E:Prop} (hgd:o.guard=none) (s x:Operand)
 (ho:o.op=.call { callee:=.builtin .append,args:= #[s,x],argTypes:= #[48,48] }) (hty:o.type=48)
 (base inner:Nat) (v:Value) (k:Kno) (hs:a.eval s=v) (hown:OwnK w base inner v k) (A:Option Addr) (c n:Nat) (j:Kno) (hn:n=j.length) (ts:List (Value×Value)) (hp:PartsT w inner j ts) (hx:a.eval x=.slice A n c)
 (hr:Rd w 2 A n (qs ts)) (hb:k.length+j.length≤1000000) (hbase:base≤w.heap.size) (hin:inner≤base)
 (h:∀v' w',OwnK w' base inner v' (k++j)→w.grownBy w' v.ownBlock→Steady base zb8 w w'→K (a.put o.dst v') w'):
 if Region.wanted o (yielded ops a.tmps)=true then Oper.wp Tryz.prog o a w K Q else E:=by
 subst hn;obtain⟨v',w',hrun,h1,h2,h3⟩:=yhm base inner v k j hown ts hp A c hr hb hbase hin;exact zft hgd s x _ ho _ _ hs hx v' w' (by rw[hty];exact hrun) (h v' w' h1 h2 h3)
def HoldR (B p:Nat) (C:Obj) (wA w':World):Prop:=Below B wA w'∧w'.heap[p]?=some C
theorem HoldR.refl {B p:Nat} {C:Obj} {wA:World} (h:wA.heap[p]?=some C):HoldR B p C wA wA:=⟨Below.refl _ _,h⟩
theorem HoldR.le {B p:Nat} {C:Obj} {wA w':World} (h:HoldR B p C wA w'):wA.heap.size≤w'.heap.size:=h.1.size
theorem HoldR.drew {B p:Nat} {C:Obj} {wA w':World} (h:HoldR B p C wA w'):HoldR B p C wA w'.drew:=⟨h.1.drew,h.2⟩
theorem HoldR.alloc {B p:Nat} {C:Obj} {wA w':World} (h:HoldR B p C wA w') (hB:B≤wA.heap.size) (o:Obj):HoldR B p C wA (w'.alloc o):=⟨h.1.alloc (Nat.le_trans hB h.1.size) o,jv h.2⟩
theorem HoldR.below {B p:Nat} {C:Obj} {wA w' w'':World} (h:HoldR B p C wA w') (hB:B≤wA.heap.size) (hb:Below w'.heap.size w' w''):HoldR B p C wA w'':=
 ⟨h.1.trans (hb.mono (Nat.le_trans hB h.1.size)),(hb.block p (Array.getElem?_eq_some_iff.1 h.2).1).trans h.2⟩
theorem HoldR.grown {B p:Nat} {C:Obj} {wA w' w'':World} {row:Option Nat} (h:HoldR B p C wA w') (hB:B≤wA.heap.size) (hg:w'.grownBy w'' row) (hr:∀j,row=some j→B≤j∧j<p):HoldR B p C wA w'':=
 ⟨h.1.grown hg (Nat.le_trans hB h.1.size) (fun j hj=>(hr j hj).1),(hg.block p (Array.getElem?_eq_some_iff.1 h.2).1 (fun e=>by have:=(hr p e.symm).2;omega)).trans h.2⟩
end
section
theorem zmr {k:Kno} {x i:Nat}:i∈zx k x↔i<k.length∧mem (za k i).1 x=true:=by
 unfold zx;rw[List.mem_filter,List.mem_range]
theorem z3c {k:Kno} {x y:Nat} (h:∀f∈k,mem f.1 x=mem f.1 y):zx k x=zx k y:=by
 unfold zx;refine List.filter_congr fun i hi=>?_
 exact h _ (yh (List.mem_range.1 hi))
theorem z3d {k:Kno} {x y:Nat} (h:zx k x=zx k y):∀f∈k,mem f.1 x=mem f.1 y:=by
 intro f hf;obtain⟨i,hi,rfl⟩:=List.getElem_of_mem hf;rw[←qm hi,Bool.eq_iff_iff];have e:i∈zx k x↔i∈zx k y:=by rw[h]
 rw[zmr,zmr] at e;exact⟨fun hx=>(e.1 ⟨hi,hx⟩).2,fun hx=>(e.2 ⟨hi,hx⟩).2⟩
theorem z3e {k:Kno} {x:Nat}:zx k x=[]↔∀f∈k,mem f.1 x=false:=by
 constructor
 · intro h f hf;obtain⟨i,hi,rfl⟩:=List.getElem_of_mem hf;rw[←qm hi,←Bool.not_eq_true];intro hx;have:i∈zx k x:=zmr.2 ⟨hi,hx⟩;rw[h] at this;cases this
 · intro h;rw[List.eq_nil_iff_forall_not_mem];intro i hi;obtain⟨h1,h2⟩:=zmr.1 hi;rw[h _ (yh h1)] at h2;cases h2
theorem z3f (k:Kno):Asc (ki k):=zh7 _
theorem zqc {k:Kno} {y:Nat}:y∈ki k↔y=0∨∃f∈k,y∈yt f.1:=by
 unfold ki;rw[zf4];simp[jk]
theorem zur {k:Kno} (hk:LtK k):∀y∈ki k,y<18446744073709551616:=by
 intro y hy;rcases zqc.1 hy with rfl | ⟨f,hf,h⟩
 · omega
 · exact zje (hk f hf).items y h
theorem yhn {l:List Nat} (p:Nat→Bool) (h:Asc l):Asc (l.filter p):=by
 induction l with
 | nil=>trivial
 | cons a l ih=>
  rw[List.filter_cons];split
  · exact zgf (fun x hx=>h.lower x (List.mem_filter.1 hx).1) (ih h.tail)
  · exact ih h.tail
theorem zg5 (k:Kno):Asc (yb k):=yhn _ (z3f k)
theorem zqd (k:Kno):0∈yb k:=zk6.2 ⟨zqc.2 (.inl rfl),.inl rfl⟩
theorem zus {k:Kno} (hk:LtK k):∀y∈yb k,y<18446744073709551616:=fun y hy=>zur hk y (zk6.1 hy).1
theorem yho {k:Kno} (hk:LtK k) {x:Nat} (h0:0<x) (hx:x<18446744073709551616) (h:x∉yb k):zx k x=zx k (x - 1):=by
 by_cases ha:x∈ki k
 · refine Decidable.by_contra fun hne=>h (zk6.2 ⟨ha,.inr fun e=>hne e.symm⟩)
 · refine z3c fun f hf=>zjd (hk f hf).items (by omega) hx fun y hy hyx=>?_
   have:y=x:=by omega
   subst this;exact ha (zqc.2 (.inr ⟨f,hf,hy⟩))
theorem zqe {k:Kno} (hk:LtK k) {c:Nat}:∀(x:Nat),c≤x→x<18446744073709551616→(∀y∈yb k,¬(c<y∧y≤x))→zx k x=zx k c
 | 0,hc,_,_=>by have:c=0:=by omega
                subst this;rfl
 | x+1,hc,hx,h=>by
   by_cases e:c=x+1
   · subst e;rfl
   · rw[yho hk (by omega) hx (fun hm=>h _ hm ⟨by omega,Nat.le_refl _⟩),Nat.add_sub_cancel];exact zqe hk x (by omega) (by omega) fun y hy hyx=>h y hy ⟨hyx.1,by omega⟩
def inK (k:Kno) (x:Nat):Bool:=decide (zx k x≠[])
def zai (k:Kno):List Iv:=(qz (inK k) (yb k)).filterMap fun p=>if p.2=true then some p.1 else none
def jb (k:Kno):Kno:=(zai k).map fun s=>([s],atK k s.1)
theorem zms {k:Kno} (hk:LtK k) {s:Iv} (hs:s∈zai k):s.1≤s.2∧s.2<18446744073709551616∧∀x,s.1≤x→x≤s.2→zx k x=zx k s.1:=by
 obtain⟨p,hp,he⟩:=List.mem_filterMap.1 hs;obtain⟨i,hi,rfl⟩:=List.getElem_of_mem hp;rw[zcj] at hi;have e:=zkq (inK k) hi;rw[List.getElem?_eq_getElem (by rw[zcj];exact hi)] at e;have e':=Option.some.inj e;rw[e'] at he;have hA:=zg5 k;have hL:=zus hk;have h0:=hL _ (zce hi);by_cases h1:i+1<(yb k).length
 · rw[if_pos h1] at he;by_cases hin:inK k (nth (yb k) i)=true
   · have he3:=Option.some.inj ((if_pos hin).symm.trans he);clear he;subst he3;have h2:=zev hA (i:=i) (j:=i+1) (by omega) h1;have h3:=hL _ (zce h1);refine⟨by simp only;omega,by simp only;omega,fun x hx1 hx2=>?_⟩;simp only at hx1 hx2 ⊢;refine zqe hk x hx1 (by omega) fun y hy hyx=>?_
     obtain⟨j,hj,rfl⟩:=zt5 hy;rcases Nat.lt_trichotomy j i with h | h | h
     · have:=zev hA h hi;omega
     · subst h;omega
     · by_cases ej:j=i+1
       · subst ej;omega
       · have:=zev hA (i:=i+1) (j:=j) (by omega) hj;omega
   · exact absurd ((if_neg hin).symm.trans he) (by simp)
 · rw[if_neg h1] at he;by_cases hin:inK k (nth (yb k) i)=true
   · have he3:=Option.some.inj ((if_pos hin).symm.trans he);clear he;subst he3;refine⟨by simp only;omega,by simp only;omega,fun x hx1 hx2=>?_⟩;simp only at hx1 hx2 ⊢;refine zqe hk x hx1 (by omega) fun y hy hyx=>?_
     obtain⟨j,hj,rfl⟩:=zt5 hy;rcases Nat.lt_trichotomy j i with h | h | h
     · have:=zev hA h hi;omega
     · subst h;omega
     · omega
   · exact absurd ((if_neg hin).symm.trans he) (by simp)
theorem z3g (f:Nat→Bool):∀{l:List Nat},Asc l→(l.Pairwise (· <·))→(qz f l).Pairwise fun p q=>p.1.2<q.1.1
 | [],_,_=>List.Pairwise.nil
 | [a],_,_=>by simp[qz]
 | a :: b :: r,h,hp=>by
   rw[qz];obtain⟨p1,p2⟩:=List.pairwise_cons.1 hp;refine List.pairwise_cons.2 ⟨fun q hq=>?_,z3g f h.tail p2⟩;obtain⟨i,hi,rfl⟩:=List.getElem_of_mem hq;rw[zcj] at hi;have e:=zkq f hi;rw[List.getElem?_eq_getElem (by rw[zcj];exact hi)] at e;have e':=Option.some.inj e;rw[e'];have hm:=zce hi
   have hb:b≤nth (b :: r) i:=by
    rcases List.mem_cons.1 hm with e | hm
    · omega
    · have:=h.tail.lower _ hm;omega
   have hab:=p1 b (List.mem_cons_self ..);split <;> (simp only;omega)
theorem z3h:∀{l:List Nat},Asc l→l.Pairwise (· <·)
 | [],_=>List.Pairwise.nil
 | a :: l,h=>List.pairwise_cons.2 ⟨h.lower,z3h h.tail⟩
theorem yhp (k:Kno):(zai k).Pairwise fun s t=>s.2<t.1:=by
 have h:=z3g (inK k) (zg5 k) (z3h (zg5 k));unfold zai;refine List.Pairwise.filterMap _ (fun p q hpq s hs t ht=>?_) h;split at hs
 · split at ht
   · cases hs;cases ht;exact hpq
   · cases ht
 · cases hs
theorem z3i (f:Nat→Bool):∀{l:List Nat} {x:Nat},Asc l→(∀a,l.head?=some a→a≤x)→l≠[]→x<18446744073709551616→∃p∈qz f l,p.1.1≤x∧x≤p.1.2∧p.2=f p.1.1
 | [],x,_,_,h,_=>absurd rfl h
 | [a],x,_,h,_,hx=>⟨((a,18446744073709551615),f a),by simp[qz],h a rfl,by simp only;omega,rfl⟩
 | a :: b :: r,x,hA,h,_,hx=>by
   rw[qz];by_cases hb:b≤x
   · obtain⟨p,hp,h1⟩:=z3i f (l:=b :: r) (x:=x) hA.tail (fun c hc=>by cases hc;exact hb) (by simp) hx;exact⟨p,List.mem_cons_of_mem _ hp,h1⟩
   · have ha:=h a rfl;exact⟨((a,b - 1),f a),List.mem_cons_self ..,ha,by simp only;omega,rfl⟩
theorem yhq (k:Kno):∀a,(yb k).head?=some a→a=0:=by
 intro a ha;have h0:=zqd k;have hA:=zg5 k
 cases hs:yb k with
 | nil=>rw[hs] at h0;cases h0
 | cons b l=>
  rw[hs] at ha h0 hA;cases ha;rcases List.mem_cons.1 h0 with e | e
  · exact e.symm
  · have:=hA.lower 0 e;omega
theorem yhr {k:Kno} (hk:LtK k) {x:Nat} (h:zx k x≠[]):∃s∈zai k,s.1≤x∧x≤s.2:=by
 have hx:x<18446744073709551616:=by
  refine Nat.lt_of_not_le fun hge=>h (z3e.2 fun f hf=>zmj (hk f hf).items hge)
 obtain⟨p,hp,h1,h2,h3⟩:=z3i (inK k) (l:=yb k) (x:=x) (zg5 k) (fun a ha=>by rw[yhq k a ha];exact Nat.zero_le _) (List.ne_nil_of_mem (zqd k)) hx
 have hc:inK k p.1.1=true:=by
  obtain⟨i,hi,rfl⟩:=List.getElem_of_mem hp;have hi':=hi;rw[zcj] at hi';have e:=zkq (inK k) hi';rw[List.getElem?_eq_getElem hi] at e;have e':=Option.some.inj e;rw[e'] at h1 h2 ⊢
  have hcx:zx k x=zx k (nth (yb k) i):=by
   have hA:=zg5 k;refine zqe hk x (by split at h1 <;> exact h1) hx fun y hy hyx=>?_
   obtain⟨j,hj,rfl⟩:=zt5 hy;rcases Nat.lt_trichotomy j i with g | g | g
   · have:=zev hA g hi';omega
   · subst g;omega
   · split at h2
     · rename_i g1;simp only at h2;have g2:=zev hA (i:=i) (j:=i+1) (by omega) g1;by_cases ej:j=i+1
       · subst ej;omega
       · have:=zev hA (i:=i+1) (j:=j) (by omega) hj;omega
     · omega
  have hne:zx k (nth (yb k) i)≠[]:=by rw[←hcx];exact h
  unfold inK;split <;> exact decide_eq_true hne
 exact⟨p.1,List.mem_filterMap.2 ⟨p,hp,by rw[if_pos (h3.trans hc)]⟩,h1,h2⟩
theorem z3j {k:Kno} {x y:Nat} (h:zx k x=zx k y) (r c:Nat):zbi k x r c=zbi k y r c:=by
 rw[Bool.eq_iff_iff,zf5,zf5];have e:=z3d h;constructor
 · rintro⟨f,hf,h1,h2⟩;exact⟨f,hf,by rw[←e f hf];exact h1,h2⟩
 · rintro⟨f,hf,h1,h2⟩;exact⟨f,hf,by rw[e f hf];exact h1,h2⟩
theorem z3k {k:Kno} (hk:LtK k):
 (∀f∈jb k,∃s:Iv,f.1=[s]∧s.1≤s.2∧s.2<18446744073709551616∧CanV f.2∧LtV f.2)∧
 (jb k).Pairwise (fun f g=>∀x,mem f.1 x=true→mem g.1 x=true→False)∧
 ∀x r c,zbi (jb k) x r c=zbi k x r c:=by
 refine⟨fun f hf=>?_,?_,fun x r c=>?_⟩
 · obtain⟨s,hs,rfl⟩:=List.mem_map.1 hf;obtain⟨h1,h2,_⟩:=zms hk hs;exact⟨s,rfl,h1,h2,(zex hk s.1).1,(zex hk s.1).2.1⟩
 · unfold jb;rw[List.pairwise_map];refine(yhp k).imp fun {s t} hst x hx hy=>?_
   simp[mem] at hx hy;omega
 · rw[Bool.eq_iff_iff];constructor
   · intro h;obtain⟨f,hf,h1,h2⟩:=zf5.1 h;obtain⟨s,hs,rfl⟩:=List.mem_map.1 hf;simp[mem] at h1;obtain⟨_,_,h3⟩:=zms hk hs;rw[z3j (h3 x h1.1 h1.2)];rw[←(zex hk s.1).2.2];exact h2
   · intro h
     have hne:zx k x≠[]:=by
      intro e;obtain⟨f,hf,h1,_⟩:=zf5.1 h;rw[z3e.1 e f hf] at h1;cases h1
     obtain⟨s,hs,h1,h2⟩:=yhr hk hne;obtain⟨_,_,h3⟩:=zms hk hs;refine zf5.2 ⟨([s],atK k s.1),List.mem_map.2 ⟨s,hs,rfl⟩,by simp[mem];omega,?_⟩;show zad (atK k s.1) r c=true;rw[(zex hk s.1).2.2,←z3j (h3 x h1 h2)];exact h
end
section
open Go.RowKit
def zfi (k:Kno) (d:Nat):Kno:=((zai k).take d).map fun s=>([s],atK k s.1)
theorem z3l {k:Kno} {d:Nat} (h:d<(zai k).length):zfi k (d+1)=zfi k d++[([zb (zai k) d],atK k (zb (zai k) d).1)]:=by
 unfold zfi;rw[List.take_succ_eq_append_getElem h,List.map_append,jg h]
 rfl
theorem z3m (k:Kno):zfi k (zai k).length=jb k:=by unfold zfi jb;rw[List.take_length]
theorem z3n (k:Kno) (d:Nat):(zfi k d).length≤(zai k).length:=by
 unfold zfi;rw[List.length_map,List.length_take];omega
theorem z3o {W:World} {g:Nat} {s:Iv} (h:W.heap[g]?=some (.cells #[.int .u64 ((s.1:Nat):Int),.int .u64 ((s.2:Nat):Int)] 135)) (hs:s.1<18446744073709551616∧s.2<18446744073709551616) (b:Nat):IvSl W b (.slice (some ⟨g,0,none⟩) 1 1) [s]:=
 ⟨_,_,_,rfl,zml h hs,fun _ p hp=>by cases hp;exact .inr ⟨_,_,h⟩⟩
theorem z3p {X w':World} {x y:Value} {T:TypeId} (h:Below (X.alloc (.cells #[x,y] T)).heap.size (X.alloc (.cells #[x,y] T)) w'):w'.heap[X.heap.size]?=some (.cells #[x,y] T):=
 (h.block _ (by simp)).trans (qa rfl)
theorem z3q {X w':World} {x y:Value} {T:TypeId} (h:Below (X.alloc (.cells #[x,y] T)).drew.heap.size (X.alloc (.cells #[x,y] T)).drew w'):w'.heap[X.heap.size]?=some (.cells #[x,y] T):=
 (h.block _ (by show X.heap.size<(X.alloc _).heap.size;simp)).trans (qa rfl)
theorem zkt {w:World} {ops:Array Oper} {rest:List Oper} {o:Oper} {a:Act} {Q:Exit→Act→World→Prop} (hgd:o.guard=none) (s x:Operand)
 (ho:o.op=.call { callee:=.builtin .append,args:= #[s,x],argTypes:= #[123,123] }) (hty:o.type=123)
 (base:Nat) (v:Value) (n:Nat) (xs:List Iv) (hs:a.eval s=v) (hown:w.ownsRow base 135 2 v n (ivC xs)) (A:Option Addr) (m c:Nat) (l:List Iv) (hx:a.eval x=.slice A m c) (hr:Rd w 2 A m (ivC l)) (hb:n+m≤1000000) (hbase:base≤w.heap.size)
 (h:∀v' w',w'.ownsRow base 135 2 v' (n+m) (ivC (xs++l))→w.grownBy w' v.ownBlock→wpList Tryz.prog ops Q rest (a.put o.dst v') w'):wpList Tryz.prog ops Q (o :: rest) a w:=by
 obtain⟨v',w',hrun,h1,h2⟩:=zem base v n xs hown A m c l hr hb hbase;exact qf _ _ _ ho (by simp[Region.wanted,hgd]) _ _ hs hx v' w' (by rw[hty];exact hrun) (h v' w' h1 h2)
def zdp (k:Kno) (d:Nat):List Iv:=((qz (inK k) (yb k)).take d).filterMap fun p=>if p.2=true then some p.1 else none
theorem z3r {k:Kno} {d:Nat} (h:d<(yb k).length):zdp k (d+1)=zdp k d++(if inK k (nth (yb k) d)=true then [zct (yb k) d] else []):=by
 unfold zdp;have hk:d<(qz (inK k) (yb k)).length:=by rw[zcj];exact h
 have e:=zt8 (inK k) h;rw[List.getElem?_eq_getElem hk,Option.some.injEq] at e;rw[List.take_succ_eq_append_getElem hk,List.filterMap_append,e];simp only[List.filterMap_cons,List.filterMap_nil];cases inK k (nth (yb k) d) <;> rfl
theorem zmt (k:Kno):zdp k (yb k).length=zai k:=by
 unfold zdp zai;rw[List.take_of_length_le (by rw[zcj];exact Nat.le_refl _)]
theorem zmu (k:Kno) (d:Nat):(zdp k d).length≤(yb k).length:=by
 have h:=List.length_filterMap_le (fun p:Iv×Bool=>if p.2=true then some p.1 else none) ((qz (inK k) (yb k)).take d);rw[List.length_take,zcj] at h;unfold zdp;omega
end
section
def za1:Kno→Frg→Kno
 | [],f=>[f]
 | g :: k,f=>if yx g.2 f.2= -1 then g :: za1 k f else if yx g.2 f.2=0 then (opL gOr g.1 f.1,f.2) :: k else f :: g :: k
def js:Kno→Vec→Nat
 | [],_=>0
 | g :: k,v=>if yx g.2 v= -1 then js k v+1 else 0
def zc6:Kno→Vec→Bool
 | [],_=>false
 | g :: k,v=>if yx g.2 v= -1 then zc6 k v else decide (yx g.2 v=0)
theorem zqf:∀{k:Kno} {v:Vec} (h:js k v<k.length),yx (za k (js k v)).2 v≠ -1∧zc6 k v=decide (yx (za k (js k v)).2 v=0)
 | [],v,h=>by simp at h
 | g :: k,v,h=>by
   rw[js] at h ⊢;rw[zc6];split at h
   · rename_i hc;rw[if_pos hc,if_pos hc];exact zqf (k:=k) (v:=v) (by simpa using h)
   · rename_i hc;rw[if_neg hc,if_neg hc];exact⟨hc,rfl⟩
theorem zqg:∀{k:Kno} {v:Vec} (h:js k v=k.length),zc6 k v=false
 | [],v,h=>rfl
 | g :: k,v,h=>by
   rw[js] at h;rw[zc6];split at h
   · rename_i hc;rw[if_pos hc];exact zqg (by simpa using h)
   · simp at h
theorem zmv:∀{k:Kno} {v:Vec} {i:Nat},i≤k.length→(∀j,j<i→yx (za k j).2 v= -1)→(i<k.length→yx (za k i).2 v≠ -1)→i=js k v
 | [],v,i,hi,_,_=>by simp at hi;rw[hi,js]
 | g :: k,v,0,hi,h1,h2=>by
   have h3:yx g.2 v≠ -1:=h2 (by simp)
   rw[js,if_neg h3]
 | g :: k,v,i+1,hi,h1,h2=>by
   have h3:yx g.2 v= -1:=h1 0 (by omega);rw[js,if_pos h3];have:=zmv (k:=k) (v:=v) (i:=i) (by simpa using hi) (fun j hj=>h1 (j+1) (by omega)) (fun h=>h2 (by simpa using h));omega
theorem zut:∀{k:Kno} {f:Frg},zc6 k f.2=true→za1 k f=k.set (js k f.2) (opL gOr (za k (js k f.2)).1 f.1,f.2)
 | [],f,h=>by simp[zc6] at h
 | g :: k,f,h=>by
   rw[zc6] at h;rw[za1,js];split at h
   · rename_i hc;rw[if_pos hc,if_pos hc,zut h];rfl
   · rename_i hc;rw[if_neg hc,if_neg hc,if_pos (of_decide_eq_true h)];rfl
theorem zqh:∀{k:Kno} {f:Frg},zc6 k f.2=false→za1 k f=k.take (js k f.2)++f :: k.drop (js k f.2)
 | [],f,h=>rfl
 | g :: k,f,h=>by
   rw[zc6] at h;rw[za1,js];split at h
   · rename_i hc;rw[if_pos hc,if_pos hc,zqh h];rfl
   · rename_i hc;rw[if_neg hc,if_neg hc,if_neg (of_decide_eq_false h)];rfl
structure GrpF (f:Frg):Prop where
 good:Good f.1
 some:f.1≠[]
 items:zo f.1
 can:CanV f.2
 any:f.2≠[]
 vec:LtV f.2
def zey (k:Kno) (x:Nat) (v:Vec):Prop:=∃h∈k,mem h.1 x=true∧h.2=v
theorem yhs {a b:List Iv} (ha:zo a) (hb:zo b) (hg:Good b) (hn:b≠[]):opL gOr a b≠[]:=by
 intro h;obtain⟨x,hx⟩:=zp4 hg hn;have:=(zb5 (g:=gOr) ha hb rfl).2.1 x;rw[h,hx,zdz] at this;simp[gOr] at this
theorem zuu:∀{k:Kno} {f h:Frg},h∈za1 k f→h.2=f.2∨∃g∈k,g.2=h.2
 | [],f,h,hh=>by simp[za1] at hh;exact .inl (by rw[hh])
 | g :: k,f,h,hh=>by
   rw[za1] at hh;split at hh
   · rcases List.mem_cons.1 hh with rfl | hh
     · exact .inr ⟨_,List.mem_cons_self ..,rfl⟩
     · rcases zuu hh with e | ⟨g',hg',e⟩
       · exact .inl e
       · exact .inr ⟨g',List.mem_cons_of_mem _ hg',e⟩
   · split at hh
     · rcases List.mem_cons.1 hh with rfl | hh
       · exact .inl rfl
       · exact .inr ⟨h,List.mem_cons_of_mem _ hh,rfl⟩
     · rcases List.mem_cons.1 hh with rfl | hh
       · exact .inl rfl
       · exact .inr ⟨h,hh,rfl⟩
theorem zuv:∀{k:Kno} {f:Frg},(∀g∈k,GrpF g)→k.Pairwise zae→GrpF f→
 (∀g∈za1 k f,GrpF g)∧(za1 k f).Pairwise zae∧∀x v,zey (za1 k f) x v↔zey k x v∨(mem f.1 x=true∧f.2=v)
 | [],f,_,_,hf=>by
   refine⟨fun g hg=>?_,?_,fun x v=>?_⟩
   · simp[za1] at hg;subst hg;exact hf
   · simp[za1]
   · simp[za1,zey]
 | g :: k,f,hk,hp,hf=>by
   obtain⟨p1,p2⟩:=List.pairwise_cons.1 hp;have hg:=hk g (List.mem_cons_self ..);have hk':∀g∈k,GrpF g:=fun g hg=>hk g (List.mem_cons_of_mem _ hg)
   rw[za1];by_cases h1:yx g.2 f.2= -1
   · rw[if_pos h1];obtain⟨i1,i2,i3⟩:=zuv hk' p2 hf;refine⟨fun e he=>?_,List.pairwise_cons.2 ⟨fun e he=>?_,i2⟩,fun x v=>?_⟩
     · rcases List.mem_cons.1 he with rfl | he
       · exact hg
       · exact i1 e he
     · unfold zae;rcases zuu he with e1 | ⟨g',hg',e1⟩
       · rw[e1];exact h1
       · rw[←e1];exact p1 g' hg'
     · have:=i3 x v;unfold zey at this ⊢;simp only[List.mem_cons,exists_eq_or_imp,or_assoc];rw[this]
   · rw[if_neg h1];by_cases h2:yx g.2 f.2=0
     · rw[if_pos h2];have ev:=z2y h2;obtain⟨o1,o2,o3⟩:=zb5 (g:=gOr) hg.items hf.items rfl;refine⟨fun e he=>?_,List.pairwise_cons.2 ⟨fun e he=>?_,p2⟩,fun x v=>?_⟩
       · rcases List.mem_cons.1 he with rfl | he
         · exact⟨o1,yhs hg.items hf.items hf.good hf.some,o3,hf.can,hf.any,hf.vec⟩
         · exact hk' e he
       · have:=p1 e he;unfold zae at this ⊢;simp only;rw[←ev];exact this
       · unfold zey;simp only[List.mem_cons,exists_eq_or_imp,o2,gOr,Bool.or_eq_true,ev];constructor
         · rintro(⟨h | h,e⟩ | h)
           · exact .inl (.inl ⟨h,e⟩)
           · exact .inr ⟨h,e⟩
           · exact .inl (.inr h)
         · rintro((⟨h,e⟩ | h) | ⟨h,e⟩)
           · exact .inl ⟨.inl h,e⟩
           · exact .inr h
           · exact .inl ⟨.inr h,e⟩
     · rw[if_neg h2]
       have h3:yx f.2 g.2= -1:=by
        rw[yhh g.2 f.2];rcases zhe g.2 f.2 with e | e | e
        · exact absurd e h1
        · exact absurd e h2
        · rw[e]
       refine⟨fun e he=>?_,List.pairwise_cons.2 ⟨fun e he=>?_,hp⟩,fun x v=>?_⟩
       · rcases List.mem_cons.1 he with rfl | he
         · exact hf
         · exact hk e he
       · rcases List.mem_cons.1 he with rfl | he
         · exact h3
         · exact zju h3 (p1 e he)
       · unfold zey;simp only[List.mem_cons,exists_eq_or_imp];constructor
         · rintro(h | h)
           · exact .inr h
           · exact .inl h
         · rintro(h | h)
           · exact .inr h
           · exact .inl h
def stepG (out:Kno) (f:Frg):Kno:=if kh f.2=[]∨f.1=[] then out else za1 out (f.1,kh f.2)
def zdq (k:Kno):Kno:=k.foldl stepG []
structure RawF (f:Frg):Prop where
 good:Good f.1
 lt:LtF f
theorem z3s {f:Frg} (h:RawF f) (h1:¬(kh f.2=[]∨f.1=[])):GrpF (f.1,kh f.2):=by
 obtain⟨c1,c2,_⟩:=zmo h.lt.vec h.lt.asc;exact⟨h.good,fun e=>h1 (.inr e),h.lt.items,c1,fun e=>h1 (.inl e),c2⟩
theorem zmw:∀{k out:Kno},(∀f∈k,RawF f)→(∀g∈out,GrpF g)→out.Pairwise zae→
 (∀g∈k.foldl stepG out,GrpF g)∧(k.foldl stepG out).Pairwise zae∧
   ∀x v,v≠[]→(zey (k.foldl stepG out) x v↔zey out x v∨∃d∈k,mem d.1 x=true∧kh d.2=v)
 | [],out,_,h2,h3=>⟨h2,h3,fun x v _=>by simp⟩
 | f :: k,out,h1,h2,h3=>by
   rw[List.foldl_cons];have hf:=h1 f (List.mem_cons_self ..);have hk:∀f∈k,RawF f:=fun g hg=>h1 g (List.mem_cons_of_mem _ hg)
   by_cases hc:kh f.2=[]∨f.1=[]
   · have e:stepG out f=out:=by unfold stepG;rw[if_pos hc]
     rw[e];obtain⟨k1,k2,k3⟩:=zmw hk h2 h3;refine⟨k1,k2,fun x v hv=>?_⟩;rw[k3 x v hv];simp only[List.mem_cons,exists_eq_or_imp];constructor
     · rintro(h | h)
       · exact .inl h
       · exact .inr (.inr h)
     · rintro(h | ⟨h4,h5⟩ | h)
       · exact .inl h
       · rcases hc with e | e
         · exact absurd (h5.symm.trans e) hv
         · rw[e,zdz] at h4;cases h4
       · exact .inr h
   · have e:stepG out f=za1 out (f.1,kh f.2):=by unfold stepG;rw[if_neg hc]
     rw[e];obtain⟨a1,a2,a3⟩:=zuv h2 h3 (z3s hf hc);obtain⟨k1,k2,k3⟩:=zmw hk a1 a2;refine⟨k1,k2,fun x v hv=>?_⟩;rw[k3 x v hv,a3];simp only[List.mem_cons,exists_eq_or_imp,or_assoc]
theorem yht {k:Kno} {x r c:Nat}:zbi k x r c=true↔∃v,zey k x v∧zad v r c=true:=by
 rw[zf5];constructor
 · rintro⟨f,hf,h1,h2⟩;exact⟨f.2,⟨f,hf,h1,rfl⟩,h2⟩
 · rintro⟨v,⟨f,hf,h1,rfl⟩,h2⟩;exact⟨f,hf,h1,h2⟩
theorem zuw {v:Vec} {r c:Nat} (h:zad v r c=true):v≠[]:=by
 intro e;subst e;simp[zad] at h
theorem yhu {k:Kno} (h:∀f∈k,RawF f):(∀g∈zdq k,GrpF g)∧(zdq k).Pairwise zae∧(∀x v,v≠[]→(zey (zdq k) x v↔∃d∈k,mem d.1 x=true∧kh d.2=v))∧
 ∀x r c,zbi (zdq k) x r c=zbi k x r c:=by
 obtain⟨h1,h2,h3⟩:=zmw (out:=[]) h (fun g hg=>by cases hg) List.Pairwise.nil
 have h4:∀x v,v≠[]→(zey (zdq k) x v↔∃d∈k,mem d.1 x=true∧kh d.2=v):=fun x v hv=>by
  unfold zdq;rw[h3 x v hv];simp[zey]
 refine⟨h1,h2,h4,fun x r c=>?_⟩;rw[Bool.eq_iff_iff,yht,zf5];constructor
 · rintro⟨v,hv,hk⟩;obtain⟨d,hd,d1,rfl⟩:=(h4 x v (zuw hk)).1 hv;exact⟨d,hd,d1,by rw[←(zmo (h d hd).lt.vec (h d hd).lt.asc).2.2];exact hk⟩
 · rintro⟨d,hd,d1,hk⟩;rw[←(zmo (h d hd).lt.vec (h d hd).lt.asc).2.2] at hk;exact⟨_,(h4 x _ (zuw hk)).2 ⟨d,hd,d1,rfl⟩,hk⟩
def zv (k:Kno):Kno:=zdq (jb k)
theorem yhv {k:Kno} (h:k.Pairwise (fun f g=>∀x,mem f.1 x=true→mem g.1 x=true→False)) {f g:Frg} (hf:f∈k) (hg:g∈k) {x:Nat} (h1:mem f.1 x=true) (h2:mem g.1 x=true):f=g:=by
 induction k with
 | nil=>cases hf
 | cons a k ih=>
  obtain⟨p,q⟩:=List.pairwise_cons.1 h;rcases List.mem_cons.1 hf with rfl | hf2
  · rcases List.mem_cons.1 hg with e | hg2
    · exact e.symm
    · exact(p g hg2 x h1 h2).elim
  · rcases List.mem_cons.1 hg with rfl | hg2
    · exact(p f hf2 x h2 h1).elim
    · exact ih q hf2 hg2
theorem yhw {s:Iv} (h:s.1≤s.2):Good [s]:=h
theorem zmx {k:Kno} (hk:LtK k):∀f∈jb k,RawF f:=by
 intro f hf;obtain⟨s,h1,h2,h3,h4,h5⟩:=(z3k hk).1 f hf;refine⟨by rw[h1];exact yhw h2,⟨by rw[h1];exact zhd (by omega) h3,h5,h4.asc⟩⟩
theorem zmy {k:Kno} (hk:LtK k):CanK (zv k)∧LtK (zv k)∧∀x r c,zbi (zv k) x r c=zbi k x r c:=by
 obtain⟨r1,r2,r3⟩:=z3k hk;obtain⟨g1,g2,g3,g4⟩:=yhu (zmx hk);refine⟨⟨fun f hf=>⟨(g1 f hf).good,(g1 f hf).some⟩,fun f hf=>⟨(g1 f hf).can,(g1 f hf).any⟩,fun f hf g hg x hx hy=>?_,g2⟩,fun f hf=>⟨(g1 f hf).items,(g1 f hf).vec,(g1 f hf).can.asc⟩,fun x r c=>?_⟩
 · obtain⟨d,hd,d1,d2⟩:=(g3 x f.2 (g1 f hf).any).1 ⟨f,hf,hx,rfl⟩;obtain⟨e,he,e1,e2⟩:=(g3 x g.2 (g1 g hg).any).1 ⟨g,hg,hy,rfl⟩;have:=yhv r2 hd he d1 e1;subst this;exact zuh g2 hf hg (d2.symm.trans e2)
 · unfold zv;rw[g4,r3]
end
section
open Go.RowKit
theorem zqi (v:Vec) (hh:∀e∈v,e.2.2.length≤500):∀d,d≤v.length→(jn v d).length≤1+1003*d
 | 0,_=>by simp[jn]
 | d+1,h=>by
   have h1:=zqi v hh d (by omega);have h2:=hh _ (vq (show d<v.length from h));rw[jn,List.length_append];unfold zam zau;rw[List.length_append,zgn];simp only[List.length_cons,List.length_nil];omega
end
section
theorem zmz (a b:List Nat):zq (a++b)=zq a++zq b:=by simp[zq]
theorem z3t (x:Nat):zq [x]=yp x:=by simp[zq]
theorem zji:∀(l:List Nat),(zq l).length≤10*l.length
 | []=>by simp[zq]
 | x :: l=>by
   have e:zq (x :: l)=yp x++zq l:=rfl;have h1:=zji l;have h2:(yp x).length≤10:=zdc 9 x;rw[e,List.length_append,List.length_cons];omega
end
section
open Go.RowKit
theorem zqj:∀(ss:List (Value×Value)) (k:Nat),(qs ss).take (k*2)=qs (ss.take k)
 | [],k=>by simp[qs]
 | s :: ss,0=>by simp[qs]
 | s :: ss,k+1=>by
   have e1:qs (s :: ss)=s.1 :: s.2 :: qs ss:=rfl;rw[e1,show (k+1)*2=k*2+1+1 by omega,List.take_succ_cons,List.take_succ_cons,zqj ss k]
   rfl
theorem zux:∀(ss:List (Value×Value)) (k:Nat),(qs ss).drop (k*2)=qs (ss.drop k)
 | [],k=>by simp[qs]
 | s :: ss,0=>by simp
 | s :: ss,k+1=>by
   have e1:qs (s :: ss)=s.1 :: s.2 :: qs ss:=rfl;rw[e1,show (k+1)*2=k*2+1+1 by omega,List.drop_succ_cons,List.drop_succ_cons,zux ss k]
   rfl
theorem zuy:∀(ss:List (Value×Value)) (k:Nat) (x y:Value),((qs ss).set (k*2) x).set (k*2+1) y=qs (ss.set k (x,y))
 | [],k,x,y=>by simp[qs]
 | s :: ss,0,x,y=>rfl
 | s :: ss,k+1,x,y=>by
   have e1:qs (s :: ss)=s.1 :: s.2 :: qs ss:=rfl;rw[e1,show (k+1)*2+1=(k*2+1)+1+1 by omega,show (k+1)*2=k*2+1+1 by omega,List.set_cons_succ,List.set_cons_succ,List.set_cons_succ,List.set_cons_succ,zuy ss k x y]
   rfl
theorem OwnK.form2 {w:World} {base inner n c:Nat} {a:Option Addr} {k:Kno} (h:OwnK w base inner (.slice a n c) k):
 (a=none∧n=0∧c=0∧k=[])∨∃g ss,a=some ⟨g,0,none⟩∧k.length=n∧base≤g∧g<w.heap.size∧n≤c∧c≤maxLen∧w.ownsRow base 127 2 (.slice (some ⟨g,0,none⟩) n c) n (qs ss)∧PartsT w inner k ss:=by
 rcases h.form with ⟨e,h0⟩ | ⟨g,c',ss,e,h1⟩
 · cases e;exact .inl ⟨rfl,rfl,rfl,h0⟩
 · cases e;exact .inr ⟨g,ss,rfl,rfl,h1⟩
theorem zeh {w:World} {base g n c sz:Nat} {T:TypeId} {xs:List Value} (h:w.ownsRow base T sz (.slice (some ⟨g,0,none⟩) n c) n xs) (i:Nat):w.frozen? ⟨g,i,none⟩=false:=by
 rcases h.2 with ⟨h',_⟩ | ⟨g',cap,cur,h',hg,hr,_⟩
 · cases h'
 · cases h';simp[World.frozen?,hr]
theorem zfj:∀{k:Kno} {f:Frg},f∈k→f.1.length≤yg k
 | g :: k,f,h=>by
   rw[yg];rcases List.mem_cons.1 h with rfl | h
   · omega
   · have:=zfj h;omega
theorem z3u:∀{k:Kno} {f:Frg},(∀g∈k,zo g.1)→zo f.1→yg (za1 k f)≤yg k+f.1.length∧(za1 k f).length≤k.length+1
 | [],f,_,_=>by simp[za1,yg]
 | g :: k,f,h,hf=>by
   rw[za1];split
   · obtain⟨h1,h2⟩:=z3u (k:=k) (f:=f) (fun g hg=>h g (List.mem_cons_of_mem _ hg)) hf;rw[yg,yg,List.length_cons,List.length_cons];omega
   · split
     · have:=zp2 (h g List.mem_cons_self) hf;rw[yg,yg,List.length_cons,List.length_cons];simp only;omega
     · simp only[yg,List.length_cons];omega
def zdr (k:Kno) (d:Nat):Kno:=(k.take d).foldl stepG []
theorem z3v {k:Kno} {d:Nat} (h:d<k.length):zdr k (d+1)=stepG (zdr k d) (za k d):=by
 unfold zdr;rw[List.take_succ_eq_append_getElem h,List.foldl_append,qm h]
 rfl
theorem zqk (k:Kno):zdr k k.length=zdq k:=by unfold zdr zdq;rw[List.take_length]
theorem z3w {k:Kno} (h:∀f∈k,RawF f) (d:Nat):∀g∈zdr k d,GrpF g:=
 (zmw (k:=k.take d) (out:=[]) (fun f hf=>h f (List.mem_of_mem_take hf)) (fun g hg=>by cases hg) List.Pairwise.nil).1
theorem z3x:∀{k out:Kno} {g:Frg},g∈k.foldl stepG out→(∃h∈out,h.2=g.2)∨∃f∈k,kh f.2=g.2
 | [],out,g,h=>.inl ⟨g,h,rfl⟩
 | f :: k,out,g,h=>by
   rw[List.foldl_cons] at h;rcases z3x h with ⟨e,he,e2⟩ | ⟨e,he,e2⟩
   · unfold stepG at he;split at he
     · exact .inl ⟨e,he,e2⟩
     · rcases zuu he with h1 | ⟨g',hg',h1⟩
       · exact .inr ⟨f,List.mem_cons_self,h1.symm.trans e2⟩
       · exact .inl ⟨g',hg',h1.trans e2⟩
   · exact .inr ⟨e,List.mem_cons_of_mem _ he,e2⟩
theorem zuz {k:Kno} (h:∀f∈k,VecFits (kh f.2)) (d:Nat):∀g∈zdr k d,VecFits g.2:=by
 intro g hg;rcases z3x hg with ⟨e,he,_⟩ | ⟨f,hf,e⟩
 · cases he
 · rw[←e];exact h f (List.mem_of_mem_take hf)
theorem zku:∀(k:Kno) (d:Nat),yg (k.take d)≤yg k
 | [],d=>by simp[yg]
 | f :: k,0=>by simp[yg]
 | f :: k,d+1=>by rw[List.take_succ_cons,yg,yg];have:=zku k d;omega
theorem zu0:∀{k out:Kno},(∀f∈k,RawF f)→(∀g∈out,GrpF g)→out.Pairwise zae→yg (k.foldl stepG out)≤yg out+yg k∧(k.foldl stepG out).length≤out.length+k.length
 | [],out,_,_,_=>by simp[yg]
 | f :: k,out,h1,h2,h3=>by
   rw[List.foldl_cons,yg,List.length_cons];have hk:∀f∈k,RawF f:=fun g hg=>h1 g (List.mem_cons_of_mem _ hg)
   by_cases hc:kh f.2=[]∨f.1=[]
   · have e:stepG out f=out:=by unfold stepG;rw[if_pos hc]
     rw[e];have:=zu0 hk h2 h3;omega
   · have e:stepG out f=za1 out (f.1,kh f.2):=by unfold stepG;rw[if_neg hc]
     rw[e];have hf:=z3s (h1 f List.mem_cons_self) hc;obtain⟨a1,a2,-⟩:=zuv h2 h3 hf;have h4:=zu0 hk a1 a2;have h5:=z3u (k:=out) (f:=(f.1,kh f.2)) (fun g hg=>(h2 g hg).items) hf.items;simp only at h5;omega
theorem zm0 {k:Kno} (h:∀f∈k,RawF f) (d:Nat):yg (zdr k d)≤yg k∧(zdr k d).length≤k.length:=by
 have h1:=zu0 (k:=k.take d) (out:=[]) (fun f hf=>h f (List.mem_of_mem_take hf)) (fun g hg=>by cases hg) List.Pairwise.nil;have h2:=zku k d;rw[List.length_take] at h1;simp only[yg,List.length_nil] at h1;unfold zdr;omega
theorem z3y {c:Kno} (h:∀f∈c,VecFits f.2):∀d,d≤c.length→(qv c d).length≤1+342000*d
 | 0,_=>by simp[qv]
 | d+1,hd=>by
   have h1:=z3y h d (by omega);have hf:=h _ (yh (show d<c.length from hd));have h2:=zqi (za c d).2 hf.holes (za c d).2.length (Nat.le_refl _);have h3:=hf.len;rw[qv,List.length_append];unfold zan;omega
theorem zm1 {c:Kno} (hK:EncK c) (d:Nat) (hd:d≤c.length):(qv c d).length≤400000000:=by
 have h1:=z3y hK.vec d hd;have h2:342000*d≤342000*1000:=Nat.mul_le_mul_left _ (Nat.le_trans hd hK.len);omega
theorem z3z (w:World) (base:Nat):OwnB w base (.slice none 0 0) []:=World.ownsRow_nil _ _ _ _
def GrwE (w w':World) (v:Value):Prop:=∃y,Grw w w' v y
theorem GrwE.drew {w w':World} {v:Value} (h:GrwE w w' v):GrwE w w'.drew v:=h.elim fun y h=>⟨y,h.below (Below.refl _ _).drew⟩
theorem GrwE.alloc {w w':World} {v:Value} (h:GrwE w w' v) (o:Obj):GrwE w (w'.alloc o) v:=h.elim fun y h=>⟨y,h.alloc o⟩
