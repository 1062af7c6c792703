/- Part 12. -/
import Derived.Maps.Own
import Derived.Maps.OwnOps
import Derived.Maps.OwnSet
import Derived.Maps.RangeWalk
import Derived.Maps.Ext
import Derived.Test.YtdnipikdddfhfaaGreatDoorWd11
set_option linter.unusedVariables false
namespace Go.Proofs.YtdnipikdddfhfaaGreatDoor
section
def zcf (e:Ent) (i:Nat):Option (Nat×Nat):=if e.2.1<(za e.2.2 i).2 then some (4,i) else none
def ckE (e:Ent):Option (Nat×Nat):=match ck e.2.2 with | some x=>some x | none=>jy (zcf e) e.2.2.length
def zd3 (v:Vec) (i:Nat):Option (Nat×Nat):=match ckE (ze v i) with | some x=>some (x.1,i) | none=>if 0<i∧(ze v i).1≤(ze v (i - 1)).1 then some (3,i) else none
def ckV (v:Vec):Option (Nat×Nat):=jy (zd3 v) v.length
def zex (k:Kno) (i:Nat):Option (Nat×Nat):=match ck (zb k i).1 with | some x=>some (x.1,i) | none=>match ckV (zb k i).2 with | some x=>some (x.1,i) | none=>none
def ckF (k:Kno):Option (Nat×Nat):=jy (zex k) k.length
theorem zos {l:List Iv} {x:Nat×Nat} (h:ck l=some x):x.1≠0:=by
 obtain⟨k,-,-,h3⟩:=zfn h;unfold zcs at h3;split at h3
 · cases h3;simp
 · split at h3 <;> cases h3;simp
theorem zot {e:Ent} {x:Nat×Nat} (h:ckE e=some x):x.1≠0:=by
 unfold ckE at h;split at h
 · rename_i y hy;cases h;exact zos hy
 · obtain⟨k,-,-,h3⟩:=zfn h;unfold zcf at h3;split at h3 <;> cases h3;simp
theorem zw5 {v:Vec} {x:Nat×Nat} (h:ckV v=some x):x.1≠0:=by
 obtain⟨k,-,-,h3⟩:=zfn h;unfold zd3 at h3;split at h3
 · rename_i y hy;cases h3;have:=zot hy;exact this
 · split at h3 <;> cases h3;simp
theorem zhn {e:Ent}:ckE e=none↔Good e.2.2∧∀s∈e.2.2,s.2≤e.2.1:=by
 unfold ckE
 cases h:ck e.2.2 with
 | some x=>
  simp only[reduceCtorEq,false_iff];intro h2
  rw[zg0.2 h2.1] at h;cases h
 | none=>
  simp only;constructor
  · intro h2;refine⟨zg0.1 h,fun s hs=>?_⟩;obtain⟨i,hi,rfl⟩:=List.getElem_of_mem hs;have:=zdx h2 i hi;unfold zcf at this;split at this
    · cases this
    · rename_i h3;rw[yw hi] at h3;omega
  · rintro⟨-,h2⟩;refine zcr fun i hi=>?_
    unfold zcf;rw[if_neg];have:=h2 _ (zas hi);omega
theorem zho {v:Vec}:ckV v=none↔v.Pairwise vg∧∀e∈v,ckE e=none:=by
 constructor
 · intro h;have hi:=zdx h
   have h1:∀i,i<v.length→ckE (ze v i)=none∧(0<i→(ze v (i - 1)).1<(ze v i).1):=fun i hi'=>by
    have:=hi i hi';unfold zd3 at this;split at this
    · cases this
    · rename_i h2;refine⟨h2,fun h0=>?_⟩;split at this
      · cases this
      · omega
   refine⟨?_,fun e he=>?_⟩
   · rw[List.pairwise_iff_getElem];intro i j hi' hj hij;unfold vg
     have step:∀d,i+d+1<v.length→(ze v i).1<(ze v (i+d+1)).1:=by
      intro d
      induction d with
      | zero=>intro hd;have:=(h1 (i+1) hd).2 (by omega);simpa using this
      | succ d ih=>
       intro hd;have a:=ih (by omega);have b:=(h1 (i+(d+1)+1) hd).2 (by omega);rw[show i+(d+1)+1 - 1=i+d+1 by omega] at b;omega
     have:=step (j - i - 1) (by omega);rw[show i+(j - i - 1)+1=j by omega,ja hi',ja hj] at this;exact this
   · obtain⟨i,hi',rfl⟩:=List.getElem_of_mem he;have:=(h1 i hi').1;rwa [ja hi'] at this
 · rintro⟨h1,h2⟩;refine zcr fun i hi=>?_
   unfold zd3;rw[h2 _ (kn hi)];simp only;rw[if_neg];rintro⟨h0,h3⟩;rw[List.pairwise_iff_getElem] at h1;have:=h1 (i - 1) i (by omega) hi (by omega);unfold vg at this;rw[ja hi,ja (show i - 1<v.length by omega)] at h3;omega
theorem zj0 {k:Kno}:ckF k=none↔∀f∈k,Good f.1∧ckV f.2=none:=by
 constructor
 · intro h f hf;obtain⟨i,hi,rfl⟩:=List.getElem_of_mem hf;have:=zdx h i hi;unfold zex at this;rw[ym hi] at this;split at this
   · cases this
   · rename_i h1;split at this
     · cases this
     · rename_i h2;exact⟨zg0.1 h1,h2⟩
 · intro h;refine zcr fun i hi=>?_
   have:=h _ (yx hi);unfold zex;rw[zg0.2 this.1,this.2]
def zj1 (e:Ent):Bool:=decide (ckE e=none) && !mem e.2.2 e.2.1
theorem zou {e:Ent}:zj1 e=true↔CanE e:=by
 unfold zj1;rw[Bool.and_eq_true,decide_eq_true_iff,zhn,Bool.not_eq_true'];constructor
 · rintro⟨⟨h1,h2⟩,h3⟩;exact⟨h1,h2,h3⟩
 · rintro⟨h1,h2,h3⟩;exact⟨⟨h1,h2⟩,h3⟩
def zj2 (v:Vec):Bool:=decide (ckV v=none) && v.all zj1
theorem zw6 {v:Vec}:zj2 v=true↔CanV v:=by
 unfold zj2;rw[Bool.and_eq_true,decide_eq_true_iff,zho,List.all_eq_true];constructor
 · rintro⟨⟨h1,h2⟩,h3⟩;exact⟨h1,fun e he=>zou.1 (h3 e he)⟩
 · rintro⟨h1,h2⟩;exact⟨⟨h1,fun e he=>zhn.2 ⟨(h2 e he).good,(h2 e he).below⟩⟩,fun e he=>zou.2 (h2 e he)⟩
end
section
open Go.RowKit Go.Maps
def zP:Value:=.agg #[.slice none 0 0,.slice none 0 0]
def zov:Value→Bool
 | .slice _ _ _=>true
 | _=>false
def zw7:List Value→Bool
 | [x,y]=>zov x && zov y
 | _=>false
def isP:Value→Bool
 | .agg cs=>zw7 cs.toList
 | _=>false
def rP (v:Value):Option (DataW Value×List MemPlace):=if isP v=true then some (.held v,[]) else none
theorem zow (a:Option Addr) (n c:Nat) (a':Option Addr) (n' c':Nat):rP (.agg #[.slice a n c,.slice a' n' c'])=some (.held (.agg #[.slice a n c,.slice a' n' c']),[]):=rfl
theorem zw8 {v u:Value} {ps:List MemPlace} (h:rP v=some (.held u,ps)):v=u:=by
 unfold rP at h;split at h
 · simp at h;exact h.1
 · cases h
theorem wfU {x:Nat} (h:x<18446744073709551616):(Lit.int .u64 (x:Int)).wf=true:=by
 simp[Lit.wf,IntKind.min,IntKind.max,IntKind.signed,IntKind.bits];omega
theorem zw9 {n:Int} (h:(Lit.int .u64 n).wf=true):∃x:Nat,n=(x:Int)∧x<18446744073709551616:=by
 simp[Lit.wf,IntKind.min,IntKind.max,IntKind.signed,IntKind.bits] at h;exact⟨n.toNat,by omega,by omega⟩
theorem zb1:Maps.Keyed Tryz.prog 43:=int_keyed Tryz.underlying43
theorem zd4 {x:Nat} (h:x<18446744073709551616):keyOf Tryz.prog 43 (.int .u64 (x:Int))=some (.int .u64 (x:Int)):=keyOf_int_mk Tryz.underlying43 (wfU h)
theorem zxa (w:World):(zeroValue 369).run Tryz.prog w=.ok zP w:=by kernel_rfl
theorem zj3 {w:World} {ops:Array Oper} {rest:List Oper} {o:Oper} {a:Act} {Q:Exit→Act→World→Prop} (hg:o.guard=none) (m x:Operand) (t:TypeId) (hop:o.op=Op.lookup t m x false)
 (ht:Tryz.prog.underlying t=some (.map 43 369)) (b n:Nat) (D:DataW Value) (hm:a.eval m=.map (some b)) (hown:w.ownsMap Tryz.prog 43 rP b n D)
 (r:Nat) (hr:r<18446744073709551616) (hx:a.eval x=.int .u64 (r:Int)) (u:Value) (hat:D.atKey (.int .u64 (r:Int)) (.held zP)=.held u)
 (h:wpList Tryz.prog ops Q rest (a.put o.dst u) w):wpList Tryz.prog ops Q (o :: rest) a w:=by
 refine wpList_plain hg fun K' hK'=>?_
 obtain⟨v,ps,hrun,hv⟩:=hown.lookup zb1 ht (zxa w) (zd:=.held zP) (zp:=[]) rfl (zd4 hr);rw[hat] at hv;obtain rfl:=zw8 hv;unfold Oper.wp;simp[execOp,hop,hm,hx,hrun,Result.andThen];exact hK' _ _ h
structure PairS (w:World) (base B n:Nat) (D:DataW Value) (S:List Nat) (G1 G2:Nat→List Iv):Prop where
 own:w.ownsMap Tryz.prog 43 rP B n D
 keys:∀r:Nat,Maps.has D (.int .u64 (r:Int))=decide (r∈S)
 vals:∀r:Nat,∃a n c a' n' c',D.atKey (.int .u64 (r:Int)) (.held zP)=.held (.agg #[.slice a n c,.slice a' n' c'])∧IvsT w base a n c (G1 r)∧IvsT w base a' n' c' (G2 r)
theorem zox (w:World) (base:Nat):IvsT w base none 0 0 []:=⟨zgu w,fun h=>by omega⟩
theorem PairS.start (w:World) (base:Nat):PairS (w.alloc (.map #[] 0)) base w.heap.size 0 (.map []) [] (fun _=>[]) (fun _=>[]):=
 ⟨World.ownsMap_made _ _ _ _,fun r=>rfl,fun r=>⟨none,0,0,none,0,0,rfl,zox _ _,zox _ _⟩⟩
theorem PairS.steady {w w':World} {base B n:Nat} {D:DataW Value} {S:List Nat} {G1 G2:Nat→List Iv} (h:PairS w base B n D S G1 G2) (hs:Steady base zat w w') (hm:w'.ownsMap Tryz.prog 43 rP B n D):PairS w' base B n D S G1 G2:=
 ⟨hm,h.keys,fun r=>by
  obtain⟨a,n,c,a',n',c',h1,h2,h3⟩:=h.vals r;exact⟨a,n,c,a',n',c',h1,h2.steady hs rfl,h3.steady hs rfl⟩⟩
theorem zd5 {r x:Nat} (h:r≠x):Lit.int .u64 (r:Int)≠Lit.int .u64 (x:Int):=fun e=>h (by cases e;rfl)
theorem PairS.put {w w':World} {base B n m r:Nat} {D:DataW Value} {S:List Nat} {G1 G2:Nat→List Iv} (h:PairS w base B n D S G1 G2) (hs:Steady base zat w w') {a:Option Addr} {k c:Nat} {a':Option Addr} {k' c':Nat} {L L':List Iv}
 (h1:IvsT w' base a k c L) (h2:IvsT w' base a' k' c' L') (hown:w'.ownsMap Tryz.prog 43 rP B m (D.put (.int .u64 (r:Int)) (.held (.agg #[.slice a k c,.slice a' k' c'])))):
 PairS w' base B m (D.put (.int .u64 (r:Int)) (.held (.agg #[.slice a k c,.slice a' k' c']))) (S++[r]) (fun x=>if x=r then L else G1 x) (fun x=>if x=r then L' else G2 x):=by
 have hI:=h.own.isMap;have hk:∀x:Nat,WideAt.IsKeyLit (.int .u64 (x:Int)):=fun _=>trivial
 refine⟨hown,fun x=>?_,fun x=>?_⟩
 · by_cases e:x=r
   · subst e;rw[has_put_same hI (hk _)];simp
   · rw[has_put_other (zd5 e),h.keys x];simp[e]
 · by_cases e:x=r
   · subst e;exact⟨a,k,c,a',k',c',atKey_put_same hI (hk _) _ _,by simpa using h1,by simpa using h2⟩
   · obtain⟨a1,n1,c1,a2,n2,c2,h3,h4,h5⟩:=h.vals x;exact⟨a1,n1,c1,a2,n2,c2,by rw[atKey_put_other (zd5 e)];exact h3,by simpa [e] using h4.steady hs rfl,by simpa [e] using h5.steady hs rfl⟩
theorem PairS.congr {w:World} {base B n:Nat} {D:DataW Value} {S S':List Nat} {G1 G2 G1' G2':Nat→List Iv} (h:PairS w base B n D S G1 G2) (hS:∀r,r∈S↔r∈S') (h1:∀r,G1 r=G1' r) (h2:∀r,G2 r=G2' r):PairS w base B n D S' G1' G2':=
 ⟨h.own,fun r=>by rw[h.keys r];simp[hS r],fun r=>by rw[←h1,←h2];exact h.vals r⟩
theorem zoy {w w':World} {base B n:Nat} {D:DataW Value} (h:w.ownsMap Tryz.prog 43 rP B n D) (hB:base≤B) (hg:w.grownBy w' (some B)) (P:TypeId→Prop):Steady base P w w':=by
 obtain⟨es,clock,hb,-⟩:=h;refine⟨hg.size,fun k hk hp=>hg.block k hk fun e=>?_⟩;cases e;rcases hp with h' | ⟨C,T,fr,hT,h'⟩
 · omega
 · rw[hb] at h';cases h'
theorem zau {w w':World} (h:Below w.heap.size w w'):w.grownBy w' none:=⟨h.os,h.tape,h.output,h.size,fun k hk _=>h.block k hk⟩
theorem zoz {v:Vec} (hA:v.Pairwise vg) {j:Nat} (hj:j<v.length) (r:Nat):yb (v.take (j+1)) r=if r=(ze v j).1 then jo (ze v j) else yb (v.take j) r:=by
 have hs:v.take (j+1)=v.take j++[ze v j]:=by rw[List.take_succ_eq_append_getElem hj,ja hj]
 unfold yb;rw[hs,List.find?_append];by_cases e:r=(ze v j).1
 · have hn:(v.take j).find? (fun e=>decide (e.1=r))=none:=by
    rw[List.find?_eq_none];intro x hx;obtain⟨i,hi,rfl⟩:=List.getElem_of_mem hx;rw[List.length_take] at hi;have:=List.pairwise_iff_getElem.1 hA i j (by omega) hj (by omega);rw[List.getElem_take];rw[ja hj] at e;have h2:(v[i]'(by omega)).1<v[j].1:=this;simp only[decide_eq_true_eq];omega
   rw[hn,if_pos e];simp[e]
 · rw[if_neg e]
   have h2:[ze v j].find? (fun e=>decide (e.1=r))=none:=by
    rw[List.find?_eq_none];intro x hx;rw[List.mem_singleton] at hx;subst hx;simp only[decide_eq_true_eq];omega
   rw[h2];cases (v.take j).find? (fun e=>decide (e.1=r)) <;> rfl
theorem zo0 {v:Vec} {j:Nat} (hj:j<v.length):(v.take (j+1)).map (·.1)=(v.take j).map (·.1)++[(ze v j).1]:=by
 rw[List.take_succ_eq_append_getElem hj,ja hj,List.map_append];rfl
theorem zhp {P:Program} {w:World} {ops:Array Oper} {rest:List Oper} {o:Oper} {a:Act} {Q:Exit→Act→World→Prop} (ty:TypeId) (x ix:Operand)
 (ho:o.op=.index ty x ix) (hg:o.guard=none) (cs:Array Value) (k len:Nat) (e e':TypeId) (v:Value)
 (hx:a.eval x=.agg cs) (hix:a.eval ix=.int .i64 (k:Int)) (hu:P.underlying ty=some (.array len e)) (hk:k<len) (he:P.underlying e=some (.slice e')) (hi:(P.info? e).map (·.size)=some 1)
 (hv:cs[k]?=some v) (h:wpList P ops Q rest (a.put o.dst v) w):wpList P ops Q (o :: rest) a w:=by
 refine wpList_plain hg fun K hK=>?_
 cases hq:P.info? e with
 | none=>simp[hq] at hi
 | some i=>
  have hsz:i.size=1:=by simpa [hq] using hi
  unfold Oper.wp execOp;simp only[ho,hx,hix,Instr.index,asIntOf,Sem.run_bind,Sem.run_pure,Result.andThen_ok,run_underlying hu];have hk':0≤(k:Int)∧(k:Int)<(len:Int):=⟨by omega,by omega⟩;simp[Sem.run_bind,part,isAgg,sizeOf,typeInfo,run_underlying he,hq,hsz,hv,hk'];exact hK _ _ h
theorem zo1:(Tryz.prog.info? 95).map (·.size)=some 1:=by kernel_rfl
theorem zo2:(Tryz.prog.info? 91).map (·.size)=some 1:=by kernel_rfl
theorem zj4 {H:Type} {w:World} {ops:Array Oper} {rest:List Oper} {o:Oper} {a:Act} {Q:Exit→Act→World→Prop} (hg:o.guard=none) (it:Operand) (hop:o.op=Op.next it false) (R:Value→Option (DataW H×List MemPlace))
 (b r n:Nat) (D:DataW H) (left:Lit→Bool) (cnt:Nat) (hit:a.eval it=.pointer (some ⟨r,0,none⟩)) (h:w.ranges Tryz.prog 43 R b r n D left cnt)
 (hDone:(∀kl,left kl=false)→wpList Tryz.prog ops Q rest (a.put o.dst (.tuple #[.bool false])) w)
 (hMore:∀(x:Nat) (u:Value) (w':World) (cnt':Nat),x<18446744073709551616→left (.int .u64 (x:Int))=true→Maps.has D (.int .u64 (x:Int))=true→
   w'.ranges Tryz.prog 43 R b r n D (fun z=>left z && !z.sameKey (.int .u64 (x:Int))) cnt'→cnt'<cnt→w.grownBy w' (some r)→w'.heap.size=w.heap.size→
   (Instr.entry (.pointer (some ⟨r,0,none⟩))).run Tryz.prog w'=.ok (.tuple #[.int .u64 (x:Int),u]) w'→wpList Tryz.prog ops Q rest (a.put o.dst (.tuple #[.bool true,.int .u64 (x:Int),u])) w'):
 wpList Tryz.prog ops Q (o :: rest) a w:=by
 refine wpList_plain hg fun K' hK'=>?_
 unfold Oper.wp;rcases h.next zb1 o.type with ⟨h0,hl,hrun⟩ | ⟨key,v,kl,y,w',cnt',hkey,hlk,hv,hat,hrun,hrg,hlt,hgr,hsz,hen⟩
 · simp[execOp,hop,hit,hrun,Result.andThen];exact hK' _ _ (hDone hl)
 · obtain⟨x,rfl,rfl,hwx⟩:=Maps.keyOf_int_inv Tryz.underlying43 hkey;obtain⟨x,rfl,hx⟩:=zw9 hwx;simp[execOp,hop,hit,hrun,Result.andThen];exact hK' _ _ (hMore x v w' cnt' hx hlk (has_true_of_atKey hat) hrg hlt hgr hsz hen)
theorem zxb {p:Nat→Prop} {base:Nat} {P:TypeId→Prop} {w w':World} (h:Kept p w w') (hp:∀k,k<w.heap.size→(k<base∨∃C T fr,P T∧w.heap[k]?=some (.cells C T fr))→p k):Steady base P w w':=
 ⟨h.size,fun k hk h2=>h.row k hk (hp k hk h2)⟩
theorem zj5 {v:Vec} (hl:LtV v) (r:Nat):Good (yb v r):=by
 unfold yb;split
 · rename_i e he;exact(zc7 (hl e (List.mem_of_find?_eq_some he))).1
 · trivial
theorem zxc {H:Type} {P:Program} {k:TypeId} {R:Value→Option (DataW H×List MemPlace)} {w w':World} {b r n:Nat} {D:DataW H} {left:Lit→Bool} {cnt:Nat} (h:w.ranges P k R b r n D left cnt)
 (hb:w'.heap[b]?=w.heap[b]?) (hr:w'.heap[r]?=w.heap[r]?):w'.ranges P k R b r n D left cnt:=by
 obtain⟨es,clock,since,seen,c0,h1,h2,h3,h4,h5,h6⟩:=h;exact⟨es,clock,since,seen,c0,hb.trans h1,h2,h3,h4,hr.trans h5,h6⟩
end
section
def j0:Kno→Frg→Kno
 | [],f=>[f]
 | g :: k,f=>if zw g.2 f.2= -1 then g :: j0 k f else if zw g.2 f.2=0 then (opL gOr g.1 f.1,f.2) :: k else f :: g :: k
def y8:Kno→Vec→Nat
 | [],_=>0
 | g :: k,v=>if zw g.2 v= -1 then y8 k v+1 else 0
def zbe:Kno→Vec→Bool
 | [],_=>false
 | g :: k,v=>if zw g.2 v= -1 then zbe k v else decide (zw g.2 v=0)
theorem zj6:∀(k:Kno) (v:Vec),y8 k v≤k.length
 | [],_=>Nat.le_refl _
 | g :: k,v=>by
   rw[y8];have:=zj6 k v;split
   · simp only[List.length_cons];omega
   · exact Nat.zero_le _
theorem zj7:∀{k:Kno} {v:Vec} (h:y8 k v<k.length),zw (zb k (y8 k v)).2 v≠ -1∧zbe k v=decide (zw (zb k (y8 k v)).2 v=0)
 | [],v,h=>by simp at h
 | g :: k,v,h=>by
   rw[y8] at h ⊢;rw[zbe];split at h
   · rename_i hc;rw[if_pos hc,if_pos hc];exact zj7 (k:=k) (v:=v) (by simpa using h)
   · rename_i hc;rw[if_neg hc,if_neg hc];exact⟨hc,rfl⟩
theorem zj8:∀{k:Kno} {v:Vec} (h:y8 k v=k.length),zbe k v=false
 | [],v,h=>rfl
 | g :: k,v,h=>by
   rw[y8] at h;rw[zbe];split at h
   · rename_i hc;rw[if_pos hc];exact zj8 (by simpa using h)
   · simp at h
theorem zj9:∀{k:Kno} {v:Vec} {i:Nat},i≤k.length→(∀j,j<i→zw (zb k j).2 v= -1)→(i<k.length→zw (zb k i).2 v≠ -1)→i=y8 k v
 | [],v,i,hi,_,_=>by simp at hi;rw[hi,y8]
 | g :: k,v,0,hi,h1,h2=>by
   have h3:zw g.2 v≠ -1:=h2 (by simp)
   rw[y8,if_neg h3]
 | g :: k,v,i+1,hi,h1,h2=>by
   have h3:zw g.2 v= -1:=h1 0 (by omega);rw[y8,if_pos h3];have:=zj9 (k:=k) (v:=v) (i:=i) (by simpa using hi) (fun j hj=>h1 (j+1) (by omega)) (fun h=>h2 (by simpa using h));omega
theorem zo3:∀{k:Kno} {f:Frg},zbe k f.2=true→j0 k f=k.set (y8 k f.2) (opL gOr (zb k (y8 k f.2)).1 f.1,f.2)
 | [],f,h=>by simp[zbe] at h
 | g :: k,f,h=>by
   rw[zbe] at h;rw[j0,y8];split at h
   · rename_i hc;rw[if_pos hc,if_pos hc,zo3 h];rfl
   · rename_i hc;rw[if_neg hc,if_neg hc,if_pos (of_decide_eq_true h)];rfl
theorem zo4:∀{k:Kno} {f:Frg},zbe k f.2=false→j0 k f=k.take (y8 k f.2)++f :: k.drop (y8 k f.2)
 | [],f,h=>rfl
 | g :: k,f,h=>by
   rw[zbe] at h;rw[j0,y8];split at h
   · rename_i hc;rw[if_pos hc,if_pos hc,zo4 h];rfl
   · rename_i hc;rw[if_neg hc,if_neg hc,if_neg (of_decide_eq_false h)];rfl
structure GrpF (f:Frg):Prop where
 good:Good f.1
 some:f.1≠[]
 items:zk f.1
 can:CanV f.2
 any:f.2≠[]
 vec:LtV f.2
def zbn (k:Kno) (x:Nat) (v:Vec):Prop:=∃h∈k,mem h.1 x=true∧h.2=v
theorem zxd {a b:List Iv} (ha:zk a) (hb:zk b) (hg:Good b) (hn:b≠[]):opL gOr a b≠[]:=by
 intro h;obtain⟨x,hx⟩:=zwi hg hn;have:=(zbk (g:=gOr) ha hb rfl).2.1 x;rw[h,hx,zb9] at this;simp[gOr] at this
theorem zka:∀{k:Kno} {f h:Frg},h∈j0 k f→h.2=f.2∨∃g∈k,g.2=h.2
 | [],f,h,hh=>by simp[j0] at hh;exact .inl (by rw[hh])
 | g :: k,f,h,hh=>by
   rw[j0] at hh;split at hh
   · rcases List.mem_cons.1 hh with rfl | hh
     · exact .inr ⟨_,List.mem_cons_self ..,rfl⟩
     · rcases zka hh with e | ⟨g',hg',e⟩
       · exact .inl e
       · exact .inr ⟨g',List.mem_cons_of_mem _ hg',e⟩
   · split at hh
     · rcases List.mem_cons.1 hh with rfl | hh
       · exact .inl rfl
       · exact .inr ⟨h,List.mem_cons_of_mem _ hh,rfl⟩
     · rcases List.mem_cons.1 hh with rfl | hh
       · exact .inl rfl
       · exact .inr ⟨h,hh,rfl⟩
theorem zkb:∀{k:Kno} {f:Frg},(∀g∈k,GrpF g)→k.Pairwise kk→GrpF f→
 (∀g∈j0 k f,GrpF g)∧(j0 k f).Pairwise kk∧∀x v,zbn (j0 k f) x v↔zbn k x v∨(mem f.1 x=true∧f.2=v)
 | [],f,_,_,hf=>by
   refine⟨fun g hg=>?_,?_,fun x v=>?_⟩
   · simp[j0] at hg;subst hg;exact hf
   · simp[j0]
   · simp[j0,zbn]
 | g :: k,f,hk,hp,hf=>by
   obtain⟨p1,p2⟩:=List.pairwise_cons.1 hp;have hg:=hk g (List.mem_cons_self ..);have hk':∀g∈k,GrpF g:=fun g hg=>hk g (List.mem_cons_of_mem _ hg)
   rw[j0];by_cases h1:zw g.2 f.2= -1
   · rw[if_pos h1];obtain⟨i1,i2,i3⟩:=zkb hk' p2 hf;refine⟨fun e he=>?_,List.pairwise_cons.2 ⟨fun e he=>?_,i2⟩,fun x v=>?_⟩
     · rcases List.mem_cons.1 he with rfl | he
       · exact hg
       · exact i1 e he
     · unfold kk;rcases zka he with e1 | ⟨g',hg',e1⟩
       · rw[e1];exact h1
       · rw[←e1];exact p1 g' hg'
     · have:=i3 x v;unfold zbn at this ⊢;simp only[List.mem_cons,exists_eq_or_imp,or_assoc];rw[this]
   · rw[if_neg h1];by_cases h2:zw g.2 f.2=0
     · rw[if_pos h2];have ev:=znm h2;obtain⟨o1,o2,o3⟩:=zbk (g:=gOr) hg.items hf.items rfl;refine⟨fun e he=>?_,List.pairwise_cons.2 ⟨fun e he=>?_,p2⟩,fun x v=>?_⟩
       · rcases List.mem_cons.1 he with rfl | he
         · exact⟨o1,zxd hg.items hf.items hf.good hf.some,o3,hf.can,hf.any,hf.vec⟩
         · exact hk' e he
       · have:=p1 e he;unfold kk at this ⊢;simp only;rw[←ev];exact this
       · unfold zbn;simp only[List.mem_cons,exists_eq_or_imp,o2,gOr,Bool.or_eq_true,ev];constructor
         · rintro(⟨h | h,e⟩ | h)
           · exact .inl (.inl ⟨h,e⟩)
           · exact .inr ⟨h,e⟩
           · exact .inl (.inr h)
         · rintro((⟨h,e⟩ | h) | ⟨h,e⟩)
           · exact .inl ⟨.inl h,e⟩
           · exact .inr h
           · exact .inl ⟨.inr h,e⟩
     · rw[if_neg h2]
       have h3:zw f.2 g.2= -1:=by
        rw[zwg g.2 f.2];rcases zfp g.2 f.2 with e | e | e
        · exact absurd e h1
        · exact absurd e h2
        · rw[e]
       refine⟨fun e he=>?_,List.pairwise_cons.2 ⟨fun e he=>?_,hp⟩,fun x v=>?_⟩
       · rcases List.mem_cons.1 he with rfl | he
         · exact hf
         · exact hk e he
       · rcases List.mem_cons.1 he with rfl | he
         · exact h3
         · exact zg4 h3 (p1 e he)
       · unfold zbn;simp only[List.mem_cons,exists_eq_or_imp];constructor
         · rintro(h | h)
           · exact .inr h
           · exact .inl h
         · rintro(h | h)
           · exact .inr h
           · exact .inl h
def stepG (out:Kno) (f:Frg):Kno:=if kw f.2=[]∨f.1=[] then out else j0 out (f.1,kw f.2)
def zb2 (k:Kno):Kno:=k.foldl stepG []
structure RawF (f:Frg):Prop where
 good:Good f.1
 lt:LtF f
theorem zo5 {f:Frg} (h:RawF f) (h1:¬(kw f.2=[]∨f.1=[])):GrpF (f.1,kw f.2):=by
 obtain⟨c1,c2,_⟩:=zhb h.lt.vec h.lt.asc;exact⟨h.good,fun e=>h1 (.inr e),h.lt.items,c1,fun e=>h1 (.inl e),c2⟩
theorem zfz:∀{k out:Kno},(∀f∈k,RawF f)→(∀g∈out,GrpF g)→out.Pairwise kk→
 (∀g∈k.foldl stepG out,GrpF g)∧(k.foldl stepG out).Pairwise kk∧
   ∀x v,v≠[]→(zbn (k.foldl stepG out) x v↔zbn out x v∨∃d∈k,mem d.1 x=true∧kw d.2=v)
 | [],out,_,h2,h3=>⟨h2,h3,fun x v _=>by simp⟩
 | f :: k,out,h1,h2,h3=>by
   rw[List.foldl_cons];have hf:=h1 f (List.mem_cons_self ..);have hk:∀f∈k,RawF f:=fun g hg=>h1 g (List.mem_cons_of_mem _ hg)
   by_cases hc:kw f.2=[]∨f.1=[]
   · have e:stepG out f=out:=by unfold stepG;rw[if_pos hc]
     rw[e];obtain⟨k1,k2,k3⟩:=zfz hk h2 h3;refine⟨k1,k2,fun x v hv=>?_⟩;rw[k3 x v hv];simp only[List.mem_cons,exists_eq_or_imp];constructor
     · rintro(h | h)
       · exact .inl h
       · exact .inr (.inr h)
     · rintro(h | ⟨h4,h5⟩ | h)
       · exact .inl h
       · rcases hc with e | e
         · exact absurd (h5.symm.trans e) hv
         · rw[e,zb9] at h4;cases h4
       · exact .inr h
   · have e:stepG out f=j0 out (f.1,kw f.2):=by unfold stepG;rw[if_neg hc]
     rw[e];obtain⟨a1,a2,a3⟩:=zkb h2 h3 (zo5 hf hc);obtain⟨k1,k2,k3⟩:=zfz hk a1 a2;refine⟨k1,k2,fun x v hv=>?_⟩;rw[k3 x v hv,a3];simp only[List.mem_cons,exists_eq_or_imp,or_assoc]
theorem zxe {k:Kno} {x r c:Nat}:zak k x r c=true↔∃v,zbn k x v∧jp v r c=true:=by
 rw[zdz];constructor
 · rintro⟨f,hf,h1,h2⟩;exact⟨f.2,⟨f,hf,h1,rfl⟩,h2⟩
 · rintro⟨v,⟨f,hf,h1,rfl⟩,h2⟩;exact⟨f,hf,h1,h2⟩
theorem zkc {v:Vec} {r c:Nat} (h:jp v r c=true):v≠[]:=by
 intro e;subst e;simp[jp] at h
theorem zxf {k:Kno} (h:∀f∈k,RawF f):(∀g∈zb2 k,GrpF g)∧(zb2 k).Pairwise kk∧(∀x v,v≠[]→(zbn (zb2 k) x v↔∃d∈k,mem d.1 x=true∧kw d.2=v))∧
 ∀x r c,zak (zb2 k) x r c=zak k x r c:=by
 obtain⟨h1,h2,h3⟩:=zfz (out:=[]) h (fun g hg=>by cases hg) List.Pairwise.nil
 have h4:∀x v,v≠[]→(zbn (zb2 k) x v↔∃d∈k,mem d.1 x=true∧kw d.2=v):=fun x v hv=>by
  unfold zb2;rw[h3 x v hv];simp[zbn]
 refine⟨h1,h2,h4,fun x r c=>?_⟩;rw[Bool.eq_iff_iff,zxe,zdz];constructor
 · rintro⟨v,hv,hk⟩;obtain⟨d,hd,d1,rfl⟩:=(h4 x v (zkc hk)).1 hv;exact⟨d,hd,d1,by rw[←(zhb (h d hd).lt.vec (h d hd).lt.asc).2.2];exact hk⟩
 · rintro⟨d,hd,d1,hk⟩;rw[←(zhb (h d hd).lt.vec (h d hd).lt.asc).2.2] at hk;exact⟨_,(h4 x _ (zkc hk)).2 ⟨d,hd,d1,rfl⟩,hk⟩
def qt (k:Kno):Kno:=zb2 (jt k)
theorem zxg {k:Kno} (h:k.Pairwise (fun f g=>∀x,mem f.1 x=true→mem g.1 x=true→False)) {f g:Frg} (hf:f∈k) (hg:g∈k) {x:Nat} (h1:mem f.1 x=true) (h2:mem g.1 x=true):f=g:=by
 induction k with
 | nil=>cases hf
 | cons a k ih=>
  obtain⟨p,q⟩:=List.pairwise_cons.1 h;rcases List.mem_cons.1 hf with rfl | hf2
  · rcases List.mem_cons.1 hg with e | hg2
    · exact e.symm
    · exact(p g hg2 x h1 h2).elim
  · rcases List.mem_cons.1 hg with rfl | hg2
    · exact(p f hf2 x h2 h1).elim
    · exact ih q hf2 hg2
theorem zxh {s:Iv} (h:s.1≤s.2):Good [s]:=h
theorem zkd {k:Kno} (hk:LtK k):∀f∈jt k,RawF f:=by
 intro f hf;obtain⟨s,h1,h2,h3,h4,h5⟩:=(zol hk).1 f hf;refine⟨by rw[h1];exact zxh h2,⟨by rw[h1];exact zet (by omega) h3,h5,h4.asc⟩⟩
theorem zke {k:Kno} (hk:LtK k):CanK (qt k)∧LtK (qt k)∧∀x r c,zak (qt k) x r c=zak k x r c:=by
 obtain⟨r1,r2,r3⟩:=zol hk;obtain⟨g1,g2,g3,g4⟩:=zxf (zkd hk);refine⟨⟨fun f hf=>⟨(g1 f hf).good,(g1 f hf).some⟩,fun f hf=>⟨(g1 f hf).can,(g1 f hf).any⟩,fun f hf g hg x hx hy=>?_,g2⟩,fun f hf=>⟨(g1 f hf).items,(g1 f hf).vec,(g1 f hf).can.asc⟩,fun x r c=>?_⟩
 · obtain⟨d,hd,d1,d2⟩:=(g3 x f.2 (g1 f hf).any).1 ⟨f,hf,hx,rfl⟩;obtain⟨e,he,e1,e2⟩:=(g3 x g.2 (g1 g hg).any).1 ⟨g,hg,hy,rfl⟩;have:=zxg r2 hd he d1 e1;subst this;exact zwh g2 hf hg (d2.symm.trans e2)
 · unfold qt;rw[g4,r3]
end
section
open Go.RowKit Go.Shelf
def IvCell (w:World) (p:Addr) (l:List Iv):Prop:=∃x n c,w.cell? p=some (.slice x n c)∧Ivs w x n c l
def EnCell (w:World) (p:Addr) (v:Vec):Prop:=∃x n c,w.cell? p=some (.slice x n c)∧Ents w x n c v
theorem IvCell.below {w w':World} {p:Addr} {l:List Iv} (h:IvCell w p l) (hb:Below w.heap.size w w'):IvCell w' p l:=
 let ⟨x,n,c,h1,h2⟩:=h;⟨x,n,c,(hb.cell (zh h1)).trans h1,h2.below hb⟩
theorem EnCell.below {w w':World} {p:Addr} {v:Vec} (h:EnCell w p v) (hb:Below w.heap.size w w'):EnCell w' p v:=
 let ⟨x,n,c,h1,h2⟩:=h;⟨x,n,c,(hb.cell (zh h1)).trans h1,h2.below hb⟩
structure Frags (w:World) (a:Option Addr) (n cap:Nat) (k:Kno):Prop where
 len:k.length=n
 room:n≤cap
 most:cap≤9223372036854775807
 nilc:a=none→cap=0
 cells:0<n→∃b o,a=some ⟨b,o,none⟩∧∀i,i<n→IvCell w ⟨b,o+i*2,none⟩ (zb k i).1∧EnCell w ⟨b,o+i*2+1,none⟩ (zb k i).2
theorem Frags.below {w w':World} {a:Option Addr} {n cap:Nat} {k:Kno} (h:Frags w a n cap k) (hb:Below w.heap.size w w'):Frags w' a n cap k:=by
 refine⟨h.len,h.room,h.most,h.nilc,fun hn=>?_⟩;obtain⟨b,o,ha,hc⟩:=h.cells hn;exact⟨b,o,ha,fun i hi=>⟨(hc i hi).1.below hb,(hc i hi).2.below hb⟩⟩
theorem zey (w:World):Frags w none 0 0 []:=⟨rfl,by omega,by omega,fun _=>rfl,fun h=>by omega⟩
theorem Frags.lt {w:World} {a:Option Addr} {n cap:Nat} {k:Kno} (h:Frags w a n cap k) {i:Nat} (hi:i<n):zk (zb k i).1∧LtV (zb k i).2:=by
 obtain⟨b,o,-,hc⟩:=h.cells (by omega);obtain⟨⟨_,_,_,_,h1⟩,⟨_,_,_,_,h2⟩⟩:=hc i hi;exact⟨h1.lt,h2.lt⟩
theorem Frags.all {w:World} {a:Option Addr} {n cap:Nat} {k:Kno} (h:Frags w a n cap k):∀f∈k,zk f.1∧LtV f.2:=by
 intro f hf;obtain⟨i,hi,rfl⟩:=List.getElem_of_mem hf;have:=h.lt (i:=i) (by rw[←h.len];exact hi);rwa [ym hi] at this
structure EntsT (w:World) (base:Nat) (a:Option Addr) (n c:Nat) (v:Vec):Prop where
 len:v.length=n
 lt:LtV v
 room:n≤c
 most:c≤9223372036854775807
 nilc:a=none→c=0
 row:0<n→∀p,a=some p→zc9 w base 93 p.block
 cells:0<n→∃b o,a=some ⟨b,o,none⟩∧∀i,i<n→w.cell? ⟨b,o+i*3,none⟩=some (.int .u64 (((ze v i).1:Nat):Int))∧w.cell? ⟨b,o+i*3+1,none⟩=some (.int .u64 (((ze v i).2.1:Nat):Int))∧
  ∃x k c,w.cell? ⟨b,o+i*3+2,none⟩=some (.slice x k c)∧IvsT w base x k c (ze v i).2.2
theorem EntsT.ents {w:World} {base:Nat} {a:Option Addr} {n c:Nat} {v:Vec} (h:EntsT w base a n c v):Ents w a n c v:=by
 refine⟨h.len,h.lt,h.room,h.most,h.nilc,fun hn=>?_⟩;obtain⟨b,o,ha,hc⟩:=h.cells hn;refine⟨b,o,ha,fun i hi=>?_⟩;obtain⟨h1,h2,x,k,d,h3,h4⟩:=hc i hi;exact⟨h1,h2,x,k,d,h3,h4.ivs⟩
theorem zo6 (w:World) (base:Nat):EntsT w base none 0 0 []:=⟨rfl,by simp,by omega,by omega,fun _=>rfl,fun h=>by omega,fun h=>by omega⟩
theorem EntsT.steady {w w':World} {base:Nat} {P:TypeId→Prop} {a:Option Addr} {n c:Nat} {v:Vec} (h:EntsT w base a n c v) (hs:Steady base P w w') (h1:P 89) (h2:P 93):EntsT w' base a n c v:=by
 refine⟨h.len,h.lt,h.room,h.most,h.nilc,fun hn p hp=>?_,fun hn=>?_⟩
 · obtain⟨b,o,ha,hc⟩:=h.cells hn;rw[ha] at hp;cases hp;exact(zhc (h.row hn _ ha) (zh (hc 0 hn).1) hs h2).1
 · obtain⟨b,o,ha,hc⟩:=h.cells hn;obtain⟨-,hrow⟩:=zhc (h.row hn _ ha) (zh (hc 0 hn).1) hs h2;refine⟨b,o,ha,fun i hi=>?_⟩;obtain⟨e1,e2,x,k,d,e3,e4⟩:=hc i hi
   exact⟨(World.cell?_of_block (a:=⟨b,o+i*3,none⟩) hrow).trans e1,(World.cell?_of_block (a:=⟨b,o+i*3+1,none⟩) hrow).trans e2,x,k,d,
    (World.cell?_of_block (a:=⟨b,o+i*3+2,none⟩) hrow).trans e3,e4.steady hs h1⟩
theorem zo7 {w:World} {base base':Nat} {T:TypeId} {b:Nat} (h:zc9 w base T b) (hb:base≤base'):zc9 w base' T b:=h.imp (fun h=>by omega) id
theorem IvsT.raise {w:World} {base base':Nat} {a:Option Addr} {n c:Nat} {l:List Iv} (h:IvsT w base a n c l) (hb:base≤base'):IvsT w base' a n c l:=⟨h.ivs,fun hn p hp=>zo7 (h.row hn p hp) hb⟩
theorem EntsT.raise {w:World} {base base':Nat} {a:Option Addr} {n c:Nat} {v:Vec} (h:EntsT w base a n c v) (hb:base≤base'):EntsT w base' a n c v:=by
 refine⟨h.len,h.lt,h.room,h.most,h.nilc,fun hn p hp=>zo7 (h.row hn p hp) hb,fun hn=>?_⟩;obtain⟨b,o,ha,hc⟩:=h.cells hn;refine⟨b,o,ha,fun i hi=>?_⟩;obtain⟨e1,e2,x,k,d,e3,e4⟩:=hc i hi;exact⟨e1,e2,x,k,d,e3,e4.raise hb⟩
theorem OwnV.entsT {w:World} {base base':Nat} {x:Value} {v:Vec} (h:OwnV w base x v) (hl:LtV v):∃a c,x=.slice a v.length c∧EntsT w base' a v.length c v:=by
 obtain⟨ss,ho,hs⟩:=h;have ho2:=ho;rcases ho.2 with ⟨rfl,h0⟩ | ⟨g,cap,cur,rfl,hg,hh,hnc,hcm,_⟩
 · rw[h0];have:v=[]:=List.length_eq_zero_iff.1 h0;subst this;exact⟨none,0,rfl,zo6 w base'⟩
 · refine⟨_,_,rfl,rfl,hl,hnc,by unfold maxLen at hcm;omega,(by intro h;cases h),fun hn p hp=>?_,fun hn=>⟨g,0,rfl,fun i hi=>?_⟩⟩
   · cases hp;exact .inr ⟨_,_,hh⟩
   obtain⟨e1,e2,e3⟩:=zjy hs.1 hi;obtain⟨a,n,c,h1,h2⟩:=hs.2 i hi;rw[h1] at e3;have c1:=ho2.cells (g:=g) rfl _ _ e1;have c2:=ho2.cells (g:=g) rfl _ _ e2;have c3:=ho2.cells (g:=g) rfl _ _ e3;rw[yk] at c1 c2 c3;exact⟨c1,by rw[Nat.add_assoc];exact c2,a,n,c,by rw[Nat.add_assoc];exact c3,h2.raise (Nat.zero_le _)⟩
def yi (ss:List (Value×Value)):List Value:=ss.flatMap fun p=>[p.1,p.2]
theorem zhq (ss ts:List (Value×Value)):yi (ss++ts)=yi ss++yi ts:=by simp[yi]
theorem zf0:∀{ss:List (Value×Value)} {i:Nat} {p:Value×Value},ss[i]?=some p→(yi ss)[i*2]?=some p.1∧(yi ss)[i*2+1]?=some p.2
 | [],i,p,h=>by simp at h
 | s :: ss,0,p,h=>by simp at h;subst h;exact⟨rfl,rfl⟩
 | s :: ss,i+1,p,h=>by
   have:=zf0 (ss:=ss) (i:=i) (p:=p) (by simpa using h);have e1:yi (s :: ss)=s.1 :: s.2 :: yi ss:=rfl;rw[e1,show (i+1)*2=i*2+1+1 by omega,show i*2+1+1+1=(i*2+1)+1+1 by omega];simpa using this
def IvSl (w:World) (base:Nat) (x:Value) (l:List Iv):Prop:=∃a n c,x=.slice a n c∧IvsT w base a n c l
def EnSl (w:World) (base:Nat) (x:Value) (v:Vec):Prop:=∃a n c,x=.slice a n c∧EntsT w base a n c v
theorem IvSl.steady {w w':World} {base:Nat} {P:TypeId→Prop} {x:Value} {l:List Iv} (h:IvSl w base x l) (hs:Steady base P w w') (h1:P 89):IvSl w' base x l:=
 let ⟨a,n,c,e,h⟩:=h;⟨a,n,c,e,h.steady hs h1⟩
theorem EnSl.steady {w w':World} {base:Nat} {P:TypeId→Prop} {x:Value} {v:Vec} (h:EnSl w base x v) (hs:Steady base P w w') (h1:P 89) (h2:P 93):EnSl w' base x v:=
 let ⟨a,n,c,e,h⟩:=h;⟨a,n,c,e,h.steady hs h1 h2⟩
theorem IvSl.raise {w:World} {base base':Nat} {x:Value} {l:List Iv} (h:IvSl w base x l) (hb:base≤base'):IvSl w base' x l:=
 let ⟨a,n,c,e,h⟩:=h;⟨a,n,c,e,h.raise hb⟩
theorem EnSl.raise {w:World} {base base':Nat} {x:Value} {v:Vec} (h:EnSl w base x v) (hb:base≤base'):EnSl w base' x v:=
 let ⟨a,n,c,e,h⟩:=h;⟨a,n,c,e,h.raise hb⟩
def PartsT (w:World) (base:Nat) (k:Kno) (ss:List (Value×Value)):Prop:=ss.length=k.length∧∀i,i<k.length→∃p,ss[i]?=some p∧IvSl w base p.1 (zb k i).1∧EnSl w base p.2 (zb k i).2
theorem PartsT.steady {w w':World} {base:Nat} {P:TypeId→Prop} {k:Kno} {ss:List (Value×Value)} (h:PartsT w base k ss) (hs:Steady base P w w') (h1:P 89) (h2:P 93):PartsT w' base k ss:=
 ⟨h.1,fun i hi=>let ⟨p,e,h3,h4⟩:=h.2 i hi;⟨p,e,h3.steady hs h1,h4.steady hs h1 h2⟩⟩
theorem PartsT.raise {w:World} {base base':Nat} {k:Kno} {ss:List (Value×Value)} (h:PartsT w base k ss) (hb:base≤base'):PartsT w base' k ss:=
 ⟨h.1,fun i hi=>let ⟨p,e,h3,h4⟩:=h.2 i hi;⟨p,e,h3.raise hb,h4.raise hb⟩⟩
theorem zxi (w:World) (base:Nat):PartsT w base [] []:=⟨rfl,fun i hi=>by simp at hi⟩
theorem zxj {k j:Kno} {i:Nat} (h:i<k.length):zb (k++j) i=zb k i:=by
 rw[ym (by rw[List.length_append];omega),ym h,List.getElem_append_left h]
theorem zxk {k j:Kno} {i:Nat} (h:i<j.length):zb (k++j) (k.length+i)=zb j i:=by
 rw[ym (by rw[List.length_append];omega),ym h,List.getElem_append_right (by omega)];simp
theorem PartsT.append {w:World} {base:Nat} {k j:Kno} {ss ts:List (Value×Value)} (h:PartsT w base k ss) (h':PartsT w base j ts):PartsT w base (k++j) (ss++ts):=by
 refine⟨by simp[h.1,h'.1],fun i hi=>?_⟩;by_cases hv:i<k.length
 · obtain⟨p,e,h1,h2⟩:=h.2 i hv;refine⟨p,by rw[List.getElem?_append_left (by rw[h.1];exact hv)];exact e,?_⟩;rw[zxj hv];exact⟨h1,h2⟩
 · obtain⟨d,rfl⟩:∃d,i=k.length+d:=⟨i - k.length,by omega⟩;have hd:d<j.length:=by rw[List.length_append] at hi;omega
   obtain⟨p,e,h1,h2⟩:=h'.2 d hd;refine⟨p,by rw[List.getElem?_append_right (by rw[h.1];omega),h.1,Nat.add_sub_cancel_left];exact e,?_⟩;rw[zxk hd];exact⟨h1,h2⟩
theorem zo8 {w:World} {base:Nat} {f:Frg} {x y:Value} (h1:IvSl w base x f.1) (h2:EnSl w base y f.2):PartsT w base [f] [(x,y)]:=
 ⟨rfl,fun i hi=>by obtain rfl:i=0:=by simpa using hi
                   exact⟨(x,y),rfl,h1,h2⟩⟩
theorem PartsT.take {w:World} {base:Nat} {k:Kno} {ss:List (Value×Value)} (h:PartsT w base k ss) (n:Nat):PartsT w base (k.take n) (ss.take n):=by
 refine⟨by simp[h.1],fun i hi=>?_⟩;have hi2:i<k.length∧i<n:=by rw[List.length_take] at hi;omega
 obtain⟨p,e,h1⟩:=h.2 i hi2.1;refine⟨p,by rw[List.getElem?_take,if_pos hi2.2];exact e,?_⟩;have:zb (k.take n) i=zb k i:=by rw[ym hi,ym hi2.1,List.getElem_take]
 rw[this];exact h1
theorem PartsT.drop {w:World} {base:Nat} {k:Kno} {ss:List (Value×Value)} (h:PartsT w base k ss) (n:Nat):PartsT w base (k.drop n) (ss.drop n):=by
 refine⟨by simp[h.1],fun i hi=>?_⟩;have hi2:n+i<k.length:=by rw[List.length_drop] at hi;omega
 obtain⟨p,e,h1⟩:=h.2 (n+i) hi2;refine⟨p,by rw[List.getElem?_drop];exact e,?_⟩;have:zb (k.drop n) i=zb k (n+i):=by rw[ym hi,ym hi2,List.getElem_drop]
 rw[this];exact h1
theorem PartsT.set {w:World} {base:Nat} {k:Kno} {ss:List (Value×Value)} {n:Nat} {f:Frg} {x y:Value} (h:PartsT w base k ss) (h1:IvSl w base x f.1) (h2:EnSl w base y f.2):PartsT w base (k.set n f) (ss.set n (x,y)):=by
 refine⟨by simp[h.1],fun i hi=>?_⟩;have hi':i<k.length:=by simpa using hi
 obtain⟨p,e,h3⟩:=h.2 i hi';by_cases e:n=i
 · subst e;refine⟨(x,y),by rw[List.getElem?_set_self (by rw[h.1];exact hi')],?_⟩;have:zb (k.set n f) n=f:=by rw[ym hi];simp
   rw[this];exact⟨h1,h2⟩
 · refine⟨p,by rw[List.getElem?_set_ne e];assumption,?_⟩;have:zb (k.set n f) i=zb k i:=by rw[ym hi,ym hi',List.getElem_set_ne e]
   rw[this];exact h3
def OwnK (w:World) (base inner:Nat) (x:Value) (k:Kno):Prop:=∃ss,w.ownsRow base 97 2 x k.length (yi ss)∧PartsT w inner k ss
theorem zo9 (w:World) (base inner:Nat):OwnK w base inner (.slice none 0 0) []:=⟨[],World.ownsRow_nil ..,zxi w inner⟩
def zai (T:TypeId):Prop:=T=89∨T=93∨T=97
theorem zd6 {w w':World} {base inner sz n:Nat} {P:TypeId→Prop} {T:TypeId} {x:Value} {xs:List Value} (ho:w.ownsRow base T sz x n xs) (hs:Steady inner P w w') (h1:P T):w'.ownsRow base T sz x n xs:=by
 refine⟨ho.1,?_⟩;rcases ho.2 with h' | ⟨g,cap,cur,hv,hg,hr,rest⟩
 · exact .inl h'
 · exact .inr ⟨g,cap,cur,hv,hg,(hs.row g (Array.getElem?_eq_some_iff.1 hr).1 (.inr ⟨_,_,_,h1,hr⟩)).trans hr,rest⟩
theorem OwnK.steady {w w':World} {base inner:Nat} {P:TypeId→Prop} {x:Value} {k:Kno} (h:OwnK w base inner x k) (hs:Steady inner P w w') (h1:P 89) (h2:P 93) (h3:P 97):OwnK w' base inner x k:=
 let ⟨ss,ho,hh⟩:=h;⟨ss,zd6 ho hs h3,hh.steady hs h1 h2⟩
theorem OwnK.below {w w':World} {base inner:Nat} {x:Value} {k:Kno} (h:OwnK w base inner x k) (hb:Below w.heap.size w w'):OwnK w' base inner x k:=
 h.steady (P:=fun _=>True) (.of_below hb) trivial trivial trivial
theorem OwnK.lower {w:World} {base base' inner:Nat} {x:Value} {k:Kno} (h:OwnK w base inner x k) (hb:base'≤base):OwnK w base' inner x k:=
 let ⟨ss,ho,hh⟩:=h;⟨ss,vz ho hb,hh⟩
theorem OwnK.raise {w:World} {base inner inner':Nat} {x:Value} {k:Kno} (h:OwnK w base inner x k) (hb:inner≤inner'):OwnK w base inner' x k:=
 let ⟨ss,ho,hh⟩:=h;⟨ss,ho,hh.raise hb⟩
theorem OwnK.frags {w:World} {base inner:Nat} {x:Value} {k:Kno} (h:OwnK w base inner x k):∃a c,x=.slice a k.length c∧Frags w a k.length c k:=by
 obtain⟨ss,ho,hs⟩:=h;have ho2:=ho;rcases ho.2 with ⟨rfl,h0⟩ | ⟨g,cap,cur,rfl,hg,hh,hnc,hcm,_⟩
 · rw[h0];have:k=[]:=List.length_eq_zero_iff.1 h0;subst this;exact⟨none,0,rfl,zey w⟩
 · refine⟨_,_,rfl,rfl,hnc,by unfold maxLen at hcm;omega,(by intro h;cases h),fun hn=>⟨g,0,rfl,fun i hi=>?_⟩⟩;obtain⟨p,e,⟨a1,n1,m1,p1,i1⟩,⟨a2,n2,m2,p2,i2⟩⟩:=hs.2 i hi;obtain⟨e1,e2⟩:=zf0 e;rw[p1] at e1;rw[p2] at e2;have c1:=ho2.cells (g:=g) rfl _ _ e1;have c2:=ho2.cells (g:=g) rfl _ _ e2;rw[yk] at c1 c2;exact⟨⟨a1,n1,m1,c1,i1.ivs⟩,⟨a2,n2,m2,by rw[Nat.add_assoc];exact c2,i2.ents⟩⟩
theorem Tryz.info_frg:(Tryz.prog.info? 97).map (fun i=>(i.zero,i.size,i.bytes))=some (some (.agg #[.slice none 0 0,.slice none 0 0]),2,48):=by kernel_rfl
theorem PartsT.one {w:World} {base:Nat} {k:Kno} {ss:List (Value×Value)} (h:PartsT w base k ss):∀u∈yi ss,u.oneCell'=true:=by
 intro u hu;simp only[yi,List.mem_flatMap] at hu;obtain⟨p,hp,hu⟩:=hu;obtain⟨i,hi,rfl⟩:=List.getElem_of_mem hp;obtain⟨q,e,⟨_,_,_,h1,_⟩,⟨_,_,_,h2,_⟩⟩:=h.2 i (by rw[←h.1];exact hi);rw[List.getElem?_eq_getElem hi] at e;cases e;simp only[List.mem_cons,List.not_mem_nil,or_false] at hu;rcases hu with rfl | rfl
 · rw[h1];rfl
 · rw[h2];rfl
theorem zxl {w:World} (base inner:Nat) (x:Value) (k j:Kno) (hown:OwnK w base inner x k) (ts:List (Value×Value)) (hp:PartsT w inner j ts) (A:Option Addr) (cA:Nat)
 (hr:Rd w 2 A j.length (yi ts)) (hb:k.length+j.length≤1000000) (hbase:base≤w.heap.size) (hin:inner≤base):
 ∃x' w',(Builtin.append_ #[27,27] 27 #[x,.slice A j.length cA]).run Tryz.prog w=.ok x' w'∧OwnK w' base inner x' (k++j)∧w.grownBy w' x.ownBlock∧Steady base zag w w':=by
 obtain⟨ss,ho,hh⟩:=hown;obtain⟨x',w',h1,h2,h3⟩:=zbi base _ _ _ _ 2 48 Tryz.underlying27 Tryz.info_frg rfl (by omega) x k.length _ ho A j.length cA _ hr hp.one (by unfold maxLen;omega) (by omega) hbase;have hs:Steady base zag w w':=.grown ho h3 (by rintro(h | h) <;> cases h);refine⟨x',w',h1,⟨ss++ts,?_,(hh.append hp).steady (hs.lower hin) (.inl rfl) (.inr rfl)⟩,h3,hs⟩;rw[zhq,List.length_append];exact h2
end
section
open Go.RowKit
def Row (w:World) (g:Nat) (T:TypeId) (C:List Value):Prop:=w.heap[g]?=some (.cells C.toArray T)
theorem Row.lt {w:World} {g:Nat} {T:TypeId} {C:List Value} (h:Row w g T C):g<w.heap.size:=(Array.getElem?_eq_some_iff.1 h).1
theorem Row.cell {w:World} {g:Nat} {T:TypeId} {C:List Value} (h:Row w g T C) (i:Nat) {v:Value} (hv:C[i]?=some v):w.cell? ⟨g,i,none⟩=some v:=by
 unfold Row at h;simp[World.cell?,h,hv]
theorem Row.fz {w:World} {g:Nat} {T:TypeId} {C:List Value} (h:Row w g T C) (i:Nat):w.frozen? ⟨g,i,none⟩=false:=by
 unfold Row at h;simp[World.frozen?,h]
theorem Row.set {w:World} {g:Nat} {T:TypeId} {C:List Value} (h:Row w g T C) (i:Nat) (v:Value):Row (w.setCell ⟨g,i,none⟩ v) g T (C.set i v):=by
 have:=heap_setCell_same w g i C.toArray T v h;unfold Row;rw[this];simp
theorem Row.same {w w':World} {g:Nat} {T:TypeId} {C:List Value} (h:Row w g T C) (hk:w'.heap[g]?=w.heap[g]?):Row w' g T C:=hk.trans h
theorem Row.other {w:World} {g:Nat} {T:TypeId} {C:List Value} (h:Row w g T C) {a:Addr} (ha:g≠a.block) (v:Value):Row (w.setCell a v) g T C:=h.same (heap_setCell_other w a g v ha)
theorem Row.below {w w':World} {g n:Nat} {T:TypeId} {C:List Value} (h:Row w g T C) (hb:Below n w w') (hg:g<n):Row w' g T C:=h.same (hb.block g hg)
theorem Row.later {w w':World} {g:Nat} {T:TypeId} {C:List Value} (h:Row w g T C) (hb:Below w.heap.size w w'):Row w' g T C:=h.below hb h.lt
theorem Row.grown {w w':World} {g:Nat} {T:TypeId} {C:List Value} {r:Option Nat} (h:Row w g T C) (hg:w.grownBy w' r) (hr:some g≠r):Row w' g T C:=h.same (hg.block g h.lt hr)
theorem Row.drew {w:World} {g:Nat} {T:TypeId} {C:List Value} (h:Row w g T C) (n:Nat):Row (w.drewN n) g T C:=h
theorem ju (w:World) (T:TypeId) (C:List Value):Row (w.alloc (.cells C.toArray T)) w.heap.size T C:=heap_alloc_new w _
theorem Row.steady {w w':World} {base g:Nat} {T:TypeId} {C:List Value} {P:TypeId→Prop} (h:Row w g T C) (hs:Steady base P w w') (hT:P T∨g<base):Row w' g T C:=
 h.same (hs.row g h.lt (hT.symm.imp id fun hP=>⟨_,_,_,hP,h⟩))
theorem kd (w:World) (g i:Nat) (v:Value):w.grownBy (w.setCell ⟨g,i,none⟩ v) (some g):=
 ⟨rfl,rfl,rfl,by simp,fun k hk hne=>heap_setCell_other w ⟨g,i,none⟩ k v (fun e=>hne (by simp[e]))⟩
theorem jk (w:World) (r:Option Nat):w.grownBy w r:=⟨rfl,rfl,rfl,Nat.le_refl _,fun _ _ _=>rfl⟩
theorem zxm {w w':World} {r:Option Nat} (h:w.grownBy w' r) (n:Nat):w.grownBy (w'.drewN n) r:=⟨h.os,h.tape,h.output,h.size,h.block⟩
theorem zxn {w w':World} {r:Option Nat} (h:w.grownBy w' r) (o:Obj):w.grownBy (w'.alloc o) r:=
 ⟨h.os,h.tape,h.output,by have:=h.size;simp;omega,fun k hk hne=>(Below.heap_alloc _ _ _ (Nat.lt_of_lt_of_le hk h.size)).trans (h.block k hk hne)⟩
theorem ji {w w' w2:World} {r:Option Nat} (h:w.grownBy w' r) (hb:Below w'.heap.size w' w2):w.grownBy w2 r:=
 yr h ⟨hb.os,hb.tape,hb.output,hb.size,fun k hk _=>hb.block k hk⟩
theorem zn {w w':World} {r:Option Nat} (h:w.grownBy w' r) {a:Addr} (v:Value) (ha:w.heap.size≤a.block∨some a.block=r):w.grownBy (w'.setCell a v) r:=
 ⟨h.os,h.tape,h.output,by simpa using h.size,fun k hk hne=>(heap_setCell_other w' a k v (fun e=>by
  rcases ha with h' | h'
  · omega
  · exact hne (by rw[←h',e]))).trans (h.block k hk hne)⟩
theorem zxo {base:Nat} {f:Ent} {x:Ending} {w':World} (h:zha base (some f) x w') (hl:zk f.2.2):∃a c,x=.returned (.tuple #[zbm f (.slice a f.2.2.length c),.bool true])∧∀b,IvsT w' b a f.2.2.length c f.2.2:=by
 obtain⟨s,rfl,ho⟩:=h;obtain⟨a,c,rfl,h0⟩:=zda (base':=0) ho hl;exact⟨a,c,rfl,fun b=>h0.raise (Nat.zero_le _)⟩
theorem Frags.fix {w:World} {b o n cap:Nat} {k:Kno} (h:Frags w (some ⟨b,o,none⟩) n cap k) {i:Nat} (hi:i<n):∃x m c y m' c',∀w',Below w.heap.size w w'→
 w'.cell? ⟨b,o+i*2,none⟩=some (.slice x m c)∧Ivs w' x m c (zb k i).1∧w'.cell? ⟨b,o+i*2+1,none⟩=some (.slice y m' c')∧Ents w' y m' c' (zb k i).2:=by
 obtain⟨b',o',hs,hc⟩:=h.cells (by omega);cases hs;obtain⟨⟨x,m,c,h1,h2⟩,⟨y,m',c',h3,h4⟩⟩:=hc i hi;exact⟨x,m,c,y,m',c',fun w' hb=>⟨(hb.cell (p:=⟨b,o+i*2,none⟩) (zh h1)).trans h1,h2.below hb,(hb.cell (p:=⟨b,o+i*2+1,none⟩) (zh h3)).trans h3,h4.below hb⟩⟩
theorem Frags.some {w:World} {a:Option Addr} {n cap:Nat} {k:Kno} (h:Frags w a n cap k) (hn:0<n):∃b o,a=some ⟨b,o,none⟩:=by
 obtain⟨b,o,ha,-⟩:=h.cells hn;exact⟨b,o,ha⟩
