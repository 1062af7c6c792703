/- Part 03. -/
import Derived.Test.YtdnipikdddfhfaaGreatDoorSa02
set_option linter.unusedVariables false
set_option maxHeartbeats 16000000
namespace Go.Proofs.YtdnipikdddfhfaaGreatDoor
open Lib (hid)
section
open Go.RowKit Go.Extern.Stop Go.Stop Go.Extern
theorem zqc (t:Value) (w:World):Calls Tryz.prog 61 #[.nilIface,t] w fun e w'=>e=.returned (.bool false)∧w=w':=by
 go_enter Tryz.func61,Tryz.ntmps61;go_wp2;go_ret;exact⟨rfl,rfl⟩
theorem zgj (u:TypeId) (x:Value) (t:Addr) (w:World) (hD:Door w) (ht:t.block<w.heap.size) (Q:Ending→World→Prop)
 (h:∀(w1:World) (A:Addr),Below w.heap.size w w1→w1.cell? A=some (.pointer (some t))→w.heap.size≤A.block→
   Calls Tryz.prog 105 #[.iface u x,.iface 111 (.pointer (some t)),.agg #[.pointer (some ⟨1,111,none⟩),.pointer (some A),.int .u64 150],.iface 229 (.agg #[.pointer (some ⟨1,35,none⟩)])] w1 fun e w'=>∃b,e=.returned (.bool b)∧Q e w'):
 Calls Tryz.prog 61 #[.iface u x,.iface 111 (.pointer (some t))] w Q:=by
 have hVO:=@run_callFunc_extern Tryz.prog 102 _ (fun args=>ReflectliteValue.unpack (args.getD 0 (.tuple #[]))) Tryz.func102 (by kernel_rfl) (by kernel_rfl) (by kernel_rfl) (by kernel_rfl);have hTy:=@run_callFunc_extern Tryz.prog 103 _ (ReflectliteValue.methodAny (ReflectliteValue.valueError "reflectlite.Value.Type" 0) (fun t _ _ _=>ReflectliteType.toType t)) Tryz.func103 (by kernel_rfl) (by kernel_rfl) (by kernel_rfl) (by kernel_rfl);have hIN:=@run_callFunc_extern Tryz.prog 104 _ (ReflectliteValue.method (ReflectliteValue.valueError "reflectlite.Value.IsNil" 0) ReflectliteValue.isNil) Tryz.func104 (by kernel_rfl) (by kernel_rfl) (by kernel_rfl) (by kernel_rfl);have hKi:=@run_callFunc_extern Tryz.prog 319 _ (ReflectliteType.abiMethod fun t=>do pure (.int .u8 (←Rtype.kind t))) Tryz.func319 (by kernel_rfl) (by kernel_rfl) (by kernel_rfl) (by kernel_rfl);have hEl:=@run_callFunc_extern Tryz.prog 337 _ (ReflectliteType.method ReflectliteType.elem) Tryz.func337 (by kernel_rfl) (by kernel_rfl) (by kernel_rfl) (by kernel_rfl);have hIm:=@run_callFunc_extern Tryz.prog 338 _ (ReflectliteType.relation "Implements" ReflectliteType.implements_) Tryz.func338 (by kernel_rfl) (by kernel_rfl) (by kernel_rfl) (by kernel_rfl);have f6:=Tryz.valueOfPE;have f7:=Tryz.typePE;have mK:=Tryz.methodKind;have mE:=Tryz.methodElem;have mI:=Tryz.methodImplements;have k27:=Tryz.kindPE;have k25:=Tryz.kindE;have e27:=Tryz.elemPE;have i25:=Tryz.implementsE;have n8:=Tryz.isNilPE ⟨w.heap.size,0,none⟩ t ((w.alloc (.cells #[.pointer (some t)] 111)).alloc (.cells #[.pointer (some ⟨1,111,none⟩),.pointer (some ⟨w.heap.size,0,none⟩),.int .u64 150] 179)) (by simp);have hlt:0<w.heap.size:=zd hD
 have hg2:((w.alloc (.cells #[.pointer (some t)] 111)).alloc (.cells #[.pointer (some ⟨1,111,none⟩),.pointer (some ⟨w.heap.size,0,none⟩),.int .u64 150] 179)).cell? ⟨0,0,none⟩=some (.iface 229 (.agg #[.pointer (some ⟨1,29,none⟩)])):=by
  rw[World.cell?_alloc_lt _ _ ⟨0,0,none⟩ (by simp only[World.size_alloc];omega),World.cell?_alloc_lt _ _ ⟨0,0,none⟩ hlt];exact hD
 have H:=hid (h ((w.alloc (.cells #[.pointer (some t)] 111)).alloc (.cells #[.pointer (some ⟨1,111,none⟩),.pointer (some ⟨w.heap.size,0,none⟩),.int .u64 150] 179)) ⟨w.heap.size,0,none⟩
  (((Below.refl _ _).alloc (Nat.le_refl _) _).alloc (by simp only[World.size_alloc];omega) _) (by simp) (Nat.le_refl _))
 clear h hD;go_enter Tryz.func61,Tryz.ntmps61;go_wp2_with fail;refine H.out.mono ?_;rintro e w' ⟨b,rfl,hq⟩;have Hq:=hid hq;clear hq H;go_wp2_with fail;exact Hq.out
theorem zgk (u:TypeId) (x:Value) (t:Addr) (w:World) (hD:Door w) (ht:t.block<w.heap.size) (Q:Ending→World→Prop)
 (h:∀(w1:World) (A:Addr),Below w.heap.size w w1→w1.cell? A=some (.pointer (some t))→w.heap.size≤A.block→
   Calls Tryz.prog 105 #[.iface u x,.iface 188 (.pointer (some t)),.agg #[.pointer (some ⟨1,188,none⟩),.pointer (some A),.int .u64 150],.iface 229 (.agg #[.pointer (some ⟨1,112,none⟩)])] w1 fun e w'=>∃b,e=.returned (.bool b)∧Q e w'):
 Calls Tryz.prog 61 #[.iface u x,.iface 188 (.pointer (some t))] w Q:=by
 have hVO:=@run_callFunc_extern Tryz.prog 102 _ (fun args=>ReflectliteValue.unpack (args.getD 0 (.tuple #[]))) Tryz.func102 (by kernel_rfl) (by kernel_rfl) (by kernel_rfl) (by kernel_rfl);have hTy:=@run_callFunc_extern Tryz.prog 103 _ (ReflectliteValue.methodAny (ReflectliteValue.valueError "reflectlite.Value.Type" 0) (fun t _ _ _=>ReflectliteType.toType t)) Tryz.func103 (by kernel_rfl) (by kernel_rfl) (by kernel_rfl) (by kernel_rfl);have hIN:=@run_callFunc_extern Tryz.prog 104 _ (ReflectliteValue.method (ReflectliteValue.valueError "reflectlite.Value.IsNil" 0) ReflectliteValue.isNil) Tryz.func104 (by kernel_rfl) (by kernel_rfl) (by kernel_rfl) (by kernel_rfl);have hKi:=@run_callFunc_extern Tryz.prog 319 _ (ReflectliteType.abiMethod fun t=>do pure (.int .u8 (←Rtype.kind t))) Tryz.func319 (by kernel_rfl) (by kernel_rfl) (by kernel_rfl) (by kernel_rfl);have hEl:=@run_callFunc_extern Tryz.prog 337 _ (ReflectliteType.method ReflectliteType.elem) Tryz.func337 (by kernel_rfl) (by kernel_rfl) (by kernel_rfl) (by kernel_rfl);have hIm:=@run_callFunc_extern Tryz.prog 338 _ (ReflectliteType.relation "Implements" ReflectliteType.implements_) Tryz.func338 (by kernel_rfl) (by kernel_rfl) (by kernel_rfl) (by kernel_rfl);have f6:=Tryz.valueOfPF;have f7:=Tryz.typePF;have mK:=Tryz.methodKind;have mE:=Tryz.methodElem;have mI:=Tryz.methodImplements;have k27:=Tryz.kindPF;have k25:=Tryz.kindF;have e27:=Tryz.elemPF;have i25:=Tryz.implementsF;have n8:=Tryz.isNilPF ⟨w.heap.size,0,none⟩ t ((w.alloc (.cells #[.pointer (some t)] 188)).alloc (.cells #[.pointer (some ⟨1,188,none⟩),.pointer (some ⟨w.heap.size,0,none⟩),.int .u64 150] 179)) (by simp);have hlt:0<w.heap.size:=zd hD
 have hg2:((w.alloc (.cells #[.pointer (some t)] 188)).alloc (.cells #[.pointer (some ⟨1,188,none⟩),.pointer (some ⟨w.heap.size,0,none⟩),.int .u64 150] 179)).cell? ⟨0,0,none⟩=some (.iface 229 (.agg #[.pointer (some ⟨1,29,none⟩)])):=by
  rw[World.cell?_alloc_lt _ _ ⟨0,0,none⟩ (by simp only[World.size_alloc];omega),World.cell?_alloc_lt _ _ ⟨0,0,none⟩ hlt];exact hD
 have H:=hid (h ((w.alloc (.cells #[.pointer (some t)] 188)).alloc (.cells #[.pointer (some ⟨1,188,none⟩),.pointer (some ⟨w.heap.size,0,none⟩),.int .u64 150] 179)) ⟨w.heap.size,0,none⟩
  (((Below.refl _ _).alloc (Nat.le_refl _) _).alloc (by simp only[World.size_alloc];omega) _) (by simp) (Nat.le_refl _))
 clear h hD;go_enter Tryz.func61,Tryz.ntmps61;go_wp2_with fail;refine H.out.mono ?_;rintro e w' ⟨b,rfl,hq⟩;have Hq:=hid hq;clear hq H;go_wp2_with fail;exact Hq.out
end
section
abbrev Ent:=Nat×Nat×List Iv
abbrev Vec:=List Ent
abbrev Frg:=List Iv×Vec
abbrev Kno:=List Frg
abbrev yi (l:List Iv):Prop:=∀t∈l,t.1<18446744073709551616∧t.2<18446744073709551616
def zbt:List Nat→Nat→List Nat
 | [],x=>[x]
 | a :: l,x=>if x<a then x :: a :: l else if x=a then a :: l else a :: zbt l x
theorem zgl:∀{l:List Nat} {x y:Nat},y∈zbt l x↔y∈l∨y=x
 | [],x,y=>by simp[zbt]
 | a :: l,x,y=>by
   rw[zbt];split
   · simp only[List.mem_cons];constructor
     · rintro(h | h | h)
       · exact .inr h
       · exact .inl (.inl h)
       · exact .inl (.inr h)
     · rintro((h | h) | h)
       · exact .inr (.inl h)
       · exact .inr (.inr h)
       · exact .inl h
   · split
     · rename_i h;subst h;simp only[List.mem_cons];constructor
       · exact .inl
       · rintro(h | h)
         · exact h
         · exact .inl h
     · simp only[List.mem_cons,zgl (l:=l)];constructor
       · rintro(h | h | h)
         · exact .inl (.inl h)
         · exact .inl (.inr h)
         · exact .inr h
       · rintro((h | h) | h)
         · exact .inl h
         · exact .inr (.inl h)
         · exact .inr (.inr h)
theorem zjj:∀{l:List Nat} {x:Nat},Asc l→Asc (zbt l x)
 | [],x,_=>trivial
 | a :: l,x,h=>by
   rw[zbt];split
   · rename_i hx
     exact zit (fun y hy=>by
      rcases List.mem_cons.1 hy with rfl | hy
      · exact hx
      · have:=h.lower y hy;omega) h
   · split
     · exact h
     · refine zit (fun y hy=>?_) (zjj h.tail);rcases zgl.1 hy with hy | rfl
       · exact h.lower y hy
       · omega
def zqd (l:List Nat):List Nat:=l.foldl zbt []
structure LtE (e:Ent):Prop where
 rep:e.1<18446744073709551616
 max:e.2.1<18446744073709551616
 holes:yi e.2.2
theorem zqe {a b:Nat} (ha:a<18446744073709551616) (hb:b<18446744073709551616):yi [(a,b)]:=by
 intro t ht;simp at ht;subst ht;exact⟨ha,hb⟩
structure CanE (e:Ent):Prop where
 good:Good e.2.2
 below:∀s∈e.2.2,s.2≤e.2.1
 top:mem e.2.2 e.2.1=false
def zf (k:Kno) (i:Nat):Frg:=k.getD i ([],[])
theorem yw {k:Kno} {i:Nat} (h:i<k.length):zf k i=k[i]:=by simp[zf,h]
theorem j8 {k:Kno} {i:Nat} (h:i<k.length):zf k i∈k:=by rw[yw h];exact List.getElem_mem h
def vr (k:Kno) (x:Nat):List Nat:=(List.range k.length).filter fun i=>mem (zf k i).1 x
def zez (k:Kno):List Nat:=zqd (zpi (k.map (·.1)))
def zdv (k:Kno):List Nat:=(zez k).filter fun x=>decide (x=0) || decide (vr k (x - 1)≠vr k x)
theorem zqf {k:Kno} {y:Nat}:y∈zdv k↔y∈zez k∧(y=0∨vr k (y - 1)≠vr k y):=by
 unfold zdv;rw[List.mem_filter,Bool.or_eq_true,decide_eq_true_iff,decide_eq_true_iff]
end
section
open Go.RowKit
def zac (k:Kno) (x d:Nat):List Nat:=(List.range d).filter fun i=>mem (zf k i).1 x
theorem zjk (k:Kno) (x d:Nat):zac k x (d+1)=zac k x d++(if mem (zf k d).1 x=true then [d] else []):=by
 unfold zac;rw[List.range_succ,List.filter_append];congr 1;by_cases h:mem (zf k d).1 x=true
 · simp[h]
 · simp[h]
theorem zqg (k:Kno) (x d:Nat):(zac k x d).length≤d:=by
 have:=List.length_filter_le (fun i=>mem (zf k i).1 x) (List.range d);simpa [zac] using this
end
section
def qq:List Nat→List Nat→Int
 | [],[]=>0
 | [],_ :: _=> -1
 | _ :: _,[]=>1
 | a :: l,b :: m=>if a<b then -1 else if b<a then 1 else qq l m
theorem zjl:∀(l:List Nat),qq l l=0
 | []=>rfl
 | a :: l=>by rw[qq,if_neg (Nat.lt_irrefl _),if_neg (Nat.lt_irrefl _),zjl l]
theorem zjm:∀(a b:List Nat),qq a b= -1∨qq a b=0∨qq a b=1
 | [],[]=>.inr (.inl rfl)
 | [],_ :: _=>.inl rfl
 | _ :: _,[]=>.inr (.inr rfl)
 | a :: l,b :: m=>by
   rw[qq];split
   · exact .inl rfl
   · split
     · exact .inr (.inr rfl)
     · exact zjm l m
theorem zjn:∀{a b c:List Nat},qq a b= -1→qq b c= -1→qq a c= -1
 | [],[],_,h,_=>by simp[qq] at h
 | [],_ :: _,[],_,h=>by simp[qq] at h
 | [],_ :: _,_ :: _,_,_=>rfl
 | _ :: _,[],_,h,_=>by simp[qq] at h
 | _ :: _,_ :: _,[],_,h=>by simp[qq] at h
 | a :: l,b :: m,c :: n,h1,h2=>by
   rw[qq] at h1 h2 ⊢;split at h1
   · split at h2
     · rw[if_pos (by omega)]
     · split at h2
       · cases h2
       · rw[if_pos (by omega)]
   · split at h1
     · cases h1
     · split at h2
       · rw[if_pos (by omega)]
       · split at h2
         · cases h2
         · rw[if_neg (by omega),if_neg (by omega),zjn h1 h2]
def qh (l:List Iv):List Nat:=l.flatMap fun s=>[s.1,s.2]
def qy (e:Ent):List Nat:=e.1 :: e.2.1 :: e.2.2.length :: qh e.2.2
def zh (v:Vec):List Nat:=v.length :: v.flatMap qy
def jl (a b:Vec):Int:=qq (zh a) (zh b)
theorem zjo (a:Vec):jl a a=0:=zjl _
theorem zgm (a b:Vec):jl a b= -1∨jl a b=0∨jl a b=1:=zjm _ _
theorem zqh {a b c:Vec} (h1:jl a b= -1) (h2:jl b c= -1):jl a c= -1:=zjn h1 h2
def zdw (e f:Ent):Prop:=e.1<f.1
structure CanV (v:Vec):Prop where
 asc:v.Pairwise zdw
 ent:∀e∈v,CanE e
def zdx (f g:Frg):Prop:=jl f.2 g.2= -1
structure CanK (k:Kno):Prop where
 items:∀f∈k,Good f.1∧f.1≠[]
 vec:∀f∈k,CanV f.2∧f.2≠[]
 apart:∀f∈k,∀g∈k,∀x,mem f.1 x=true→mem g.1 x=true→f=g
 asc:k.Pairwise zdx
theorem zgn:∀{l:List Iv},(∀i,i<l.length→(zc l i).1≤(zc l i).2∧(0<i→(zc l (i - 1)).2+1<(zc l i).1))→Good l
 | [],_=>trivial
 | [s],h=>(h 0 (by simp)).1
 | s :: t :: l,h=>by
   have h0:=(h 0 (by simp)).1;have h1:=(h 1 (by simp)).2 (by omega);refine⟨h0,h1,zgn fun i hi=>?_⟩;have:=h (i+1) (by simpa using hi);refine⟨this.1,fun hi0=>?_⟩;obtain⟨j,rfl⟩:∃j,i=j+1:=⟨i - 1,by omega⟩;exact this.2 (by omega)
theorem za6:∀{l:List Iv},Good l→∀i,i<l.length→(zc l i).1≤(zc l i).2∧(0<i→(zc l (i - 1)).2+1<(zc l i).1)
 | [],_,i,hi=>by simp at hi
 | [s],h,i,hi=>by
   obtain rfl:i=0:=by simpa using hi
   exact⟨h,by omega⟩
 | s :: t :: l,h,i,hi=>by
   obtain⟨h1,h2,h3⟩:=h
   cases i with
   | zero=>exact⟨h1,by omega⟩
   | succ i=>
    have:=za6 h3 i (by simpa using hi);refine⟨this.1,fun _=>?_⟩
    cases i with
    | zero=>exact h2
    | succ i=>exact this.2 (by omega)
abbrev LtV (v:Vec):Prop:=∀e∈v,LtE e
structure LtF (f:Frg):Prop where
 items:yi f.1
 vec:LtV f.2
 asc:f.2.Pairwise zdw
abbrev LtK (k:Kno):Prop:=∀f∈k,LtF f
theorem zgo {l:List Iv} (h:Good l) {s:Iv} (hs:s∈l):mem l s.1=true∧(s.1=0∨mem l (s.1 - 1)=false):=by
 refine⟨mem_iff.2 ⟨s,hs,Nat.le_refl _,h.ok s hs⟩,?_⟩;by_cases h0:s.1=0
 · exact .inl h0
 · refine .inr ?_;rw[zpb];intro t ht htx;obtain⟨i,hi,rfl⟩:=List.getElem_of_mem hs;obtain⟨j,hj,rfl⟩:=List.getElem_of_mem ht;have hgi:=za6 h i hi;have hgj:=za6 h j hj;rw[qo hi] at hgi;rw[qo hj] at hgj;rcases Nat.lt_trichotomy i j with e | e | e
   · have:=good_mono' h e hj;omega
   · subst e;omega
   · have:=good_mono' h e hi;omega
 where
 good_mono' {l:List Iv} (h:Good l) {i j:Nat} (hij:i<j) (hj:j<l.length):(l[i]'(Nat.lt_trans hij hj)).2+1<(l[j]).1:=by
  induction l generalizing i j with
  | nil=>simp at hj
  | cons s l ih=>
   cases j with
   | zero=>omega
   | succ j=>
    cases i with
    | zero=>exact h.lower _ (List.getElem_mem _)
    | succ i=>exact ih h.tail (by omega) (by simpa using hj)
end
section
open Go.RowKit
abbrev zjp (e:Ent) (s:Value):Value:=.agg #[.int .u64 ((e.1:Nat):Int),.int .u64 ((e.2.1:Nat):Int),s]
structure VecFits (v:Vec):Prop where
 len:v.length≤300
 holes:∀e∈v,e.2.2.length≤500
theorem jm {w:World} {base sz n:Nat} {e:TypeId} {v:Value} {xs:List Value} (ho:w.ownsRow base e sz v n xs):∃a c,v=.slice a n c:=by
 rcases ho.2 with ⟨rfl,rfl⟩ | ⟨g,cap,cur,rfl,_⟩
 · exact⟨_,_,rfl⟩
 · exact⟨_,_,rfl⟩
def Rd (w:World) (sz:Nat) (A:Option Addr) (n:Nat) (xs:List Value):Prop:=
 xs.length=n*sz∧(0<n→∃b o,A=some ⟨b,o,none⟩∧∀j u,xs[j]?=some u→w.cell? ⟨b,o+j,none⟩=some u)
theorem Rd.below {w w':World} {sz n:Nat} {A:Option Addr} {xs:List Value} (h:Rd w sz A n xs) (hb:Below w.heap.size w w'):Rd w' sz A n xs:=
 ⟨h.1,fun hn=>by
  obtain⟨b,o,e,hc⟩:=h.2 hn;refine⟨b,o,e,fun j u hu=>?_⟩;have:=hc j u hu;exact(hb.cell (p:=⟨b,o+j,none⟩) (zd this)).trans this⟩
theorem Rd.own {w:World} {base sz n c:Nat} {e:TypeId} {A:Option Addr} {xs:List Value} (h:w.ownsRow base e sz (.slice A n c) n xs):Rd w sz A n xs:=by
 refine⟨h.1,fun hn=>?_⟩;obtain⟨g,cap,hv,_,hlt⟩:=h.form hn;have hA:A=some ⟨g,0,none⟩:=by injection hv
 subst hA;refine⟨g,0,rfl,fun j u hu=>?_⟩;have:=h.cells (g:=g) rfl j u hu;rwa [qi] at this
theorem Rd.news {w:World} {sz n:Nat} {x:Addr} {xs:List Value} (h:Rd w sz (some x) n xs) (hz:0<sz):∀j u,xs[j]?=some u→w.cell? (x.add j)=some u:=by
 intro j u hu
 have hn:0<n:=by
  refine Nat.pos_of_ne_zero fun h0=>?_
  subst h0;have:xs=[]:=List.eq_nil_of_length_eq_zero (by simpa using h.1);rw[this] at hu;simp at hu
 obtain⟨b,o,e,hc⟩:=h.2 hn;cases e;rw[qi];exact hc j u hu
theorem zqi {P:Program} (w:World) (base:Nat) (t ty e:TypeId) (i:TypeInfo) (size:Nat) (ht:P.underlying t=some (.slice e)) (hi:P.info? e=some i)
 (v:Value) (n:Nat) (xs:List Value) (hown:w.ownsRow base e size v n xs) (c:Nat):(Builtin.append_ #[t,t] ty #[v,.slice none 0 c]).run P w=.ok v w:=by
 rcases hown.2 with ⟨rfl,rfl⟩ | ⟨g,cap,cur,rfl,_,_,hnc,_⟩
 · simp[Builtin.append_,run_underlying ht,sizeOf,typeInfo,hi,Builtin.lenOf,Builtin.firstCells]
 · simp[Builtin.append_,run_underlying ht,sizeOf,typeInfo,hi,Builtin.lenOf,Builtin.firstCells,hnc,storeCells]
theorem zbu {P:Program} {w:World} (base:Nat) (t ty e:TypeId) (z:Value) (size bytes:Nat) (ht:P.underlying t=some (.slice e))
 (hinfo:(P.info? e).map (fun i=>(i.zero,i.size,i.bytes))=some (some z,size,bytes)) (hzs:z.cells.size=size) (hsz:0<size)
 (v:Value) (n:Nat) (xs:List Value) (hown:w.ownsRow base e size v n xs) (A:Option Addr) (m c:Nat) (news:List Value) (hr:Rd w size A m news) (h1:∀u∈news,u.oneCell'=true)
 (hlen:n+m≤maxLen) (hbytes:(n+m)*bytes≤140737488355328) (hbase:base≤w.heap.size):
 ∃v' w',(Builtin.append_ #[t,t] ty #[v,.slice A m c]).run P w=.ok v' w'∧w'.ownsRow base e size v' (n+m) (xs++news)∧w.grownBy w' v.ownBlock:=by
 obtain⟨i,hi,hz,hs,hby⟩:=info_parts hinfo;rcases A with _ | x
 · have hm:m=0:=by
    rcases Nat.eq_zero_or_pos m with h0 | h0
    · exact h0
    · obtain⟨b,o,h,_⟩:=hr.2 h0;cases h
   subst hm;have hn:news=[]:=List.eq_nil_of_length_eq_zero (by simpa using hr.1);subst hn;exact⟨v,w,zqi w base t ty e i size ht hi v n xs hown c,by simpa using hown,World.grownBy.refl w _⟩
 · obtain⟨v',w',hrun,ho,hg,_⟩:=run_append_own (P:=P) w base t ty e i z size bytes ht hi hz hs hby hzs hsz v n xs hown x m c news hr.1 (hr.news hsz) h1 hlen hbytes hbase;exact⟨v',w',hrun,ho,hg⟩
theorem zdy {P:Program} {w:World} {ops:Array Oper} {o:Oper} {a:Act} {K:Act→World→Prop} {Q:Exit→Act→World→Prop} {E:Prop} (hgd:o.guard=none) (s x:Operand) (t:TypeId)
 (ho:o.op=.call { callee:=.builtin .append,args:= #[s,x],argTypes:= #[t,t] })
 (v u:Value) (hs:a.eval s=v) (hx:a.eval x=u) (v':Value) (w':World) (hrun:(Builtin.append_ #[t,t] o.type #[v,u]).run P w=.ok v' w')
 (h:K (a.put o.dst v') w'):if Region.wanted o (yielded ops a.tmps)=true then Oper.wp P o a w K Q else E:=by
 have hw:Region.wanted o (yielded ops a.tmps)=true:=by simp[Region.wanted,hgd]
 rw[if_pos hw];unfold Oper.wp;simp[execOp,ho,resolve,invoke,builtin,hs,hx,hrun,Result.andThen];exact h
structure U64s (w:World) (a:Option Addr) (n cap:Nat) (l:List Nat):Prop where
 len:l.length=n
 lt:∀x∈l,x<18446744073709551616
 room:n≤cap
 most:cap≤9223372036854775807
 nilc:a=none→cap=0
 cells:0<n→∃b o,a=some ⟨b,o,none⟩∧∀i,i<n→w.cell? ⟨b,o+i,none⟩=some (.int .u64 ((nth l i:Nat):Int))
def yb (l:List Nat):List Value:=l.map fun x=>Value.int .u64 ((x:Nat):Int)
theorem zqj (a b:List Nat):yb (a++b)=yb a++yb b:=by simp[yb]
theorem zcz (a:List Nat):(yb a).length=a.length:=by simp[yb]
theorem zdz (l:List Nat) (i:Nat) (h:i<l.length):(yb l)[i]?=some (.int .u64 ((nth l i:Nat):Int)):=by simp[yb,nth,h]
theorem zqk (l:List Nat):∀u∈yb l,u.oneCell'=true:=by
 intro u hu;simp only[yb,List.mem_map] at hu;obtain⟨x,_,rfl⟩:=hu
 rfl
theorem U64s.below {w w':World} {a:Option Addr} {n cap:Nat} {l:List Nat} (h:U64s w a n cap l) (hb:Below w.heap.size w w'):U64s w' a n cap l:=by
 refine⟨h.len,h.lt,h.room,h.most,h.nilc,fun hn=>?_⟩;obtain⟨b,o,ha,hc⟩:=h.cells hn;refine⟨b,o,ha,fun i hi=>?_⟩;have:=hc i hi;exact(hb.cell (p:=⟨b,o+i,none⟩) (zd this)).trans this
theorem U64s.rd {w:World} {a:Option Addr} {n cap:Nat} {l:List Nat} (h:U64s w a n cap l):Rd w 1 a n (yb l):=by
 refine⟨by rw[zcz,h.len];omega,fun hn=>?_⟩;obtain⟨b,o,e,hc⟩:=h.cells hn;refine⟨b,o,e,fun j u hu=>?_⟩
 have hj:j<l.length:=by
  rcases Nat.lt_or_ge j l.length with h' | h'
  · exact h'
  · rw[List.getElem?_eq_none (by rw[zcz];exact h')] at hu;cases hu
 rw[zdz l j hj] at hu;cases hu;exact hc j (by rw[←h.len];exact hj)
theorem ze0 {w:World} {base n:Nat} {T:TypeId} {v:Value} {l:List Nat} (h:w.ownsRow base T 1 v n (yb l)) (hl:∀x∈l,x<18446744073709551616):∃a cap,v=.slice a n cap∧U64s w a n cap l:=by
 have hlen:l.length=n:=by have:=h.1;rw[zcz] at this;omega
 rcases h.2 with ⟨rfl,rfl⟩ | ⟨g,cap,cur,rfl,hg,hh,hnc,hcm,_⟩
 · exact⟨none,0,rfl,hlen,hl,by omega,by omega,fun _=>rfl,fun h=>by omega⟩
 · refine⟨_,_,rfl,hlen,hl,hnc,by unfold maxLen at hcm;omega,(by intro h;cases h),fun hn=>⟨g,0,rfl,fun i hi=>?_⟩⟩;have hc:=h.cells (g:=g) rfl i (.int .u64 ((nth l i:Nat):Int)) (zdz l i (by omega));rw[qi] at hc;exact hc
theorem Ivs.rd {w:World} {a:Option Addr} {n cap:Nat} {l:List Iv} (h:Ivs w a n cap l):Rd w 2 a n (ivC l):=by
 refine⟨by rw[zew,h.len],fun hn=>?_⟩;obtain⟨b,o,e,hc⟩:=h.cells hn;refine⟨b,o,e,fun j u hu=>?_⟩
 have hj:j<l.length*2:=by
  rcases Nat.lt_or_ge j (l.length*2) with h' | h'
  · exact h'
  · rw[List.getElem?_eq_none (by rw[zew];exact h')] at hu;cases hu
 have hi:j / 2<l.length:=by omega
 obtain⟨e1,e2⟩:=zgg l (j / 2) hi;obtain⟨c1,c2⟩:=hc (j / 2) (by rw[←h.len];exact hi);rcases Nat.mod_two_eq_zero_or_one j with hm | hm
 · rw[show j / 2*2=j by omega] at e1 c1;rw[e1] at hu;cases hu;exact c1
 · rw[show j / 2*2+1=j by omega] at e2;rw[show o+j / 2*2+1=o+j by omega] at c2;rw[e2] at hu;cases hu;exact c2
theorem Tryz.info_u64:(Tryz.prog.info? 43).map (fun i=>(i.zero,i.size,i.bytes))=some (some (.int .u64 0),1,8):=by kernel_rfl
theorem Tryz.info_iv:(Tryz.prog.info? 89).map (fun i=>(i.zero,i.size,i.bytes))=some (some (.agg #[.int .u64 0,.int .u64 0]),2,16):=by kernel_rfl
theorem ze1 {w:World} (base:Nat) (v:Value) (n:Nat) (xs:List Nat) (hown:w.ownsRow base 43 1 v n (yb xs)) (A:Option Addr) (m c:Nat) (l:List Nat) (hr:Rd w 1 A m (yb l)) (hb:n+m≤1000000000000) (hbase:base≤w.heap.size):
 ∃v' w',(Builtin.append_ #[41,41] 41 #[v,.slice A m c]).run Tryz.prog w=.ok v' w'∧w'.ownsRow base 43 1 v' (n+m) (yb (xs++l))∧w.grownBy w' v.ownBlock:=by
 rw[zqj];exact zbu base _ _ _ _ 1 8 Tryz.underlying41 Tryz.info_u64 rfl (by omega) v n _ hown A m c _ hr (zqk l) (by unfold maxLen;omega) (by omega) hbase
theorem ze2 {w:World} (base:Nat) (v:Value) (n:Nat) (xs:List Iv) (hown:w.ownsRow base 89 2 v n (ivC xs)) (A:Option Addr) (m c:Nat) (l:List Iv) (hr:Rd w 2 A m (ivC l)) (hb:n+m≤1000000) (hbase:base≤w.heap.size):
 ∃v' w',(Builtin.append_ #[91,91] 91 #[v,.slice A m c]).run Tryz.prog w=.ok v' w'∧w'.ownsRow base 89 2 v' (n+m) (ivC (xs++l))∧w.grownBy w' v.ownBlock:=by
 rw[zgf];exact zbu base _ _ _ _ 2 16 Tryz.underlying91 Tryz.info_iv rfl (by omega) v n _ hown A m c _ hr (zjh l) (by unfold maxLen;omega) (by omega) hbase
theorem zbg {w:World} {sz:Nat} (C:Array Value) (T:TypeId) (fr:Nat×Nat) (n:Nat) (xs:List Value) (hC:C=xs.toArray) (hx:xs.length=n*sz):Rd (w.alloc (.cells C T fr)) sz (some ⟨w.heap.size,0,none⟩) n xs:=by
 subst hC;refine⟨hx,fun _=>⟨w.heap.size,0,rfl,fun j u hu=>?_⟩⟩;rw[World.cell?_alloc_mark];simpa using hu
structure Rls (w:World) (a:Option Addr) (n cap:Nat) (ls:List (List Iv)):Prop where
 len:ls.length=n
 room:n≤cap
 most:cap≤9223372036854775807
 nilc:a=none→cap=0
 cells:0<n→∃b o,a=some ⟨b,o,none⟩∧∀i,i<n→∃A c,w.cell? ⟨b,o+i,none⟩=some (.slice A (ls.getD i []).length c)∧Ivs w A (ls.getD i []).length c (ls.getD i [])
theorem Rls.below {w w':World} {a:Option Addr} {n cap:Nat} {ls:List (List Iv)} (h:Rls w a n cap ls) (hb:Below w.heap.size w w'):Rls w' a n cap ls:=by
 refine⟨h.len,h.room,h.most,h.nilc,fun hn=>?_⟩;obtain⟨b,o,ha,hc⟩:=h.cells hn;refine⟨b,o,ha,fun i hi=>?_⟩;obtain⟨A,c,h1,h2⟩:=hc i hi;exact⟨A,c,(hb.cell (p:=⟨b,o+i,none⟩) (zd h1)).trans h1,h2.below hb⟩
theorem zql {w:World} {base n c:Nat} {T:TypeId} {a:Option Addr} {l:List Nat} (h:w.ownsRow base T 1 (.slice a n c) n (yb l)) (hn:0<n):∃g,a=some ⟨g,0,none⟩∧base≤g∧n≤c∧∀i,i<n→w.cell? ⟨g,i,none⟩=some (.int .u64 ((nth l i:Nat):Int)):=by
 have hlen:l.length=n:=by have:=h.1;rw[zcz] at this;omega
 rcases h.2 with ⟨_,h0⟩ | ⟨g,cap,cur,hv,hg,hh,hnc,hcm,_⟩
 · omega
 · obtain⟨rfl,rfl⟩:a=some ⟨g,0,none⟩∧c=cap:=by simpa using hv
   refine⟨g,rfl,hg,hnc,fun i hi=>?_⟩;have hc:=h.cells (g:=g) rfl i (.int .u64 ((nth l i:Nat):Int)) (zdz l i (by omega));rw[qi,Nat.zero_add] at hc;exact hc
theorem zqm {w:World} {base n c:Nat} {T:TypeId} {a:Option Addr} {xs:List Value} {sz:Nat} (h:w.ownsRow base T sz (.slice a n c) n xs):(a=none∧n=0∧c=0)∨∃g,a=some ⟨g,0,none⟩∧base≤g∧n≤c∧g<w.heap.size:=by
 rcases h.2 with ⟨hv,h0⟩ | ⟨g,cap,cur,hv,hg,hh,hnc,hcm,_⟩
 · obtain⟨rfl,rfl,rfl⟩:a=none∧n=0∧c=0:=by simpa using hv
   exact .inl ⟨rfl,rfl,rfl⟩
 · obtain⟨rfl,rfl⟩:a=some ⟨g,0,none⟩∧c=cap:=by simpa using hv
   exact .inr ⟨g,rfl,hg,hnc,(Array.getElem?_eq_some_iff.1 hh).1⟩
theorem kx {w:World} {g sz n:Nat} {e:TypeId} {C:Array Value} {fr:Nat×Nat} {xs:List Value} (h:w.heap[g]?=some (.cells C e fr)) (hC:C=xs.toArray) (hx:xs.length=n*sz):Rd w sz (some ⟨g,0,none⟩) n xs:=by
 subst hC;refine⟨hx,fun _=>⟨g,0,rfl,fun j u hu=>?_⟩⟩;simp only[World.cell?,h];simpa using hu
theorem qj (w:World) (o:Obj) (g:Nat) (h:g=w.heap.size):(w.alloc o).heap[g]?=some o:=by subst h;exact heap_alloc_new w o
theorem zad {w:World} {base b size n:Nat} {e:TypeId} {v:Value} {xs:List Value} (h:w.ownsRow base e size v n xs) (hb:b≤base):w.ownsRow b e size v n xs:=
 ⟨h.1,h.2.imp id fun ⟨g,cap,cur,h1,h2,r⟩=>⟨g,cap,cur,h1,Nat.le_trans hb h2,r⟩⟩
def yx (a b:Iv):Nat:=
 if a.2<b.1 then (if 0<b.1 - a.2 - 1 then (if b.2<a.1 then (if 0<a.1 - b.2 - 1 then 2 else 1) else 0) else (if b.2<a.1 then (if 0<a.1 - b.2 - 1 then 3 else 2) else 1))
 else (if b.2<a.1 then (if 0<a.1 - b.2 - 1 then 4 else 3) else 2)
theorem zqn {k:IntKind} {a b:Int} {x:Value} (h:a=b):Ending.returned (.tuple #[.int k a,x])=.returned (.tuple #[.int k b,x]):=by rw[h]
theorem zd0 (a b:Nat) (w:World) (h:a<b) (hb:b<18446744073709551616):
 Calls Tryz.prog 128 #[.int .u64 a,.int .u64 b] w fun e w'=>e=.returned (.tuple #[.int .u64 ((b - a - 1:Nat):Int),.bool true])∧w=w':=by
 have e1:=hid (show IntKind.u64.wrap ((b:Int) - (a:Int))=((b - a:Nat):Int) from by rw[IntKind.wrap_u64];omega);have e2:=hid (show IntKind.u64.wrap (((b - a:Nat):Int) - 1)=((b - a - 1:Nat):Int) from by rw[IntKind.wrap_u64];omega);clear hb;go_enter Tryz.func128,Tryz.ntmps128;go_wp2;go_ret2;refine⟨zqn ?_,rfl⟩;rw[e1.out,e2.out]
theorem ze3 (a b:Nat) (w:World) (h:¬a<b):
 Calls Tryz.prog 128 #[.int .u64 a,.int .u64 b] w fun e w'=>e=.returned (.tuple #[.int .u64 0,.bool false])∧w=w':=by
 go_enter Tryz.func128,Tryz.ntmps128;go_wp2;go_ret2;exact⟨rfl,rfl⟩
theorem zjq (s:Iv) (w:World):
 Calls Tryz.prog 168 #[ivV s] w fun e w'=>e=.returned (yh (if s.2<s.1 then some (2,none) else none))∧Below w.heap.size w w':=by
 obtain⟨a,b⟩:=s;by_cases h:b<a
 · rw[if_pos h];simp only[yh];go_enter Tryz.func168,Tryz.ntmps168;go_wp2;go_ret;exact⟨rfl,(Below.refl _ _).alloc (Nat.le_refl _) _⟩
 · rw[if_neg h];simp only[yh];go_enter Tryz.func168,Tryz.ntmps168;go_wp2;go_ret;exact⟨rfl,(Below.refl _ _).alloc (Nat.le_refl _) _⟩
theorem zqo (a b:Iv) (w:World) (ha:a.1<18446744073709551616∧a.2<18446744073709551616) (hb:b.1<18446744073709551616∧b.2<18446744073709551616):
 Calls Tryz.prog 169 #[ivV a,ivV b] w fun e w'=>e=.returned (.int .i64 ((yx a b:Nat):Int))∧Below w.heap.size w w':=by
 obtain⟨x,y⟩:=a;obtain⟨z,u⟩:=b;have hz:=hb.1;have hx:=ha.1;clear ha hb;simp only at hx hz
 have hw:Below w.heap.size w ((w.alloc (.cells #[.int .u64 x,.int .u64 y] 89)).alloc (.cells #[.int .u64 z,.int .u64 u] 89)):=
  ((Below.refl _ _).alloc (Nat.le_refl _) _).alloc (by simp) _
 by_cases h1:y<z
 · have C1:=hid (fun w=>zd0 y z w h1 hz);by_cases g1:0<z - y - 1
   · by_cases h2:u<x
     · have C2:=hid (fun w=>zd0 u x w h2 hx);by_cases g2:0<x - u - 1
       · have hr:=hid (show yx (x,y) (z,u)=2 from by simp[yx,h1,h2,g1,g2]);generalize yx (x,y) (z,u)=r at*;generalize z - y - 1=p at*;generalize x - u - 1=q at*;clear hx hz h1 h2;go_enter Tryz.func169,Tryz.ntmps169;go_wp2_with fail;refine(C1.out _).mono ?_;rintro e w1 ⟨rfl,rfl⟩;go_wp2_with fail;refine(C2.out _).mono ?_;rintro e w1 ⟨rfl,rfl⟩;go_wp2_with fail;go_ret;exact⟨kw (by rw[hr.out];rfl),hw⟩
       · have hr:=hid (show yx (x,y) (z,u)=1 from by simp[yx,h1,h2,g1,g2]);obtain e2:x - u - 1=0:=by omega
         rw[e2] at C2;clear e2 g2;generalize yx (x,y) (z,u)=r at*;generalize z - y - 1=p at*;clear hx hz h1 h2;go_enter Tryz.func169,Tryz.ntmps169;go_wp2_with fail;refine(C1.out _).mono ?_;rintro e w1 ⟨rfl,rfl⟩;go_wp2_with fail;refine(C2.out _).mono ?_;rintro e w1 ⟨rfl,rfl⟩;go_wp2_with fail;go_ret;exact⟨kw (by rw[hr.out];rfl),hw⟩
     · have C2:=hid (fun w=>ze3 u x w h2);have hr:=hid (show yx (x,y) (z,u)=0 from by simp[yx,h1,h2,g1]);generalize yx (x,y) (z,u)=r at*;generalize z - y - 1=p at*;clear hx hz h1 h2;go_enter Tryz.func169,Tryz.ntmps169;go_wp2_with fail;refine(C1.out _).mono ?_;rintro e w1 ⟨rfl,rfl⟩;go_wp2_with fail;refine(C2.out _).mono ?_;rintro e w1 ⟨rfl,rfl⟩;go_wp2_with fail;go_ret;exact⟨kw (by rw[hr.out];rfl),hw⟩
   · have e1:z - y - 1=0:=by omega
     rw[e1] at C1;clear e1;by_cases h2:u<x
     · have C2:=hid (fun w=>zd0 u x w h2 hx);by_cases g2:0<x - u - 1
       · have hr:=hid (show yx (x,y) (z,u)=3 from by simp[yx,h1,h2,g1,g2]);generalize yx (x,y) (z,u)=r at*;generalize x - u - 1=q at*;clear hx hz h1 h2;go_enter Tryz.func169,Tryz.ntmps169;go_wp2_with fail;refine(C1.out _).mono ?_;rintro e w1 ⟨rfl,rfl⟩;go_wp2_with fail;refine(C2.out _).mono ?_;rintro e w1 ⟨rfl,rfl⟩;go_wp2_with fail;go_ret;exact⟨kw (by rw[hr.out];rfl),hw⟩
       · have hr:=hid (show yx (x,y) (z,u)=2 from by simp[yx,h1,h2,g1,g2]);obtain e2:x - u - 1=0:=by omega
         rw[e2] at C2;clear e2 g2;generalize yx (x,y) (z,u)=r at*;clear hx hz h1 h2;go_enter Tryz.func169,Tryz.ntmps169;go_wp2_with fail;refine(C1.out _).mono ?_;rintro e w1 ⟨rfl,rfl⟩;go_wp2_with fail;refine(C2.out _).mono ?_;rintro e w1 ⟨rfl,rfl⟩;go_wp2_with fail;go_ret;exact⟨kw (by rw[hr.out];rfl),hw⟩
     · have C2:=hid (fun w=>ze3 u x w h2);have hr:=hid (show yx (x,y) (z,u)=1 from by simp[yx,h1,h2,g1]);generalize yx (x,y) (z,u)=r at*;clear hx hz h1 h2;go_enter Tryz.func169,Tryz.ntmps169;go_wp2_with fail;refine(C1.out _).mono ?_;rintro e w1 ⟨rfl,rfl⟩;go_wp2_with fail;refine(C2.out _).mono ?_;rintro e w1 ⟨rfl,rfl⟩;go_wp2_with fail;go_ret;exact⟨kw (by rw[hr.out];rfl),hw⟩
 · have C1:=hid (fun w=>ze3 y z w h1);by_cases h2:u<x
   · have C2:=hid (fun w=>zd0 u x w h2 hx);by_cases g2:0<x - u - 1
     · have hr:=hid (show yx (x,y) (z,u)=4 from by simp[yx,h1,h2,g2]);generalize yx (x,y) (z,u)=r at*;generalize x - u - 1=q at*;clear hx hz h1 h2;go_enter Tryz.func169,Tryz.ntmps169;go_wp2_with fail;refine(C1.out _).mono ?_;rintro e w1 ⟨rfl,rfl⟩;go_wp2_with fail;refine(C2.out _).mono ?_;rintro e w1 ⟨rfl,rfl⟩;go_wp2_with fail;go_ret;exact⟨kw (by rw[hr.out];rfl),hw⟩
     · have hr:=hid (show yx (x,y) (z,u)=3 from by simp[yx,h1,h2,g2]);obtain e2:x - u - 1=0:=by omega
       rw[e2] at C2;clear e2 g2;generalize yx (x,y) (z,u)=r at*;clear hx hz h1 h2;go_enter Tryz.func169,Tryz.ntmps169;go_wp2_with fail;refine(C1.out _).mono ?_;rintro e w1 ⟨rfl,rfl⟩;go_wp2_with fail;refine(C2.out _).mono ?_;rintro e w1 ⟨rfl,rfl⟩;go_wp2_with fail;go_ret;exact⟨kw (by rw[hr.out];rfl),hw⟩
   · have C2:=hid (fun w=>ze3 u x w h2);have hr:=hid (show yx (x,y) (z,u)=2 from by simp[yx,h1,h2]);generalize yx (x,y) (z,u)=r at*;clear hx hz h1 h2;go_enter Tryz.func169,Tryz.ntmps169;go_wp2_with fail;refine(C1.out _).mono ?_;rintro e w1 ⟨rfl,rfl⟩;go_wp2_with fail;refine(C2.out _).mono ?_;rintro e w1 ⟨rfl,rfl⟩;go_wp2_with fail;go_ret;exact⟨kw (by rw[hr.out];rfl),hw⟩
end
section
open Go.RowKit Go.Shelf
structure Kept (p:Nat→Prop) (A B:World):Prop where
 os:B.os=A.os
 tape:B.tape=A.tape
 output:B.output=A.output
 size:A.heap.size≤B.heap.size
 row:∀k,k<A.heap.size→p k→B.heap[k]?=A.heap[k]?
variable {p q:Nat→Prop} {A B C:World}
theorem Kept.refl (p:Nat→Prop) (A:World):Kept p A A:=⟨rfl,rfl,rfl,Nat.le_refl _,fun _ _ _=>rfl⟩
theorem Kept.trans (h:Kept p A B) (k:Kept p B C):Kept p A C:=
 ⟨k.os.trans h.os,k.tape.trans h.tape,k.output.trans h.output,Nat.le_trans h.size k.size,fun i hi hp=>(k.row i (Nat.lt_of_lt_of_le hi h.size) hp).trans (h.row i hi hp)⟩
theorem Kept.mono (h:Kept p A B) (hq:∀k,k<A.heap.size→q k→p k):Kept q A B:=⟨h.os,h.tape,h.output,h.size,fun i hi hp=>h.row i hi (hq i hi hp)⟩
theorem Kept.alloc (h:Kept p A B) (o:Obj):Kept p A (B.alloc o):=
 h.trans ⟨rfl,rfl,rfl,by simp,fun k hk _=>Below.heap_alloc _ _ _ hk⟩
theorem Kept.setCell (h:Kept p A B) {a:Addr} (ha:a.block<A.heap.size→¬p a.block) (u:Value):Kept p A (B.setCell a u):=
 ⟨h.os,h.tape,h.output,by simpa [World.setCell] using h.size,fun k hk hp=>(Below.heap_setCell _ _ _ _ (fun e=>by subst e;exact ha hk hp)).trans (h.row k hk hp)⟩
theorem Kept.putObj (h:Kept p A B) {r:Nat} (ha:r<A.heap.size→¬p r) (o:Obj):Kept p A (B.putObj r o):=
 ⟨h.os,h.tape,h.output,by simpa using h.size,fun k hk hp=>(World.putObj_heap_other (fun e=>by subst e;exact ha hk hp)).trans (h.row k hk hp)⟩
theorem Kept.below (h:Kept p A B) (hb:Below B.heap.size B C):Kept p A C:=
 h.trans ⟨hb.os,hb.tape,hb.output,hb.size,fun k hk _=>hb.block k hk⟩
theorem Kept.grown {row:Option Nat} (h:Kept p A B) (hg:B.grownBy C row) (hr:∀k,row=some k→k<A.heap.size→¬p k):Kept p A C:=
 ⟨hg.os.trans h.os,hg.tape.trans h.tape,hg.output.trans h.output,Nat.le_trans h.size hg.size,
  fun k hk hp=>(hg.block k (Nat.lt_of_lt_of_le hk h.size) (fun e=>hr k e.symm hk hp)).trans (h.row k hk hp)⟩
theorem Kept.drewN (h:Kept p A B) (n:Nat):Kept p A (B.drewN n):=⟨h.os,h.tape,h.output,h.size,h.row⟩
theorem Kept.drew (h:Kept p A B):Kept p A B.drew:=⟨h.os,h.tape,h.output,h.size,h.row⟩
theorem Kept.cell (h:Kept p A B) {a:Addr} {v:Value} (hc:A.cell? a=some v) (ha:p a.block):B.cell? a=some v:=
 (World.cell?_of_block (h.row a.block (zd hc) ha)).trans hc
theorem Kept.frozen (h:Kept p A B) {a:Addr} (hc:a.block<A.heap.size) (ha:p a.block):B.frozen? a=A.frozen? a:=
 World.frozen?_of_block (h.row a.block hc ha)
theorem zqp {n:Nat} (h:Below n A B):Kept (fun k=>k<n) A B:=⟨h.os,h.tape,h.output,h.size,fun k _ hk=>h.block k hk⟩
theorem Kept.toBelow {n:Nat} (h:Kept p A B) (hp:∀k,k<n→p k) (hn:n≤A.heap.size):Below n A B:=⟨h.os,h.tape,h.output,h.size,fun k hk=>h.row k (Nat.lt_of_lt_of_le hk hn) (hp k hk)⟩
end
section
open Go.RowKit Go.Shelf
attribute [local go_sem] Oper.semAt_some
def BoxI (w0 W:World) (b:Nat) (l:List Iv):Prop:=∃a n c,W.heap[b]?=some (.cells #[.slice a n c] 91)∧Ivs w0 a n c l
theorem zjr {W:World} {b:Nat} {v u:Value} {t:TypeId} (h:W.heap[b]?=some (.cells #[v] t)):(W.setCell ⟨b,0,none⟩ u).heap[b]?=some (.cells #[u] t):=by
 simp[World.setCell,Array.getElem?_modify,h]
theorem zau {W:World} {b:Nat} {v:Value} {t:TypeId} (h:W.heap[b]?=some (.cells #[v] t)):W.cell? ⟨b,0,none⟩=some v:=by simp[World.cell?,h]
theorem zgp {W:World} {b:Nat} {v:Value} {t:TypeId} (h:W.heap[b]?=some (.cells #[v] t)):W.frozen? ⟨b,0,none⟩=false:=by simp[World.frozen?,h]
theorem BoxI.kept {w0 W W':World} {b:Nat} {l:List Iv} (h:BoxI w0 W b l) (hk:W'.heap[b]?=W.heap[b]?):BoxI w0 W' b l:=by
 obtain⟨a,n,c,h1,h2⟩:=h;exact⟨a,n,c,hk.trans h1,h2⟩
end
