/- Walks and laws, joined: Wb50. -/
import Derived.Test.YtdnjfnofjaoajaaGreatDoorWb08
set_option linter.unusedVariables false
namespace Go.Proofs.YtdnjfnofjaoajaaGreatDoor
section
open Go.RowKit
theorem ji {P:Program} {w:World} {ops:Array Oper} {rest:List Oper} {o:Oper} {a:Act} {Q:Exit→Act→World→Prop} (ty:TypeId) (x ix:Operand)
 (ho:o.op=.index ty x ix) (hg:o.guard=none) (cs:Array Value) (k len:Nat) (e:TypeId) (fs) (v:Value)
 (hx:a.eval x=.agg cs) (hix:a.eval ix=.int .i64 (k:Int)) (hu:P.underlying ty=some (.array len e)) (hk:k<len) (he:P.underlying e=some (.struct fs)) (hi:(P.info? e).map (·.size)=some 1)
 (hv:cs[k]?=some v) (h:wpList P ops Q rest (a.put o.dst (.agg #[v])) w):wpList P ops Q (o :: rest) a w:=by
 refine wpList_plain hg fun K hK=>?_
 have hex:cs.extract k (k+1)= #[v]:=by
  obtain⟨h1,h2⟩:=Array.getElem?_eq_some_iff.1 hv;apply Array.ext_getElem?;intro i;rw[Array.getElem?_extract]
  cases i with
  | zero=>simp[hv];omega
  | succ i=>simp;omega
 cases hq:P.info? e with
 | none=>simp[hq] at hi
 | some i=>
  have hsz:i.size=1:=by simpa [hq] using hi
  unfold Oper.wp execOp;simp only[ho,hx,hix,Instr.index,asIntOf,Sem.run_bind,Sem.run_pure,Result.andThen_ok,run_underlying hu];have hk':0≤(k:Int)∧(k:Int)<(len:Int):=⟨by omega,by omega⟩;simp[Sem.run_bind,part,isAgg,sizeOf,typeInfo,run_underlying he,hq,hsz,hk',hex];exact hK _ _ h
end
section
theorem zx9 {k:Kno} (h:CanK k) {f:Frg} (hf:f∈k) {x:Nat} (hx:mem f.1 x=true) (r c:Nat):kr k x r c=ju f.2 r c:=by
 rw[Bool.eq_iff_iff,zdm];constructor
 · rintro⟨g,hg,hgx,hk⟩;rw[h.apart f hf g hg x hx hgx];exact hk
 · intro hk;exact⟨f,hf,hx,hk⟩
theorem ybb {v:Vec} (h:CanV v) (hne:v≠[]):∃r c,ju v r c=true:=by
 cases v with
 | nil=>exact absurd rfl hne
 | cons e v=>exact⟨e.1,e.2.1,zca.2 ⟨e,by simp,rfl,zm0 (h.ent e (by simp))⟩⟩
theorem zya {k j:Kno} (hk:CanK k) (hj:CanK j) (he:∀x r c,kr k x r c=kr j x r c) {f:Frg} (hf:f∈k):f∈j:=by
 have step:∀{k j:Kno},CanK k→CanK j→(∀x r c,kr k x r c=kr j x r c)→∀{f:Frg},f∈k→∀x,mem f.1 x=true→∃g∈j,mem g.1 x=true∧f.2=g.2:=by
  intro k j hk hj he f hf x hx;obtain⟨r,c,hv⟩:=ybb (hk.vec f hf).1 (hk.vec f hf).2;have h1:kr j x r c=true:=by rw[←he];exact zdm.2 ⟨f,hf,hx,hv⟩
  obtain⟨g,hg,hgx,_⟩:=zdm.1 h1;refine⟨g,hg,hgx,zm1 (hk.vec f hf).1 (hj.vec g hg).1 fun r c=>?_⟩;rw[←zx9 hk hf hx,←zx9 hj hg hgx,he]
 obtain⟨x,hx⟩:=zj3 (hk.items f hf).1 (hk.items f hf).2;obtain⟨g,hg,hgx,hv⟩:=step hk hj he hf x hx
 have:f=g:=by
  have hi:f.1=g.1:=zhh (hk.items f hf).1 (hj.items g hg).1 fun y=>by
   rw[Bool.eq_iff_iff];constructor
   · intro hy;obtain⟨g',hg',hgy,hv'⟩:=step hk hj he hf y hy;rw[zm2 hj.asc hg hg' (hv.symm.trans hv')];exact hgy
   · intro hy;obtain⟨f',hf',hfy,hv'⟩:=step hj hk (fun x r c=>(he x r c).symm) hg y hy;rw[zm2 hk.asc hf hf' (hv.trans hv')];exact hfy
  obtain⟨a,b⟩:=f;obtain⟨c,d⟩:=g;simp only at hi hv;rw[hi,hv]
 rw[this];exact hg
theorem ybc {k j:Kno} (hk:CanK k) (hj:CanK j) (he:∀x r c,kr k x r c=kr j x r c):k=j:=
 zmz (lt:=jy) (fun a h=>by unfold jy at h;rw[zgi] at h;cases h) (fun a b c h1 h2=>zgj h1 h2) hk.asc hj.asc fun f=>⟨zya hk hj he,zya hj hk fun x r c=>(he x r c).symm⟩
theorem zyb {k:Kno} (hk:LtK k) (hc:CanK k):zh k=k:=by
 obtain⟨h1,_,h3⟩:=zh6 hk;exact ybc h1 hc h3
end
end Go.Proofs.YtdnjfnofjaoajaaGreatDoor
