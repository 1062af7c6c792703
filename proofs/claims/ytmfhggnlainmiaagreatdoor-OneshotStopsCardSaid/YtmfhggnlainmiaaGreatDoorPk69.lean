/- Part 69. -/
import Derived.Test.YtmfhggnlainmiaaGreatDoorPk20
set_option linter.unusedVariables false
namespace Go.Proofs.YtmfhggnlainmiaaGreatDoor
section
open Go.ChangeShapes Go.WideShapes Go.RowKit
section
variable {H:Type} {enc:TypeId×Value→H} {W:World} {fuel:Nat} {x:DataW H×List MemPlace}
theorem yjr {P:Program} {base:Nat} {spare:Nat→Bool} {held:Bool} {t e:TypeId} {cs:List Value} (ht:P.underlying t=some (.slice e)) (ce:P.cellsOf e=1)
 (h:DataW.trod enc P W base spare held fuel t cs=some x):
 cs=[.slice none 0 0]∨∃(a:Addr) (len cap m n:Nat),cs=[.slice (some a) len cap]∧len≤cap∧cap≤maxLen∧m=(if spare a.block then cap else len)∧
  ∀i,i<m→∃v0 y0,W.cell? (a.add (i*1))=some v0∧DataW.trod enc P W base spare held n e [v0]=some y0:=by
 rcases Deep.open_slice ht h with ⟨h0,-⟩ | ⟨a,len,cap,m,n,D,Pl,rfl,hb,hl,hm,hmm,rfl,hx⟩
 · exact Or.inl h0
 right;refine⟨a,len,cap,m,n,rfl,hl,hm,hmm,fun i hi=>?_⟩;obtain⟨cs',h1,h2⟩:=hx i hi;rw[ce] at h1;obtain⟨_,hlen,hcell⟩:=World.cells?_some h1
 match cs',hlen with
 | [v0],_=>
  have:=hcell 0 (by simp);rw[Deep.add_add] at this;exact⟨v0,_,by simpa using this,h2⟩
theorem zqt {v:Value} (h:DataW.trod enc Tryz.prog W 0 (fun _=>true) true fuel 26 [v]=some x):∃a n c l,v=.slice a n c∧KnS W a n c l:=by
 rcases yjr Tryz.underlying26 (by kernel_rfl) h with hcs | ⟨ad,len,cap,m,n,hcs,hl,hm,hmm,hc⟩
 · simp at hcs;subst hcs;exact⟨none,0,0,[],rfl,rfl,Nat.le_refl _,by omega,fun h=>by omega⟩
 · simp at hcs;subst hcs
   have each:∀i,i<m→∃f:Kno,∃x m c,W.cell? (ad.add (i*1))=some (.slice x m c)∧Frags W x m c f:=by
    intro i hi;obtain⟨v0,y0,h1,h2⟩:=hc i hi;obtain⟨a,k,c,l,e0,hE⟩:=zxf h2;rw[e0] at h1;exact⟨l,a,k,c,h1,hE⟩
   obtain⟨f,hf⟩:=Deep.choose_lt each;have hmc:m=cap:=by simpa using hmm
   refine⟨some ad,len,cap,(List.range len).map f,rfl,by simp,hl,by unfold maxLen at hm;omega,fun hn=>?_⟩;obtain⟨b,o,k⟩:=ad
   obtain rfl:k=none:=by
    obtain⟨_,_,_,h1,_⟩:=hf 0 (by omega);exact zn3 h1
   refine⟨b,o,rfl,fun i hi=>?_⟩;have h1:=hf i (by omega);rw[qg,Nat.mul_one] at h1;have e:zt ((List.range len).map f) i=f i:=by rw[zb2 (by simpa using hi)];simp
   rw[e];exact h1
end
end
