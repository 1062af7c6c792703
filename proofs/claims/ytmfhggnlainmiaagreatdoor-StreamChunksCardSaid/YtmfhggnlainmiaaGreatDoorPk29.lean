/- Part 29. -/
import Derived.Test.YtmfhggnlainmiaaGreatDoorPk20
set_option linter.unusedVariables false
namespace Go.Proofs.YtmfhggnlainmiaaGreatDoor
section
open Go.RowKit
theorem KnosM.read {w:World} {base:Nat} {V:Value} {ks:List Kno} (h:KnosM w base V ks):∃a cap,V=.slice a ks.length cap∧KnS w a ks.length cap ks:=by
 obtain⟨Ks,h1,h2⟩:=h;have hlen:=h2.len;rcases h1.2 with ⟨rfl,h0⟩ | ⟨g,cap,cur,rfl,hg,hh,hnc,hcm,_⟩
 · exact⟨none,0,by rw[h0],by omega,by omega,by omega,fun h=>by omega⟩
 · refine⟨_,_,rfl,rfl,hnc,by unfold maxLen at hcm;omega,fun hn=>⟨g,0,rfl,fun i hi=>?_⟩⟩;obtain⟨K,e1,e2⟩:=h2.at hi;obtain⟨x,c,rfl,hf⟩:=e2.frags;have hc:=h1.cells (g:=g) rfl i _ e1;rw[qg] at hc;exact⟨x,_,c,hc,by rw[zb2 hi];exact hf⟩
