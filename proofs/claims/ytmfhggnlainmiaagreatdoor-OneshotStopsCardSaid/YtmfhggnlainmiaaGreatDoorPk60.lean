/- Part 60. -/
import Derived.Test.YtmfhggnlainmiaaGreatDoorPk19
set_option linter.unusedVariables false
namespace Go.Proofs.YtmfhggnlainmiaaGreatDoor
section
open Go.RowKit
theorem yhx:∀x∈qw,x<256:=by decide
theorem yhy {l:List Nat} (h:∀x∈l,x<256):∀x∈zaa l,x<256:=by
 intro x hx;simp only[zaa,List.mem_append] at hx;rcases hx with ((hx | hx) | hx) | hx
 · exact yhx x hx
 · exact znl _ x hx
 · exact h x hx
 · exact zht (zgx h) x hx
end
section
def kw (c:Kno):List Nat:=zaa (zq (zn c))
theorem zm2 (c:Kno):∀x∈kw c,x<256:=yhy (zf0 _)
def yo (cs:List Kno):List Nat:=cs.flatMap kw
theorem zf6 (cs:List Kno):∀x∈yo cs,x<256:=fun x hx=>by
 obtain⟨c,-,h⟩:=List.mem_flatMap.1 hx;exact zm2 c x h
theorem zql (a b:List Kno):yo (a++b)=yo a++yo b:=by simp[yo]
