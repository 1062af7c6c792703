/- Part 70. -/
import Derived.Test.YtmfhggnlainmiaaGreatDoorPk60
set_option linter.unusedVariables false
namespace Go.Proofs.YtmfhggnlainmiaaGreatDoor
section
theorem zjk (c:Kno) (cs:List Kno):yo (c :: cs)=kw c++yo cs:=by simp[yo]
