/- Part 18. -/
import Derived.Test.YtmfhggnlainmiaaGreatDoorPk01
set_option linter.unusedVariables false
namespace Go.Proofs.YtmfhggnlainmiaaGreatDoor
section
open Go.RowKit
theorem zfb (l:List Nat) (k:Nat) (h:k<l.length):l.drop k=nth l k :: l.drop (k+1):=by
 rw[List.drop_eq_getElem_cons h];simp[nth,h]
