/- Part 48. -/
import Derived.Laws.Runes
import Derived.Laws.BytesArg
import Derived.Test.YtmfhggnlainmiaaGreatDoorPk20
set_option linter.unusedVariables false
namespace Go.Proofs.YtmfhggnlainmiaaGreatDoor
section
open Go.RowKit
attribute [local go_sem] y9 Tryz.eqGuard_if
theorem z17 (cs:List (List Nat)) (q:Nat):(cs.take q).flatten=cs.flatten.take (cs.take q).flatten.length:=by
 conv=>rhs;arg 2;rw[←List.take_append_drop q cs]
 rw[List.flatten_append,List.take_left]
end
