/- Walks and laws, joined: Wb33. -/
import Derived.Test.YtdnjfnofjaoajaaGreatDoorWb30
set_option linter.unusedVariables false
namespace Go.Proofs.YtdnjfnofjaoajaaGreatDoor
section
open Go.RowKit
theorem zw0 (w:World):Calls Tryz.prog 43 #[] w fun e w'=>e=.returned (lmV unl)∧Below w.heap.size w w':=by
 go_enter Tryz.func43,Tryz.ntmps43;go_wp2_with fail;refine bodyPost_ret (results_cell_row rfl _ _ w.heap.size 42 #[.int .i64 9223372036854775807,.int .i64 9223372036854775807,.int .i64 9223372036854775807,.int .i64 9223372036854775807,.int .i64 9223372036854775807] (0,0) _ rfl (heap_alloc_new w _) Tryz.underlying42 rfl (by kernel_rfl)) rfl ?_;exact⟨rfl,(Below.refl _ _).alloc (Nat.le_refl _) _⟩
end
end Go.Proofs.YtdnjfnofjaoajaaGreatDoor
