/- Part 30. -/
import Derived.Test.YtmfhggnlainmiaaGreatDoorPk01
set_option linter.unusedVariables false
namespace Go.Proofs.YtmfhggnlainmiaaGreatDoor
section
open Go.RowKit
theorem z02 (w:World):Byts w none 0 0 []:=⟨rfl,by simp,by omega,by omega,fun _=>rfl,fun h=>by omega⟩
