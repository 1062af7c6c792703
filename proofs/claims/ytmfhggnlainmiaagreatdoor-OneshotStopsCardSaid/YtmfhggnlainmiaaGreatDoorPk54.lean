/- Part 54. -/
import Derived.Test.YtmfhggnlainmiaaGreatDoorPk04
set_option linter.unusedVariables false
namespace Go.Proofs.YtmfhggnlainmiaaGreatDoor
section
open Go.RowKit
theorem zmf {B g i j:Nat} {w W:World} {x y:Value} (h:Below B w W) (hg:B≤g):Below B w ((W.setCell ⟨g,i,none⟩ x).setCell ⟨g,j,none⟩ y):=(h.setCell hg _).setCell hg _
