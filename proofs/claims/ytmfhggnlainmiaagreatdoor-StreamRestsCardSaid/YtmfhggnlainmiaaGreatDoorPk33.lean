/- Part 33. -/
import Derived.Test.YtmfhggnlainmiaaGreatDoorPk13
set_option linter.unusedVariables false
namespace Go.Proofs.YtmfhggnlainmiaaGreatDoor
section
open Go.RowKit
theorem RdM.move {w wi w':World} {g E:Nat} {B:Value} {L:zc} {cs cs':Except (Nat×Nat) Nat} (h:RdM w wi g B E L cs) (hg:wi.grownBy w' (some g)) (hn:some w.heap.size≠some g) (hc:CurM w' g B E cs'):RdM w w' g B E L cs':=⟨zw h.grown hg,h.lim.grown hg hn,hc⟩
