/- Part 73. -/
import Derived.Test.YtmfhggnlainmiaaGreatDoorPk01
set_option linter.unusedVariables false
namespace Go.Proofs.YtmfhggnlainmiaaGreatDoor
section
open Go.RowKit
theorem z5g {w:World} (a:Option Addr) (m c:Nat) (l:List Nat) (hB:Byts w a m c l) (hbytes:m≤140737488355328):
 ∃v' w',(Builtin.append_ #[22,22] 22 #[.slice (some ⟨w.heap.size,0,none⟩) 0 0,.slice a m c]).run Tryz.prog (w.alloc (.cells #[] 5))=.ok v' w'∧
  w'.ownsRow w.heap.size 5 1 v' m (u8s l)∧Below w.heap.size w w':=by
 have h0:=World.ownsRow_lit (e:=5) (size:=1) (base:=w.heap.size) w #[] 0 (Nat.le_refl _) (by unfold maxLen;omega) rfl;obtain⟨v',w',hr,ho,hg⟩:=zdd w.heap.size _ 0 [] h0 a m c l (hB.below ((Below.refl _ _).alloc (Nat.le_refl _) _)) (by omega) (by simp);refine⟨v',w',hr,by simpa using ho,?_⟩;exact((Below.refl _ _).alloc (Nat.le_refl _) _).grown hg (by simp) (by intro k hk;simp[Value.ownBlock] at hk;omega)
