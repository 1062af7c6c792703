/- Part 23. -/
import Derived.Deep.RegionHeld3
import Derived.Below
import Derived.Laws.Bits64
import Derived.LaidEql
import Derived.Stop.Asserts
import Derived.RowKitTokens
import Derived.WalkSpells
import Derived.Deep.AppendLies
import Derived.RegionTactic
import Derived.OwnWalk
import Derived.Test.YtmfhggnlainmiaaGreatDoorRows
import Derived.WalkKit
import Derived.Lib.Hide
import Derived.Lib.SmallJoins
import Derived.Lib.SlBytesConst
import Derived.BigQuiet
set_option linter.unusedVariables false
namespace Go.Proofs.YtmfhggnlainmiaaGreatDoor
section
open Go.RowKit
theorem jp (w:World) (o v:Obj) (g:Nat) (h:w.heap[g]?=some v):(w.alloc o).heap[g]?=some v:=(Below.heap_alloc w o g (by
 rcases Nat.lt_or_ge g w.heap.size with h' | h'
 · exact h'
 · rw[Array.getElem?_eq_none h'] at h;cases h)).trans h
