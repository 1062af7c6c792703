/-
  Common words of the walks: a slice of bytes that reads as a list of numbers; what stays behind a call that only makes memory.
-/
import Derived.Test.YteonpcckifkafaaCrcPlain
import Derived.WalkKit
import Derived.Lib.Hide
namespace Go.Proofs.Yteonpcckifkafaa
open Go.RowKit

/-- The slice with this address and length reads as the bytes l. -/
structure Byts (w : World) (a : Option Addr) (n : Nat) (l : List Nat) : Prop where
  len : l.length = n
  lt : ∀ x ∈ l, x < 256
  room : n ≤ 9223372036854775807
  cells : 0 < n → ∃ b o, a = some ⟨b, o, none⟩ ∧ ∀ i, i < n → w.cell? ⟨b, o + i, none⟩ = some (.int .u8 ((nth l i : Nat) : Int))

theorem Byts.below {w w' : World} {a : Option Addr} {n : Nat} {l : List Nat} (h : Byts w a n l) (hb : Below w.heap.size w w') : Byts w' a n l := by
  refine ⟨h.len, h.lt, h.room, fun hn => ?_⟩
  obtain ⟨b, o, ha, hc⟩ := h.cells hn
  refine ⟨b, o, ha, fun i hi => ?_⟩
  have := hc i hi
  rw [← this]
  refine hb.cell (p := ⟨b, o + i, none⟩) ?_
  show b < w.heap.size
  unfold World.cell? at this
  by_cases hlt : b < w.heap.size
  · exact hlt
  · simp [Array.getElem?_eq_none (Nat.le_of_not_lt hlt)] at this

theorem ret_int {k : IntKind} {a b : Int} (h : a = b) : Ending.returned (.int k a) = .returned (.int k b) := by rw [h]
theorem ret_bool {a b : Bool} (h : a = b) : Ending.returned (.bool a) = .returned (.bool b) := by rw [h]

end Go.Proofs.Yteonpcckifkafaa
