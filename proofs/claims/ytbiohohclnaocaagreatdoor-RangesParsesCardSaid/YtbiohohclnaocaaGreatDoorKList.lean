/-
  Plain words on lists of numbers. No program in sight.
-/
import Derived.Below
namespace Go.Proofs.YtbiohohclnaocaaGreatDoor
open Go.RowKit

/-- An element of a list of numbers, 0 behind its end. -/
def nth (l : List Nat) (k : Nat) : Nat := l.getD k 0

theorem nth_lt {l : List Nat} {B : Nat} (h : ∀ x ∈ l, x < B) (hB : 0 < B) (k : Nat) : nth l k < B := by
  unfold nth
  rw [List.getD_eq_getElem?_getD]
  by_cases hk : k < l.length
  · rw [List.getElem?_eq_getElem hk]; exact h _ (List.getElem_mem hk)
  · rw [List.getElem?_eq_none (by omega)]; exact hB

theorem take_nth (l : List Nat) (k : Nat) (h : k < l.length) : l.take (k + 1) = l.take k ++ [nth l k] := by
  rw [List.take_succ_eq_append_getElem h]
  simp [nth, h]

/-- Bytes as cells. -/
def u8s (l : List Nat) : List Value := l.map fun x => Value.int .u8 ((x : Nat) : Int)

theorem u8s_append (a b : List Nat) : u8s (a ++ b) = u8s a ++ u8s b := by simp [u8s]
theorem u8s_length (a : List Nat) : (u8s a).length = a.length := by simp [u8s]

theorem u8s_get (l : List Nat) (i : Nat) (h : i < l.length) : (u8s l)[i]? = some (.int .u8 ((nth l i : Nat) : Int)) := by simp [u8s, nth, h]

theorem nth_eq_take {l l' : List Nat} {k : Nat} (h : l.take k = l'.take k) (hk : k < l.length) (hk' : k < l'.length) (e : nth l k = nth l' k) : l.take (k + 1) = l'.take (k + 1) := by
  rw [take_nth l k hk, take_nth l' k hk', h, e]

theorem nth_ne {l l' : List Nat} {k : Nat} (e : nth l k ≠ nth l' k) : l ≠ l' := fun h => e (by rw [h])

end Go.Proofs.YtbiohohclnaocaaGreatDoor
