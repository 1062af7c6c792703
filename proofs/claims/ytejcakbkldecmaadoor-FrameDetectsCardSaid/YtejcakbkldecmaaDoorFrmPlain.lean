/-
  Plain law: the header and the frame. No program in sight.
-/
import Derived.Test.YtejcakbkldecmaaDoorVarRead
namespace Go.Proofs.YtejcakbkldecmaaDoor

def startL : List Nat := [75, 78, 87, 76, 1]

/-- The error at byte i of the head, if any: the bytes end, or the byte is another one. -/
def headAt (l : List Nat) (p i : Nat) : Option (Nat × Nat) :=
  if l.length ≤ p + i then some (5, p)
  else if nth l (p + i) = nth startL i then none
  else some (if i = 4 then 13 else 12, p + i)

def headBad (l : List Nat) (p : Nat) : Option (Nat × Nat) := [0, 1, 2, 3, 4].findSome? (headAt l p)

/-- The index behind the header, the length, the error and its offset. -/
def headRes (l : List Nat) (p : Nat) (most : Int) : Nat × Nat × Err :=
  match headBad l p with
  | some (c, q) => (0, 0, some ((c : Int), some (q : Int)))
  | none =>
    match scan (l.drop (p + 5)) 0 0 with
    | (1, x, j) => if max most 0 < (x : Int) then (0, 0, some (7, some ((p + 5 : Nat) : Int))) else (p + 5 + j, x, none)
    | (2, _, _) => (0, 0, some (6, some ((p + 5 : Nat) : Int)))
    | _ => (0, 0, some (5, some (p : Int)))

theorem headBad_at {l : List Nat} {p i : Nat} {e : Nat × Nat} (hi : i < 5) (h : ∀ j, j < i → headAt l p j = none) (he : headAt l p i = some e) : headBad l p = some e := by
  unfold headBad
  obtain rfl | rfl | rfl | rfl | rfl : i = 0 ∨ i = 1 ∨ i = 2 ∨ i = 3 ∨ i = 4 := by omega
  · simp [List.findSome?, he]
  · simp [List.findSome?, he, h 0 (by omega)]
  · simp [List.findSome?, he, h 0 (by omega), h 1 (by omega)]
  · simp [List.findSome?, he, h 0 (by omega), h 1 (by omega), h 2 (by omega)]
  · simp [List.findSome?, he, h 0 (by omega), h 1 (by omega), h 2 (by omega), h 3 (by omega)]

theorem headBad_none {l : List Nat} {p : Nat} (h : ∀ j, j < 5 → headAt l p j = none) : headBad l p = none := by
  unfold headBad
  simp [List.findSome?, h 0 (by omega), h 1 (by omega), h 2 (by omega), h 3 (by omega), h 4 (by omega)]

theorem headAt_short {l : List Nat} {p i : Nat} (h : l.length ≤ p + i) : headAt l p i = some (5, p) := if_pos h
theorem headAt_ok {l : List Nat} {p i : Nat} (h : p + i < l.length) (e : nth l (p + i) = nth startL i) : headAt l p i = none := by
  unfold headAt
  rw [if_neg (by omega), if_pos e]
theorem headAt_bad {l : List Nat} {p i : Nat} (h : p + i < l.length) (e : nth l (p + i) ≠ nth startL i) : headAt l p i = some (if i = 4 then 13 else 12, p + i) := by
  unfold headAt
  rw [if_neg (by omega), if_neg e]

theorem headRes_bad {l : List Nat} {p c q : Nat} {most : Int} (h : headBad l p = some (c, q)) : headRes l p most = (0, 0, some ((c : Int), some (q : Int))) := by
  unfold headRes; rw [h]

theorem nth_drop (l : List Nat) (p i : Nat) : nth (l.drop p) i = nth l (p + i) := by
  simp [nth]

end Go.Proofs.YtejcakbkldecmaaDoor
