/-
  Walks: crc.Append onto a slice of the caller's own; kenningref20.Bytes.
-/
import Derived.Test.YtejcakbkldecmaaDoorCrcRef
import Derived.WalkSpells
namespace Go.Proofs.YtejcakbkldecmaaDoor
open Go.RowKit
set_option linter.unusedVariables false

/-- The four bytes of a checksum, the lowest one first. -/
def sumBytes (x : Nat) : List Nat := [x % 256, x / 256 % 256, x / 65536 % 256, x / 16777216]

theorem sumBytes_lt {x : Nat} (hx : x < 4294967296) : ∀ b ∈ sumBytes x, b < 256 := by
  intro b hb
  simp [sumBytes] at hb
  omega

set_option maxHeartbeats 400000 in
theorem refbytes_any (x : Nat) (w : World) (hx : x < 4294967296) :
   Calls Tryd.prog 24 #[.int .u32 x] w fun e w' => e = .returned (.slice (some ⟨w.heap.size, 0, none⟩) 4 4) ∧ w' = w.alloc (.cells (u8s (sumBytes x)).toArray 5) := by
  go_enter Tryd.func24, Tryd.ntmps24
  go_wp2
  go_ret
  exact ⟨rfl, by simp [u8s, sumBytes]⟩

/-- The array behind k rounds. -/
def part (s : Nat) : Nat → Array Value
  | 0 => #[.int .u8 0, .int .u8 0, .int .u8 0, .int .u8 0]
  | 1 => #[.int .u8 ((s : Int) % 256), .int .u8 0, .int .u8 0, .int .u8 0]
  | 2 => #[.int .u8 ((s : Int) % 256), .int .u8 ((s : Int) / 256 % 256), .int .u8 0, .int .u8 0]
  | 3 => #[.int .u8 ((s : Int) % 256), .int .u8 ((s : Int) / 256 % 256), .int .u8 ((s : Int) / 65536 % 256), .int .u8 0]
  | _ => #[.int .u8 ((s : Int) % 256), .int .u8 ((s : Int) / 256 % 256), .int .u8 ((s : Int) / 65536 % 256), .int .u8 ((s : Int) / 16777216)]

theorem part4 (s : Nat) : part s 4 = (u8s (sumBytes s)).toArray := by simp [part, u8s, sumBytes]

theorem part0 (s : Nat) : part s 0 = #[.int .u8 0, .int .u8 0, .int .u8 0, .int .u8 0] := rfl
theorem part1 (s : Nat) : part s 1 = #[.int .u8 ((s : Int) % 256), .int .u8 0, .int .u8 0, .int .u8 0] := rfl
theorem part2 (s : Nat) : part s 2 = #[.int .u8 ((s : Int) % 256), .int .u8 ((s : Int) / 256 % 256), .int .u8 0, .int .u8 0] := rfl
theorem part3 (s : Nat) : part s 3 = #[.int .u8 ((s : Int) % 256), .int .u8 ((s : Int) / 256 % 256), .int .u8 ((s : Int) / 65536 % 256), .int .u8 0] := rfl

set_option maxHeartbeats 1000000 in
theorem append_any (v : Value) (n base : Nat) (xs : List Value) (s : Nat) (w : World) (hs : s < 4294967296) (hown : w.ownsRow base 5 1 v n xs) (hbase : base ≤ w.heap.size) (hn : n ≤ 140737488355000) :
   Calls Tryd.prog 20 #[v, .int .u32 s] w fun e w' => ∃ v', e = .returned v' ∧ w'.ownsRow base 5 1 v' (n + 4) (xs ++ u8s (sumBytes s)) ∧ w.grownBy w' v.ownBlock := by
  obtain ⟨i0, hi, hz0, hz1, hz2⟩ := info_parts Tryd.info_u8
  have H4 := Lib.hid (part4 s)
  have Hg := Lib.hid (World.grownBy_alloc w)
  go_enter Tryd.func20, Tryd.ntmps20
  go_wp2
  go_loopw [6, 7] (fun _ i wr => ∃ k : Nat, k ≤ 4 ∧ i = .int .i64 k ∧ wr = w.alloc (.cells (part s k) 45)) (fun _ i _ => 4 - (intOf i).toNat)
  case atStart => exact ⟨0, by omega, rfl, rfl⟩
  case round =>
    obtain ⟨k, hk, rfl, rfl⟩ := hrel
    by_cases hk4 : k < 4
    · obtain rfl | rfl | rfl | rfl : k = 0 ∨ k = 1 ∨ k = 2 ∨ k = 3 := by omega
      · rw [part0]
        go_wp2
        go_roundw
        case rel => exact ⟨1, by omega, rfl, rfl⟩
        case measure => simp [intOf]
      · rw [part1]
        go_wp2
        go_roundw
        case rel => exact ⟨2, by omega, rfl, rfl⟩
        case measure => simp [intOf]
      · rw [part2]
        go_wp2
        go_roundw
        case rel => exact ⟨3, by omega, rfl, rfl⟩
        case measure => simp [intOf]
      · rw [part3]
        go_wp2
        go_roundw
        case rel => exact ⟨4, by omega, rfl, rfl⟩
        case measure => simp [intOf]
    · obtain rfl : k = 4 := by omega
      rw [H4.out]
      go_wp2_with (at_builtin; refine wpList_append_own _ rfl _ _ 22 rfl base 5 i0 (.int .u8 0) 1 1 Tryd.underlying22 hi hz0 hz1 hz2 rfl (by decide) v n xs rfl (hown.alloc _) ⟨w.heap.size, 0, none⟩ 4 4 (u8s (sumBytes s)) rfl rfl ?c1 ?c2 ?c3 ?c4 ?c5 ?_)
      case c1 => exact fun j u h => cells_at _ _ _ _ _ h
      case c2 => simp [u8s, sumBytes, Value.oneCell']
      case c3 => unfold maxLen; omega
      case c4 => omega
      case c5 => simp; omega
      intro v' w1 hown' hgrow _
      go_wp2
      go_ret
      exact ⟨v', rfl, hown', grownBy_trans (Hg.out _ _) hgrow⟩

end Go.Proofs.YtejcakbkldecmaaDoor
