/-
  Walks: kenningref02.Max, kenningref04.Piece.
-/
import Derived.Laws.Bits64
import Derived.BigRegion
import Derived.Deep.RegionWith
import Derived.Test.YtkkdlgcfcbaibaaGreatDoorPt05
namespace Go.Proofs.YtkkdlgcfcbaibaaGreatDoor
open Go.RowKit
set_option linter.unusedVariables false

theorem refMax_any (w : World) : Calls Tryz.prog 205 #[] w fun e w' => e = .returned (.int .u64 18446744073709551615) ∧ w = w' := by
  go_enter Tryz.func205, Tryz.ntmps205
  go_wp2
  go_ret
  exact ⟨rfl, rfl⟩

def pieceOf (l : List Nat) (i : Nat) : Iv := if i + 1 < l.length then (nth l i, nth l (i + 1) - 1) else (nth l i, 18446744073709551615)

set_option maxHeartbeats 1000000 in
theorem refPiece_any (a : Option Addr) (n cap i : Nat) (l : List Nat) (w : World) (hU : U64s w a n cap l) (hi : i < n) (hn : n ≤ 1000000) (hp : i + 1 < n → 0 < nth l (i + 1)) :
    Calls Tryz.prog 179 #[.slice a n cap, .int .i64 i] w fun e w' => e = .returned (ivV (pieceOf l i)) ∧ Below w.heap.size w w' := by
  obtain ⟨bb, oo, rfl, hcell⟩ := hU.cells (by omega)
  have hc1 := hcell i hi
  unfold pieceOf
  rw [hU.len]
  have hl1 := cell_lt hc1
  simp only at hl1
  by_cases h : i + 1 < n
  · have hc2 := hcell (i + 1) h
    have hx := hU.lt (nth l (i + 1)) (by simp [nth, hU.len, h])
    have hp' := hp h
    rw [if_pos h]
    have hw : IntKind.u64.wrap (((nth l (i + 1) : Nat) : Int) - 1) = ((nth l (i + 1) - 1 : Nat) : Int) := by rw [IntKind.wrap_u64]; omega
    clear hp hcell hU
    generalize nth l i = x at *
    generalize nth l (i + 1) = y at *
    have hl2 := cell_lt hc2
    simp only at hl2
    clear hx hp'
    generalize y - 1 = z at *
    have hd : decide ((i : Int) + 1 < (n : Int)) = true := by rw [decide_eq_true_iff]; omega
    have h1 : (i : Int) < (n : Int) := by omega
    have h2 : (i : Int) + 1 < (n : Int) := by omega
    have h3 : ((i : Int) + 1).toNat = i + 1 := by omega
    have hs : IntKind.i64.wrap ((i : Int) + 1) = (i : Int) + 1 := by rw [IntKind.wrap_i64]; omega
    go_enter Tryz.func179, Tryz.ntmps179
    go_wp2
    go_region
    all_goals
      go_wp2
      refine bodyPost_ret (v := ivV (x, z)) (by simp [results, Tryz.results179, go_sem]) rfl ⟨rfl, ?_⟩
      exact ((Below.refl _ _).alloc (Nat.le_refl _) _).drew
  · rw [if_neg h]
    clear hp hcell hU
    generalize nth l i = x at *
    have hd : decide ((i : Int) + 1 < (n : Int)) = false := by rw [decide_eq_false_iff_not]; omega
    have h1 : (i : Int) < (n : Int) := by omega
    have hs : IntKind.i64.wrap ((i : Int) + 1) = (i : Int) + 1 := by rw [IntKind.wrap_i64]; omega
    go_enter Tryz.func179, Tryz.ntmps179
    go_wp2
    go_region_with (go_at_call 205; refine (refMax_any _).mono ?_; rintro e w1 ⟨rfl, rfl⟩)
    all_goals
      go_wp2
      refine bodyPost_ret (v := ivV (x, 18446744073709551615)) (by simp [results, Tryz.results179, go_sem]) rfl ⟨rfl, ?_⟩
      exact ((Below.refl _ _).alloc (Nat.le_refl _) _).drew

end Go.Proofs.YtkkdlgcfcbaibaaGreatDoor
