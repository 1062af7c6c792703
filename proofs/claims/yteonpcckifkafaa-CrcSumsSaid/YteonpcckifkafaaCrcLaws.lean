/-
  Walks: the statements of kenninglaw20 (crc) at bytes that can be read.
-/
import Derived.Test.YteonpcckifkafaaCrcAlive
namespace Go.Proofs.Yteonpcckifkafaa
open Go.RowKit Go.Joins
set_option linter.unusedVariables false

theorem walkCrcSums (a : Option Addr) (n cap : Nat) (zs : List Int) (w : World) (h : InRow .u8 w a n cap zs) :
    Calls Try.prog 3 #[.slice a n cap] w fun e w' => e = .returned (.bool true) ∧ Below w.heap.size w w' := by
  have hB := byts_row h
  have hm := hB.room
  generalize (zs.take n).map Int.toNat = l at *
  clear h
  have HB := Lib.hid hB; clear hB
  by_cases hn : 2000 < n
  · go_enter Try.func3, Try.ntmps3
    go_wp2_with (go_at_call 9; refine (alive_any _).mono ?_; rintro e w1 ⟨rfl, hb⟩)
    go_ret
    exact ⟨rfl, hb⟩
  · go_enter Try.func3, Try.ntmps3
    go_wp2_with fail
    refine (alive_any _).mono ?_
    rintro e w1 ⟨rfl, hb1⟩
    have HB1 := Lib.hid (HB.out.below hb1)
    go_wp2_with fail
    refine (sum_any _ _ _ l _ HB1.out).mono ?_
    rintro e w2 ⟨rfl, hb2⟩
    have HB2 := Lib.hid (HB1.out.below hb2)
    have hb := hb1.trans (hb2.mono hb1.size)
    clear hb1 hb2
    go_wp2_with fail
    refine (refsum_any _ _ _ l _ HB2.out).mono ?_
    rintro e w' ⟨rfl, rfl⟩
    go_wp2_with fail
    go_ret
    exact ⟨rfl, hb⟩

end Go.Proofs.Yteonpcckifkafaa
