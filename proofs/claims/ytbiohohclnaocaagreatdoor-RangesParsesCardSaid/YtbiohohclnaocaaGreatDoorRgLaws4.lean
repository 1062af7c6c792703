/-
  Walk: RangesParses.
-/
import Derived.Test.YtbiohohclnaocaaGreatDoorRgLaws1
import Derived.Test.YtbiohohclnaocaaGreatDoorRgRefParse
namespace Go.Proofs.YtbiohohclnaocaaGreatDoor
open Go.RowKit
set_option linter.unusedVariables false

set_option maxRecDepth 20000 in
set_option maxHeartbeats 4000000 in
theorem walkRangesParses (s : Txt) (w : World) (hs : s.length ≤ 9223372036854775807) (hR : Ready w) :
    Calls Tryz.prog 8 #[strV s] w fun e w' => e = .returned (.bool true) ∧ Below w.heap.size w w' := by
  have HR := Lib.hid (fun W (h : Below w.heap.size w W) => hR.below h)
  clear hR
  by_cases hn : 1000 < s.length
  · go_enter Tryz.func8, Tryz.ntmps8
    go_wp2_with fail
    refine (alive_any _ (HR.out _ (Below.refl _ _))).mono ?_
    rintro e w1 ⟨rfl, hb1⟩
    go_wp2_with fail
    go_ret
    exact ⟨rfl, hb1⟩
  · have hR0 := HR.out _ (Below.refl _ _)
    have HP := Lib.hid (parse_any s w (by omega) hR0.door hR0.maxl hR0.rang)
    have HQ := Lib.hid (fun W => refParse_any s W (by omega))
    have Hlt := Lib.hid (parseL_lt s)
    unfold ParseRes at HP
    unfold RefParseRes at HQ
    clear hR0
    generalize parseL s = r at *
    obtain ⟨L, o⟩ := r
    dsimp only at HP HQ Hlt
    generalize errOf o = er at *
    go_enter Tryz.func8, Tryz.ntmps8
    go_wp2_with fail
    refine HP.out.mono ?_
    rintro e w1 ⟨⟨v1, rfl, ho1⟩, hb1⟩
    obtain ⟨a1, c1, rfl, hI1⟩ := ivs_own ho1 Hlt.out
    have Hb1 := Lib.hid hb1
    have HI1 := Lib.hid (fun W (h : Below w1.heap.size w1 W) => hI1.below h)
    clear hb1 ho1 hI1 HP
    go_wp2_with fail
    refine (HQ.out _).mono ?_
    rintro e w2 ⟨⟨v2, rfl, ho2⟩, hb2⟩
    obtain ⟨a2, c2, rfl, hI2⟩ := ivs_own ho2 Hlt.out
    have Hb2 := Lib.hid (Hb1.out.trans (hb2.mono Hb1.out.size))
    have Hc2 := Lib.hid hb2
    have HI2 := Lib.hid (fun W (h : Below w2.heap.size w2 W) => hI2.below h)
    clear hb2 ho2 hI2 HQ
    go_wp2_with fail
    refine (alive_any _ (HR.out _ Hb2.out)).mono ?_
    rintro e w3 ⟨rfl, hb3⟩
    have Hb3 := Lib.hid (Hb2.out.trans (hb3.mono Hb2.out.size))
    have Hc3 := Lib.hid (Hc2.out.trans (hb3.mono Hc2.out.size))
    have Hd3 := Lib.hid hb3
    clear hb3
    go_wp2_with fail
    refine (refSame_any a1 a2 _ c1 _ c2 L L _ (HI1.out _ Hc3.out) (HI2.out _ Hd3.out)).mono ?_
    rintro e w4 ⟨rfl, hb4⟩
    have Hb4 := Lib.hid (Hb3.out.trans (hb4.mono Hb3.out.size)); clear hb4
    rw [show decide (L = L) = true from decide_eq_true rfl]
    go_wp2_with fail
    refine (code_any er _ (HR.out _ Hb4.out).door).mono ?_
    rintro e w5 ⟨rfl, hb5⟩
    have Hb5 := Lib.hid (Hb4.out.trans (hb5.mono Hb4.out.size)); clear hb5
    go_wp2_with fail
    refine (at_any er _ (HR.out _ Hb5.out).door).mono ?_
    rintro e w6 ⟨rfl, hb6⟩
    have Hb6 := Lib.hid (Hb5.out.trans (hb6.mono Hb5.out.size)); clear hb6
    go_wp2_with fail
    go_ret
    exact ⟨by simp, Hb6.out⟩

theorem walkRangesParsesB (s : ByteArray) (w : World) (hs : s.size ≤ maxLen) (hR : Ready w) :
    Calls Tryz.prog 8 #[.string s] w fun e w' => e = .returned (.bool true) ∧ Below w.heap.size w w' := by
  have h1 : s.data.toList.length = s.size := rfl
  have h := walkRangesParses s.data.toList w (by rw [h1]; exact hs) hR
  exact h

end Go.Proofs.YtbiohohclnaocaaGreatDoor
