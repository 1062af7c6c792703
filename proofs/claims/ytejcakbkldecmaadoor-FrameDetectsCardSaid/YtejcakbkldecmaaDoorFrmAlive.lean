/-
  kenninglaw21.alive.
-/
import Derived.Test.YtejcakbkldecmaaDoorFrmAppend
import Derived.Test.YtejcakbkldecmaaDoorFrmEq
namespace Go.Proofs.YtejcakbkldecmaaDoor
open Go.RowKit
set_option linter.unusedVariables false

theorem al1 : frameL [] = [75, 78, 87, 76, 1, 0, 0, 0, 0, 0] := by decide +kernel
theorem al2 : splitRes [75, 78, 87, 76, 1, 0, 0, 0, 0, 0] 0 0 = ([], 10, none) := by decide +kernel
theorem al3 : splitRes [75, 78, 87, 76, 2] 0 0 = ([], 0, some (13, some 4)) := by decide +kernel

set_option maxRecDepth 20000 in
set_option maxHeartbeats 2000000 in
theorem alive_any (w : World) (hD : Door w) : Calls Tryd.prog 7 #[] w fun e w' => e = .returned (.bool true) ∧ Below w.heap.size w w' := by
  have HD := Lib.hid hD; clear hD
  have he4 := eq_arr4
  go_enter Tryd.func7, Tryd.ntmps7
  go_wp2_with fail
  refine (appframe_any (.slice none 0 0) 0 [] none 0 0 [] w w (byts_nil _) (Below.refl _ _) (World.ownsRow_nil _ _ _ _) (by omega) (by omega)).mono ?_
  rintro e w1 ⟨⟨v1, rfl, ho1⟩, hb1⟩
  rw [al1] at ho1
  obtain ⟨a1, c1, rfl, hB1⟩ := byts_own (l := [75, 78, 87, 76, 1, 0, 0, 0, 0, 0]) ho1 (by decide)
  have HB1 := Lib.hid hB1
  have Hb1 := Lib.hid hb1
  clear ho1 hB1 hb1
  go_wp2_with fail
  refine (split_any a1 _ c1 0 0 [75, 78, 87, 76, 1, 0, 0, 0, 0, 0] _ (HD.out.below (Nat.le_refl _) Hb1.out) HB1.out (by omega) (by decide) (by omega) (by omega)).mono ?_
  rintro e w2 ⟨⟨v2, rfl, ho2⟩, hb2⟩
  rw [al2] at ho2 ⊢
  obtain ⟨a2, c2, rfl, -⟩ := byts_own (l := []) ho2 (by simp)
  have Hb2 := Lib.hid (Hb1.out.trans (hb2.mono Hb1.out.size))
  have HB2 := Lib.hid (HB1.out.below hb2)
  clear ho2 hb2
  simp only [errVal]
  go_wp2_with fail
  refine (split_any _ 5 5 0 0 [75, 78, 87, 76, 2] _ (HD.out.below (Nat.le_refl _) (Hb2.out.alloc Hb2.out.size _)) (byts_lit _ _ _ _ _ _ _ rfl rfl rfl (by decide) (by omega)) (by omega) (by decide) (by omega) (by omega)).mono ?_
  rintro e w3 ⟨⟨v3, rfl, ho3⟩, hb3⟩
  rw [al3]
  have Hb3 := Lib.hid ((Hb2.out.alloc Hb2.out.size _).trans (hb3.mono (by have := Hb2.out.size; simp only [World.size_alloc]; omega)))
  have HB3 := Lib.hid ((HB2.out.below ((Below.refl _ _).alloc (Nat.le_refl _) _)).below hb3)
  clear ho3 hb3
  go_wp2_with fail
  have hA : Below w.heap.size w (w3.alloc (.cells #[.int .u8 75, .int .u8 78, .int .u8 87, .int .u8 76, .int .u8 1, .int .u8 0, .int .u8 0, .int .u8 0, .int .u8 0, .int .u8 0] 5)) := Hb3.out.alloc Hb3.out.size _
  refine (equal_any a1 _ 10 c1 10 10 [75, 78, 87, 76, 1, 0, 0, 0, 0, 0] [75, 78, 87, 76, 1, 0, 0, 0, 0, 0] _ (HB3.out.below ((Below.refl _ _).alloc (Nat.le_refl _) _)) (byts_lit _ _ _ _ _ _ _ rfl rfl rfl (by decide) (by omega)) true (by simp)).mono ?_
  rintro e w4 ⟨rfl, q, rfl⟩
  have Hb4 := Lib.hid (belowdrewN hA q)
  clear hA
  simp only [errVal]
  go_wp2_with fail
  refine (code_any (some (13, some 4)) _ (HD.out.below (Nat.le_refl _) Hb4.out)).mono ?_
  rintro e w5 ⟨rfl, hb5⟩
  have Hb5 := Lib.hid (Hb4.out.trans (hb5.mono Hb4.out.size)); clear hb5
  simp only [errCode]
  go_wp2_with fail
  refine (at_any (some (13, some 4)) _ (HD.out.below (Nat.le_refl _) Hb5.out)).mono ?_
  rintro e w6 ⟨rfl, hb6⟩
  have Hb6 := Lib.hid (Hb5.out.trans (hb6.mono Hb5.out.size)); clear hb6
  simp only [errAt]
  go_wp2_with fail
  refine (magic_any _).mono ?_
  rintro e w7 ⟨rfl, hb7⟩
  have Hb7 := Lib.hid (Hb6.out.trans (hb7.mono Hb6.out.size)); clear hb7
  go_wp2_with fail
  go_ret
  exact ⟨rfl, Hb7.out⟩

end Go.Proofs.YtejcakbkldecmaaDoor
