/-
  Walk: kenninglaw04.alive.
-/
import Derived.Test.YtbiohohclnaocaaGreatDoorRgNormal
import Derived.Test.YtbiohohclnaocaaGreatDoorRgText
import Derived.Test.YtbiohohclnaocaaGreatDoorRgParse
import Derived.Test.YtbiohohclnaocaaGreatDoorRgEq
import Derived.Test.YtbiohohclnaocaaGreatDoorRgFind
import Derived.Test.YtbiohohclnaocaaGreatDoorRgGood
namespace Go.Proofs.YtbiohohclnaocaaGreatDoor
open Go.RowKit
set_option linter.unusedVariables false

/-- What the laws ask of a world. -/
structure Ready (w : World) : Prop where
  door : Door w
  tens : Tens w
  maxl : MaxL w
  rang : RangeE w

theorem Ready.below {w w' : World} (h : Ready w) (hb : Below w.heap.size w w') : Ready w' :=
  ⟨h.door.below (Nat.le_refl _) hb, h.tens.below hb, h.maxl.below hb, h.rang.below hb⟩

theorem ivs_lit (w : World) (C : Array Value) (T : TypeId) (fr : Nat × Nat) (n : Nat) (l : List Iv) (hC : C = (ivC l).toArray) (hl : l.length = n) (hlt : ∀ s ∈ l, s.1 < 18446744073709551616 ∧ s.2 < 18446744073709551616) (hn : n ≤ 1000000) : Ivs (w.alloc (.cells C T fr)) (some ⟨w.heap.size, 0, none⟩) n n l := by
  subst hC
  refine ⟨hl, hlt, Nat.le_refl _, by omega, (by intro h; cases h), fun _ => ⟨w.heap.size, 0, rfl, fun i hi => ?_⟩⟩
  obtain ⟨e1, e2⟩ := ivC_get l i (by omega)
  rw [World.cell?_alloc_mark, World.cell?_alloc_mark]
  simp only [Nat.zero_add, List.getElem?_toArray]
  exact ⟨e1, e2⟩

abbrev exT : List Iv := [(1, 3), (5, 9)]
abbrev exN : List Iv := [(5, 9), (1, 2), (3, 3)]

theorem al_bad : bad exN = none := by decide +kernel
theorem al_good : Good exT := by
  refine ⟨?_, ?_⟩ <;> simp [Good] <;> omega
theorem al_mem (x : Nat) : mem exT x = mem exN x := by
  rw [Bool.eq_iff_iff, mem_iff, mem_iff]
  simp
  omega
theorem al_text : textL exT = [49, 45, 51, 44, 53, 45, 57] := by decide +kernel
theorem al_ck : ck exT = none := by decide +kernel
theorem al_ck2 : ck [(1, 2), (3, 3)] = some (3, 1) := by decide +kernel
theorem al_parse : parseL [49, 45, 51, 44, 53, 45, 57] = (exT, none) := by
  have h := parse_text (l := exT) (by decide)
  rw [al_text, al_ck] at h
  exact h
theorem al_has : mem exT 7 = true := by decide +kernel
theorem al_find : findI exT 4 = -1 := by decide +kernel

set_option maxRecDepth 20000 in
set_option maxHeartbeats 4000000 in
theorem alive_any (w : World) (hR : Ready w) : Calls Tryz.prog 10 #[] w fun e w' => e = .returned (.bool true) ∧ Below w.heap.size w w' := by
  have HR := Lib.hid (fun W (h : Below w.heap.size w W) => hR.below h)
  clear hR
  have hA := (Below.refl _ w).alloc (Nat.le_refl _) (.cells #[.int .u64 5, .int .u64 9, .int .u64 1, .int .u64 2, .int .u64 3, .int .u64 3] 31)
  have hI := ivs_lit w #[.int .u64 5, .int .u64 9, .int .u64 1, .int .u64 2, .int .u64 3, .int .u64 3] 31 (0, 0) 3 exN rfl rfl (by decide) (by omega)
  have HA := Lib.hid hA
  have HN := Lib.hid (normal_any _ 3 3 exN _ hI (HR.out _ hA).door (by omega))
  clear hA hI
  go_enter Tryz.func10, Tryz.ntmps10
  go_wp2_with fail
  refine HN.out.mono ?_
  rintro e w1 ⟨hN, hb1⟩
  have Hb1 := Lib.hid (HA.out.trans (hb1.mono HA.out.size))
  clear hb1 HN
  rcases hN with ⟨i, hN, -⟩ | ⟨-, v, L, rfl, ho, hg, hm, hlt, -⟩
  · rw [al_bad] at hN; cases hN
  obtain rfl : L = exT := good_ext hg al_good (fun x => by rw [hm, al_mem])
  obtain ⟨a1, c1, rfl, hI1⟩ := ivs_own ho hlt
  have HI1 := Lib.hid hI1
  clear ho hg hm hlt hI1
  simp only [errVal]
  have hR1 := HR.out _ Hb1.out
  go_wp2_with fail
  refine (parse_any [49, 45, 51, 44, 53, 45, 57] _ (by decide) hR1.door hR1.maxl hR1.rang).mono ?_
  rintro e w2 ⟨⟨v2, rfl, ho2⟩, hb2⟩
  rw [al_parse] at ho2 ⊢
  obtain ⟨a2, c2, rfl, hI2⟩ := ivs_own ho2 (show ∀ s ∈ exT, s.1 < 18446744073709551616 ∧ s.2 < 18446744073709551616 by decide)
  have HI2 := Lib.hid hI2
  have HI1' := Lib.hid (HI1.out.below hb2)
  have Hb2 := Lib.hid (Hb1.out.trans (hb2.mono Hb1.out.size))
  clear hb2 ho2 hI2 hR1 HI1
  simp only [errOf, errVal]
  go_wp2_with fail
  refine (text_any a1 _ c1 exT _ HI1'.out (HR.out _ Hb2.out).tens (by decide)).mono ?_
  rintro e w3 ⟨rfl, hb3⟩
  have HI1 := Lib.hid (HI1'.out.below hb3)
  have HI2' := Lib.hid (HI2.out.below hb3)
  have Hb3 := Lib.hid (Hb2.out.trans (hb3.mono Hb2.out.size))
  clear hb3 HI1' HI2
  rw [al_text]
  go_wp2_with fail
  refine (same_any a1 a2 _ c1 _ c2 exT exT _ HI1.out HI2'.out).mono ?_
  rintro e w4 ⟨rfl, hb4⟩
  have HI1' := Lib.hid (HI1.out.below hb4)
  have Hb4 := Lib.hid (Hb3.out.trans (hb4.mono Hb3.out.size))
  clear hb4 HI1 HI2'
  rw [show decide (exT = exT) = true from decide_eq_true rfl]
  go_wp2_with fail
  refine (check_any a1 _ c1 exT _ HI1'.out (HR.out _ Hb4.out).door).mono ?_
  rintro e w5 ⟨rfl, hb5⟩
  have HI1 := Lib.hid (HI1'.out.below hb5)
  have Hb5 := Lib.hid (Hb4.out.trans (hb5.mono Hb4.out.size))
  clear hb5 HI1'
  rw [al_ck]
  simp only [errOf, errVal]
  go_wp2_with fail
  refine (has_any a1 _ c1 7 exT _ HI1.out al_good (by decide)).mono ?_
  rintro e w6 ⟨rfl, hb6⟩
  have HI1' := Lib.hid (HI1.out.below hb6)
  have Hb6 := Lib.hid (Hb5.out.trans (hb6.mono Hb5.out.size))
  clear hb6 HI1
  rw [al_has]
  go_wp2_with fail
  refine (find_any a1 _ c1 4 exT _ HI1'.out al_good (by decide)).mono ?_
  rintro e w7 ⟨rfl, hb7⟩
  have Hb7 := Lib.hid (Hb6.out.trans (hb7.mono Hb6.out.size))
  clear hb7 HI1'
  rw [al_find]
  have hA7 := Hb7.out.alloc Hb7.out.size (.cells #[.int .u64 1, .int .u64 2, .int .u64 3, .int .u64 3] 31)
  have HA7 := Lib.hid hA7
  have hC7 := Lib.hid (check_any _ 2 2 [(1, 2), (3, 3)] _ (ivs_lit w7 #[.int .u64 1, .int .u64 2, .int .u64 3, .int .u64 3] 31 (0, 0) 2 [(1, 2), (3, 3)] rfl rfl (by decide) (by omega)) (HR.out _ hA7).door)
  clear hA7
  go_wp2_with fail
  refine hC7.out.mono ?_
  rintro e w8 ⟨rfl, hb8⟩
  have Hb8 := Lib.hid (HA7.out.trans (hb8.mono HA7.out.size))
  clear hb8
  rw [al_ck2]
  simp only [errOf]
  go_wp2_with fail
  refine (code_any (some (((3 : Nat) : Int), some ((1 : Nat) : Int))) _ (HR.out _ Hb8.out).door).mono ?_
  rintro e w9 ⟨rfl, hb9⟩
  have Hb9 := Lib.hid (Hb8.out.trans (hb9.mono Hb8.out.size))
  clear hb9
  simp only [errCode]
  go_wp2_with fail
  go_ret
  exact ⟨rfl, Hb9.out⟩

end Go.Proofs.YtbiohohclnaocaaGreatDoor
