/-
  Walks: RangesDenotes, RangesNormal.
-/
import Derived.Test.YtbiohohclnaocaaGreatDoorRgLaws1
namespace Go.Proofs.YtbiohohclnaocaaGreatDoor
open Go.RowKit
set_option linter.unusedVariables false

set_option maxRecDepth 20000 in
set_option maxHeartbeats 4000000 in
theorem walkRangesDenotes (a : Option Addr) (n cap x : Nat) (l : List Iv) (w : World) (hI : Ivs w a n cap l) (hR : Ready w) (hx : x < 18446744073709551616) :
    Calls Tryz.prog 4 #[.slice a n cap, .int .u64 x] w fun e w' => e = .returned (.bool true) ∧ Below w.heap.size w w' := by
  have HR := Lib.hid (fun W (h : Below w.heap.size w W) => hR.below h)
  have HI := Lib.hid (fun W (h : Below w.heap.size w W) => hI.below h)
  have Hl := Lib.hid hI.len
  by_cases hn : 60 < n
  · clear hI hR
    go_enter Tryz.func4, Tryz.ntmps4
    go_wp2_with fail
    refine (alive_any _ (HR.out _ (Below.refl _ _))).mono ?_
    rintro e w1 ⟨rfl, hb1⟩
    go_wp2_with fail
    go_ret
    exact ⟨rfl, hb1⟩
  · have HN := Lib.hid (normal_any a n cap l w hI hR.door (by omega))
    have HK := Lib.hid (fun W (h : Below w.heap.size w W) => refHas_any a n cap x l W (HI.out W h))
    clear hI hR
    go_enter Tryz.func4, Tryz.ntmps4
    go_wp2_with fail
    refine HN.out.mono ?_
    rintro e w1 ⟨hN, hb1⟩
    have Hb1 := Lib.hid hb1
    clear hb1
    rcases hN with ⟨i, hN, rfl⟩ | ⟨hN, v, L, rfl, ho, hg, hm, hlt, hLn⟩
    · clear hN
      simp only [errVal]
      go_wp2_with fail
      refine (alive_any _ (HR.out _ Hb1.out)).mono ?_
      rintro e w2 ⟨rfl, hb2⟩
      have Hb2 := Lib.hid (Hb1.out.trans (hb2.mono Hb1.out.size)); clear hb2
      go_wp2_with fail
      go_ret
      exact ⟨rfl, Hb2.out⟩
    · obtain ⟨a1, c1, rfl, hI1⟩ := ivs_own ho hlt
      have HI1 := Lib.hid (fun W (h : Below w1.heap.size w1 W) => hI1.below h)
      have hln : L.length ≤ 60 := by rw [Hl.out] at hLn; omega
      have HH := Lib.hid (fun W (h : Below w1.heap.size w1 W) => has_any a1 _ c1 x L W (HI1.out W h) hg (by omega))
      rw [hm] at HH
      clear ho hI1 hN hg hm hlt hLn
      simp only [errVal]
      go_wp2_with fail
      refine (alive_any _ (HR.out _ Hb1.out)).mono ?_
      rintro e w2 ⟨rfl, hb2⟩
      have Hb2 := Lib.hid (Hb1.out.trans (hb2.mono Hb1.out.size))
      have Hc2 := Lib.hid hb2
      clear hb2
      go_wp2_with fail
      refine (HH.out _ Hc2.out).mono ?_
      rintro e w3 ⟨rfl, hb3⟩
      have Hb3 := Lib.hid (Hb2.out.trans (hb3.mono Hb2.out.size)); clear hb3
      go_wp2_with fail
      refine (HK.out _ Hb3.out).mono ?_
      rintro e w4 ⟨rfl, hb4⟩
      have Hb4 := Lib.hid (Hb3.out.trans (hb4.mono Hb3.out.size)); clear hb4
      go_wp2_with fail
      go_ret
      exact ⟨by simp, Hb4.out⟩

theorem good_bad {l : List Iv} (h : Good l) : bad l = none := firstS_none fun j hj => by
  have := (good_idx h j hj).1
  unfold badAt
  rw [if_neg (by omega)]

set_option maxRecDepth 20000 in
set_option maxHeartbeats 4000000 in
theorem walkRangesNormal (a : Option Addr) (n cap : Nat) (l : List Iv) (w : World) (hI : Ivs w a n cap l) (hR : Ready w) :
    Calls Tryz.prog 7 #[.slice a n cap] w fun e w' => e = .returned (.bool true) ∧ Below w.heap.size w w' := by
  have HR := Lib.hid (fun W (h : Below w.heap.size w W) => hR.below h)
  have HI := Lib.hid (fun W (h : Below w.heap.size w W) => hI.below h)
  have Hl := Lib.hid hI.len
  by_cases hn : 60 < n
  · clear hI hR
    go_enter Tryz.func7, Tryz.ntmps7
    go_wp2_with fail
    refine (alive_any _ (HR.out _ (Below.refl _ _))).mono ?_
    rintro e w1 ⟨rfl, hb1⟩
    go_wp2_with fail
    go_ret
    exact ⟨rfl, hb1⟩
  · have HN := Lib.hid (normal_any a n cap l w hI hR.door (by omega))
    have HK := Lib.hid (fun W (h : Below w.heap.size w W) => refNormal_any a n cap l W (HI.out W h) (by omega))
    clear hI hR
    go_enter Tryz.func7, Tryz.ntmps7
    go_wp2_with fail
    refine HN.out.mono ?_
    rintro e w1 ⟨hN, hb1⟩
    have Hb1 := Lib.hid hb1
    have Hz1 := Lib.hid hb1.size
    clear hb1 HN
    rcases hN with ⟨i0, hN, rfl⟩ | ⟨hN, v, L, rfl, ho, hg, hm, hlt, hLn⟩
    · have Hbad := Lib.hid (firstS_of_some hN)
      clear hN
      simp only [errVal]
      go_wp2
      go_loopw [5, 6, 19] (fun _ _ i wr => ∃ k : Nat, k ≤ n ∧ i = .int .i64 k ∧ Below w1.heap.size w1 wr ∧ Hid (∀ j, j < k → badAt l j = none)) (fun _ _ i _ => n - (intOf i).toNat)
      case atStart => exact ⟨0, by omega, rfl, Below.refl _ _, fun j h => by omega⟩
      case round =>
        obtain ⟨k, hk, rfl, hb, ht⟩ := hrel
        have Hb := Lib.hid (Hb1.out.trans (hb.mono Hz1.out))
        have Hc := Lib.hid hb; clear hb
        by_cases hkn : k < n
        · obtain ⟨bb, oo, rfl, hcell⟩ := (HI.out _ Hb.out).cells (by omega)
          obtain ⟨hc1, hc2⟩ := hcell k hkn
          clear hcell
          have hin : badAt l k = if (nthI l k).2 < (nthI l k).1 then some (2, k) else none := rfl
          have hRi := Lib.hid (fun W => refRight3_any (nthI l k) W)
          have HA := Lib.hid (Hb.out.alloc Hb.out.size (.cells #[.int .u64 (((nthI l k).1 : Nat) : Int), .int .u64 (((nthI l k).2 : Nat) : Int)] 31))
          have HA2 := Lib.hid (Hc.out.alloc Hc.out.size (.cells #[.int .u64 (((nthI l k).1 : Nat) : Int), .int .u64 (((nthI l k).2 : Nat) : Int)] 31))
          generalize nthI l k = s at *
          by_cases h2 : s.2 < s.1
          · rw [if_pos h2] at hin
            rw [decide_eq_false (by omega)] at hRi
            have Hi0 := Lib.hid (show i0 = k from by
              obtain ⟨k', hk', hl', he⟩ := Hbad.out
              have e1 : ¬ k < k' := fun h => by rw [hl' k h] at hin; cases hin
              have e2 : ¬ k' < k := fun h => by rw [ht.out k' h] at he; cases he
              obtain rfl : k = k' := by omega
              rw [hin] at he
              injection he with he
              injection he with _ he
              exact he.symm)
            clear hin h2
            go_wp2_with fail
            refine (hRi.out _).mono ?_
            rintro e w2 ⟨rfl, hb2⟩
            have Hb2 := Lib.hid (HA.out.trans (hb2.mono HA.out.size)); clear hb2
            go_wp2_with fail
            refine (alive_any _ (HR.out _ Hb2.out)).mono ?_
            rintro e w3 ⟨rfl, hb3⟩
            have Hb3 := Lib.hid (Hb2.out.trans (hb3.mono Hb2.out.size)); clear hb3
            go_wp2_with fail
            refine (code_any (some (2, some (i0 : Int))) _ (HR.out _ Hb3.out).door).mono ?_
            rintro e w4 ⟨rfl, hb4⟩
            have Hb4 := Lib.hid (Hb3.out.trans (hb4.mono Hb3.out.size)); clear hb4
            simp only [errCode]
            go_wp2_with fail
            refine (at_any (some (2, some (i0 : Int))) _ (HR.out _ Hb4.out).door).mono ?_
            rintro e w5 ⟨rfl, hb5⟩
            have Hb5 := Lib.hid (Hb4.out.trans (hb5.mono Hb4.out.size)); clear hb5
            simp only [errAt]
            go_wp2_with fail
            go_ret
            exact ⟨by rw [Hi0.out]; simp, Hb5.out⟩
          · rw [if_neg h2] at hin
            rw [decide_eq_true (by omega)] at hRi
            have Hin := Lib.hid hin
            clear hin h2
            go_wp2_with fail
            refine (hRi.out _).mono ?_
            rintro e w2 ⟨rfl, hb2⟩
            have Hc2 := Lib.hid (HA2.out.trans (hb2.mono HA2.out.size)); clear hb2
            go_wp2
            go_roundw
            case rel => exact ⟨k + 1, by omega, by go_num, Hc2.out, fun j hj => by
              rcases Nat.lt_or_ge j k with h | h
              · exact ht.out j h
              · rw [show j = k from (by omega)]; exact Hin.out⟩
            case measure => simp [intOf]; omega
        · obtain rfl : k = n := by omega
          obtain ⟨k', hk', hl', he⟩ := Hbad.out
          rw [Hl.out] at hk'
          rw [ht.out k' hk'] at he
          cases he
    · have Hbad := Lib.hid (fun j hj => firstS_of_none hN j hj)
      obtain ⟨a1, c1, rfl, hI1⟩ := ivs_own ho hlt
      have HI1 := Lib.hid (fun W (h : Below w1.heap.size w1 W) => hI1.below h)
      have hln : L.length ≤ 60 := by rw [Hl.out] at hLn; omega
      have Hg := Lib.hid hg
      have Hm := Lib.hid hm
      have Hck := Lib.hid (ck_good.2 hg)
      have HN2 := Lib.hid (fun W (h : Below w1.heap.size w1 W) (hD : Door W) => normal_any a1 _ c1 L W (HI1.out W h) hD (by omega))
      clear ho hI1 hN hg hm hlt hLn
      obtain ⟨M, hM⟩ : ∃ M, M = L.length := ⟨_, rfl⟩
      rw [← hM] at HI1 HN2 hln ⊢
      have HM := Lib.hid hM
      clear hM
      simp only [errVal]
      go_wp2
      go_loopw [5, 6, 19] (fun _ _ i wr => ∃ k : Nat, k ≤ n ∧ i = .int .i64 k ∧ Below w1.heap.size w1 wr) (fun _ _ i _ => n - (intOf i).toNat)
      case atStart => exact ⟨0, by omega, rfl, Below.refl _ _⟩
      case round =>
        obtain ⟨k, hk, rfl, hb⟩ := hrel
        have Hb := Lib.hid (Hb1.out.trans (hb.mono Hz1.out))
        have Hc := Lib.hid hb; clear hb
        by_cases hkn : k < n
        · obtain ⟨bb, oo, rfl, hcell⟩ := (HI.out _ Hb.out).cells (by omega)
          obtain ⟨hc1, hc2⟩ := hcell k hkn
          clear hcell
          have hin : badAt l k = if (nthI l k).2 < (nthI l k).1 then some (2, k) else none := rfl
          rw [Hbad.out k (by rw [Hl.out]; exact hkn)] at hin
          have hRi := Lib.hid (fun W => refRight3_any (nthI l k) W)
          have HA2 := Lib.hid (Hc.out.alloc Hc.out.size (.cells #[.int .u64 (((nthI l k).1 : Nat) : Int), .int .u64 (((nthI l k).2 : Nat) : Int)] 31))
          generalize nthI l k = s at *
          have h2 : ¬ s.2 < s.1 := by
            intro h
            rw [if_pos h] at hin
            cases hin
          rw [decide_eq_true (by omega)] at hRi
          clear hin h2
          go_wp2_with fail
          refine (hRi.out _).mono ?_
          rintro e w2 ⟨rfl, hb2⟩
          have Hc2 := Lib.hid (HA2.out.trans (hb2.mono HA2.out.size)); clear hb2
          go_wp2
          go_roundw
          case rel => exact ⟨k + 1, by omega, by go_num, Hc2.out⟩
          case measure => simp [intOf]; omega
        · obtain rfl : k = n := by omega
          go_wp2_with fail
          refine (HK.out _ Hb.out).mono ?_
          rintro e w2 ⟨⟨v2, L2, rfl, ho2, hg2, hm2, hlt2⟩, hb2⟩
          obtain rfl : L = L2 := good_ext Hg.out hg2 (fun x => by rw [Hm.out, hm2])
          rw [← HM.out] at ho2
          obtain ⟨a2, c2, rfl, hI2⟩ := ivs_own ho2 hlt2
          have HI2 := Lib.hid hI2
          have Hc2 := Lib.hid (Hc.out.trans (hb2.mono Hc.out.size))
          have Hb2 := Lib.hid (Hb.out.trans (hb2.mono Hb.out.size))
          clear hb2 ho2 hg2 hm2 hlt2 hI2
          go_wp2_with fail
          refine (refSame_any a1 a2 M c1 M c2 L L _ (HI1.out _ Hc2.out) HI2.out).mono ?_
          rintro e w3 ⟨rfl, hb3⟩
          have Hc3 := Lib.hid (Hc2.out.trans (hb3.mono Hc2.out.size))
          have Hb3 := Lib.hid (Hb2.out.trans (hb3.mono Hb2.out.size))
          clear hb3 HI2
          rw [show decide (L = L) = true from decide_eq_true rfl]
          go_wp2_with fail
          refine (check_any a1 M c1 L _ (HI1.out _ Hc3.out) (HR.out _ Hb3.out).door).mono ?_
          rintro e w4 ⟨rfl, hb4⟩
          have Hc4 := Lib.hid (Hc3.out.trans (hb4.mono Hc3.out.size))
          have Hb4 := Lib.hid (Hb3.out.trans (hb4.mono Hb3.out.size))
          clear hb4
          rw [Hck.out]
          simp only [errOf, errVal]
          go_wp2_with fail
          refine (HN2.out _ Hc4.out (HR.out _ Hb4.out).door).mono ?_
          rintro e w5 ⟨hN5, hb5⟩
          have Hc5 := Lib.hid (Hc4.out.trans (hb5.mono Hc4.out.size))
          have Hb5 := Lib.hid (Hb4.out.trans (hb5.mono Hb4.out.size))
          clear hb5
          rcases hN5 with ⟨i, hN5, -⟩ | ⟨-, v5, L5, rfl, ho5, hg5, hm5, hlt5, -⟩
          · rw [good_bad Hg.out] at hN5; cases hN5
          obtain rfl : L = L5 := good_ext Hg.out hg5 (fun x => by rw [hm5])
          rw [← HM.out] at ho5
          obtain ⟨a5, c5, rfl, hI5⟩ := ivs_own ho5 hlt5
          have HI5 := Lib.hid (fun W (h : Below w5.heap.size w5 W) => hI5.below h)
          clear ho5 hg5 hm5 hlt5 hI5
          simp only [errVal]
          go_wp2_with fail
          refine (alive_any _ (HR.out _ Hb5.out)).mono ?_
          rintro e w6 ⟨rfl, hb6⟩
          have Hc6 := Lib.hid (Hc5.out.trans (hb6.mono Hc5.out.size))
          have Hb6 := Lib.hid (Hb5.out.trans (hb6.mono Hb5.out.size))
          have HI6 := Lib.hid (HI5.out _ hb6)
          clear hb6 HI5
          go_wp2_with fail
          refine (refSame_any a5 a1 M c5 M c1 L L _ HI6.out (HI1.out _ Hc6.out)).mono ?_
          rintro e w7 ⟨rfl, hb7⟩
          have Hb7 := Lib.hid (Hb6.out.trans (hb7.mono Hb6.out.size))
          clear hb7 HI6
          rw [show decide (L = L) = true from decide_eq_true rfl]
          go_wp2_with fail
          go_ret
          exact ⟨rfl, Hb7.out⟩

end Go.Proofs.YtbiohohclnaocaaGreatDoor
