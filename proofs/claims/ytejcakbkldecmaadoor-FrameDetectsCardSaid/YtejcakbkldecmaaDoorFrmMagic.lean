/-
  Walks: frame.Magic, kenningref21.Start, slices.Clone at bytes, kenningref16.Scan.
-/
import Derived.Test.YtejcakbkldecmaaDoorFrmPlain
import Derived.Test.YtejcakbkldecmaaDoorKRows
import Derived.WalkSpells
namespace Go.Proofs.YtejcakbkldecmaaDoor
open Go.RowKit
set_option linter.unusedVariables false

theorem magic_any (w : World) : Calls Tryd.prog 18 #[] w fun e w' => e = .returned (.agg #[.int .u8 75, .int .u8 78, .int .u8 87, .int .u8 76]) ∧ Below w.heap.size w w' := by
  go_enter Tryd.func18, Tryd.ntmps18
  go_wp2
  exact bodyPost_ret (v := .agg #[.int .u8 75, .int .u8 78, .int .u8 87, .int .u8 76]) (by simp [results, Tryd.results18, go_sem]) rfl ⟨rfl, (Below.refl _ _).alloc (Nat.le_refl _) _⟩

theorem start_any (w : World) : Calls Tryd.prog 22 #[] w fun e w' => e = .returned (.slice (some ⟨w.heap.size, 0, none⟩) 5 5) ∧ w' = w.alloc (.cells (u8s startL).toArray 5) := by
  go_enter Tryd.func22, Tryd.ntmps22
  go_wp2
  go_ret
  exact ⟨rfl, rfl⟩

set_option maxHeartbeats 400000 in
theorem clone_any (a : Option Addr) (n cap : Nat) (l : List Nat) (w : World) (hB : Byts w a n cap l) (hn : n ≤ 140737488355328) :
    Calls Tryd.prog 26 #[.slice a n cap] w fun e w' => (∃ v', e = .returned v' ∧ w'.ownsRow w.heap.size 5 1 v' n (u8s l)) ∧ Below w.heap.size w w' := by
  cases a with
  | none =>
    have hc := hB.nilc rfl
    have hr := hB.room
    obtain rfl : n = 0 := by omega
    subst hc
    have hl : l = [] := List.length_eq_zero_iff.1 hB.len
    subst hl
    clear hB hn hr
    have hq : ∀ (w : World) (n c : Nat), (binOp .eql 22 (.slice none n c) (.slice none 0 0)).run Tryd.prog w = .ok (.bool true) w := fun (w : World) (n c : Nat) => Lib.run_eql_slice_nil (P := Tryd.prog) w 22 5 none n c 0 0 Tryd.underlying22
    go_enter Tryd.func26, Tryd.ntmps26
    go_wp2_with fail
    go_ret
    exact ⟨⟨_, rfl, World.ownsRow_nil _ _ _ _⟩, Below.refl _ _⟩
  | some x =>
    obtain ⟨v1, w1, hr1, ho1, hb1⟩ := run_copy_byts (some x) n cap l hB hn
    have Ho1 := Lib.hid ho1; clear ho1 hB hn
    have hq : ∀ (w : World) (n c : Nat), (binOp .eql 22 (.slice (some x) n c) (.slice none 0 0)).run Tryd.prog w = .ok (.bool false) w := fun (w : World) (n c : Nat) => Lib.run_eql_slice_nil (P := Tryd.prog) w 22 5 (some x) n c 0 0 Tryd.underlying22
    go_enter Tryd.func26, Tryd.ntmps26
    go_wp2_with (at_builtin; refine wpList_append_hr _ _ 22 rfl rfl _ _ rfl rfl _ _ hr1 ?_)
    go_ret
    exact ⟨⟨_, rfl, Ho1.out⟩, hb1⟩

theorem scan_step (l : List Nat) (p k x : Nat) (h : p + k < l.length) :
    scan (l.drop (p + k)) k x = if nextState k (nth l (p + k)) = 2 then (2, 0, k + 1) else if nextState k (nth l (p + k)) = 1 then (1, orAt x k (nth l (p + k)), k + 1) else scan (l.drop (p + (k + 1))) (k + 1) (orAt x k (nth l (p + k))) := by
  rw [drop_nth l (p + k) h]
  rfl

theorem shl_orAt (x k c : Nat) (hx : x < 18446744073709551616) : bits .or .u64 (x : Int) (IntKind.u64.wrap ((c : Int) % 128 * 2 ^ (7 * k))) = ((orAt x k c : Nat) : Int) := go_orAt x k c hx

set_option maxRecDepth 100000 in
set_option maxHeartbeats 4000000 in
theorem scan_any (a : Option Addr) (n cap p q : Nat) (l : List Nat) (w : World) (hB : Byts w a n cap l) (hp : p ≤ n) (hq : n + 50 ≤ q) (hs : q ≤ 200000) :
    Calls Tryd.prog 28 #[.slice a n cap, .int .i64 p, .int .i64 q] w fun e w' => e = .returned (.tuple #[.int .i64 ((scan (l.drop p) 0 0).1 : Nat), .int .u64 ((scan (l.drop p) 0 0).2.1 : Nat), .int .i64 ((p + (scan (l.drop p) 0 0).2.2 : Nat) : Int)]) ∧ w = w' := by
  obtain ⟨hn, hlt, hnc, hcm, hnil, hc⟩ := hB; clear hnil hcm
  have Hn := Lib.hid hn; clear hn
  have Hlt := Lib.hid hlt; clear hlt
  have Hc := Lib.hid hc; clear hc
  go_enter Tryd.func28, Tryd.ntmps28
  go_wp2_with fail
  go_loop [9, 10, 11] (fun y j _ => ∃ k x : Nat, p + k ≤ n ∧ k < 10 ∧ j = .int .i64 k ∧ y = .int .u64 x ∧ Hid (x < 18446744073709551616) ∧ Hid (scan (l.drop p) 0 0 = scan (l.drop (p + k)) k x)) (fun _ j _ => 10 - (intOf j).toNat)
  case atStart => exact ⟨0, 0, by omega, by omega, rfl, rfl, by show 0 < 18446744073709551616; omega, rfl⟩
  case round =>
    obtain ⟨k, x, hk, hk10, rfl, rfl, hx, hS⟩ := hrel
    have h10 : decide ((k : Int) < 10) = true := by rw [decide_eq_true_iff]; omega
    have hq1 : decide ((q : Int) ≤ (p : Int) + (k : Int)) = false := by rw [decide_eq_false_iff_not]; omega
    by_cases hkn : p + k < n
    · have hq2 : decide ((n : Int) ≤ (p : Int) + (k : Int)) = false := by rw [decide_eq_false_iff_not]; omega
      obtain ⟨b, o, rfl, hcell⟩ := Hc.out (by omega)
      have hc := hcell (p + k) hkn
      clear hcell
      have hnc : nth l (p + k) < 256 := nth_lt Hlt.out (by omega) _
      have Hd := Lib.hid (scan_step l p k x (by rw [Hn.out]; exact hkn))
      have Ho := Lib.hid (fun c => shl_orAt x k c hx.out)
      have Hol := Lib.hid (fun c => orAt_lt k c hx.out)
      generalize nth l (p + k) = c at *
      by_cases hw : (k = 9 ∧ 1 < c) ∨ (0 < k ∧ c = 0)
      · have hns : nextState k c = 2 := if_pos hw
        have Hfin := Lib.hid (show scan (l.drop p) 0 0 = (2, 0, k + 1) from by rw [hS.out, Hd.out, if_pos hns])
        have hb : ((((k : Int) == 9) && decide (1 < (c : Int))) || (decide (0 < k) && ((c : Int) == 0))) = true := by
          rcases hw with ⟨h1, h2⟩ | ⟨h1, h2⟩
          · have e1 : ((k : Int) == 9) = true := by rw [beq_iff_eq]; omega
            have e2 : decide (1 < (c : Int)) = true := by rw [decide_eq_true_iff]; omega
            rw [e1, e2]; rfl
          · have e1 : decide (0 < k) = true := by rw [decide_eq_true_iff]; omega
            have e2 : ((c : Int) == 0) = true := by rw [beq_iff_eq]; omega
            rw [e1, e2]; simp
        rcases hw with ⟨h1, h2⟩ | ⟨h1, h2⟩
        · have e1 : ((k : Int) == 9) = true := by rw [beq_iff_eq]; omega
          have e2 : decide (1 < (c : Int)) = true := by rw [decide_eq_true_iff]; omega
          clear hb h1
          go_wp2_with fail
          go_ret3
          refine ⟨?_, rfl⟩
          rw [Hfin.out]
          rfl
        · have e0 : ((c : Int) == 0) = true := by rw [beq_iff_eq]; omega
          have e1 : decide (0 < k) = true := by rw [decide_eq_true_iff]; omega
          have e2 : decide (1 < (c : Int)) = false := by rw [decide_eq_false_iff_not]; omega
          clear hb h2
          by_cases h9 : k = 9
          · have e3 : ((k : Int) == 9) = true := by rw [beq_iff_eq]; omega
            clear h9
            go_wp2_with fail
            go_ret3
            refine ⟨?_, rfl⟩
            rw [Hfin.out]
            rfl
          · have e3 : ((k : Int) == 9) = false := by rw [beq_eq_false_iff_ne]; omega
            go_wp2_with fail
            go_ret3
            refine ⟨?_, rfl⟩
            rw [Hfin.out]
            rfl
      · have hns2 : nextState k c ≠ 2 := by unfold nextState; rw [if_neg hw]; split <;> decide
        have hk9 : k ≠ 9 ∨ c ≤ 1 := by omega
        have hk0 : k = 0 ∨ c ≠ 0 := by omega
        clear hw
        have HO := Lib.hid (Ho.out c)
        have HL := Lib.hid (Hol.out c)
        have e90 : (((k : Int) == 9) = true ∧ decide (1 < (c : Int)) = false ∧ decide (0 < k) = true ∧ ((c : Int) == 0) = false) ∨ (((k : Int) == 9) = false ∧ decide (0 < k) = true ∧ ((c : Int) == 0) = false) ∨ (((k : Int) == 9) = false ∧ decide (0 < k) = false) := by
          by_cases h9 : k = 9
          · left; exact ⟨by rw [beq_iff_eq]; omega, by rw [decide_eq_false_iff_not]; omega, by rw [decide_eq_true_iff]; omega, by rw [beq_eq_false_iff_ne]; omega⟩
          · right
            by_cases h0 : k = 0
            · right; exact ⟨by rw [beq_eq_false_iff_ne]; omega, by rw [decide_eq_false_iff_not]; omega⟩
            · left; exact ⟨by rw [beq_eq_false_iff_ne]; omega, by rw [decide_eq_true_iff]; omega, by rw [beq_eq_false_iff_ne]; omega⟩
        clear hk9 hk0
        by_cases h128 : c < 128
        · have hns : nextState k c = 1 := by
            rcases nextState_le k c with h | h | h
            · unfold nextState at h; rw [if_neg (fun hh => hns2 (if_pos hh)), if_pos h128] at h; cases h
            · exact h
            · exact absurd h hns2
          have Hfin := Lib.hid (show scan (l.drop p) 0 0 = (1, orAt x k c, k + 1) from by rw [hS.out, Hd.out, if_neg hns2, if_pos hns])
          have e5 : decide ((c : Int) < 128) = true := by rw [decide_eq_true_iff]; omega
          clear hns hns2
          rcases e90 with ⟨e9, e9', e0, e0'⟩ | ⟨e9, e0, e0'⟩ | ⟨e9, e0⟩
          all_goals
            go_wp2_with fail
            rw [HO.out]
            go_ret3
            refine ⟨?_, rfl⟩
            rw [Hfin.out]
            rfl
        · have hns : nextState k c = 0 := by
            rcases nextState_le k c with h | h | h
            · exact h
            · unfold nextState at h; rw [if_neg (fun hh => hns2 (if_pos hh)), if_neg h128] at h; cases h
            · exact absurd h hns2
          have hk9' : k ≠ 9 := fun e => nextState9 c (by rw [← e]; exact hns)
          have HS2 := Lib.hid (show scan (l.drop p) 0 0 = scan (l.drop (p + (k + 1))) (k + 1) (orAt x k c) from by rw [hS.out, Hd.out, if_neg hns2, if_neg (by rw [hns]; decide)])
          have e5 : decide ((c : Int) < 128) = false := by rw [decide_eq_false_iff_not]; omega
          clear hns hns2
          rcases e90 with ⟨e9, e9', e0, e0'⟩ | ⟨e9, e0, e0'⟩ | ⟨e9, e0⟩
          all_goals
            go_wp2_with fail
            rw [HO.out]
            go_round
            case rel => exact ⟨k + 1, _, by omega, by omega, by go_num, rfl, HL, HS2⟩
            case measure => simp [intOf]; omega
    · obtain hkn' : p + k = n := by omega
      have hq2 : decide ((n : Int) ≤ (p : Int) + (k : Int)) = true := by rw [decide_eq_true_iff]; omega
      have Hfin := Lib.hid (show scan (l.drop p) 0 0 = (0, 0, k) from by rw [hS.out, List.drop_eq_nil_of_le (by rw [Hn.out]; omega)]; rfl)
      clear hkn'
      go_wp2_with fail
      go_ret3
      refine ⟨?_, rfl⟩
      rw [Hfin.out]
      rfl

end Go.Proofs.YtejcakbkldecmaaDoor
