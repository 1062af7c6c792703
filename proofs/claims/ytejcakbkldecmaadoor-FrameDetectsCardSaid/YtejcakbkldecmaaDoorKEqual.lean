/-
  Walk over slices.Equal at byte slices.
-/
import Derived.Test.YtejcakbkldecmaaDoorKBase
import Derived.WalkSpells
import Derived.Deep.QuietTactic
import Derived.BigQuiet
namespace Go.Proofs.YtejcakbkldecmaaDoor
open Go.RowKit
set_option linter.unusedVariables false

set_option maxHeartbeats 1000000 in
theorem equal_any (a a' : Option Addr) (n cap n' cap' : Nat) (l l' : List Nat) (w : World) (hB : Byts w a n cap l) (hB' : Byts w a' n' cap' l') (r : Bool) (hr : r = decide (l = l')) :
   Calls Tryd.prog 10 #[.slice a n cap, .slice a' n' cap'] w fun e w' => e = .returned (.bool r) ∧ ∃ q, w' = w.drewN q := by
  obtain ⟨hn, hlt, hnc, hcm, hnil, hc⟩ := hB; clear hnil
  have hm : n ≤ 9223372036854775807 := by omega
  obtain ⟨hn', hlt', hnc', hcm', hnil', hc'⟩ := hB'; clear hnil'
  have hm' : n' ≤ 9223372036854775807 := by omega
  by_cases hnn : n = n'
  · subst hnn
    have Hn := Lib.hid hn; clear hn
    have Hn' := Lib.hid hn'; clear hn'
    have Hlt := Lib.hid hlt; clear hlt
    have Hlt' := Lib.hid hlt'; clear hlt'
    have Hc := Lib.hid hc; clear hc
    have Hc' := Lib.hid hc'; clear hc'
    have Hr := Lib.hid hr; clear hr
    have hnb : ((n : Int) != (n : Int)) = false := by simp
    go_enter Tryd.func10, Tryd.ntmps10
    go_wp2
    go_loopw [4, 5, 13] (fun _ _ i wr => ∃ k q : Nat, k ≤ n ∧ i = .int .i64 k ∧ wr = w.drewN q ∧ Hid (l.take k = l'.take k)) (fun _ _ i _ => n - (intOf i).toNat)
    case atStart => exact ⟨0, 0, by omega, rfl, rfl, rfl⟩
    case round =>
      obtain ⟨k, q, hk, rfl, rfl, ht⟩ := hrel
      by_cases hkn : k < n
      · obtain ⟨cb, co, rfl, hcell⟩ := Hc.out (by omega)
        obtain ⟨cb', co', rfl, hcell'⟩ := Hc'.out (by omega)
        have hc := hcell k hkn
        have hc' := hcell' k hkn
        clear hcell hcell'
        have h0 : (0 : Int) ≤ k := by omega
        by_cases he : nth l k = nth l' k
        · have Ht := Lib.hid (nth_eq_take ht.out (by rw [Hn.out]; exact hkn) (by rw [Hn'.out]; exact hkn) he)
          rw [he] at hc
          generalize nth l' k = c at *
          clear he
          go_wp2
          go_quiet (fail)
          go_wp2
          go_roundw
          case rel => exact ⟨k + 1, _, by omega, by go_num, rfl, Ht.out⟩
          case measure => simp [intOf]; omega
        · have hne : (((nth l k : Nat) : Int) != ((nth l' k : Nat) : Int)) = true := by rw [bne_iff_ne]; omega
          have Hne := Lib.hid (nth_ne he)
          generalize nth l k = c at *
          generalize nth l' k = c' at *
          clear he
          go_wp2
          go_quiet (fail)
          go_wp2
          go_ret
          refine ⟨?_, _, World.drewN_drewN _ _ _⟩
          have := Hr.out
          rw [decide_eq_false Hne.out] at this
          rw [this]
          rfl
      · obtain rfl : k = n := by omega
        go_wp2
        go_ret
        refine ⟨?_, _, rfl⟩
        have h1 := ht.out
        rw [List.take_of_length_le (by rw [Hn.out]; omega), List.take_of_length_le (by rw [Hn'.out]; omega)] at h1
        have := Hr.out
        rw [decide_eq_true h1] at this
        rw [this]
        rfl
  · have hnb : ((n : Int) != (n' : Int)) = true := by rw [bne_iff_ne]; omega
    have hne : l ≠ l' := fun h => hnn (by rw [← hn, ← hn', h])
    rw [decide_eq_false hne] at hr
    subst hr
    clear hn hn' hlt hlt' hc hc' hne
    go_enter Tryd.func10, Tryd.ntmps10
    go_wp2
    go_ret
    exact ⟨rfl, 0, rfl⟩

end Go.Proofs.YtejcakbkldecmaaDoor
