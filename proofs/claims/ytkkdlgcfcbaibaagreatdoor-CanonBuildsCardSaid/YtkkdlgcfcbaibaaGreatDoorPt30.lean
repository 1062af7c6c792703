/- Walks and laws, merged: part 30. -/
import Derived.Test.YtkkdlgcfcbaibaaGreatDoorPt29
section
namespace Go.Proofs.YtkkdlgcfcbaibaaGreatDoor
open Go.RowKit
set_option linter.unusedVariables false

set_option maxRecDepth 20000 in
set_option maxHeartbeats 4000000 in
theorem insU_any (g o c a b : Nat) (d : Array Nat) (w : World) (hH : Sort.Holds encU w g o d) (hab : a ≤ b) (hb : b ≤ d.size) (hsz : d.size < 4611686018427387904) :
    Calls Tryz.prog 218 #[.slice (some ⟨g, o, none⟩) d.size c, .int .i64 a, .int .i64 b] w fun e w' =>
      e = .returned (.tuple #[]) ∧ ∃ n, w' = Sort.putRow encU (Sort.ahead w n) g o (Sort.insertionSort ltU d a b) := by
  have HH := Lib.hid hH
  have H0 := Lib.hid (Sort.putRow_self encU w g o d hH).symm
  clear hH
  go_enter Tryz.func218, Tryz.ntmps218
  go_wp2
  go_loopw [6] (fun vi wr => ∃ (i n : Nat) (dk : Array Nat), vi = .int .i64 i ∧ a < i ∧ i ≤ b + 1 ∧ dk.size = d.size ∧ Hid (wr = Sort.putRow encU (Sort.ahead w n) g o dk) ∧
      Hid (Sort.insOuter ltU a b i dk = Sort.insOuter ltU a b (a + 1) d)) (fun vi _ => b + 1 - (intOf vi).toNat)
  case atStart => exact ⟨a + 1, 0, d, by go_num, by omega, by omega, rfl, H0, rfl⟩
  case round =>
    obtain ⟨i, n, dk, rfl, hai, hib, hsk, HW, HO⟩ := hrel
    by_cases hlt : i < b
    · go_wp2
      go_loopw [7] (fun vj wr2 => ∃ (j m : Nat) (dj : Array Nat), vj = .int .i64 j ∧ a ≤ j ∧ j ≤ i ∧ dj.size = d.size ∧ Hid (wr2 = Sort.putRow encU (Sort.ahead w m) g o dj) ∧
          Hid (Sort.insInner ltU a j dj = Sort.insInner ltU a i dk)) (fun vj _ => (intOf vj).toNat)
      case atStart => exact ⟨i, n, dk, rfl, by omega, Nat.le_refl _, hsk, HW, rfl⟩
      case round =>
        obtain ⟨j, m, dj, rfl, haj, hji, hsj, HW2, HI⟩ := hrel
        obtain ⟨G, ⟨hcw, hfw, hG⟩⟩ := cellsU (holdsU HH.out hsj HW2.out) hsj
        have HG := Lib.hid hG
        have OUT := Lib.hid (fun (hs : j ≤ a ∨ ltU dj[j]! dj[j - 1]! = false) q => show ∃ (i' n' : Nat) (dk' : Array Nat), Value.int .i64 ((i : Int) + 1) = .int .i64 (i' : Nat) ∧ a < i' ∧ i' ≤ b + 1 ∧ dk'.size = d.size ∧
            Hid (wr.drewN q = Sort.putRow encU (Sort.ahead w n') g o dk') ∧ Hid (Sort.insOuter ltU a b i' dk' = Sort.insOuter ltU a b (a + 1) d) from
          ⟨i + 1, m + q, dj, by go_num, by omega, by omega, hsj, (by rw [HW2.out]; exact putRow_drewN _ _ _ _ _ _ _),
            (by show _ = _; rw [← HO.out, insOuter_go _ _ _ _ _ hlt, ← HI.out, insInner_stop _ _ _ _ hs])⟩)
        clear hG
        go_wp2
        by_cases hja : a < j
        · go_quiet (first | (go_at_call 224; refine Calls.quiet_of_same (lessU_any _ _ _)))
          go_wp2
          · have hl : ltU (G j) (G (j - 1)) = true := by assumption
            go_region
            all_goals go_wp2
            go_roundw
            case rel =>
              refine ⟨j - 1, m + (nq + 1), Sort.swp dj j (j - 1), by congr 1; omega, by omega, by omega, by rw [Sort.size_swp]; exact hsj, ?_, ?_⟩
              · show _ = _
                rw [HG.out, HG.out]
                exact swapU HW2.out (nq + 1) j (j - 1) (by omega) (by omega)
              · show _ = _
                rw [← HI.out, insInner_go ltU a j dj hja (by rw [← HG.out, ← HG.out]; exact hl)]
            case measure => simp [intOf]; omega
          · have hl : ltU (G j) (G (j - 1)) = false := by assumption
            go_roundw
            case rel => exact OUT.out (Or.inr (by rw [← HG.out, ← HG.out]; exact hl)) nq
            case measure => simp [intOf]; omega
        · go_quiet (first | (go_at_call 224; refine Calls.quiet_of_same (lessU_any _ _ _)))
          go_wp2
          go_roundw
          case rel => exact OUT.out (Or.inl (by omega)) nq
          case measure => simp [intOf]; omega
    · go_wp2
      go_end0
      exact ⟨rfl, n, by rw [HW.out]; unfold Sort.insertionSort; rw [← HO.out, insOuter_stop _ _ _ _ _ hlt]⟩

end Go.Proofs.YtkkdlgcfcbaibaaGreatDoor
end

section
namespace Go.Proofs.YtkkdlgcfcbaibaaGreatDoor
open Go.RowKit
set_option linter.unusedVariables false

set_option maxRecDepth 20000 in
set_option maxHeartbeats 4000000 in
theorem revU_any (g o c a b : Nat) (d : Array Nat) (w : World) (hH : Sort.Holds encU w g o d) (hab : a ≤ b) (hb : b ≤ d.size) (hsz : d.size < 4611686018427387904) :
    Calls Tryz.prog 222 #[.slice (some ⟨g, o, none⟩) d.size c, .int .i64 a, .int .i64 b] w fun e w' =>
      e = .returned (.tuple #[]) ∧ ∃ n, w' = Sort.putRow encU (Sort.ahead w n) g o (Sort.reverseRange d a b) := by
  have HH := Lib.hid hH
  have H0 := Lib.hid (Sort.putRow_self encU w g o d hH).symm
  clear hH
  go_enter Tryz.func222, Tryz.ntmps222
  go_wp2
  go_loopw [6, 7] (fun vi vj wr => ∃ (i q n : Nat) (z : Int) (dk : Array Nat), vi = .int .i64 i ∧ vj = .int .i64 z ∧ ((i : Int) < z → z = q ∧ q < d.size) ∧ (¬ (i : Int) < z → ¬ i < q) ∧ dk.size = d.size ∧
      i ≤ d.size ∧ -1 ≤ z ∧ z ≤ d.size ∧ Hid (wr = Sort.putRow encU (Sort.ahead w n) g o dk) ∧ Hid (Sort.reverseLoop i q dk = Sort.reverseLoop a (b - 1) d)) (fun vi vj _ => (intOf vj - intOf vi).toNat)
  case atStart => exact ⟨a, b - 1, 0, (b : Int) - 1, d, rfl, rfl, fun h => ⟨by omega, by omega⟩, fun h => by omega, rfl, by omega, by omega, by omega, H0, rfl⟩
  case round =>
    obtain ⟨i, q, n, z, dk, rfl, rfl, h1, h2, hs, hi, hz1, hz2, HW, HR⟩ := hrel
    by_cases hlt : (i : Int) < z
    · obtain ⟨rfl, hq⟩ := h1 hlt
      have hiq : i < q := by omega
      obtain ⟨G, ⟨hcw, hfw, hG⟩⟩ := cellsU (holdsU HH.out hs HW.out) hs
      have HG := Lib.hid hG
      clear hG h1 h2
      go_wp2_with fail
      go_region
      go_wp2
      go_roundw
      case rel =>
        refine ⟨i + 1, q - 1, n + 1, (q : Int) - 1, Sort.swp dk i q, by go_num, rfl, fun h => ⟨by omega, by omega⟩, fun h => by omega, by rw [Sort.size_swp]; exact hs, by omega, by omega, by omega, ?_, ?_⟩
        · show _ = _
          rw [HG.out, HG.out]
          exact swapU HW.out 1 i q (by omega) (by omega)
        · show _ = _
          rw [← HR.out]
          conv => rhs; rw [Sort.reverseLoop, if_pos hiq]
      case measure => simp [intOf]; omega
    · have hn := h2 hlt
      go_wp2
      go_end0
      refine ⟨rfl, n, ?_⟩
      rw [HW.out]
      unfold Sort.reverseRange
      rw [← HR.out, Sort.reverseLoop, if_neg hn]

set_option maxRecDepth 20000 in
set_option maxHeartbeats 8000000 in
theorem siftU_any (g o c root hi f : Nat) (d : Array Nat) (w : World) (hH : Sort.Holds encU w g o d) (hlo : root ≤ hi) (hb : f + hi ≤ d.size) (hsz : d.size < 4611686018427387904) :
    Calls Tryz.prog 232 #[.slice (some ⟨g, o, none⟩) d.size c, .int .i64 root, .int .i64 hi, .int .i64 f] w fun e w' =>
      e = .returned (.tuple #[]) ∧ ∃ n, w' = Sort.putRow encU (Sort.ahead w n) g o (Sort.siftDown ltU hi f root d) := by
  have HH := Lib.hid hH
  have H0 := Lib.hid (Sort.putRow_self encU w g o d hH).symm
  clear hH
  go_enter Tryz.func232, Tryz.ntmps232
  go_wp2
  go_loopw [8, 9] (fun vr _ wr => ∃ (r n : Nat) (dk : Array Nat), vr = .int .i64 r ∧ r ≤ hi ∧ dk.size = d.size ∧ Hid (wr = Sort.putRow encU (Sort.ahead w n) g o dk) ∧ Hid (Sort.siftDown ltU hi f r dk = Sort.siftDown ltU hi f root d)) (fun vr _ _ => hi - (intOf vr).toNat)
  case atStart => exact ⟨root, 0, d, rfl, hlo, rfl, H0, rfl⟩
  case round =>
    obtain ⟨r, n, dk, rfl, hr, hs, HW, HR⟩ := hrel
    by_cases h0 : hi ≤ 2 * r + 1
    · have h0z : (hi : Int) ≤ 2 * (r : Int) + 1 := by omega
      go_wp2
      go_end0
      exact ⟨rfl, n, by rw [HW.out, ← HR.out, Sort.sd_end ltU dk h0]⟩
    · have h0z : ¬ ((hi : Int) ≤ 2 * (r : Int) + 1) := by omega
      obtain ⟨G, ⟨hcw, hfw, hG⟩⟩ := cellsU (holdsU HH.out hs HW.out) hs
      have HG := Lib.hid hG
      clear hG
      obtain ⟨z, hz⟩ : ∃ z : Bool, z = (decide (2 * r + 2 < hi) && ltU (G (f + (2 * r + 1))) (G (f + (2 * r + 2)))) := ⟨_, rfl⟩
      have Hz := Lib.hid hz
      obtain ⟨k, hk⟩ : ∃ k, k = if z = true then 2 * r + 2 else 2 * r + 1 := ⟨_, rfl⟩
      have hz1 : z = true → 2 * r + 2 < hi ∧ ltU (G (f + (2 * r + 1))) (G (f + (2 * r + 2))) = true := fun h => by rw [hz] at h; simpa using h
      have hz2 : z = false → 2 * r + 2 < hi → ltU (G (f + (2 * r + 1))) (G (f + (2 * r + 2))) = false := fun h h2 => by rw [hz] at h; simpa [h2] using h
      have hkh : k < hi := by
        rw [hk]; split
        · rename_i h; exact (hz1 h).1
        · omega
      have hkr : r < k := by rw [hk]; split <;> omega
      have STOP := Lib.hid (fun (h : ltU (G (f + r)) (G (f + k)) = false) => show Sort.siftDown ltU hi f r dk = dk from by
        rw [HG.out, HG.out] at h
        cases hc : z with
        | true =>
          rw [hk, if_pos hc] at h
          exact Sort.sd_right_stop ltU dk (hz1 hc).1 (by rw [← HG.out, ← HG.out]; exact (hz1 hc).2) h
        | false =>
          rw [hk, if_neg (by rw [hc]; simp)] at h
          exact Sort.sd_left_stop ltU dk (by omega) (fun h2 => by rw [← HG.out, ← HG.out]; exact hz2 hc h2) h)
      have GO := Lib.hid (fun (h : ltU (G (f + r)) (G (f + k)) = true) => show Sort.siftDown ltU hi f r dk = Sort.siftDown ltU hi f k (Sort.swp dk (f + r) (f + k)) from by
        rw [HG.out, HG.out] at h
        cases hc : z with
        | true =>
          rw [hk, if_pos hc] at h ⊢
          exact Sort.sd_right_go ltU dk (hz1 hc).1 (by rw [← HG.out, ← HG.out]; exact (hz1 hc).2) h
        | false =>
          rw [hk, if_neg (by rw [hc]; simp)] at h ⊢
          exact Sort.sd_left_go ltU dk (by omega) (fun h2 => by rw [← HG.out, ← HG.out]; exact hz2 hc h2) h)
      have Hkt := Lib.hid (fun h : z = true => show k = 2 * r + 2 by rw [hk, if_pos h])
      have Hkf := Lib.hid (fun h : z = false => show k = 2 * r + 1 by rw [hk, if_neg (by rw [h]; simp)])
      clear hk hz hz1 hz2
      go_wp2_with fail
      go_cut [36] (fun v wc => v = .bool z ∧ ∃ q, Hid (wc = wr.drewN q))
      case first =>
        by_cases h1 : 2 * r + 2 < hi
        · have h1z : 2 * (r : Int) + 1 + 1 < (hi : Int) := by omega
          go_quiet (first | (go_at_call 224; refine Calls.quiet_of_same (lessU_any _ _ _)))
          go_wp2
          go_meet
          refine ⟨?_, nq, rfl⟩
          rw [Hz.out]
          simp [h1, Nat.add_assoc]
        · have h1z : ¬ 2 * (r : Int) + 1 + 1 < (hi : Int) := by omega
          go_quiet (first | (go_at_call 224; refine Calls.quiet_of_same (lessU_any _ _ _)))
          go_wp2
          go_meet
          refine ⟨?_, nq, rfl⟩
          rw [Hz.out]
          simp [h1]
      case rest =>
        obtain ⟨rfl, q, HC⟩ := hcut
        have hcw2 : ∀ t, t < d.size → wc.cell? ⟨g, o + t, none⟩ = some (.int .u64 (G t : Int)) := by rw [HC.out]; exact hcw
        have hfw2 : ∀ t, t < d.size → wc.frozen? ⟨g, o + t, none⟩ = false := by rw [HC.out]; exact hfw
        have HS := Lib.hid (fun q2 (h : ltU (G (f + r)) (G (f + k)) = false) => show ∃ n, wc.drewN q2 = Sort.putRow encU (Sort.ahead w n) g o (Sort.siftDown ltU hi f root d) from
          ⟨n + q + q2, by rw [HC.out, HW.out, putRow_drewN, putRow_drewN, ← HR.out, STOP.out h]⟩)
        have HT := Lib.hid (fun q2 (h : ltU (G (f + r)) (G (f + k)) = true) => show ∃ n2, (((wc.drewN q2).setCell ⟨g, o + (f + r), none⟩ (encU (G (f + k)))).setCell ⟨g, o + (f + k), none⟩ (encU (G (f + r)))) = Sort.putRow encU (Sort.ahead w n2) g o (Sort.swp dk (f + r) (f + k)) from
          ⟨n + q + q2, by rw [HG.out, HG.out]; exact swapU (by rw [HC.out, HW.out, putRow_drewN]) q2 (f + r) (f + k) (by omega) (by omega)⟩)
        clear hcw hfw
        cases z with
        | true =>
          have hk := Hkt.out rfl
          subst hk
          go_wp2_with fail
          go_quiet (first | (go_at_call 224; refine Calls.quiet_of_same (lessU_any _ _ _)))
          go_wp2_with fail
          · have hl : (!ltU (G (f + r)) (G (f + 2 * r + 2))) = true := by assumption
            (try simp only [Exit.inBlock, Exit.then])
            refine bodyPost_ret (results_none rfl _ _ _) rfl ?_
            exact ⟨rfl, HS.out nq (by rw [← Nat.add_assoc]; simpa using hl)⟩
          · have hl : (!ltU (G (f + r)) (G (f + 2 * r + 2))) = false := by assumption
            have hl2 : ltU (G (f + r)) (G (f + (2 * r + 2))) = true := by rw [← Nat.add_assoc]; simpa using hl
            obtain ⟨n2, hn2⟩ := HT.out (nq + 1) hl2
            have Hn2 := Lib.hid hn2
            have Hgo := Lib.hid (GO.out hl2)
            clear hn2 hl2
            go_region
            all_goals go_wp2
            go_roundw
            case rel =>
              refine ⟨2 * r + 2, n2, Sort.swp dk (f + r) (f + (2 * r + 2)), by go_num, by omega, by rw [Sort.size_swp]; exact hs, ?_, ?_⟩
              · show _ = _
                rw [← Hn2.out]
                rfl
              · show _ = _
                rw [← HR.out, Hgo.out]
            case measure => simp [intOf]; omega
        | false =>
          have hk := Hkf.out rfl
          subst hk
          go_wp2_with fail
          go_quiet (first | (go_at_call 224; refine Calls.quiet_of_same (lessU_any _ _ _)))
          go_wp2_with fail
          · have hl : (!ltU (G (f + r)) (G (f + 2 * r + 1))) = true := by assumption
            (try simp only [Exit.inBlock, Exit.then])
            refine bodyPost_ret (results_none rfl _ _ _) rfl ?_
            exact ⟨rfl, HS.out nq (by rw [← Nat.add_assoc]; simpa using hl)⟩
          · have hl : (!ltU (G (f + r)) (G (f + 2 * r + 1))) = false := by assumption
            have hl2 : ltU (G (f + r)) (G (f + (2 * r + 1))) = true := by rw [← Nat.add_assoc]; simpa using hl
            obtain ⟨n2, hn2⟩ := HT.out (nq + 1) hl2
            have Hn2 := Lib.hid hn2
            have Hgo := Lib.hid (GO.out hl2)
            clear hn2 hl2
            go_region
            all_goals go_wp2
            go_roundw
            case rel =>
              refine ⟨2 * r + 1, n2, Sort.swp dk (f + r) (f + (2 * r + 1)), by go_num, by omega, by rw [Sort.size_swp]; exact hs, ?_, ?_⟩
              · show _ = _
                rw [← Hn2.out]
                rfl
              · show _ = _
                rw [← HR.out, Hgo.out]
            case measure => simp [intOf]; omega

end Go.Proofs.YtkkdlgcfcbaibaaGreatDoor
end

section
namespace Go.Proofs.YtkkdlgcfcbaibaaGreatDoor
open Go.RowKit
set_option linter.unusedVariables false

set_option maxRecDepth 20000 in
set_option maxHeartbeats 8000000 in
theorem heapU_any (g o c a b : Nat) (d : Array Nat) (w : World) (hH : Sort.Holds encU w g o d) (hab : a ≤ b) (hb : b ≤ d.size) (hsz : d.size < 4611686018427387904) :
    Calls Tryz.prog 219 #[.slice (some ⟨g, o, none⟩) d.size c, .int .i64 a, .int .i64 b] w fun e w' =>
      e = .returned (.tuple #[]) ∧ ∃ n, w' = Sort.putRow encU (Sort.ahead w n) g o (Sort.heapSort ltU d a b) := by
  have HH := Lib.hid hH
  have H0 := Lib.hid (Sort.putRow_self encU w g o d hH).symm
  obtain ⟨L, hL⟩ : ∃ L, L = b - a := ⟨_, rfl⟩
  have hsub : IntKind.i64.wrap ((b : Int) - (a : Int)) = (L : Int) := by rw [IntKind.wrap_i64]; omega
  have Hst := Lib.hid (show ((L : Int) - 1).tdiv 2 = (((L - 1) / 2 + 1 : Nat) : Int) - 1 from by
    have := half_start hab
    rw [← hL] at this
    rw [← this]; congr 1; omega)
  have Hsp := Lib.hid (show Sort.heapSort ltU d a b = Sort.heapPop ltU a L (Sort.heapBuild ltU L a ((L - 1) / 2 + 1) d) from by rw [hL]; rfl)
  have HL := Lib.hid hL
  have hbL : b = a + L := by omega
  have hLz : a + L ≤ d.size := by omega
  have HS := Lib.hid (fun (k m : Nat) (dk : Array Nat) (wr : World) (hw : ∃ n, wr = Sort.putRow encU (Sort.ahead w n) g o dk) (hs : dk.size = d.size) (hkm : k ≤ m) (hm : m ≤ L) =>
    show Calls Tryz.prog 232 #[.slice (some ⟨g, o, none⟩) d.size c, .int .i64 k, .int .i64 m, .int .i64 a] wr fun e w' => e = .returned (.tuple #[]) ∧ ∃ n, w' = Sort.putRow encU (Sort.ahead w n) g o (Sort.siftDown ltU m a k dk) from by
    obtain ⟨n, hw⟩ := hw
    have h := siftU_any g o c k m a dk wr (holdsU HH.out hs hw) hkm (by omega) (by omega)
    rw [hs] at h
    refine h.mono ?_
    rintro e w1 ⟨he, n2, h2⟩
    refine ⟨he, n + n2, ?_⟩
    rw [h2, hw]
    exact Sort.putRow_ahead_putRow encU w n n2 g o dk _ (Sort.size_siftDown ltU m a _ k dk (Nat.le_refl _)))
  clear hH hL hbL
  go_enter Tryz.func219, Tryz.ntmps219
  go_wp2
  go_loopw [9] (fun v wr => ∃ (k : Nat) (z : Int) (dk : Array Nat), v = .int .i64 z ∧ z = (k : Int) - 1 ∧ k ≤ (L - 1) / 2 + 1 ∧ dk.size = d.size ∧ Hid (∃ n, wr = Sort.putRow encU (Sort.ahead w n) g o dk) ∧
      Hid (Sort.heapBuild ltU L a k dk = Sort.heapBuild ltU L a ((L - 1) / 2 + 1) d)) (fun v _ => (intOf v + 1).toNat)
  case atStart => exact ⟨(L - 1) / 2 + 1, _, d, rfl, Hst.out, Nat.le_refl _, rfl, ⟨0, H0.out⟩, rfl⟩
  case round =>
    obtain ⟨k, z, dk, rfl, hz, hk, hs, HW, HB⟩ := hrel
    by_cases hk0 : k = 0
    · have hz1 : z = -1 := by omega
      have Hbe := Lib.hid (show dk = Sort.heapBuild ltU L a ((L - 1) / 2 + 1) d from by rw [← HB.out, hk0]; rfl)
      subst hz1
      clear hz hk0 hk
      go_wp2
      go_loopw [10] (fun v wr2 => ∃ (k : Nat) (z : Int) (dj : Array Nat), v = .int .i64 z ∧ z = (k : Int) - 1 ∧ k ≤ L ∧ dj.size = d.size ∧ Hid (∃ n, wr2 = Sort.putRow encU (Sort.ahead w n) g o dj) ∧
          Hid (Sort.heapPop ltU a k dj = Sort.heapPop ltU a L dk)) (fun v _ => (intOf v + 1).toNat)
      case atStart => exact ⟨L, _, dk, rfl, by omega, Nat.le_refl _, hs, HW, rfl⟩
      case round =>
        obtain ⟨k2, z, dj, rfl, hz, hk, hsj, HW2, HP⟩ := hrel
        by_cases hk0 : k2 = 0
        · have hz1 : z = -1 := by omega
          have Hpe := Lib.hid (show dj = Sort.heapPop ltU a L dk from by rw [← HP.out, hk0]; rfl)
          subst hz1
          clear hz hk0 hk
          go_wp2
          go_end0
          obtain ⟨n, hn⟩ := HW2.out
          exact ⟨rfl, n, by rw [hn, Hsp.out, ← Hbe.out, ← Hpe.out]⟩
        · obtain ⟨q, rfl⟩ : ∃ q, k2 = q + 1 := ⟨k2 - 1, by omega⟩
          obtain rfl : z = (q : Int) := by omega
          obtain ⟨n, hn⟩ := HW2.out
          obtain ⟨G, ⟨hcw, hfw, hG⟩⟩ := cellsU (holdsU HH.out hsj hn) hsj
          have HG := Lib.hid hG
          have Hn := Lib.hid hn
          have HSW := Lib.hid (show ∃ n2, (((wr.drewN 1).setCell ⟨g, o + a, none⟩ (encU (G (a + q)))).setCell ⟨g, o + (a + q), none⟩ (encU (G a))) = Sort.putRow encU (Sort.ahead w n2) g o (Sort.swp dj a (a + q)) from
            ⟨n + 1, by rw [HG.out, HG.out]; exact swapU Hn.out 1 a (a + q) (by omega) (by omega)⟩)
          have hC := Lib.hid (HS.out 0 q (Sort.swp dj a (a + q)) _ HSW.out (by rw [Sort.size_swp]; exact hsj) (Nat.zero_le _) (by omega))
          have haq : a + q < d.size := by omega
          have hwr : IntKind.i64.wrap ((a : Int) + (q : Int)) = ((a + q : Nat) : Int) := by rw [IntKind.wrap_i64]; omega
          have ha0 : a < d.size := by omega
          clear hG hn hz hk0
          rcases Nat.eq_zero_or_pos q with hq0 | hq0
          · subst hq0
            simp only [Nat.add_zero, Int.natCast_zero] at hC hwr
            go_wp2_with fail
            go_region
            all_goals go_wp2_with fail
            go_wp2_with (go_at_call 232; refine hC.out.mono ?_; rintro e w1 ⟨rfl, hw1⟩; have Hw1 := Lib.hid hw1; clear hw1)
            go_roundw
            case rel =>
              exact ⟨0, (((0 : Nat) : Int) : Int) - 1, _, by go_num, rfl, by omega, (Sort.size_siftDown ltU 0 a _ 0 _ (Nat.le_refl _)).trans ((Sort.size_swp _ _ _).trans hsj), Hw1.out, HP.out⟩
            case measure => simp [intOf] <;> omega
          · go_wp2_with fail
            go_region
            all_goals go_wp2_with fail
            go_wp2_with (go_at_call 232; refine hC.out.mono ?_; rintro e w1 ⟨rfl, hw1⟩; have Hw1 := Lib.hid hw1; clear hw1)
            go_roundw
            case rel =>
              exact ⟨q, (q : Int) - 1, _, by go_num, rfl, by omega, (Sort.size_siftDown ltU q a _ 0 _ (Nat.le_refl _)).trans ((Sort.size_swp _ _ _).trans hsj), Hw1.out, HP.out⟩
            case measure => simp [intOf] <;> omega
    · obtain ⟨q, rfl⟩ : ∃ q, k = q + 1 := ⟨k - 1, by omega⟩
      obtain rfl : z = (q : Int) := by omega
      have hC := Lib.hid (HS.out q L dk wr HW.out hs (by omega) (Nat.le_refl _))
      clear hz hk0
      go_wp2_with (go_at_call 232; refine hC.out.mono ?_; rintro e w1 ⟨rfl, hw1⟩; have Hw1 := Lib.hid hw1; clear hw1)
      go_roundw
      case rel =>
        exact ⟨q, (q : Int) - 1, _, by go_num, rfl, by omega, (Sort.size_siftDown ltU L a _ q dk (Nat.le_refl _)).trans hs, Hw1.out, HB.out⟩
      case measure => simp [intOf] <;> omega

end Go.Proofs.YtkkdlgcfcbaibaaGreatDoor
end
