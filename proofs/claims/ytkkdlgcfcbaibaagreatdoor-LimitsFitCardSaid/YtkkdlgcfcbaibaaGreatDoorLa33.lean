/- Walks and laws, joined: La33. -/
import Derived.Test.YtkkdlgcfcbaibaaGreatDoorLa32
import Derived.Test.YtkkdlgcfcbaibaaGreatDoorLa24
set_option linter.unusedVariables false
namespace Go.Proofs.YtkkdlgcfcbaibaaGreatDoor
section
open Go.RowKit
set_option maxRecDepth 20000 in
set_option maxHeartbeats 8000000 in
theorem heapU_any (g o c a b : Nat) (d : Array Nat) (w : World) (hH : Sort.Holds encU w g o d) (hab : a ≤ b) (hb : b ≤ d.size) (hsz : d.size < 4611686018427387904) :
 Calls Tryz.prog 219 #[.slice (some ⟨g, o, none⟩) d.size c, .int .i64 a, .int .i64 b] w fun e w' =>
  e = .returned (.tuple #[]) ∧ ∃ n, w' = Sort.putRow encU (Sort.ahead w n) g o (Sort.heapSort ltU d a b) := by
 have HH := Lib.hid hH
 have H0 := Lib.hid (Sort.putRow_self encU w g o d hH).symm
 obtain ⟨L, hL⟩ : ∃ L, L = b - a := ⟨_, rfl⟩
 have hsub : IntKind.i64.wrap ((b : Int) - (a : Int)) = (L : Int) := by rw [IntKind.wrap_i64]; omega
 have Hst := Lib.hid (show ((L : Int) - 1).tdiv 2 = (((L - 1) / 2 + 1 : Nat) : Int) - 1 from by
  have := half_start hab
  rw [← hL] at this
  rw [← this]; congr 1; omega)
 have Hsp := Lib.hid (show Sort.heapSort ltU d a b = Sort.heapPop ltU a L (Sort.heapBuild ltU L a ((L - 1) / 2 + 1) d) from by rw [hL]; rfl)
 have HL := Lib.hid hL
 have hbL : b = a + L := by omega
 have hLz : a + L ≤ d.size := by omega
 have HS := Lib.hid (fun (k m : Nat) (dk : Array Nat) (wr : World) (hw : ∃ n, wr = Sort.putRow encU (Sort.ahead w n) g o dk) (hs : dk.size = d.size) (hkm : k ≤ m) (hm : m ≤ L) =>
  show Calls Tryz.prog 232 #[.slice (some ⟨g, o, none⟩) d.size c, .int .i64 k, .int .i64 m, .int .i64 a] wr fun e w' => e = .returned (.tuple #[]) ∧ ∃ n, w' = Sort.putRow encU (Sort.ahead w n) g o (Sort.siftDown ltU m a k dk) from by
  obtain ⟨n, hw⟩ := hw
  have h := siftU_any g o c k m a dk wr (holdsU HH.out hs hw) hkm (by omega) (by omega)
  rw [hs] at h
  refine h.mono ?_
  rintro e w1 ⟨he, n2, h2⟩
  refine ⟨he, n + n2, ?_⟩
  rw [h2, hw]
  exact Sort.putRow_ahead_putRow encU w n n2 g o dk _ (Sort.size_siftDown ltU m a _ k dk (Nat.le_refl _)))
 clear hH hL hbL
 go_enter Tryz.func219, Tryz.ntmps219
 go_wp2
 go_loopw [9] (fun v wr => ∃ (k : Nat) (z : Int) (dk : Array Nat), v = .int .i64 z ∧ z = (k : Int) - 1 ∧ k ≤ (L - 1) / 2 + 1 ∧ dk.size = d.size ∧ Hid (∃ n, wr = Sort.putRow encU (Sort.ahead w n) g o dk) ∧
  Hid (Sort.heapBuild ltU L a k dk = Sort.heapBuild ltU L a ((L - 1) / 2 + 1) d)) (fun v _ => (intOf v + 1).toNat)
 case atStart => exact ⟨(L - 1) / 2 + 1, _, d, rfl, Hst.out, Nat.le_refl _, rfl, ⟨0, H0.out⟩, rfl⟩
 case round =>
  obtain ⟨k, z, dk, rfl, hz, hk, hs, HW, HB⟩ := hrel
  by_cases hk0 : k = 0
  · have hz1 : z = -1 := by omega
    have Hbe := Lib.hid (show dk = Sort.heapBuild ltU L a ((L - 1) / 2 + 1) d from by rw [← HB.out, hk0]; rfl)
    subst hz1
    clear hz hk0 hk
    go_wp2
    go_loopw [10] (fun v wr2 => ∃ (k : Nat) (z : Int) (dj : Array Nat), v = .int .i64 z ∧ z = (k : Int) - 1 ∧ k ≤ L ∧ dj.size = d.size ∧ Hid (∃ n, wr2 = Sort.putRow encU (Sort.ahead w n) g o dj) ∧
     Hid (Sort.heapPop ltU a k dj = Sort.heapPop ltU a L dk)) (fun v _ => (intOf v + 1).toNat)
    case atStart => exact ⟨L, _, dk, rfl, by omega, Nat.le_refl _, hs, HW, rfl⟩
    case round =>
     obtain ⟨k2, z, dj, rfl, hz, hk, hsj, HW2, HP⟩ := hrel
     by_cases hk0 : k2 = 0
     · have hz1 : z = -1 := by omega
       have Hpe := Lib.hid (show dj = Sort.heapPop ltU a L dk from by rw [← HP.out, hk0]; rfl)
       subst hz1
       clear hz hk0 hk
       go_wp2
       go_end0
       obtain ⟨n, hn⟩ := HW2.out
       exact ⟨rfl, n, by rw [hn, Hsp.out, ← Hbe.out, ← Hpe.out]⟩
     · obtain ⟨q, rfl⟩ : ∃ q, k2 = q + 1 := ⟨k2 - 1, by omega⟩
       obtain rfl : z = (q : Int) := by omega
       obtain ⟨n, hn⟩ := HW2.out
       obtain ⟨G, ⟨hcw, hfw, hG⟩⟩ := cellsU (holdsU HH.out hsj hn) hsj
       have HG := Lib.hid hG
       have Hn := Lib.hid hn
       have HSW := Lib.hid (show ∃ n2, (((wr.drewN 1).setCell ⟨g, o + a, none⟩ (encU (G (a + q)))).setCell ⟨g, o + (a + q), none⟩ (encU (G a))) = Sort.putRow encU (Sort.ahead w n2) g o (Sort.swp dj a (a + q)) from
        ⟨n + 1, by rw [HG.out, HG.out]; exact swapU Hn.out 1 a (a + q) (by omega) (by omega)⟩)
       have hC := Lib.hid (HS.out 0 q (Sort.swp dj a (a + q)) _ HSW.out (by rw [Sort.size_swp]; exact hsj) (Nat.zero_le _) (by omega))
       have haq : a + q < d.size := by omega
       have hwr : IntKind.i64.wrap ((a : Int) + (q : Int)) = ((a + q : Nat) : Int) := by rw [IntKind.wrap_i64]; omega
       have ha0 : a < d.size := by omega
       clear hG hn hz hk0
       rcases Nat.eq_zero_or_pos q with hq0 | hq0
       · subst hq0
         simp only [Nat.add_zero, Int.natCast_zero] at hC hwr
         go_wp2_with fail
         go_region
         all_goals go_wp2_with fail
         go_wp2_with (go_at_call 232; refine hC.out.mono ?_; rintro e w1 ⟨rfl, hw1⟩; have Hw1 := Lib.hid hw1; clear hw1)
         go_roundw
         case rel =>
          exact ⟨0, (((0 : Nat) : Int) : Int) - 1, _, by go_num, rfl, by omega, (Sort.size_siftDown ltU 0 a _ 0 _ (Nat.le_refl _)).trans ((Sort.size_swp _ _ _).trans hsj), Hw1.out, HP.out⟩
         case measure => simp [intOf] <;> omega
       · go_wp2_with fail
         go_region
         all_goals go_wp2_with fail
         go_wp2_with (go_at_call 232; refine hC.out.mono ?_; rintro e w1 ⟨rfl, hw1⟩; have Hw1 := Lib.hid hw1; clear hw1)
         go_roundw
         case rel =>
          exact ⟨q, (q : Int) - 1, _, by go_num, rfl, by omega, (Sort.size_siftDown ltU q a _ 0 _ (Nat.le_refl _)).trans ((Sort.size_swp _ _ _).trans hsj), Hw1.out, HP.out⟩
         case measure => simp [intOf] <;> omega
  · obtain ⟨q, rfl⟩ : ∃ q, k = q + 1 := ⟨k - 1, by omega⟩
    obtain rfl : z = (q : Int) := by omega
    have hC := Lib.hid (HS.out q L dk wr HW.out hs (by omega) (Nat.le_refl _))
    clear hz hk0
    go_wp2_with (go_at_call 232; refine hC.out.mono ?_; rintro e w1 ⟨rfl, hw1⟩; have Hw1 := Lib.hid hw1; clear hw1)
    go_roundw
    case rel =>
     exact ⟨q, (q : Int) - 1, _, by go_num, rfl, by omega, (Sort.size_siftDown ltU L a _ q dk (Nat.le_refl _)).trans hs, Hw1.out, HB.out⟩
    case measure => simp [intOf] <;> omega
end
section
open Go.RowKit Go.Sort
set_option maxHeartbeats 1600000 in
set_option maxRecDepth 100000 in
theorem parU_any (blk off cap a b : Nat) (d : Array Nat) (w : World) (hH : Holds encU w blk off d) (hab : a < b) (hb : b ≤ d.size) (hsz : d.size < 4611686018427387904) :
 Calls Tryz.prog 223 #[.slice (some ⟨blk, off, none⟩) d.size cap, .int .i64 a, .int .i64 b] w fun e w' =>
  e = .returned (.bool (Sort.partialInsertionSort ltU d a b).2) ∧ ∃ n, w' = putRow encU (Sort.ahead w n) blk off (Sort.partialInsertionSort ltU d a b).1 := by
 have HH : Hid (Holds encU w blk off d) := hH
 have HST : Hid (w = putRow encU (Sort.ahead w 0) blk off d) := (putRow_self _ _ _ _ _ hH).symm
 clear hH
 go_enter Tryz.func223, Tryz.ntmps223
 go_wp2
 go_loopw [7, 8] (fun vi vs wr => ∃ (i s n : Nat) (dk : Array Nat), vi = .int .i64 i ∧ vs = .int .i64 s ∧ s ≤ 5 ∧ a < i ∧ i ≤ b ∧ dk.size = d.size ∧ wr = putRow encU (Sort.ahead w n) blk off dk ∧
  partialIns ltU a b (5 - s) i dk = partialIns ltU a b 5 (a + 1) d) (fun _ vs _ => 5 - (intOf vs).toNat)
 case atStart => exact ⟨a + 1, 0, 0, d, by go_num, rfl, by omega, by omega, by omega, rfl, HST.out, rfl⟩
 case round =>
  obtain ⟨i, s, n, dk, rfl, rfl, hs5, hai, hib, hsk, hwr, hO⟩ := hrel
  have HO : Hid (partialIns ltU a b (5 - s) i dk = partialIns ltU a b 5 (a + 1) d) := hO
  clear hO
  go_wp2
  ·
   have hs : s < 5 := by omega
   go_loopw [7] (fun vi wr2 => ∃ (k m : Nat), vi = .int .i64 k ∧ i ≤ k ∧ k ≤ b ∧ wr2 = putRow encU (Sort.ahead w m) blk off dk ∧ scanSorted ltU dk b k = scanSorted ltU dk b i) (fun vi _ => b - (intOf vi).toNat)
   case atStart => exact ⟨i, n, rfl, Nat.le_refl _, hib, rfl, rfl⟩
   case round =>
    obtain ⟨k, m, rfl, hik, hkb, hw2, hS⟩ := hrel
    obtain ⟨G, hG⟩ : ∃ G : Nat → Nat, ∀ t, G t = dk[t]! := ⟨fun t => dk[t]!, fun _ => rfl⟩
    have hcw : ∀ t, t < d.size → wr.cell? ⟨blk, off + t, none⟩ = some (.int .u64 (G t)) := fun t ht => by
     rw [hw2, hG]; exact cell?_putRow _ _ _ _ d dk (holds_ahead _ _ _ _ _ _ HH.out) hsk t (by omega)
    have hfw : ∀ t, t < d.size → wr.frozen? ⟨blk, off + t, none⟩ = false := fun t ht => by
     rw [hw2, frozen?_putRow]; exact ((holds_ahead _ _ m _ _ _ HH.out) t ht).2
    have HW : Hid (wr = putRow encU (Sort.ahead w m) blk off dk) := hw2
    have HG : Hid (∀ t, G t = dk[t]!) := hG
    have HS : Hid (scanSorted ltU dk b k = scanSorted ltU dk b i) := hS
    clear hw2 hG hS
    go_wp2
    by_cases hkb' : k < b
    · go_quiet (first | (go_at_call 224; refine Calls.quiet_of_same (lessU_any _ _ _)))
      go_wp2
      all_goals first
       | (at_end
          have hl : ltU (G k) (G (k - 1)) = false := by
           have h : (!ltU (G k) (G (k - 1))) = true := by assumption
           simpa using h
          go_roundw
          case rel => exact ⟨k + 1, m + nq, by go_num, by omega, by omega, by rw [HW.out]; exact putRow_drewN _ _ _ _ _ _ _, by rw [← HS.out, scanSorted_go ltU dk b k hkb' (by rw [← HG.out, ← HG.out]; exact hl)]⟩
          case measure => simp [intOf]; omega)
       | (have hl : ltU (G k) (G (k - 1)) = true := by
           have h : (!ltU (G k) (G (k - 1))) = false := by assumption
           simpa using h
          have HK : Hid (scanSorted ltU dk b i = k) := by
           show scanSorted ltU dk b i = k
           rw [← HS.out, scanSorted_stop ltU dk b k (Or.inr (by rw [← HG.out, ← HG.out]; exact hl))]
          first
           | (at_ret
              have hv : Sort.partialInsertionSort ltU d a b = (dk, false) := by
               unfold Sort.partialInsertionSort
               rw [← HO.out, pi_short ltU a b s i dk hs (by rw [HK.out]; omega) (by omega)]
              rw [hv]
              go_ret
              exact ⟨rfl, m + nq, by rw [HW.out]; exact putRow_drewN _ _ _ _ _ _ _⟩)
           | (at_region 11
              have h50 : ¬ b - a < 50 := by omega
              go_region
              have hsw : ((wr.drewN (nq + 1)).setCell ⟨blk, off + k, none⟩ (.int .u64 (G (k - 1)))).setCell ⟨blk, off + (k - 1), none⟩ (.int .u64 (G k)) = putRow encU (Sort.ahead w (m + (nq + 1))) blk off (swp dk k (k - 1)) := by
               rw [HW.out, HG.out, HG.out]
               exact swap_worldA _ w m (nq + 1) blk off dk k (k - 1) (by omega) (by omega)
              have hs1 : (swp dk k (k - 1)).size = d.size := by rw [size_swp]; exact hsk
              go_wp2
              all_goals first
               | (at_loop
                  have hka : k - a ≥ 2 := by omega
                  go_loopw [9] (fun vj wr2 => ∃ (j m2 : Nat) (dj : Array Nat), vj = .int .i64 j ∧ j ≤ k - 1 ∧ dj.size = d.size ∧ wr2 = putRow encU (Sort.ahead w m2) blk off dj ∧
                   shiftDown ltU j dj = shiftDown ltU (k - 1) (swp dk k (k - 1))) (fun vj _ => (intOf vj).toNat)
                  case atStart => exact ⟨k - 1, _, (swp dk k (k - 1)), by congr 1; omega, Nat.le_refl _, hs1, rfl, rfl⟩
                  case round =>
                   obtain ⟨j, m2, dj, rfl, hjk, hsj, hw2, hDn⟩ := hrel
                   obtain ⟨G, hG⟩ : ∃ G : Nat → Nat, ∀ t, G t = dj[t]! := ⟨fun t => dj[t]!, fun _ => rfl⟩
                   have hcw : ∀ t, t < d.size → wr.cell? ⟨blk, off + t, none⟩ = some (.int .u64 (G t)) := fun t ht => by
                    rw [hw2, hG]; exact cell?_putRow _ _ _ _ d dj (holds_ahead _ _ _ _ _ _ HH.out) hsj t (by omega)
                   have hfw : ∀ t, t < d.size → wr.frozen? ⟨blk, off + t, none⟩ = false := fun t ht => by
                    rw [hw2, frozen?_putRow]; exact ((holds_ahead _ _ m2 _ _ _ HH.out) t ht).2
                   have HW : Hid (wr = putRow encU (Sort.ahead w m2) blk off dj) := hw2
                   have HG : Hid (∀ t, G t = dj[t]!) := hG
                   have HDn : Hid (shiftDown ltU j dj = shiftDown ltU (k - 1) (swp dk k (k - 1))) := hDn
                   clear hw2 hG hDn hsw
                   go_wp2
                   all_goals first
                    | (at_region 16
                       go_quiet (first | (go_at_call 224; refine Calls.quiet_of_same (lessU_any _ _ _)))
                       go_wp2
                       all_goals first
                        | (at_region 17
                           have hl : ltU (G j) (G (j - 1)) = true := by
                            have h : (!ltU (G j) (G (j - 1))) = false := by assumption
                            simpa using h
                           go_region
                           all_goals go_wp2
                           go_roundw
                           case rel =>
                            refine ⟨j - 1, m2 + (nq + 1), swp dj j (j - 1), by congr 1; omega, by omega, by rw [size_swp]; exact hsj, ?_, ?_⟩
                            · rw [HW.out, HG.out, HG.out]
                              exact swap_worldA _ w m2 (nq + 1) blk off dj j (j - 1) (by omega) (by omega)
                            · rw [← HDn.out, shiftDown_go ltU j dj (by omega) (by rw [← HG.out, ← HG.out]; exact hl)]
                           case measure => simp [intOf]; omega)
                        | (
                         have hl : ltU (G j) (G (j - 1)) = false := by
                          have h : (!ltU (G j) (G (j - 1))) = true := by assumption
                          simpa using h
                         have HD : Hid (fixDown ltU a k (swp dk k (k - 1)) = dj) := by
                          show fixDown ltU a k (swp dk k (k - 1)) = dj
                          unfold fixDown; rw [if_pos hka, ← HDn.out, shiftDown_stop ltU j dj (Or.inr (by rw [← HG.out, ← HG.out]; exact hl))]
                         first
                          | (at_end
                             go_roundw
                             case rel =>
                              refine ⟨k, s + 1, _, dj, rfl, by go_num, by omega, by omega, by omega, hsj, (by first | rfl | exact HW.out | (rw [HW.out]; exact putRow_drewN _ _ _ _ _ _ _)), ?_⟩
                              rw [← HO.out, pi_go ltU a b s i k dk hs HK.out (by omega) (by omega), HD.out, show fixUp ltU b k dj = dj from by unfold fixUp; rw [if_neg (by omega)]]
                             case measure => simp [intOf]; omega)
                          | (at_loop
                             go_loopw [10] (fun vj wr2 => ∃ (j m3 : Nat) (du : Array Nat), vj = .int .i64 j ∧ k + 1 ≤ j ∧ j ≤ b ∧ du.size = d.size ∧ wr2 = putRow encU (Sort.ahead w m3) blk off du ∧
                              shiftUp ltU b j du = shiftUp ltU b (k + 1) dj) (fun vj _ => b - (intOf vj).toNat)
                             case atStart => exact ⟨k + 1, _, dj, by go_num, Nat.le_refl _, by omega, hsj, (by first | rfl | exact HW.out | (rw [HW.out]; exact putRow_drewN _ _ _ _ _ _ _)), rfl⟩
                             case round =>
                              obtain ⟨j, m3, du, rfl, hkj, hjb, hsu, hw3, hU⟩ := hrel
                              obtain ⟨G, hG⟩ : ∃ G : Nat → Nat, ∀ t, G t = du[t]! := ⟨fun t => du[t]!, fun _ => rfl⟩
                              have hcw : ∀ t, t < d.size → wr.cell? ⟨blk, off + t, none⟩ = some (.int .u64 (G t)) := fun t ht => by
                               rw [hw3, hG]; exact cell?_putRow _ _ _ _ d du (holds_ahead _ _ _ _ _ _ HH.out) hsu t (by omega)
                              have hfw : ∀ t, t < d.size → wr.frozen? ⟨blk, off + t, none⟩ = false := fun t ht => by
                               rw [hw3, frozen?_putRow]; exact ((holds_ahead _ _ m3 _ _ _ HH.out) t ht).2
                              have HW : Hid (wr = putRow encU (Sort.ahead w m3) blk off du) := hw3
                              have HG : Hid (∀ t, G t = du[t]!) := hG
                              have HU : Hid (shiftUp ltU b j du = shiftUp ltU b (k + 1) dj) := hU
                              clear hw3 hG hU
                              go_wp2
                              all_goals first
                               | (at_region 22
                                  go_quiet (first | (go_at_call 224; refine Calls.quiet_of_same (lessU_any _ _ _)))
                                  go_wp2
                                  all_goals first
                                   | (at_region 23
                                      have hl : ltU (G j) (G (j - 1)) = true := by
                                       have h : (!ltU (G j) (G (j - 1))) = false := by assumption
                                       simpa using h
                                      go_region
                                      all_goals go_wp2
                                      go_roundw
                                      case rel =>
                                       refine ⟨j + 1, m3 + (nq + 1), swp du j (j - 1), by go_num, by omega, by omega, by rw [size_swp]; exact hsu, ?_, ?_⟩
                                       · rw [HW.out, HG.out, HG.out]
                                         exact swap_worldA _ w m3 (nq + 1) blk off du j (j - 1) (by omega) (by omega)
                                       · rw [← HU.out, shiftUp_go ltU b j du (by omega) (by rw [← HG.out, ← HG.out]; exact hl)]
                                      case measure => simp [intOf]; omega)
                                   | (at_end
                                      have hl : ltU (G j) (G (j - 1)) = false := by
                                       have h : (!ltU (G j) (G (j - 1))) = true := by assumption
                                       simpa using h
                                      go_roundw
                                      case rel =>
                                       refine ⟨k, s + 1, _, du, rfl, by go_num, by omega, by omega, by omega, hsu, (by first | rfl | exact HW.out | (rw [HW.out]; exact putRow_drewN _ _ _ _ _ _ _)), ?_⟩
                                       rw [← HO.out, pi_go ltU a b s i k dk hs HK.out (by omega) (by omega), HD.out, show fixUp ltU b k dj = du from by unfold fixUp; rw [if_pos (by omega), ← HU.out, shiftUp_stop ltU b j du (Or.inr (by rw [← HG.out, ← HG.out]; exact hl))]]
                                      case measure => simp [intOf]; omega))
                               | (at_end
                                  go_roundw
                                  case rel =>
                                   refine ⟨k, s + 1, _, du, rfl, by go_num, by omega, by omega, by omega, hsu, (by first | rfl | exact HW.out | (rw [HW.out]; exact putRow_drewN _ _ _ _ _ _ _)), ?_⟩
                                   rw [← HO.out, pi_go ltU a b s i k dk hs HK.out (by omega) (by omega), HD.out, show fixUp ltU b k dj = du from by unfold fixUp; rw [if_pos (by omega), ← HU.out, shiftUp_stop ltU b j du (Or.inl (by omega))]]
                                  case measure => simp [intOf]; omega))))
                    | (
                     have HD : Hid (fixDown ltU a k (swp dk k (k - 1)) = dj) := by
                      show fixDown ltU a k (swp dk k (k - 1)) = dj
                      unfold fixDown; rw [if_pos hka, ← HDn.out, shiftDown_stop ltU j dj (Or.inl (by omega))]
                     first
                      | (at_end
                         go_roundw
                         case rel =>
                          refine ⟨k, s + 1, _, dj, rfl, by go_num, by omega, by omega, by omega, hsj, (by first | rfl | exact HW.out | (rw [HW.out]; exact putRow_drewN _ _ _ _ _ _ _)), ?_⟩
                          rw [← HO.out, pi_go ltU a b s i k dk hs HK.out (by omega) (by omega), HD.out, show fixUp ltU b k dj = dj from by unfold fixUp; rw [if_neg (by omega)]]
                         case measure => simp [intOf]; omega)
                      | (at_loop
                         go_loopw [10] (fun vj wr2 => ∃ (j m3 : Nat) (du : Array Nat), vj = .int .i64 j ∧ k + 1 ≤ j ∧ j ≤ b ∧ du.size = d.size ∧ wr2 = putRow encU (Sort.ahead w m3) blk off du ∧
                          shiftUp ltU b j du = shiftUp ltU b (k + 1) dj) (fun vj _ => b - (intOf vj).toNat)
                         case atStart => exact ⟨k + 1, _, dj, by go_num, Nat.le_refl _, by omega, hsj, (by first | rfl | exact HW.out | (rw [HW.out]; exact putRow_drewN _ _ _ _ _ _ _)), rfl⟩
                         case round =>
                          obtain ⟨j, m3, du, rfl, hkj, hjb, hsu, hw3, hU⟩ := hrel
                          obtain ⟨G, hG⟩ : ∃ G : Nat → Nat, ∀ t, G t = du[t]! := ⟨fun t => du[t]!, fun _ => rfl⟩
                          have hcw : ∀ t, t < d.size → wr.cell? ⟨blk, off + t, none⟩ = some (.int .u64 (G t)) := fun t ht => by
                           rw [hw3, hG]; exact cell?_putRow _ _ _ _ d du (holds_ahead _ _ _ _ _ _ HH.out) hsu t (by omega)
                          have hfw : ∀ t, t < d.size → wr.frozen? ⟨blk, off + t, none⟩ = false := fun t ht => by
                           rw [hw3, frozen?_putRow]; exact ((holds_ahead _ _ m3 _ _ _ HH.out) t ht).2
                          have HW : Hid (wr = putRow encU (Sort.ahead w m3) blk off du) := hw3
                          have HG : Hid (∀ t, G t = du[t]!) := hG
                          have HU : Hid (shiftUp ltU b j du = shiftUp ltU b (k + 1) dj) := hU
                          clear hw3 hG hU
                          go_wp2
                          all_goals first
                           | (at_region 22
                              go_quiet (first | (go_at_call 224; refine Calls.quiet_of_same (lessU_any _ _ _)))
                              go_wp2
                              all_goals first
                               | (at_region 23
                                  have hl : ltU (G j) (G (j - 1)) = true := by
                                   have h : (!ltU (G j) (G (j - 1))) = false := by assumption
                                   simpa using h
                                  go_region
                                  all_goals go_wp2
                                  go_roundw
                                  case rel =>
                                   refine ⟨j + 1, m3 + (nq + 1), swp du j (j - 1), by go_num, by omega, by omega, by rw [size_swp]; exact hsu, ?_, ?_⟩
                                   · rw [HW.out, HG.out, HG.out]
                                     exact swap_worldA _ w m3 (nq + 1) blk off du j (j - 1) (by omega) (by omega)
                                   · rw [← HU.out, shiftUp_go ltU b j du (by omega) (by rw [← HG.out, ← HG.out]; exact hl)]
                                  case measure => simp [intOf]; omega)
                               | (at_end
                                  have hl : ltU (G j) (G (j - 1)) = false := by
                                   have h : (!ltU (G j) (G (j - 1))) = true := by assumption
                                   simpa using h
                                  go_roundw
                                  case rel =>
                                   refine ⟨k, s + 1, _, du, rfl, by go_num, by omega, by omega, by omega, hsu, (by first | rfl | exact HW.out | (rw [HW.out]; exact putRow_drewN _ _ _ _ _ _ _)), ?_⟩
                                   rw [← HO.out, pi_go ltU a b s i k dk hs HK.out (by omega) (by omega), HD.out, show fixUp ltU b k dj = du from by unfold fixUp; rw [if_pos (by omega), ← HU.out, shiftUp_stop ltU b j du (Or.inr (by rw [← HG.out, ← HG.out]; exact hl))]]
                                  case measure => simp [intOf]; omega))
                           | (at_end
                              go_roundw
                              case rel =>
                               refine ⟨k, s + 1, _, du, rfl, by go_num, by omega, by omega, by omega, hsu, (by first | rfl | exact HW.out | (rw [HW.out]; exact putRow_drewN _ _ _ _ _ _ _)), ?_⟩
                               rw [← HO.out, pi_go ltU a b s i k dk hs HK.out (by omega) (by omega), HD.out, show fixUp ltU b k dj = du from by unfold fixUp; rw [if_pos (by omega), ← HU.out, shiftUp_stop ltU b j du (Or.inl (by omega))]]
                              case measure => simp [intOf]; omega))))
               | (
                have HD : Hid (fixDown ltU a k (swp dk k (k - 1)) = (swp dk k (k - 1))) := by
                 show fixDown ltU a k (swp dk k (k - 1)) = (swp dk k (k - 1))
                 unfold fixDown; rw [if_neg (by omega)]
                first
                 | (at_end
                    go_roundw
                    case rel =>
                     refine ⟨k, s + 1, _, (swp dk k (k - 1)), rfl, by go_num, by omega, by omega, by omega, hs1, (by first | rfl | exact HW.out | (rw [HW.out]; exact putRow_drewN _ _ _ _ _ _ _)), ?_⟩
                     rw [← HO.out, pi_go ltU a b s i k dk hs HK.out (by omega) (by omega), HD.out, show fixUp ltU b k (swp dk k (k - 1)) = (swp dk k (k - 1)) from by unfold fixUp; rw [if_neg (by omega)]]
                    case measure => simp [intOf]; omega)
                 | (at_loop
                    go_loopw [10] (fun vj wr2 => ∃ (j m3 : Nat) (du : Array Nat), vj = .int .i64 j ∧ k + 1 ≤ j ∧ j ≤ b ∧ du.size = d.size ∧ wr2 = putRow encU (Sort.ahead w m3) blk off du ∧
                     shiftUp ltU b j du = shiftUp ltU b (k + 1) (swp dk k (k - 1))) (fun vj _ => b - (intOf vj).toNat)
                    case atStart => exact ⟨k + 1, _, (swp dk k (k - 1)), by go_num, Nat.le_refl _, by omega, hs1, (by first | rfl | exact HW.out | (rw [HW.out]; exact putRow_drewN _ _ _ _ _ _ _)), rfl⟩
                    case round =>
                     obtain ⟨j, m3, du, rfl, hkj, hjb, hsu, hw3, hU⟩ := hrel
                     obtain ⟨G, hG⟩ : ∃ G : Nat → Nat, ∀ t, G t = du[t]! := ⟨fun t => du[t]!, fun _ => rfl⟩
                     have hcw : ∀ t, t < d.size → wr.cell? ⟨blk, off + t, none⟩ = some (.int .u64 (G t)) := fun t ht => by
                      rw [hw3, hG]; exact cell?_putRow _ _ _ _ d du (holds_ahead _ _ _ _ _ _ HH.out) hsu t (by omega)
                     have hfw : ∀ t, t < d.size → wr.frozen? ⟨blk, off + t, none⟩ = false := fun t ht => by
                      rw [hw3, frozen?_putRow]; exact ((holds_ahead _ _ m3 _ _ _ HH.out) t ht).2
                     have HW : Hid (wr = putRow encU (Sort.ahead w m3) blk off du) := hw3
                     have HG : Hid (∀ t, G t = du[t]!) := hG
                     have HU : Hid (shiftUp ltU b j du = shiftUp ltU b (k + 1) (swp dk k (k - 1))) := hU
                     clear hw3 hG hU
                     go_wp2
                     all_goals first
                      | (at_region 22
                         go_quiet (first | (go_at_call 224; refine Calls.quiet_of_same (lessU_any _ _ _)))
                         go_wp2
                         all_goals first
                          | (at_region 23
                             have hl : ltU (G j) (G (j - 1)) = true := by
                              have h : (!ltU (G j) (G (j - 1))) = false := by assumption
                              simpa using h
                             go_region
                             all_goals go_wp2
                             go_roundw
                             case rel =>
                              refine ⟨j + 1, m3 + (nq + 1), swp du j (j - 1), by go_num, by omega, by omega, by rw [size_swp]; exact hsu, ?_, ?_⟩
                              · rw [HW.out, HG.out, HG.out]
                                exact swap_worldA _ w m3 (nq + 1) blk off du j (j - 1) (by omega) (by omega)
                              · rw [← HU.out, shiftUp_go ltU b j du (by omega) (by rw [← HG.out, ← HG.out]; exact hl)]
                             case measure => simp [intOf]; omega)
                          | (at_end
                             have hl : ltU (G j) (G (j - 1)) = false := by
                              have h : (!ltU (G j) (G (j - 1))) = true := by assumption
                              simpa using h
                             go_roundw
                             case rel =>
                              refine ⟨k, s + 1, _, du, rfl, by go_num, by omega, by omega, by omega, hsu, (by first | rfl | exact HW.out | (rw [HW.out]; exact putRow_drewN _ _ _ _ _ _ _)), ?_⟩
                              rw [← HO.out, pi_go ltU a b s i k dk hs HK.out (by omega) (by omega), HD.out, show fixUp ltU b k (swp dk k (k - 1)) = du from by unfold fixUp; rw [if_pos (by omega), ← HU.out, shiftUp_stop ltU b j du (Or.inr (by rw [← HG.out, ← HG.out]; exact hl))]]
                             case measure => simp [intOf]; omega))
                      | (at_end
                         go_roundw
                         case rel =>
                          refine ⟨k, s + 1, _, du, rfl, by go_num, by omega, by omega, by omega, hsu, (by first | rfl | exact HW.out | (rw [HW.out]; exact putRow_drewN _ _ _ _ _ _ _)), ?_⟩
                          rw [← HO.out, pi_go ltU a b s i k dk hs HK.out (by omega) (by omega), HD.out, show fixUp ltU b k (swp dk k (k - 1)) = du from by unfold fixUp; rw [if_pos (by omega), ← HU.out, shiftUp_stop ltU b j du (Or.inl (by omega))]]
                         case measure => simp [intOf]; omega)))))
    ·
     go_quiet (first | (go_at_call 224; refine Calls.quiet_of_same (lessU_any _ _ _)))
     go_wp2
     obtain rfl : k = b := by omega
     have hv : Sort.partialInsertionSort ltU d a k = (dk, true) := by
      unfold Sort.partialInsertionSort
      rw [← HO.out, pi_true ltU a k s i dk hs (by rw [← HS.out, scanSorted_stop ltU dk k k (Or.inl (by omega))])]
     rw [hv]
     go_ret
     exact ⟨rfl, m + nq, by rw [HW.out]; exact putRow_drewN _ _ _ _ _ _ _⟩
  ·
   obtain rfl : s = 5 := by omega
   have hv : Sort.partialInsertionSort ltU d a b = (dk, false) := by
    unfold Sort.partialInsertionSort
    rw [← HO.out, pi_end]
   rw [hv]
   go_ret
   exact ⟨rfl, n, rfl⟩
end
end Go.Proofs.YtkkdlgcfcbaibaaGreatDoor
