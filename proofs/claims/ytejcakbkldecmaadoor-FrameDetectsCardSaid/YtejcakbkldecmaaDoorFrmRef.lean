/-
  Walk: kenningref21.Header.
-/
import Derived.Test.YtejcakbkldecmaaDoorFrmMagic
import Derived.Deep.QuietTactic
import Derived.BigQuiet
namespace Go.Proofs.YtejcakbkldecmaaDoor
open Go.RowKit
set_option linter.unusedVariables false

theorem start_nth (k : Nat) (h : k < 5) : nth startL k < 256 := by
  obtain rfl | rfl | rfl | rfl | rfl : k = 0 ∨ k = 1 ∨ k = 2 ∨ k = 3 ∨ k = 4 := by omega
  all_goals decide

theorem readRes_scan (l : List Nat) (p : Nat) (most : Int) (h : headBad l p = none) (st x j : Nat) (hs : scan (l.drop (p + 5)) 0 0 = (st, x, j)) :
    headRes l p most = match (st, x, j) with
    | (1, x, j) => if max most 0 < (x : Int) then (0, 0, some (7, some ((p + 5 : Nat) : Int))) else (p + 5 + j, x, none)
    | (2, _, _) => (0, 0, some (6, some ((p + 5 : Nat) : Int)))
    | _ => (0, 0, some (5, some (p : Int))) := by
  unfold headRes
  rw [h, hs]
  rfl

theorem scan_st : ∀ (l : List Nat) (j x : Nat), (scan l j x).1 = 0 ∨ (scan l j x).1 = 1 ∨ (scan l j x).1 = 2
  | [], j, x => .inl rfl
  | c :: l, j, x => by
    unfold scan
    split
    · exact .inr (.inr rfl)
    · split
      · exact .inr (.inl rfl)
      · exact scan_st l _ _

theorem scan_lt : ∀ (l : List Nat) (j x : Nat), x < 18446744073709551616 → (scan l j x).2.1 < 18446744073709551616
  | [], j, x, h => by show 0 < 18446744073709551616; omega
  | c :: l, j, x, h => by
    unfold scan
    split
    · show 0 < 18446744073709551616; omega
    · split
      · exact orAt_lt j c h
      · exact scan_lt l _ _ (orAt_lt j c h)

theorem scan_len : ∀ (l : List Nat) (j x : Nat), (scan l j x).2.2 ≤ j + l.length
  | [], j, x => by show j ≤ j + 0; omega
  | c :: l, j, x => by
    have ih := scan_len l (j + 1) (orAt x j c)
    unfold scan
    split
    · show j + 1 ≤ j + (l.length + 1); omega
    · split
      · show j + 1 ≤ j + (l.length + 1); omega
      · rw [List.length_cons]; omega

set_option maxRecDepth 100000 in
set_option maxHeartbeats 4000000 in
theorem refheader_any (a : Option Addr) (n cap p : Nat) (most : Int) (l : List Nat) (w : World) (hB : Byts w a n cap l) (hp : p ≤ n) (hn : n ≤ 100000) (hm0 : -9223372036854775808 ≤ most) (hm1 : most ≤ 9223372036854775807) :
    Calls Tryd.prog 13 #[.slice a n cap, .int .i64 p, .int .i64 most] w fun e w' =>
      e = .returned (.tuple #[.int .i64 ((headRes l p most).1 : Nat), .int .i64 ((headRes l p most).2.1 : Nat), .int .i64 (errCode (headRes l p most).2.2), .int .i64 (errAt (headRes l p most).2.2)]) ∧ Below w.heap.size w w' := by
  have HB := Lib.hid hB
  have Hm := Lib.hid (And.intro hm0 hm1); clear hm0 hm1
  obtain ⟨hl, hlt, hnc, hcm, hnil, hc⟩ := hB; clear hnil hcm
  have Hl := Lib.hid hl; clear hl
  have Hlt := Lib.hid hlt; clear hlt
  have Hc := Lib.hid hc; clear hc
  have HS := Lib.hid (fun (w : World) (k : Nat) (hk : k < 5) => show (w.alloc (.cells (u8s startL).toArray 5)).cell? ⟨w.heap.size, k, none⟩ = some (.int .u8 ((nth startL k : Nat) : Int)) from by
    rw [World.cell?_alloc_new]
    have := u8s_get startL k hk
    simpa using this)
  go_enter Tryd.func13, Tryd.ntmps13
  go_wp2_with fail
  refine (start_any _).mono ?_
  rintro e w' ⟨rfl, rfl⟩
  have Hb0 := Lib.hid ((Below.refl w.heap.size w).alloc (Nat.le_refl _) (.cells (u8s startL).toArray 5))
  have HSw := Lib.hid (HS.out w); clear HS
  generalize w.alloc (.cells (u8s startL).toArray 5) = w0 at *
  go_wp2_with fail
  go_loopw [11] (fun i wr => ∃ k q : Nat, k ≤ 5 ∧ i = .int .i64 k ∧ wr = w0.drewN q ∧ Hid (∀ j, j < k → headAt l p j = none)) (fun i _ => 5 - (intOf i).toNat)
  case atStart => exact ⟨0, 0, by omega, rfl, rfl, fun j h => by omega⟩
  case round =>
    obtain ⟨k, q, hk, rfl, rfl, hH⟩ := hrel
    by_cases hk5 : k < 5
    · by_cases hkn : p + k < n
      · have t1 : decide ((n : Int) ≤ (p : Int) + (k : Int)) = false := by rw [decide_eq_false_iff_not]; omega
        have hBr := HB.out.below Hb0.out
        obtain ⟨b, o, rfl, hcell⟩ := hBr.cells (by omega)
        have hc := hcell (p + k) hkn
        have hs := HSw.out k hk5
        clear hcell hBr
        have h0 : (0 : Int) ≤ (p : Int) + (k : Int) := by omega
        by_cases he : nth l (p + k) = nth startL k
        · have Hnext := Lib.hid (show ∀ j, j < k + 1 → headAt l p j = none from fun j hj => by
            by_cases hjk : j < k
            · exact hH.out j hjk
            · obtain rfl : j = k := by omega
              exact headAt_ok (by rw [Hl.out]; exact hkn) he)
          rw [he] at hc
          generalize nth startL k = c at *
          clear he
          go_wp2_with fail
          go_quiet (fail)
          go_wp2_with fail
          go_roundw
          case rel => exact ⟨k + 1, _, by omega, by go_num, rfl, Hnext.out⟩
          case measure => simp [intOf]; omega
        · have Hbad := Lib.hid (headRes_bad (most := most) (headBad_at hk5 hH.out (headAt_bad (by rw [Hl.out]; exact hkn) he)))
          have hne : (((nth l (p + k) : Nat) : Int) != ((nth startL k : Nat) : Int)) = true := by rw [bne_iff_ne]; omega
          generalize nth startL k = c at *
          generalize nth l (p + k) = d at *
          clear he
          by_cases hk4 : k = 4
          · have t2 : ((k : Int) == 4) = true := by rw [beq_iff_eq]; omega
            rw [if_pos hk4] at Hbad
            clear hk4
            go_wp2_with fail
            go_quiet (fail)
            go_wp2_with fail
            refine bodyPost_ret (v := .tuple #[.int .i64 0, .int .i64 0, .int .i64 13, .int .i64 ((p : Int) + (k : Int))]) (by simp [results, Tryd.results13, go_sem]) rfl ?_
            refine ⟨?_, below_drewN Hb0.out _⟩
            rw [Hbad.out]
            rfl
          · have t2 : ((k : Int) == 4) = false := by rw [beq_eq_false_iff_ne]; omega
            rw [if_neg hk4] at Hbad
            clear hk4
            go_wp2_with fail
            go_quiet (fail)
            go_wp2_with fail
            refine bodyPost_ret (v := .tuple #[.int .i64 0, .int .i64 0, .int .i64 12, .int .i64 ((p : Int) + (k : Int))]) (by simp [results, Tryd.results13, go_sem]) rfl ?_
            refine ⟨?_, below_drewN Hb0.out _⟩
            rw [Hbad.out]
            rfl
      · have t1 : decide ((n : Int) ≤ (p : Int) + (k : Int)) = true := by rw [decide_eq_true_iff]; omega
        have Hbad := Lib.hid (headRes_bad (most := most) (headBad_at hk5 hH.out (headAt_short (by rw [Hl.out]; omega))))
        go_wp2_with fail
        refine bodyPost_ret (v := .tuple #[.int .i64 0, .int .i64 0, .int .i64 5, .int .i64 (p : Int)]) (by simp [results, Tryd.results13, go_sem]) rfl ?_
        refine ⟨?_, below_drewN Hb0.out _⟩
        rw [Hbad.out]
        rfl
    · obtain rfl : k = 5 := by omega
      rw [show ((5 : Nat) : Int) = 5 from rfl]
      have hnone := headBad_none hH.out
      have hp5 : p + 5 ≤ n := by
        have := hH.out 4 (by omega)
        unfold headAt at this
        by_cases h : l.length ≤ p + 4
        · rw [if_pos h] at this; cases this
        · rw [Hl.out] at h; omega
      have HR := Lib.hid (readRes_scan l p most hnone _ _ _ rfl)
      have hst := scan_st (l.drop (p + 5)) 0 0
      have hxl := scan_lt (l.drop (p + 5)) 0 0 (by omega)
      have hjl := scan_len (l.drop (p + 5)) 0 0
      rw [List.length_drop, Hl.out] at hjl
      have HSc := Lib.hid (scan_any a n cap (p + 5) (n + 100) l (w0.drewN q) (HB.out.below (below_drewN Hb0.out q)) hp5 (by omega) (by omega))
      generalize scan (l.drop (p + 5)) 0 0 = r at *
      obtain ⟨st, x, j⟩ := r
      have Hxl := Lib.hid hxl; clear hxl hnone hH
      go_wp2_with fail
      refine HSc.out.mono ?_
      rintro e w' ⟨rfl, rfl⟩
      have hst' : st = 0 ∨ st = 1 ∨ st = 2 := hst
      clear hst
      have hjl' : j ≤ 0 + (n - (p + 5)) := hjl
      clear hjl
      rcases hst' with rfl | rfl | rfl
      · have Hbad := Lib.hid (show headRes l p most = (0, 0, some (5, some (p : Int))) from HR.out)
        go_wp2_with fail
        refine bodyPost_ret (v := .tuple #[.int .i64 0, .int .i64 0, .int .i64 5, .int .i64 (p : Int)]) (by simp [results, Tryd.results13, go_sem]) rfl ?_
        refine ⟨?_, below_drewN Hb0.out _⟩
        rw [Hbad.out]
        rfl
      · have Hx := Lib.hid (show x < 18446744073709551616 from Hxl.out)
        by_cases hneg : most < 0
        · have hmax : max most 0 = 0 := by omega
          have Hmax := Lib.hid hmax; clear hmax
          by_cases hlim : 0 < x
          · have Hbad := Lib.hid (show headRes l p most = (0, 0, some (7, some ((p + 5 : Nat) : Int))) from by rw [HR.out]; exact if_pos (by rw [Hmax.out]; omega))
            go_wp2_with fail
            refine bodyPost_ret (v := .tuple #[.int .i64 0, .int .i64 0, .int .i64 7, .int .i64 ((p : Int) + 5)]) (by simp [results, Tryd.results13, go_sem]) rfl ?_
            refine ⟨?_, below_drewN Hb0.out _⟩
            rw [Hbad.out]
            rfl
          · obtain rfl : x = 0 := by omega
            have Hgood := Lib.hid (show headRes l p most = (p + 5 + j, 0, none) from by rw [HR.out]; exact if_neg (by rw [Hmax.out]; omega))
            go_wp2_with fail
            refine bodyPost_ret (v := .tuple #[.int .i64 ((p : Int) + 5 + (j : Int)), .int .i64 0, .int .i64 0, .int .i64 (-1)]) (by simp [results, Tryd.results13, go_sem]) rfl ?_
            refine ⟨?_, below_drewN Hb0.out _⟩
            rw [Hgood.out]
            rfl
        · obtain ⟨m, rfl⟩ := Int.eq_ofNat_of_zero_le (show 0 ≤ most by omega)
          have hm63 : m < 9223372036854775808 := by have := Hm.out.2; omega
          have hmax : max (m : Int) 0 = (m : Int) := by omega
          have Hmax := Lib.hid hmax; clear hmax
          by_cases hlim : m < x
          · have Hbad := Lib.hid (show headRes l p m = (0, 0, some (7, some ((p + 5 : Nat) : Int))) from by rw [HR.out]; exact if_pos (by rw [Hmax.out]; omega))
            go_wp2_with fail
            refine bodyPost_ret (v := .tuple #[.int .i64 0, .int .i64 0, .int .i64 7, .int .i64 ((p : Int) + 5)]) (by simp [results, Tryd.results13, go_sem]) rfl ?_
            refine ⟨?_, below_drewN Hb0.out _⟩
            rw [Hbad.out]
            rfl
          · have Hgood := Lib.hid (show headRes l p m = (p + 5 + j, x, none) from by rw [HR.out]; exact if_neg (by rw [Hmax.out]; omega))
            have hx63 : x < 9223372036854775808 := by omega
            go_wp2_with fail
            refine bodyPost_ret (v := .tuple #[.int .i64 ((p : Int) + 5 + (j : Int)), .int .i64 (x : Int), .int .i64 0, .int .i64 (-1)]) (by simp [results, Tryd.results13, go_sem]) rfl ?_
            refine ⟨?_, below_drewN Hb0.out _⟩
            rw [Hgood.out]
            rfl
      · have Hbad := Lib.hid (show headRes l p most = (0, 0, some (6, some ((p + 5 : Nat) : Int))) from HR.out)
        go_wp2_with fail
        refine bodyPost_ret (v := .tuple #[.int .i64 0, .int .i64 0, .int .i64 6, .int .i64 ((p : Int) + 5)]) (by simp [results, Tryd.results13, go_sem]) rfl ?_
        refine ⟨?_, below_drewN Hb0.out _⟩
        rw [Hbad.out]
        rfl

end Go.Proofs.YtejcakbkldecmaaDoor
