/-
  Walks: canon.follow, canon.segments.
-/
import Derived.Test.YtkkdlgcfcbaibaaGreatDoorPt43
import Derived.Test.YtkkdlgcfcbaibaaGreatDoorPt42
namespace Go.Proofs.YtkkdlgcfcbaibaaGreatDoor
open Go.RowKit
set_option linter.unusedVariables false

theorem Ivs.at {w : World} {b o n c : Nat} {l : List Iv} (h : Ivs w (some ⟨b, o, none⟩) n c l) {j : Nat} (hj : j < n) (w' : World) (hb : Below w.heap.size w w') : w'.cell? ⟨b, o + j * 2, none⟩ = some (.int .u64 (((nthI l j).1 : Nat) : Int)) ∧ w'.cell? ⟨b, o + j * 2 + 1, none⟩ = some (.int .u64 (((nthI l j).2 : Nat) : Int)) := by
  obtain ⟨b', o', e, hc⟩ := (h.below hb).cells (by omega)
  cases e
  exact hc j hj
theorem Zs.at {w : World} {b o n c : Nat} {l : List Int} (h : Zs w (some ⟨b, o, none⟩) n c l) {j : Nat} (hj : j < n) (w' : World) (hb : Below w.heap.size w w') : w'.cell? ⟨b, o + j, none⟩ = some (.int .i64 (nthZ l j)) := by
  obtain ⟨b', o', e, hc⟩ := (h.below hb).cells (by omega)
  cases e
  exact hc j hj
theorem Zs.some {w : World} {a : Option Addr} {n c : Nat} {l : List Int} (h : Zs w a n c l) (hn : 0 < n) : ∃ b o, a = some ⟨b, o, none⟩ := by
  obtain ⟨b, o, ha, -⟩ := h.cells hn
  exact ⟨b, o, ha⟩
theorem Ivs.some {w : World} {a : Option Addr} {n c : Nat} {l : List Iv} (h : Ivs w a n c l) (hn : 0 < n) : ∃ b o, a = some ⟨b, o, none⟩ := by
  obtain ⟨b, o, ha, -⟩ := h.cells hn
  exact ⟨b, o, ha⟩

theorem Is_two (w : World) : Calls Tryz.prog 79 #[.iface 50 (.int .i64 2), .iface 50 (.int .i64 3)] w fun e w' => e = .returned (.bool false) ∧ w = w' := Is_code 2 3 w
theorem Is_three (w : World) : Calls Tryz.prog 79 #[.iface 50 (.int .i64 3), .iface 50 (.int .i64 3)] w fun e w' => e = .returned (.bool true) ∧ w = w' := Is_code 3 3 w

theorem follow_bad (p s : Iv) (w : World) (h : s.2 < s.1) : Calls Tryz.prog 78 #[ivV p, ivV s] w fun e w' => e = .returned (.iface 50 (.int .i64 2)) ∧ Below w.heap.size w w' := by
  have hC := Lib.hid (fun w => spanCheck_any s w)
  rw [if_pos h] at hC
  simp only [errVal] at hC
  obtain ⟨px, py⟩ := p
  obtain ⟨x, y⟩ := s
  have Hal := Lib.hid (show Below w.heap.size w ((w.alloc (.cells #[.int .u64 px, .int .u64 py] 73)).alloc (.cells #[.int .u64 x, .int .u64 y] 73)) from ((Below.refl _ _).alloc (Nat.le_refl _) _).alloc (by simp) _)
  clear h
  go_enter Tryz.func78, Tryz.ntmps78
  go_wp2_with fail
  refine (hC.out _).mono ?_
  rintro e w1 ⟨rfl, hb1⟩
  have Hb1 := Lib.hid (Hal.out.trans (hb1.mono Hal.out.size)); clear hb1
  go_wp2
  go_ret
  exact ⟨rfl, Hb1.out⟩

theorem follow_good (p s : Iv) (w : World) (h : ¬ s.2 < s.1) : Calls Tryz.prog 78 #[ivV p, ivV s] w fun e w' => e = .returned (if s.1 ≤ p.2 then .iface 50 (.int .i64 3) else .nilIface) ∧ Below w.heap.size w w' := by
  have hC := Lib.hid (fun w => spanCheck_any s w)
  rw [if_neg h] at hC
  simp only [errVal] at hC
  obtain ⟨px, py⟩ := p
  obtain ⟨x, y⟩ := s
  have hal1 : Below w.heap.size w (w.alloc (.cells #[.int .u64 px, .int .u64 py] 73)) := (Below.refl _ _).alloc (Nat.le_refl _) _
  have hal2 : Below (w.alloc (.cells #[.int .u64 px, .int .u64 py] 73)).heap.size (w.alloc (.cells #[.int .u64 px, .int .u64 py] 73)) ((w.alloc (.cells #[.int .u64 px, .int .u64 py] 73)).alloc (.cells #[.int .u64 x, .int .u64 y] 73)) := (Below.refl _ _).alloc (Nat.le_refl _) _
  have Hal := Lib.hid (hal1.trans (hal2.mono hal1.size))
  have HX1 := Lib.hid (fun w' (h : Below ((w.alloc (.cells #[.int .u64 px, .int .u64 py] 73)).alloc (.cells #[.int .u64 x, .int .u64 y] 73)).heap.size ((w.alloc (.cells #[.int .u64 px, .int .u64 py] 73)).alloc (.cells #[.int .u64 x, .int .u64 y] 73)) w') => box2 w (.int .u64 px) (.int .u64 py) 73 w' (hal2.trans (h.mono hal2.size)))
  have HX2 := Lib.hid (box2 (w.alloc (.cells #[.int .u64 px, .int .u64 py] 73)) (.int .u64 x) (.int .u64 y) 73)
  clear h hal1 hal2
  simp only
  by_cases h : x ≤ py
  · rw [if_pos h]
    have hd1 : decide ((x : Int) ≤ (py : Int)) = true := by rw [decide_eq_true_iff]; omega
    have hd2 : decide (x ≤ py) = true := by rw [decide_eq_true_iff]; exact h
    clear h
    go_enter Tryz.func78, Tryz.ntmps78
    go_wp2_with fail
    refine (hC.out _).mono ?_
    rintro e w1 ⟨rfl, hb1⟩
    have x1 := (HX1.out _ hb1).2
    have x2 := (HX2.out _ hb1).1
    simp only [World.size_alloc] at x2
    have Hb1 := Lib.hid (Hal.out.trans (hb1.mono Hal.out.size)); clear hb1
    go_wp2
    go_ret
    exact ⟨rfl, Hb1.out⟩
  · rw [if_neg h]
    have hd1 : decide ((x : Int) ≤ (py : Int)) = false := by rw [decide_eq_false_iff_not]; omega
    have hd2 : decide (x ≤ py) = false := by rw [decide_eq_false_iff_not]; exact h
    clear h
    go_enter Tryz.func78, Tryz.ntmps78
    go_wp2_with fail
    refine (hC.out _).mono ?_
    rintro e w1 ⟨rfl, hb1⟩
    have x1 := (HX1.out _ hb1).2
    have x2 := (HX2.out _ hb1).1
    simp only [World.size_alloc] at x2
    have Hb1 := Lib.hid (Hal.out.trans (hb1.mono Hal.out.size)); clear hb1
    go_wp2
    go_ret
    exact ⟨rfl, Hb1.out⟩

def segErr (N : Nat) (l : List Iv) (ix : List Int) : Err := (segE N l ix).map fun p => (p.1, some p.2)
theorem segErr_eq {N n : Nat} {l : List Iv} {ix : List Int} (hl : l.length = n) (hz : ix.length = n) : segErr N l ix = errOf ((firstS (bldE1 N ix) n).or ((firstS (bldE2 l) n).or (firstS (bldE3 l ix) n))) := by
  unfold segErr segE
  rw [if_neg (by rw [hl, hz]; exact fun h => h rfl), hl, hz]
  cases (firstS (bldE1 N ix) n).or ((firstS (bldE2 l) n).or (firstS (bldE3 l ix) n)) <;> rfl
theorem segErr_ne {N : Nat} {l : List Iv} {ix : List Int} (h : l.length ≠ ix.length) : segErr N l ix = some (8, some (-1)) := by
  unfold segErr segE
  rw [if_pos h]
  rfl

set_option maxRecDepth 100000 in
set_option maxHeartbeats 8000000 in
theorem canSegs_any (N : Nat) (al ai : Option Addr) (nl cl ni ci : Nat) (l : List Iv) (ix : List Int) (w : World) (hI : Ivs w al nl cl l) (hZ : Zs w ai ni ci ix) (hD : Door w) :
    Calls Tryz.prog 46 #[.int .i64 N, .slice al nl cl, .slice ai ni ci] w fun e w' => e = .returned (errVal (segErr N l ix)) ∧ Below w.heap.size w w' := by
  have HI := Lib.hid hI; have HZ := Lib.hid hZ; have HD := Lib.hid hD
  have hll := hI.len
  have hzl := hZ.len
  have hm : nl ≤ 9223372036854775807 := Nat.le_trans hI.room hI.most
  clear hI hZ hD
  by_cases hne : nl = ni
  · subst hne
    have hb0 : ((nl : Int) != (nl : Int)) = false := by simp
    have Hck := Lib.hid (segErr_eq (N := N) hll hzl)
    have Hll := Lib.hid hll
    clear hll hzl
    go_enter Tryz.func46, Tryz.ntmps46
    go_wp2
    go_loopw [7, 8, 21] (fun _ _ i wr => ∃ j : Nat, j ≤ nl ∧ i = .int .i64 j ∧ Below w.heap.size w wr ∧ Hid (∀ t, t < j → bldE1 N ix t = none)) (fun _ _ i _ => nl - (intOf i).toNat)
    case atStart => exact ⟨0, by omega, rfl, Below.refl _ _, fun t h => by omega⟩
    case round =>
      obtain ⟨j, hj, rfl, hb, ht⟩ := hrel
      have Hb := Lib.hid hb; clear hb
      by_cases hjn : j < nl
      · obtain ⟨bz, oz, rfl⟩ := HZ.out.some (by omega)
        have z1 := HZ.out.at hjn _ Hb.out
        have Hat := Lib.hid (show bldE1 N ix j = if nthZ ix j < 0 ∨ (N : Int) ≤ nthZ ix j then some (8, j) else none from rfl)
        have h0 : (0 : Int) ≤ j := by omega
        have h04 : (j : Int) < (nl : Int) := by omega
        generalize nthZ ix j = x at *
        by_cases hx : x < 0 ∨ (N : Int) ≤ x
        · have Hr := Lib.hid (firstS_some hjn ht.out (Hat.out.trans (if_pos hx)))
          by_cases hx0 : x < 0
          · have hd1 : decide (x < 0) = true := by rw [decide_eq_true_iff]; exact hx0
            clear hx hx0
            go_wp2_with fail
            refine (new_any 8 j _).mono ?_
            rintro e w1 ⟨rfl, rfl⟩
            go_wp2
            go_ret
            exact ⟨by rw [Hck.out, Hr.out]; rfl, Hb.out⟩
          · have hd1 : decide (x < 0) = false := by rw [decide_eq_false_iff_not]; exact hx0
            have hd2 : decide ((N : Int) ≤ x) = true := by rw [decide_eq_true_iff]; omega
            clear hx hx0
            go_wp2_with fail
            refine (new_any 8 j _).mono ?_
            rintro e w1 ⟨rfl, rfl⟩
            go_wp2
            go_ret
            exact ⟨by rw [Hck.out, Hr.out]; rfl, Hb.out⟩
        · have Hr := Lib.hid (firstS_step ht.out (Hat.out.trans (if_neg hx)))
          have hd1 : decide (x < 0) = false := by rw [decide_eq_false_iff_not]; omega
          have hd2 : decide ((N : Int) ≤ x) = false := by rw [decide_eq_false_iff_not]; omega
          clear hx
          go_wp2
          go_roundw
          case rel => exact ⟨j + 1, by omega, by go_num, Hb.out, Hr.out⟩
          case measure => simp [intOf]; omega
      · obtain rfl : j = nl := by omega
        have Hf1 := Lib.hid (firstS_none ht.out)
        have Hb0 := Lib.hid Hb.out
        clear ht Hb hj hjn
        rw [Hf1.out, Option.none_or] at Hck
        obtain ⟨wA, hwA⟩ : ∃ wA : World, wA = wr := ⟨_, rfl⟩
        rw [← hwA] at Hb0 ⊢
        clear hwA
        go_wp2
        go_loopw [9, 10, 11, 38, 54, 60] (fun _ _ _ i _ _ wr => ∃ t : Nat, t ≤ j ∧ i = .int .i64 t ∧ Below w.heap.size w wr ∧ Hid (∀ q, q < t → bldE2 l q = none)) (fun _ _ _ i _ _ _ => j - (intOf i).toNat)
        case atStart => exact ⟨0, by omega, rfl, Hb0.out, fun q h => by omega⟩
        case round =>
          obtain ⟨t, ht, rfl, hb, hq⟩ := hrel
          have Hb := Lib.hid hb; clear hb
          by_cases htj : t < j
          · obtain ⟨bl, ol, rfl⟩ := HI.out.some (by omega)
            have Hc := Lib.hid (fun w' (h : Below wr.heap.size wr w') => HI.out.at htj w' (Hb.out.trans (h.mono Hb.out.size)))
            have Hc' := Lib.hid (fun (h1 : t - 1 < j) w' (h : Below wr.heap.size wr w') => HI.out.at h1 w' (Hb.out.trans (h.mono Hb.out.size)))
            have Hat := Lib.hid (show bldE2 l t = if (nthI l t).2 < (nthI l t).1 then some (2, t) else if 0 < t ∧ (nthI l t).1 ≤ (nthI l (t - 1)).2 then some (3, t) else none from rfl)
            have h0 : (0 : Int) ≤ t := by omega
            have h04 : (t : Int) < (j : Int) := by omega
            obtain ⟨q1, q2⟩ := Hc.out _ (Below.refl _ _)
            generalize nthI l t = s at *
            generalize nthI l (t - 1) = p at *
            have hCs := Lib.hid (fun w => spanCheck_any s w)
            have hFb := Lib.hid (fun h w' => follow_bad p s w' h)
            have hFg := Lib.hid (fun h w' => follow_good p s w' h)
            obtain ⟨sx, sy⟩ := s
            obtain ⟨px, py⟩ := p
            simp only at q1 q2 Hc Hc' Hat hCs hFg hFb
            have hal : Below wr.heap.size wr (wr.alloc (.cells #[.int .u64 sx, .int .u64 sy] 73)) := (Below.refl _ _).alloc (Nat.le_refl _) _
            have Hal := Lib.hid hal
            have HX := Lib.hid (box2 wr (.int .u64 sx) (.int .u64 sy) 73)
            clear hal
            by_cases hbad : sy < sx
            · have Hr := Lib.hid (firstS_some htj hq.out (Hat.out.trans (if_pos hbad)))
              have Hck2 := Lib.hid (show segErr N l ix = errOf (some (2, t)) from by rw [Hck.out, Hr.out]; rfl)
              have hF := Lib.hid (hFb.out hbad)
              rw [if_pos hbad] at hCs
              simp only [errVal] at hCs
              clear hbad hFb hFg Hat Hr Hck
              by_cases ht0 : 0 < t
              · have hg1 : decide (0 < (t : Int)) = true := by rw [decide_eq_true_iff]; omega
                have hsub : IntKind.i64.wrap ((t : Int) - 1) = ((t - 1 : Nat) : Int) := by rw [IntKind.wrap_i64]; omega
                have h01 : (0 : Int) ≤ ((t - 1 : Nat) : Int) := by omega
                have h03 : ((t - 1 : Nat) : Int) < (j : Int) := by omega
                have Hc1 := Lib.hid (Hc'.out (by omega))
                clear Hc'
                generalize t - 1 = t1 at *
                go_wp2_with fail
                refine (hCs.out _).mono ?_
                rintro e w1 ⟨rfl, hb1⟩
                have Hb1 := Lib.hid (Hal.out.trans (hb1.mono Hal.out.size))
                have Hp := Lib.hid (fun w' (h : Below w1.heap.size w1 w') => And.intro (Hc1.out w' (Hb1.out.trans (h.mono Hb1.out.size))) (HX.out w' (hb1.trans (h.mono hb1.size))))
                clear hb1 q1 q2
                go_wp2_with fail
                refine wp_region_below (by kernel_rfl) (by kernel_rfl) ?_
                repeat (go_big_quiet_step ((intro hw; first
                  | rfl
                  | (obtain ⟨⟨y1, y2⟩, y3, y4⟩ := Hp.out _ hw
                     first
                     | (go_at_call 78; exact keep_below hw (hF.out _))
                     | (go_simp
                        first | rfl | exact ⟨rfl, hw⟩ | (trace_state; fail))))))
                refine wpQuiet_nil ?_
                intro w3 hb3
                have Hb3 := Lib.hid (Hb.out.trans ((Hb1.out.trans (hb3.mono Hb1.out.size)).mono Hb.out.size))
                clear hb3
                go_wp2_with fail
                refine (Is_two _).mono ?_
                rintro e w4 ⟨rfl, rfl⟩
                go_wp2_with fail
                refine (code_any (some (2, none)) _ (HD.out.below (Nat.le_refl _) Hb3.out)).mono ?_
                rintro e w4 ⟨rfl, hb4⟩
                have Hb4 := Lib.hid (Hb3.out.trans (hb4.mono Hb3.out.size)); clear hb4
                go_wp2_with fail
                refine (new_any 2 t _).mono ?_
                rintro e w5 ⟨rfl, rfl⟩
                go_wp2
                go_ret
                exact ⟨by rw [Hck2.out]; rfl, Hb4.out⟩
              · have hg1 : decide (0 < (t : Int)) = false := by rw [decide_eq_false_iff_not]; omega
                have hg2 : ¬ 0 < t := ht0
                go_wp2_with fail
                refine (hCs.out _).mono ?_
                rintro e w1 ⟨rfl, hb1⟩
                have Hb3 := Lib.hid (Hb.out.trans ((Hal.out.trans (hb1.mono Hal.out.size)).mono Hb.out.size))
                clear hb1 q1 q2
                go_wp2_with fail
                refine (Is_two _).mono ?_
                rintro e w4 ⟨rfl, rfl⟩
                go_wp2_with fail
                refine (code_any (some (2, none)) _ (HD.out.below (Nat.le_refl _) Hb3.out)).mono ?_
                rintro e w4 ⟨rfl, hb4⟩
                have Hb4 := Lib.hid (Hb3.out.trans (hb4.mono Hb3.out.size)); clear hb4
                go_wp2_with fail
                refine (new_any 2 t _).mono ?_
                rintro e w5 ⟨rfl, rfl⟩
                go_wp2
                go_ret
                exact ⟨by rw [Hck2.out]; rfl, Hb4.out⟩
            · rw [if_neg hbad] at hCs Hat
              simp only [errVal] at hCs
              have hF := Lib.hid (hFg.out hbad)
              clear hbad hFb hFg
              by_cases ht0 : 0 < t
              · have hg1 : decide (0 < (t : Int)) = true := by rw [decide_eq_true_iff]; omega
                have hsub : IntKind.i64.wrap ((t : Int) - 1) = ((t - 1 : Nat) : Int) := by rw [IntKind.wrap_i64]; omega
                have h01 : (0 : Int) ≤ ((t - 1 : Nat) : Int) := by omega
                have h03 : ((t - 1 : Nat) : Int) < (j : Int) := by omega
                have Hc1 := Lib.hid (Hc'.out (by omega))
                clear Hc'
                by_cases hle : sx ≤ py
                · have Hr := Lib.hid (firstS_some htj hq.out (Hat.out.trans (if_pos ⟨ht0, hle⟩)))
                  have Hck2 := Lib.hid (show segErr N l ix = errOf (some (3, t)) from by rw [Hck.out, Hr.out]; rfl)
                  rw [if_pos hle] at hF
                  clear hle Hat Hr Hck
                  generalize t - 1 = t1 at *
                  go_wp2_with fail
                  refine (hCs.out _).mono ?_
                  rintro e w1 ⟨rfl, hb1⟩
                  have Hb1 := Lib.hid (Hal.out.trans (hb1.mono Hal.out.size))
                  have Hp := Lib.hid (fun w' (h : Below w1.heap.size w1 w') => And.intro (Hc1.out w' (Hb1.out.trans (h.mono Hb1.out.size))) (HX.out w' (hb1.trans (h.mono hb1.size))))
                  clear hb1 q1 q2
                  go_wp2_with fail
                  refine wp_region_below (by kernel_rfl) (by kernel_rfl) ?_
                  repeat (go_big_quiet_step ((intro hw; first
                    | rfl
                    | (obtain ⟨⟨y1, y2⟩, y3, y4⟩ := Hp.out _ hw
                       first
                       | (go_at_call 78; exact keep_below hw (hF.out _))
                       | (go_simp
                          first | rfl | exact ⟨rfl, hw⟩ | (trace_state; fail))))))
                  refine wpQuiet_nil ?_
                  intro w3 hb3
                  have Hb3 := Lib.hid (Hb.out.trans ((Hb1.out.trans (hb3.mono Hb1.out.size)).mono Hb.out.size))
                  clear hb3
                  go_wp2_with fail
                  refine (Is_three _).mono ?_
                  rintro e w4 ⟨rfl, rfl⟩
                  go_wp2_with fail
                  refine (new_any 3 t _).mono ?_
                  rintro e w5 ⟨rfl, rfl⟩
                  go_wp2
                  go_ret
                  exact ⟨by rw [Hck2.out]; rfl, Hb3.out⟩
                · have Hr := Lib.hid (firstS_step hq.out (Hat.out.trans (if_neg (fun h => hle h.2))))
                  rw [if_neg hle] at hF
                  clear hle Hat
                  generalize t - 1 = t1 at *
                  go_wp2_with fail
                  refine (hCs.out _).mono ?_
                  rintro e w1 ⟨rfl, hb1⟩
                  have Hb1 := Lib.hid (Hal.out.trans (hb1.mono Hal.out.size))
                  have Hp := Lib.hid (fun w' (h : Below w1.heap.size w1 w') => And.intro (Hc1.out w' (Hb1.out.trans (h.mono Hb1.out.size))) (HX.out w' (hb1.trans (h.mono hb1.size))))
                  clear hb1 q1 q2
                  go_wp2_with fail
                  refine wp_region_below (by kernel_rfl) (by kernel_rfl) ?_
                  repeat (go_big_quiet_step ((intro hw; first
                    | rfl
                    | (obtain ⟨⟨y1, y2⟩, y3, y4⟩ := Hp.out _ hw
                       first
                       | (go_at_call 78; exact keep_below hw (hF.out _))
                       | (go_simp
                          first | rfl | exact ⟨rfl, hw⟩ | (trace_state; fail))))))
                  refine wpQuiet_nil ?_
                  intro w3 hb3
                  have Hb3 := Lib.hid (Hb.out.trans ((Hb1.out.trans (hb3.mono Hb1.out.size)).mono Hb.out.size))
                  clear hb3
                  go_wp2_with fail
                  refine (Is_nil _ _).mono ?_
                  rintro e w4 ⟨rfl, rfl⟩
                  go_wp2
                  go_roundw
                  case rel => exact ⟨t + 1, by omega, by go_num, Hb3.out, Hr.out⟩
                  case measure => simp [intOf]; omega
              · have hg1 : decide (0 < (t : Int)) = false := by rw [decide_eq_false_iff_not]; omega
                have hg2 : ¬ 0 < t := ht0
                have Hr := Lib.hid (firstS_step hq.out (Hat.out.trans (if_neg (fun h => ht0 h.1))))
                clear Hat
                go_wp2_with fail
                refine (hCs.out _).mono ?_
                rintro e w1 ⟨rfl, hb1⟩
                have Hb3 := Lib.hid (Hb.out.trans ((Hal.out.trans (hb1.mono Hal.out.size)).mono Hb.out.size))
                clear hb1 q1 q2
                go_wp2_with fail
                refine (Is_nil _ _).mono ?_
                rintro e w4 ⟨rfl, rfl⟩
                go_wp2
                go_roundw
                case rel => exact ⟨t + 1, by omega, by go_num, Hb3.out, Hr.out⟩
                case measure => simp [intOf]; omega
          · obtain rfl : t = j := by omega
            have Hf2 := Lib.hid (firstS_none hq.out)
            have HG := Lib.hid (show ∀ q, q < t → (nthI l q).1 ≤ (nthI l q).2 ∧ (0 < q → (nthI l (q - 1)).2 < (nthI l q).1) from fun q hqt => by
              have h := hq.out q hqt
              unfold bldE2 at h
              split at h
              · cases h
              · split at h
                · cases h
                · exact ⟨by omega, fun h0 => by omega⟩)
            have HltI := Lib.hid HI.out.lt
            rw [Hf2.out, Option.none_or] at Hck
            obtain ⟨wB, hwB⟩ : ∃ wB : World, wB = wr := ⟨_, rfl⟩
            rw [← hwB] at Hb ⊢
            clear hwB hq Hf2 Hf1
            have Hb5 := Lib.hid Hb.out
            clear Hb Hb0
            go_wp2
            go_loopw [12] (fun i wr => ∃ q : Nat, 1 ≤ q ∧ (q ≤ t ∨ q = 1) ∧ i = .int .i64 q ∧ Below w.heap.size w wr ∧ Hid (∀ u, u < q → bldE3 l ix u = none)) (fun i _ => t - (intOf i).toNat)
            case atStart => exact ⟨1, Nat.le_refl _, .inr rfl, rfl, Hb5.out, fun u hu => by
              obtain rfl : u = 0 := by omega
              unfold bldE3
              exact if_neg (fun h => by omega)⟩
            case round =>
              obtain ⟨q, hq1, hqt, rfl, hb, hu⟩ := hrel
              have Hb := Lib.hid hb; clear hb
              have h0 : (0 : Int) ≤ q := by omega
              by_cases hqn : q < t
              · obtain ⟨bl, ol, rfl⟩ := HI.out.some (by omega)
                obtain ⟨bz, oz, rfl⟩ := HZ.out.some (by omega)
                have Hc := Lib.hid (fun w' (h : Below wr.heap.size wr w') => And.intro (HI.out.at hqn w' (Hb.out.trans (h.mono Hb.out.size))) (HI.out.at (show q - 1 < t by omega) w' (Hb.out.trans (h.mono Hb.out.size))))
                have Hz := Lib.hid (fun w' (h : Below wr.heap.size wr w') => And.intro (HZ.out.at hqn w' (Hb.out.trans (h.mono Hb.out.size))) (HZ.out.at (show q - 1 < t by omega) w' (Hb.out.trans (h.mono Hb.out.size))))
                have Hat := Lib.hid (show bldE3 l ix q = if 0 < q ∧ (nthI l q).1 = (nthI l (q - 1)).2 + 1 ∧ nthZ ix q = nthZ ix (q - 1) then some (10, q) else none from rfl)
                obtain ⟨g1, g2⟩ := HG.out q hqn
                have g2 := g2 hq1
                have g3 := (HG.out (q - 1) (by omega)).1
                have l1 := HltI.out _ (nthI_mem (l := l) (k := q) (by rw [Hll.out]; exact hqn))
                have l2 := HltI.out _ (nthI_mem (l := l) (k := q - 1) (by rw [Hll.out]; omega))
                have h04 : (q : Int) < (t : Int) := by omega
                have hsub : IntKind.i64.wrap ((q : Int) - 1) = ((q - 1 : Nat) : Int) := by rw [IntKind.wrap_i64]; omega
                have h01 : (0 : Int) ≤ ((q - 1 : Nat) : Int) := by omega
                have h03 : ((q - 1 : Nat) : Int) < (t : Int) := by omega
                generalize nthI l q = s at *
                generalize nthI l (q - 1) = p at *
                generalize nthZ ix q = x at *
                generalize nthZ ix (q - 1) = y at *
                have hR := Lib.hid (fun w' => relate_any p s w' l2 l1)
                have hrel : relB p s = if s.1 = p.2 + 1 then 1 else 0 := by
                  rw [relR_eq g3 g1]
                  unfold relR
                  rw [if_pos g2]
                  by_cases e : s.1 = p.2 + 1
                  · rw [if_pos e, if_pos (by omega)]
                  · rw [if_neg e, if_neg (by omega)]
                rw [hrel] at hR
                obtain ⟨sx, sy⟩ := s
                obtain ⟨px, py⟩ := p
                clear g1 g2 g3 l1 l2 hrel
                generalize q - 1 = q' at *
                simp only at Hc Hat hR
                by_cases htc : sx = py + 1
                · rw [if_pos htc, show (((1 : Nat) : Int)) = 1 from rfl] at hR
                  by_cases hxy : x = y
                  · have Hr := Lib.hid (firstS_some hqn hu.out (Hat.out.trans (if_pos ⟨by omega, htc, hxy⟩)))
                    have hxy1 : (x == y) = true := by rw [hxy]; exact beq_self_eq_true y
                    clear htc Hat
                    subst hxy
                    go_wp2_with fail
                    refine wp_region_below (by kernel_rfl) (by kernel_rfl) ?_
                    repeat (go_big_quiet_step ((intro hw; first
                      | rfl
                      | (obtain ⟨⟨y1, y2⟩, y3, y4⟩ := Hc.out _ hw
                         obtain ⟨y5, y6⟩ := Hz.out _ hw
                         first
                         | (go_at_call 80; exact keep_below hw (hR.out _))
                         | (go_simp
                            first | rfl | exact ⟨rfl, hw⟩ | (trace_state; fail))))))
                    refine wpQuiet_nil ?_
                    intro w3 hb3
                    have Hb3 := Lib.hid (Hb.out.trans (hb3.mono Hb.out.size))
                    clear hb3
                    go_wp2_with fail
                    refine (new_any 10 q _).mono ?_
                    rintro e w5 ⟨rfl, rfl⟩
                    go_wp2
                    go_ret
                    exact ⟨by rw [Hck.out, Hr.out]; rfl, Hb3.out⟩
                  · have Hr := Lib.hid (firstS_step hu.out (Hat.out.trans (if_neg (fun h => hxy h.2.2))))
                    have hxy1 : (x == y) = false := by rw [beq_eq_false_iff_ne]; exact hxy
                    clear htc Hat
                    go_wp2_with fail
                    refine wp_region_below (by kernel_rfl) (by kernel_rfl) ?_
                    repeat (go_big_quiet_step ((intro hw; first
                      | rfl
                      | (obtain ⟨⟨y1, y2⟩, y3, y4⟩ := Hc.out _ hw
                         obtain ⟨y5, y6⟩ := Hz.out _ hw
                         first
                         | (go_at_call 80; exact keep_below hw (hR.out _))
                         | (go_simp
                            first | rfl | exact ⟨rfl, hw⟩ | (trace_state; fail))))))
                    refine wpQuiet_nil ?_
                    intro w3 hb3
                    have Hb3 := Lib.hid (Hb.out.trans (hb3.mono Hb.out.size))
                    clear hb3
                    go_wp2
                    go_roundw
                    case rel => exact ⟨q + 1, by omega, .inl (by omega), by go_num, Hb3.out, Hr.out⟩
                    case measure => simp [intOf]; omega
                · rw [if_neg htc, show (((0 : Nat) : Int)) = 0 from rfl] at hR
                  have Hr := Lib.hid (firstS_step hu.out (Hat.out.trans (if_neg (fun h => htc h.2.1))))
                  clear htc Hat
                  go_wp2_with fail
                  refine wp_region_below (by kernel_rfl) (by kernel_rfl) ?_
                  repeat (go_big_quiet_step ((intro hw; first
                    | rfl
                    | (obtain ⟨⟨y1, y2⟩, y3, y4⟩ := Hc.out _ hw
                       obtain ⟨y5, y6⟩ := Hz.out _ hw
                       first
                       | (go_at_call 80; exact keep_below hw (hR.out _))
                       | (go_simp
                          first | rfl | exact ⟨rfl, hw⟩ | (trace_state; fail))))))
                  refine wpQuiet_nil ?_
                  intro w3 hb3
                  have Hb3 := Lib.hid (Hb.out.trans (hb3.mono Hb.out.size))
                  clear hb3
                  go_wp2
                  go_roundw
                  case rel => exact ⟨q + 1, by omega, .inl (by omega), by go_num, Hb3.out, Hr.out⟩
                  case measure => simp [intOf]; omega
              · have Hr := Lib.hid (firstS_none (n := t) (fun u hu' => hu.out u (by omega)))
                go_wp2
                go_ret
                exact ⟨by rw [Hck.out, Hr.out]; rfl, Hb.out⟩
  · have hne2 : l.length ≠ ix.length := by rw [hll, hzl]; exact hne
    have Hck := Lib.hid (segErr_ne (N := N) hne2)
    have hb1 : ((nl : Int) != (ni : Int)) = true := by rw [bne_iff_ne]; omega
    clear hll hzl hne hne2
    go_enter Tryz.func46, Tryz.ntmps46
    go_wp2_with fail
    refine (new_any 8 (-1) _).mono ?_
    rintro e w1 ⟨rfl, rfl⟩
    go_wp2
    go_ret
    exact ⟨by rw [Hck.out]; rfl, Below.refl _ _⟩

end Go.Proofs.YtkkdlgcfcbaibaaGreatDoor
