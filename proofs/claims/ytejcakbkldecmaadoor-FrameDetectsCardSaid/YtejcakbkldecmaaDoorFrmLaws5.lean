/-
  Walk: FrameDetects.
-/
import Derived.Test.YtejcakbkldecmaaDoorFrmAlive
import Derived.Test.YtejcakbkldecmaaDoorFrmDetect
import Derived.Test.YtejcakbkldecmaaDoorFrmLaws1
import Derived.Deep.AppendLies
import Derived.RegionTactic
import Derived.BigRegion
namespace Go.Proofs.YtejcakbkldecmaaDoor
open Go.RowKit
set_option linter.unusedVariables false

theorem go_xor8 (q v : Nat) (hq : q < 256) (hv : v < 256) : bits .xor .u8 (q : Int) (v : Int) = ((q ^^^ v : Nat) : Int) := u8_xor_nat q v hq hv
theorem u8s_set' (l : List Nat) (j x : Nat) : (u8s l).set j (.int .u8 ((x : Nat) : Int)) = u8s (l.set j x) := by unfold u8s; rw [List.map_set]

set_option maxRecDepth 100000 in
set_option maxHeartbeats 4000000 in
theorem detects_small (a : Option Addr) (n cap : Nat) (l : List Nat) (q ch : Nat) (w : World) (hB : Byts w a n cap l) (hD : Door w) (hn0 : 0 < n) (hn : n ≤ 100) (hq : q < 65536) (hch : ch < 256) (hc0 : ch ≠ 0) :
    Calls Tryd.prog 6 #[.slice a n cap, .int .u16 q, .int .u8 ch] w fun e w' => e = .returned (.bool true) ∧ Below w.heap.size w w' := by
  have HD := Lib.hid hD; clear hD
  have HB := Lib.hid hB
  have Hl := Lib.hid hB.len
  have Hlt := Lib.hid (frameL_lt hB.lt)
  have Hch := Lib.hid (And.intro hch hc0)
  have hcb : ((ch : Int) == 0) = false := by rw [beq_eq_false_iff_ne]; omega
  have hnb : ((n : Int) == 0) = false := by rw [beq_eq_false_iff_ne]; omega
  have hd2 : decide (100 < (n : Int)) = false := by rw [decide_eq_false_iff_not]; omega
  obtain ⟨F, hF⟩ : ∃ F, F = (frameL l).length := ⟨_, rfl⟩
  have hFn : F = n + 10 := by rw [hF, frameL_small (by rw [hB.len]; omega)]; simp [startL, sumBytes, hB.len]
  have HF := Lib.hid hF; clear hF
  obtain ⟨i, hi, hin⟩ : ∃ i : Nat, (q : Int) % (n : Int) = (i : Int) ∧ i < n := ⟨q % n, by omega, Nat.mod_lt _ hn0⟩
  obtain ⟨k, hk, hk4⟩ : ∃ k : Nat, (F : Int) - 1 - (q : Int) % 4 = ((6 + n + k : Nat) : Int) ∧ k < 4 := ⟨3 - q % 4, by omega, by omega⟩
  have S1 := Lib.hid (detect_pay (l := l) (i := i) hB.lt (by rw [hB.len]; omega) (by rw [hB.len]; omega) hch hc0)
  have S2 := Lib.hid (detect_sum (l := l) (k := k) hB.lt (by rw [hB.len]; omega) hk4 hch hc0)
  have S3 := Lib.hid (split_own (l := l) (by rw [hB.len]; omega))
  rw [hB.len] at S1 S2
  have Hi := Lib.hid hi; have Hk := Lib.hid hk; have HFn := Lib.hid hFn
  have hFb : F ≤ 110 := by omega
  have hF7 : 6 + i < F := by omega
  have hF8 : 6 + n + k < F := by omega
  clear hB hi hk hFn hcb
  have hcb : ((ch : Int) == 0) = false := by rw [beq_eq_false_iff_ne]; omega
  clear hch hc0
  go_enter Tryd.func6, Tryd.ntmps6
  go_wp2_with fail
  refine (refframe_any a n cap l _ HB.out (by omega)).mono ?_
  rintro e w1 ⟨⟨v1, rfl, ho1⟩, hb1⟩
  rw [← HF.out] at ho1
  obtain ⟨g1, c1, rfl, hg1⟩ := ho1.form (by omega)
  have hc1 := ho1.cellAt (6 + i) (by omega)
  have hf1 := ho1.frozenAt (6 + i)
  rw [u8s_get _ _ (by rw [← HF.out]; omega)] at hc1
  have hx1 : nth (frameL l) (6 + i) < 256 := nth_lt Hlt.out (by omega) _
  have Ho1 := Lib.hid ho1; clear ho1
  generalize hy1 : nth (frameL l) (6 + i) = x1 at *
  have Hy1 := Lib.hid hy1; clear hy1
  have hi := Hi.out
  have hr := go_xor8 x1 ch hx1 Hch.out.1
  go_wp2_with fail
  have hs1 := (Ho1.out.stored (6 + i) (.int .u8 ((x1 ^^^ ch : Nat) : Int))).1
  rw [u8s_set', ← Hy1.out] at hs1
  have Hl1 := Lib.hid (show ∀ x ∈ (frameL l).set (6 + i) (nth (frameL l) (6 + i) ^^^ ch), x < 256 from by
    intro x hx
    rcases List.mem_or_eq_of_mem_set hx with h | h
    · exact Hlt.out x h
    · rw [h]; exact xor_lt8 (nth_lt Hlt.out (by omega) _) Hch.out.1)
  obtain ⟨a2, c2, e2, hB2⟩ := byts_own hs1 Hl1.out
  cases e2
  rw [Hy1.out] at hB2
  have HB2 := Lib.hid hB2
  have Hb2 := Lib.hid (hb1.setCell (p := ⟨g1, 6 + i, none⟩) hg1.1 (.int .u8 ((x1 ^^^ ch : Nat) : Int)))
  clear hs1 hB2 hb1 hg1 hc1 hf1 hr Ho1
  refine (split_any _ F c1 0 1000 _ _ (HD.out.below (Nat.le_refl _) Hb2.out) HB2.out (by omega) (by omega) (by omega) (by omega)).mono ?_
  rintro e w3 ⟨⟨v3, rfl, ho3⟩, hb3⟩
  simp only [S1.out] at ho3 ⊢
  obtain ⟨a3, c3, rfl, -⟩ := byts_own (l := []) ho3 (by simp)
  have Hb3 := Lib.hid (Hb2.out.trans (hb3.mono Hb2.out.size))
  clear hb3 ho3 HB2 Hb2 S1 Hl1 hi
  simp only [errVal]
  go_wp2_with fail
  refine (refframe_any a n cap l _ (HB.out.below Hb3.out) (by omega)).mono ?_
  rintro e w4 ⟨⟨v4, rfl, ho4⟩, hb4⟩
  rw [← HF.out] at ho4
  obtain ⟨g4, c4, rfl, hg4⟩ := ho4.form (by omega)
  have hc4 := ho4.cellAt (6 + n + k) (by omega)
  have hf4 := ho4.frozenAt (6 + n + k)
  rw [u8s_get _ _ (by rw [← HF.out]; omega)] at hc4
  have hx4 : nth (frameL l) (6 + n + k) < 256 := nth_lt Hlt.out (by omega) _
  have Ho4 := Lib.hid ho4; clear ho4
  generalize hy4 : nth (frameL l) (6 + n + k) = x4 at *
  have Hy4 := Lib.hid hy4; clear hy4
  obtain ⟨p, hp⟩ : ∃ p, p = 6 + n + k := ⟨_, rfl⟩
  have hk := Hk.out
  rw [← hp] at hk hc4 hf4 hF8
  have Hp := Lib.hid hp; clear hp
  have hr := go_xor8 x4 ch hx4 Hch.out.1
  go_wp2_with fail
  have hs4 := (Ho4.out.stored p (.int .u8 ((x4 ^^^ ch : Nat) : Int))).1
  rw [u8s_set', ← Hy4.out, ← Hp.out] at hs4
  have Hl4 := Lib.hid (show ∀ x ∈ (frameL l).set p (nth (frameL l) p ^^^ ch), x < 256 from by
    intro x hx
    rcases List.mem_or_eq_of_mem_set hx with h | h
    · exact Hlt.out x h
    · rw [h]; exact xor_lt8 (nth_lt Hlt.out (by omega) _) Hch.out.1)
  obtain ⟨a5, c5, e5, hB5⟩ := byts_own hs4 Hl4.out
  cases e5
  have HB5 := Lib.hid hB5
  have Hb4 := Lib.hid (Hb3.out.trans (hb4.mono Hb3.out.size))
  have Hb5 := Lib.hid (Hb4.out.setCell (p := ⟨g4, p, none⟩) (Nat.le_trans Hb3.out.size hg4.1) (.int .u8 ((nth (frameL l) p ^^^ ch : Nat) : Int)))
  have Hy4' := Lib.hid (show nth (frameL l) p = x4 from by rw [Hp.out]; exact Hy4.out)
  have S2' := Lib.hid (show splitRes ((frameL l).set p (x4 ^^^ ch)) 0 1000 = ([], 0, some (14, some ((6 + n : Nat) : Int))) from by rw [Hp.out]; exact S2.out)
  clear hs4 hB5 hb4 hg4 hc4 hf4 hr Ho4 S2 hk
  rw [Hy4'.out] at HB5 Hb5
  refine (split_any _ F c4 0 1000 _ _ (HD.out.below (Nat.le_refl _) Hb5.out) HB5.out (by omega) (by omega) (by omega) (by omega)).mono ?_
  rintro e w6 ⟨⟨v6, rfl, ho6⟩, hb6⟩
  simp only [S2'.out] at ho6 ⊢
  obtain ⟨a6, c6, rfl, -⟩ := byts_own (l := []) ho6 (by simp)
  have Hb6 := Lib.hid (Hb5.out.trans (hb6.mono Hb5.out.size))
  clear hb6 ho6 HB5 Hb5 S2' Hl4 Hb4
  simp only [errVal]
  go_wp2_with fail
  refine (refsum_any a n cap l _ (HB.out.below Hb6.out)).mono ?_
  rintro e w7 ⟨rfl, rfl⟩
  obtain ⟨v8, w8, hr8, ho8, hb8⟩ := run_copy_byts a n cap l (HB.out.below Hb6.out) (by omega)
  have Hb8 := Lib.hid (Hb6.out.trans (hb8.mono Hb6.out.size))
  obtain ⟨a8, c8, rfl, hB8⟩ := byts_own ho8 HB.out.lt
  have HB8 := Lib.hid hB8
  clear ho8 hB8 hb8
  go_wp2_with (at_builtin; refine wpList_append_hr _ _ 22 rfl rfl _ _ rfl rfl _ _ hr8 ?_)
  clear hr8
  refine (appframe_any (.slice none 0 0) 0 [] a8 n c8 l w8 w8 HB8.out (Below.refl _ _) (World.ownsRow_nil _ _ _ _) (by omega) (by omega)).mono ?_
  rintro e w9 ⟨⟨v9, rfl, ho9⟩, hb9⟩
  obtain ⟨a9, c9, rfl, hB9⟩ := byts_own (l := frameL l) (by simpa using ho9) Hlt.out
  have Hb9 := Lib.hid hb9
  have HB9 := Lib.hid hB9
  clear ho9 hB9 hb9
  have hw9 : Below w.heap.size w w9 := Hb8.out.trans (Hb9.out.mono Hb8.out.size)
  go_wp2_with fail
  refine (split_any _ (frameL l).length c9 0 1000 _ _ (HD.out.below (Nat.le_refl _) hw9) HB9.out (by omega) (by have := HF.out; omega) (by omega) (by omega)).mono ?_
  rintro e w10 ⟨⟨v10, rfl, ho10⟩, hb10⟩
  simp only [S3.out, errVal] at ho10 ⊢
  have Hb10 := Lib.hid (Hb9.out.trans (hb10.mono Hb9.out.size))
  rw [Hl.out] at ho10
  obtain ⟨g10, c10, rfl, hg10⟩ := ho10.form (by omega)
  have hgs := Nat.le_trans Hb9.out.size hg10.1
  have Ho10 := Lib.hid ho10
  clear hw9 hb10 ho10 S3 HB9
  go_wp2_with fail
  go_loopw [22, 93] (fun _ j wr => ∃ (t : Nat) (L : List Nat), t ≤ n ∧ j = .int .i64 t ∧ Below w8.heap.size w8 wr ∧ L.length = n ∧ Hid ((∀ x ∈ L, x < 256) ∧ wr.ownsRow w9.heap.size 5 1 (.slice (some ⟨g10, 0, none⟩) n c10) n (u8s L))) (fun _ j _ => n - (intOf j).toNat)
  case atStart => exact ⟨0, l, by omega, rfl, Hb10.out, Hl.out, HB.out.lt, Ho10.out⟩
  case round =>
    obtain ⟨t, L, ht, rfl, hb, hL, ho⟩ := hrel
    by_cases htn : t < n
    · have hcell := ho.out.2.cellAt t (by omega)
      have hfr := ho.out.2.frozenAt t
      rw [u8s_get _ _ (by omega)] at hcell
      have hx : nth L t < 256 := nth_lt ho.out.1 (by omega) _
      generalize nth L t = x at *
      have HL := Lib.hid hL; clear hL
      go_wp2
      have hs := (ho.out.2.stored t (.int .u8 (((x + 1) % 256 : Nat) : Int))).1
      rw [u8s_set'] at hs
      have hx256 : (x + 1) % 256 < 256 := by omega
      go_roundw
      case rel =>
        refine ⟨t + 1, L.set t ((x + 1) % 256), by omega, by go_num, hb.setCell (p := ⟨g10, t, none⟩) hgs _, by rw [List.length_set]; exact HL.out, ?_, ?_⟩
        · intro y hy
          rcases List.mem_or_eq_of_mem_set hy with h | h
          · exact ho.out.1 y h
          · rw [h]; exact hx256
        · exact hs
      case measure => simp [intOf]; omega
    · obtain rfl : t = n := by omega
      have HB8' := Lib.hid (HB8.out.below hb)
      have Hbr := Lib.hid (Hb8.out.trans (hb.mono Hb8.out.size))
      have HBr := Lib.hid (HB.out.below Hbr.out)
      clear hb ho
      go_wp2_with fail
      refine (alive_any _ (HD.out.below (Nat.le_refl _) Hbr.out)).mono ?_
      rintro e w11 ⟨rfl, hb11⟩
      have HB11 := Lib.hid (HB8'.out.below hb11)
      have Hb11 := Lib.hid (Hbr.out.trans (hb11.mono Hbr.out.size)); clear hb11
      go_wp2_with fail
      refine (code_any (some (14, some ((6 + t : Nat) : Int))) _ (HD.out.below (Nat.le_refl _) Hb11.out)).mono ?_
      rintro e w12 ⟨rfl, hb12⟩
      have HB12 := Lib.hid (HB11.out.below hb12)
      have Hb12 := Lib.hid (Hb11.out.trans (hb12.mono Hb11.out.size)); clear hb12
      simp only [errCode]
      go_wp2_with fail
      refine (at_any (some (14, some ((6 + t : Nat) : Int))) _ (HD.out.below (Nat.le_refl _) Hb12.out)).mono ?_
      rintro e w13 ⟨rfl, hb13⟩
      have HB13 := Lib.hid (HB12.out.below hb13)
      have Hb13 := Lib.hid (Hb12.out.trans (hb13.mono Hb12.out.size)); clear hb13
      simp only [errAt]
      go_wp2_with fail
      refine (code_any (some (14, some ((6 + t : Nat) : Int))) _ (HD.out.below (Nat.le_refl _) Hb13.out)).mono ?_
      rintro e w14 ⟨rfl, hb14⟩
      have HB14 := Lib.hid (HB13.out.below hb14)
      have Hb14 := Lib.hid (Hb13.out.trans (hb14.mono Hb13.out.size)); clear hb14
      simp only [errCode]
      go_wp2_with fail
      refine (refsum_any _ _ _ l _ HB14.out).mono ?_
      rintro e w15 ⟨rfl, rfl⟩
      go_wp2_with fail
      go_ret
      exact ⟨rfl, Hb14.out⟩

set_option maxRecDepth 100000 in
set_option maxHeartbeats 2000000 in
theorem detects_walk (a : Option Addr) (n cap : Nat) (l : List Nat) (q ch : Nat) (w : World) (hB : Byts w a n cap l) (hD : Door w) (hq : q < 65536) (hch : ch < 256) :
    Calls Tryd.prog 6 #[.slice a n cap, .int .u16 q, .int .u8 ch] w fun e w' => e = .returned (.bool true) ∧ Below w.heap.size w w' := by
  by_cases h : 0 < n ∧ n ≤ 100 ∧ ch ≠ 0
  · exact detects_small a n cap l q ch w hB hD h.1 h.2.1 hq hch h.2.2
  · have HD := Lib.hid hD
    clear hD hB
    by_cases hn0 : n = 0
    · subst hn0
      go_enter Tryd.func6, Tryd.ntmps6
      go_wp2_with fail
      refine (alive_any _ HD.out).mono ?_
      rintro e w1 ⟨rfl, hb1⟩
      go_wp2_with fail
      go_ret
      exact ⟨rfl, hb1⟩
    · have hnb : ((n : Int) == 0) = false := by rw [beq_eq_false_iff_ne]; omega
      by_cases hn : n ≤ 100
      · obtain rfl : ch = 0 := by omega
        clear h hn0
        go_enter Tryd.func6, Tryd.ntmps6
        go_wp2_with fail
        refine (alive_any _ HD.out).mono ?_
        rintro e w1 ⟨rfl, hb1⟩
        go_wp2_with fail
        go_ret
        exact ⟨rfl, hb1⟩
      · have hd2 : decide (100 < (n : Int)) = true := by rw [decide_eq_true_iff]; omega
        clear h hn0 hn
        go_enter Tryd.func6, Tryd.ntmps6
        go_wp2_with fail
        refine (alive_any _ HD.out).mono ?_
        rintro e w1 ⟨rfl, hb1⟩
        go_wp2_with fail
        go_ret
        exact ⟨rfl, hb1⟩

theorem walkFrameDetects (a : Option Addr) (n cap : Nat) (z : List Int) (x y : Int) (w : World) (w0 : InRow .u8 w a n cap z) (w1 : (Lit.int .u16 x).wf = true) (w2 : (Lit.int .u8 y).wf = true) (hD : Door w) :
    Calls Tryd.prog 6 #[.slice a n cap, .int .u16 x, .int .u8 y] w fun e w' => e = .returned (.bool true) ∧ Below w.heap.size w w' := by
  obtain ⟨q, rfl, hq⟩ := u16_bd w1
  obtain ⟨h0, h1⟩ := u8_bd w2
  obtain ⟨ch, rfl⟩ := Int.eq_ofNat_of_zero_le h0
  exact detects_walk a n cap _ q ch w (byts_row w0) hD hq (by omega)

end Go.Proofs.YtejcakbkldecmaaDoor
