/-
  Walk: FrameSplits.
-/
import Derived.Test.YtejcakbkldecmaaDoorFrmAlive
import Derived.Test.YtejcakbkldecmaaDoorFrmRefSplit3
import Derived.Test.YtejcakbkldecmaaDoorFrmSpec
import Derived.Test.YtejcakbkldecmaaDoorFrmLaws1
import Derived.Deep.RegionWith
import Derived.BigQuiet
import Derived.Deep.RegionHeld3
namespace Go.Proofs.YtejcakbkldecmaaDoor
open Go.RowKit
set_option linter.unusedVariables false

theorem splitRes_lt {l q : List Nat} {p n : Nat} {most : Int} {c : Err} (hl : ∀ x ∈ l, x < 256) (h : splitRes l p most = (q, n, c)) : ∀ x ∈ q, x < 256 := by
  unfold splitRes at h
  intro x hx
  split at h
  · cases h; simp at hx
  · split at h
    · cases h; simp at hx
    · split at h
      · cases h; exact hl x (List.mem_of_mem_drop (List.mem_of_mem_take hx))
      · cases h; simp at hx

theorem splitRes_le {l q : List Nat} {p n : Nat} {most : Int} {c : Err} (hl : ∀ x ∈ l, x < 256) (h : splitRes l p most = (q, n, c)) : n ≤ l.length ∧ q.length ≤ l.length := by
  have e : q.length ≤ l.length := by
    unfold splitRes at h
    split at h
    · cases h; simp
    · split at h
      · cases h; simp
      · split at h
        · cases h; simp [List.length_take, List.length_drop]; omega
        · cases h; simp
  cases c with
  | some c =>
    unfold splitRes at h
    split at h
    · cases h; exact ⟨by omega, e⟩
    · split at h
      · cases h; exact ⟨by omega, e⟩
      · split at h
        · cases h
        · cases h; exact ⟨by omega, e⟩
  | none => exact ⟨(splitRes_inv hl h).2.1, e⟩

theorem splitRes_code {l q : List Nat} {p n : Nat} {most : Int} {c : Int × Option Int} (h : splitRes l p most = (q, n, some c)) : c.1 ≠ 0 := by
  unfold splitRes at h
  split at h
  · rename_i hh; cases h; exact headRes_code hh
  · split at h
    · cases h; exact (by decide : (5 : Int) ≠ 0)
    · split at h
      · cases h
      · cases h; exact (by decide : (14 : Int) ≠ 0)

theorem wp_region_below {P : Program} {id : Nat} {Q : Exit → Act → World → Prop} {a : Act} {w : World} {l : List Oper} (hm : P.follows .mixedOrders = true) (hB : Region.lexB .any l.toArray = true)
    (h : wpQuiet P l.toArray (fun w' => Below w.heap.size w w') (fun a' => ∀ w', Below w.heap.size w w' → Q .normal a' w') l a) : (Code.region id l.toArray true).wp P Q a w :=
  wp_region_quiet (C := fun w' => Below w.heap.size w w') hm hB ((Below.refl _ _).drew) (by simpa using h)
theorem keep_below {P : Program} {f : FuncId} {args : Array Value} {w w' : World} {v : Value} (hw : Below w.heap.size w w') (h : Calls P f args w' fun e w'' => e = .returned v ∧ Below w'.heap.size w' w'') :
    Calls P f args w' fun e w'' => e = .returned v ∧ Below w.heap.size w w'' := h.mono fun e w'' ⟨he, hb⟩ => ⟨he, hw.trans (hb.mono hw.size)⟩
theorem keep_drewN {P : Program} {f : FuncId} {args : Array Value} {w w' : World} {v : Value} (hw : Below w.heap.size w w') (h : Calls P f args w' fun e w'' => e = .returned v ∧ ∃ q, w'' = w'.drewN q) :
    Calls P f args w' fun e w'' => e = .returned v ∧ Below w.heap.size w w'' := h.mono fun e w'' ⟨he, q, hq⟩ => ⟨he, by rw [hq]; exact belowdrewN hw q⟩

theorem headRes_at {l : List Nat} {p s k : Nat} {most : Int} {c : Int × Option Int} (h : headRes l p most = (s, k, some c)) : ∃ e a, c = (e, some a) := by
  unfold headRes at h
  split at h
  · cases h; exact ⟨_, _, rfl⟩
  · split at h
    · split at h <;> cases h; exact ⟨_, _, rfl⟩
    · cases h; exact ⟨_, _, rfl⟩
    · cases h; exact ⟨_, _, rfl⟩

theorem splitRes_none {l q : List Nat} {p n : Nat} {most : Int} {c : Int × Option Int} (h : splitRes l p most = (q, n, some c)) : q = [] ∧ n = 0 ∧ ∃ e a, c = (e, some a) := by
  unfold splitRes at h
  split at h
  · rename_i hh; cases h; exact ⟨rfl, rfl, headRes_at hh⟩
  · split at h
    · cases h; exact ⟨rfl, rfl, _, _, rfl⟩
    · split at h
      · cases h
      · cases h; exact ⟨rfl, rfl, _, _, rfl⟩

set_option maxRecDepth 100000 in
set_option maxHeartbeats 1000000 in
theorem splits_err (a : Option Addr) (n cap q : Nat) (most : Int) (l : List Nat) (w : World) (hB : Byts w a n cap l) (hq : q < 256) (hm0 : -9223372036854775808 ≤ most) (hm1 : most ≤ 9223372036854775807) (hD : Door w) (hn : n ≤ 500)
    (Q : List Nat) (m : Nat) (c : Int × Option Int) (hR : splitRes l (q % (n + 1)) most = (Q, m, some c)) :
    Calls Tryd.prog 5 #[.slice a n cap, .int .u8 q, .int .i64 most] w fun e w' => e = .returned (.bool true) ∧ Below w.heap.size w w' := by
  have HD := Lib.hid hD; clear hD
  have HB := Lib.hid hB
  have Hm := Lib.hid (And.intro hm0 hm1); clear hm0 hm1
  have hrem : (q : Int) % ((n : Int) + 1) = ((q % (n + 1) : Nat) : Int) := by
    rw [show ((n : Int) + 1) = ((n + 1 : Nat) : Int) by omega]
    rfl
  have hpn : q % (n + 1) ≤ n := by have := Nat.mod_lt q (show 0 < n + 1 by omega); omega
  generalize q % (n + 1) = p at *
  have Hrem := Lib.hid hrem; clear hrem
  have Hh := Lib.hid (fun w hD hB => split_any a n cap p most l w hD hB hpn (by omega) Hm.out.1 Hm.out.2)
  have Hr := Lib.hid (fun w hB => refsplit_any a n cap p most l w hB hpn (by omega) Hm.out.1 Hm.out.2)
  have Hlt := Lib.hid (splitRes_lt hB.lt hR)
  obtain ⟨rfl, rfl, ec, ea, rfl⟩ := splitRes_none hR
  have hcb : (ec != 0) = true := by rw [bne_iff_ne]; exact splitRes_code hR
  simp only [hR, List.length_nil, errVal, errCode, errAt] at Hh Hr
  clear hB hR
  go_enter Tryd.func5, Tryd.ntmps5
  go_wp2_with fail
  rw [Hrem.out]
  refine (Hh.out _ HD.out HB.out).mono ?_
  rintro e w1 ⟨⟨v1, rfl, ho1⟩, hb1⟩
  obtain ⟨a1, c1, rfl, hB1⟩ := byts_own ho1 Hlt.out
  have Hb1 := Lib.hid hb1; clear hb1
  have HB1 := Lib.hid hB1; clear hB1 ho1
  go_wp2_with fail
  refine (Hr.out _ (HB.out.below Hb1.out)).mono ?_
  rintro e w2 ⟨⟨v2, rfl, ho2⟩, hb2⟩
  obtain ⟨a2, c2, rfl, hB2⟩ := byts_own ho2 Hlt.out
  have HB1' := Lib.hid (HB1.out.below hb2)
  have Hb2 := Lib.hid (Hb1.out.trans (hb2.mono Hb1.out.size)); clear hb2 Hb1 HB1
  have HB2 := Lib.hid hB2; clear hB2 ho2
  have Hc := Lib.hid (fun w hD => code_any (some (ec, some ea)) w hD)
  have Ha := Lib.hid (fun w hD => at_any (some (ec, some ea)) w hD)
  simp only [errVal, errCode, errAt] at Hc Ha
  go_wp2_with fail
  have HD2 := Lib.hid (HD.out.below (Nat.le_refl _) Hb2.out)
  refine wp_region_below (by kernel_rfl) (by kernel_rfl) ?_
  repeat (go_big_quiet_step ((intro hw; first
    | rfl
    | (go_at_call 7; exact keep_below hw (alive_any _ (HD2.out.below (Nat.le_refl _) hw)))
    | (go_at_call 10; exact keep_drewN hw (equal_any _ _ _ _ _ _ _ _ _ (HB1'.out.below hw) (HB2.out.below hw) true (by simp)))
    | (go_at_call 14; exact keep_below hw (Hc.out _ (HD2.out.below (Nat.le_refl _) hw)))
    | (go_at_call 15; exact keep_below hw (Ha.out _ (HD2.out.below (Nat.le_refl _) hw))))))
  refine wpQuiet_nil ?_
  intro w3 hb3
  go_wp2_with fail
  go_ret
  exact ⟨rfl, Hb2.out.trans (hb3.mono Hb2.out.size)⟩

set_option maxRecDepth 100000 in
set_option maxHeartbeats 1000000 in
theorem splits_ok (a : Option Addr) (n cap q : Nat) (most : Int) (l : List Nat) (w : World) (hB : Byts w a n cap l) (hq : q < 256) (hm0 : -9223372036854775808 ≤ most) (hm1 : most ≤ 9223372036854775807) (hD : Door w) (hn : n ≤ 500)
    (Q : List Nat) (m : Nat) (hR : splitRes l (q % (n + 1)) most = (Q, m, none)) :
    Calls Tryd.prog 5 #[.slice a n cap, .int .u8 q, .int .i64 most] w fun e w' => e = .returned (.bool true) ∧ Below w.heap.size w w' := by
  have HD := Lib.hid hD; clear hD
  have HB := Lib.hid hB
  have Hm := Lib.hid (And.intro hm0 hm1); clear hm0 hm1
  have hrem : (q : Int) % ((n : Int) + 1) = ((q % (n + 1) : Nat) : Int) := by
    rw [show ((n : Int) + 1) = ((n + 1 : Nat) : Int) by omega]
    rfl
  have hpn : q % (n + 1) ≤ n := by have := Nat.mod_lt q (show 0 < n + 1 by omega); omega
  generalize q % (n + 1) = p at *
  have Hrem := Lib.hid hrem; clear hrem
  have Hh := Lib.hid (fun w hD hB => split_any a n cap p most l w hD hB hpn (by omega) Hm.out.1 Hm.out.2)
  have Hr := Lib.hid (fun w hB => refsplit_any a n cap p most l w hB hpn (by omega) Hm.out.1 Hm.out.2)
  have Hlt := Lib.hid (splitRes_lt hB.lt hR)
  obtain ⟨hpm, hmn, hfr⟩ := splitRes_inv hB.lt hR
  have hQl := (splitRes_le hB.lt hR).2
  rw [hB.len] at hmn hQl
  have hnc := hB.room
  have hmc : m ≤ cap := by omega
  have Hfr := Lib.hid hfr
  have Hln := Lib.hid (show (frameL Q).length = m - p from by rw [← hfr, List.length_take, List.length_drop, hB.len]; omega)
  have HQ := Lib.hid hQl
  have Hsub := Lib.hid (show ∀ w', Byts w' a n cap l → ∃ b o, a = some ⟨b, o, none⟩ ∧ p < cap ∧ Byts w' (some ⟨b, o + p, none⟩) (m - p) (cap - p) (frameL Q) from fun w' hB' => by
    have h9 : 9 ≤ (frameL Q).length := by rw [frameL_len]; omega
    have h10 : (frameL Q).length = m - p := by rw [← hfr, List.length_take, List.length_drop, hB.len]; omega
    obtain ⟨b, o, rfl, -⟩ := hB'.cells (by omega)
    refine ⟨b, o, rfl, by omega, ?_⟩
    have := hB'.sub p m hpm hmn (by omega)
    rw [hfr] at this
    exact this)
  obtain ⟨b, o, rfl, hpc, -⟩ := Hsub.out w hB
  have hpc' : ¬ cap = p := by omega
  simp only [hR, errVal, errCode, errAt] at Hh Hr
  clear hB hR hfr hQl
  go_enter Tryd.func5, Tryd.ntmps5
  go_wp2_with fail
  rw [Hrem.out]
  refine (Hh.out _ HD.out HB.out).mono ?_
  rintro e w1 ⟨⟨v1, rfl, ho1⟩, hb1⟩
  obtain ⟨a1, c1, rfl, hB1⟩ := byts_own ho1 Hlt.out
  have Hb1 := Lib.hid hb1; clear hb1
  have HB1 := Lib.hid hB1; clear hB1 ho1
  go_wp2_with fail
  refine (Hr.out _ (HB.out.below Hb1.out)).mono ?_
  rintro e w2 ⟨⟨v2, rfl, ho2⟩, hb2⟩
  obtain ⟨a2, c2, rfl, hB2⟩ := byts_own ho2 Hlt.out
  have HB1' := Lib.hid (HB1.out.below hb2)
  have Hb2 := Lib.hid (Hb1.out.trans (hb2.mono Hb1.out.size)); clear hb2 Hb1 HB1
  have HB2 := Lib.hid hB2; clear hB2 ho2
  have Hc := Lib.hid (fun w hD => code_any none w hD)
  have Ha := Lib.hid (fun w hD => at_any none w hD)
  simp only [errVal, errCode, errAt] at Hc Ha
  go_wp2_with fail
  have HD2 := Lib.hid (HD.out.below (Nat.le_refl _) Hb2.out)
  have HB0 := Lib.hid (HB.out.below Hb2.out)
  obtain ⟨b', o', e', -, hBs⟩ := Hsub.out _ HB0.out
  cases e'
  have HBs := Lib.hid hBs; clear hBs
  go_region_held3 (fun w' => Below w2.heap.size w2 w') (first | assumption | exact (Below.refl _ _).drew) (first
    | (go_at_call 7; refine (alive_any _ (HD2.out.below (Nat.le_refl _) (by assumption))).mono ?_; rintro e w3 ⟨rfl, hb3⟩; have hS3 : Below w2.heap.size w2 w3 := Below.trans (by assumption) (hb3.mono (Below.size (by assumption))))
    | (go_at_call 10; (refine (equal_any _ _ _ _ _ _ _ _ _ HB7.out (HBs.out.below hS7) true (by simp)).mono ?_); rintro e w8 ⟨rfl, q, rfl⟩; have hS8 := belowdrewN hS7 q)
    | (go_at_call 10; (refine (equal_any _ _ _ _ _ _ _ _ _ (HB1'.out.below hS3) (HB2.out.below hS3) true (by simp)).mono ?_); rintro e w4 ⟨rfl, q, rfl⟩; have hS4 := belowdrewN hS3 q)
    | (go_at_call 14; (refine (Hc.out _ (HD2.out.below (Nat.le_refl _) hS4)).mono ?_); rintro e w5 ⟨rfl, hb5⟩; have hS5 := hS4.trans (hb5.mono hS4.size))
    | (go_at_call 15; (refine (Ha.out _ (HD2.out.below (Nat.le_refl _) hS5)).mono ?_); rintro e w6 ⟨rfl, hb6⟩; have hS6 := hS5.trans (hb6.mono hS5.size))
    | (go_at_call 8; (refine (appframe_any (.slice none 0 0) 0 [] a1 _ c1 Q w2 _ HB1'.out hS6 (World.ownsRow_nil _ _ _ _) (by have := HQ.out; omega) (by omega)).mono ?_); rintro e w7 ⟨⟨v7, rfl, ho7⟩, hS7⟩; obtain ⟨a7, c7, rfl, hB7⟩ := byts_own (l := frameL Q) (by simpa using ho7) (frameL_lt Hlt.out); have HB7 := Lib.hid hB7))
  all_goals
    go_wp2_with fail
    go_ret
    exact ⟨rfl, Hb2.out.trans (hS8.mono Hb2.out.size)⟩

set_option maxRecDepth 100000 in
set_option maxHeartbeats 1000000 in
theorem splits_walk (a : Option Addr) (n cap q : Nat) (most : Int) (l : List Nat) (w : World) (hB : Byts w a n cap l) (hq : q < 256) (hm0 : -9223372036854775808 ≤ most) (hm1 : most ≤ 9223372036854775807) (hD : Door w) :
    Calls Tryd.prog 5 #[.slice a n cap, .int .u8 q, .int .i64 most] w fun e w' => e = .returned (.bool true) ∧ Below w.heap.size w w' := by
  by_cases hn : n ≤ 500
  · rcases hR : splitRes l (q % (n + 1)) most with ⟨Q, m, c⟩
    cases c with
    | none => exact splits_ok a n cap q most l w hB hq hm0 hm1 hD hn Q m hR
    | some c => exact splits_err a n cap q most l w hB hq hm0 hm1 hD hn Q m c hR
  · have HD := Lib.hid hD; clear hD
    have hn' : 500 < n := by omega
    clear hB hm0 hm1 hn
    go_enter Tryd.func5, Tryd.ntmps5
    go_wp2_with fail
    refine (alive_any _ HD.out).mono ?_
    rintro e w1 ⟨rfl, hb1⟩
    go_wp2_with fail
    go_ret
    exact ⟨rfl, hb1⟩

theorem walkFrameSplits (a : Option Addr) (n cap : Nat) (z : List Int) (x y : Int) (w : World) (w0 : InRow .u8 w a n cap z) (w1 : (Lit.int .u8 x).wf = true) (w2 : (Lit.int .i64 y).wf = true) (hD : Door w) :
    Calls Tryd.prog 5 #[.slice a n cap, .int .u8 x, .int .i64 y] w fun e w' => e = .returned (.bool true) ∧ Below w.heap.size w w' := by
  obtain ⟨h0, h1⟩ := u8_bd w1
  obtain ⟨q, rfl⟩ := Int.eq_ofNat_of_zero_le h0
  have hy := i64_bd w2
  exact splits_walk a n cap q y _ w (byts_row w0) (by omega) hy.1 hy.2 hD

end Go.Proofs.YtejcakbkldecmaaDoor
