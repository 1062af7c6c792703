/-
  Walk: FrameHeaders.
-/
import Derived.Test.YtejcakbkldecmaaDoorFrmAlive
namespace Go.Proofs.YtejcakbkldecmaaDoor
open Go.RowKit
set_option linter.unusedVariables false

set_option maxRecDepth 20000 in
set_option maxHeartbeats 2000000 in
theorem headers_walk (a : Option Addr) (n cap q : Nat) (most : Int) (l : List Nat) (w : World) (hB : Byts w a n cap l) (hq : q < 256) (hm0 : -9223372036854775808 ≤ most) (hm1 : most ≤ 9223372036854775807) (hD : Door w) :
    Calls Tryd.prog 4 #[.slice a n cap, .int .u8 q, .int .i64 most] w fun e w' => e = .returned (.bool true) ∧ Below w.heap.size w w' := by
  have HD := Lib.hid hD; clear hD
  have HB := Lib.hid hB
  have Hm := Lib.hid (And.intro hm0 hm1); clear hm0 hm1
  by_cases hn : 500 < n
  · clear hB
    go_enter Tryd.func4, Tryd.ntmps4
    go_wp2_with fail
    refine (alive_any _ HD.out).mono ?_
    rintro e w1 ⟨rfl, hb1⟩
    go_wp2_with fail
    go_ret
    exact ⟨rfl, hb1⟩
  · clear hB
    have hn' : n ≤ 500 := by omega
    have hrem : (q : Int) % ((n : Int) + 1) = ((q % (n + 1) : Nat) : Int) := by
      rw [show ((n : Int) + 1) = ((n + 1 : Nat) : Int) by omega]
      rfl
    have hpn : q % (n + 1) ≤ n := by have := Nat.mod_lt q (show 0 < n + 1 by omega); omega
    generalize q % (n + 1) = p at *
    have Hrem := Lib.hid hrem; clear hrem
    have Hh := Lib.hid (fun w hD hB => header_any a n cap p most l w hD hB hpn (by omega) Hm.out.1 Hm.out.2)
    have Hr := Lib.hid (fun w hB => refheader_any a n cap p most l w hB hpn (by omega) Hm.out.1 Hm.out.2)
    generalize headRes l p most = R at *
    obtain ⟨s, k, c⟩ := R
    go_enter Tryd.func4, Tryd.ntmps4
    go_wp2_with fail
    rw [Hrem.out]
    refine (Hh.out _ HD.out HB.out).mono ?_
    rintro e w1 ⟨rfl, hb1⟩
    have Hb1 := Lib.hid hb1; clear hb1
    go_wp2_with fail
    refine (Hr.out _ (HB.out.below Hb1.out)).mono ?_
    rintro e w2 ⟨rfl, hb2⟩
    have Hb2 := Lib.hid (Hb1.out.trans (hb2.mono Hb1.out.size)); clear hb2
    go_wp2_with fail
    refine (alive_any _ (HD.out.below (Nat.le_refl _) Hb2.out)).mono ?_
    rintro e w3 ⟨rfl, hb3⟩
    have Hb3 := Lib.hid (Hb2.out.trans (hb3.mono Hb2.out.size)); clear hb3
    go_wp2_with fail
    refine (code_any c _ (HD.out.below (Nat.le_refl _) Hb3.out)).mono ?_
    rintro e w4 ⟨rfl, hb4⟩
    have Hb4 := Lib.hid (Hb3.out.trans (hb4.mono Hb3.out.size)); clear hb4
    go_wp2_with fail
    refine (at_any c _ (HD.out.below (Nat.le_refl _) Hb4.out)).mono ?_
    rintro e w5 ⟨rfl, hb5⟩
    have Hb5 := Lib.hid (Hb4.out.trans (hb5.mono Hb4.out.size)); clear hb5
    go_wp2_with fail
    go_ret
    exact ⟨rfl, Hb5.out⟩

theorem i64_bd {n : Int} (h : (Lit.int .i64 n).wf = true) : -9223372036854775808 ≤ n ∧ n ≤ 9223372036854775807 := by
  simp [Lit.wf, IntKind.min, IntKind.max, IntKind.signed, IntKind.bits] at h
  omega

theorem walkFrameHeaders (a : Option Addr) (n cap : Nat) (z : List Int) (x y : Int) (w : World) (w0 : InRow .u8 w a n cap z) (w1 : (Lit.int .u8 x).wf = true) (w2 : (Lit.int .i64 y).wf = true) (hD : Door w) :
    Calls Tryd.prog 4 #[.slice a n cap, .int .u8 x, .int .i64 y] w fun e w' => e = .returned (.bool true) ∧ Below w.heap.size w w' := by
  obtain ⟨h0, h1⟩ := u8_bd w1
  obtain ⟨q, rfl⟩ := Int.eq_ofNat_of_zero_le h0
  have hy := i64_bd w2
  exact headers_walk a n cap q y _ w (byts_row w0) (by omega) hy.1 hy.2 hD

end Go.Proofs.YtejcakbkldecmaaDoor
