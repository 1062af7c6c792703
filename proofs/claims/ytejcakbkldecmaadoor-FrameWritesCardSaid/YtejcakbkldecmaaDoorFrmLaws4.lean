/-
  Walk: FrameWrites.
-/
import Derived.Test.YtejcakbkldecmaaDoorFrmAlive
import Derived.Test.YtejcakbkldecmaaDoorFrmSpec
import Derived.Test.YtejcakbkldecmaaDoorFrmLaws1
namespace Go.Proofs.YtejcakbkldecmaaDoor
open Go.RowKit
set_option linter.unusedVariables false

theorem vbytes_len_le (x : Nat) : (vbytes x).length ≤ 10 := vbF_len_le 9 x

set_option maxRecDepth 100000 in
set_option maxHeartbeats 2000000 in
theorem writes_small (a : Option Addr) (n cap : Nat) (l : List Nat) (a' : Option Addr) (m cap' : Nat) (l' : List Nat) (w : World) (hB : Byts w a n cap l) (hB' : Byts w a' m cap' l') (hD : Door w) (hn : n ≤ 100) (hm : m ≤ 1000) :
    Calls Tryd.prog 3 #[.slice a n cap, .slice a' m cap'] w fun e w' => e = .returned (.bool true) ∧ Below w.heap.size w w' := by
  have HD := Lib.hid hD; clear hD
  obtain ⟨F, hF⟩ : ∃ F, F = (frameL l').length := ⟨_, rfl⟩
  have hF1 : F = 9 + (vbytes m).length + m := by rw [hF, frameL_len, hB'.len]; omega
  have hv := vbytes_len_le m
  have hF2 : F ≤ m + 19 := by omega
  have hF3 : m + 9 ≤ F := by omega
  have HF := Lib.hid hF
  have HR := Lib.hid (show splitRes (l ++ frameL l' ++ l) n (m : Int) = (l', n + F, none) from by
    have := splitRes_frameL l l' l (m : Int) (by rw [hB'.len]; omega) (by rw [hB'.len]; omega)
    rw [hB.len, ← hF] at this
    exact this)
  have HB := Lib.hid hB
  have HB' := Lib.hid hB'
  have Hlt := Lib.hid (frameL_lt hB'.lt)
  obtain ⟨v1, w1, hr1, ho1, hb1⟩ := run_copy_byts a n cap l hB (by omega)
  have Ho1 := Lib.hid ho1
  clear hB hB' hF1 hv hF ho1
  have e1 : ((n + F : Nat) : Int) - (n : Int) = (F : Int) := by omega
  go_enter Tryd.func3, Tryd.ntmps3
  go_wp2_with (at_builtin; refine wpList_append_hr _ _ 22 rfl rfl _ _ rfl rfl _ _ hr1 ?_)
  clear hr1
  refine (appframe_any v1 n _ a' m cap' l' w w1 HB'.out hb1 Ho1.out (by omega) (by omega)).mono ?_
  rintro e w2 ⟨⟨v2, rfl, ho2⟩, hb2⟩
  rw [← u8s_append, ← HF.out] at ho2
  have hlt2 : ∀ x ∈ l ++ frameL l', x < 256 := by
    intro x hx
    rcases List.mem_append.1 hx with h | h
    · exact HB.out.lt x h
    · exact Hlt.out x h
  have Hlt2 := Lib.hid hlt2; clear hlt2
  obtain ⟨a2, c2, rfl, hB2⟩ := byts_own ho2 Hlt2.out
  have Ho2 := Lib.hid ho2; have HB2 := Lib.hid hB2
  have Hb2 := Lib.hid hb2
  clear ho2 hB2 hb1 hb2 Ho1
  obtain ⟨v3, w3, hr3, ho3, hb3⟩ := run_copy_byts a n cap l (HB.out.below Hb2.out) (by omega)
  have Ho3 := Lib.hid ho3; clear ho3
  have Hb3 := Lib.hid hb3; clear hb3
  go_wp2_with (at_builtin; refine wpList_append_hr _ _ 22 rfl rfl _ _ rfl rfl _ _ hr3 ?_)
  clear hr3
  refine (refframe_any a' m cap' l' _ ((HB'.out.below Hb2.out).below Hb3.out) (by omega)).mono ?_
  rintro e w4 ⟨⟨v4, rfl, ho4⟩, hb4⟩
  rw [← HF.out] at ho4
  obtain ⟨a4, c4, rfl, hB4⟩ := byts_own ho4 Hlt.out
  have Hb4 := Lib.hid (Hb3.out.trans (hb4.mono Hb3.out.size))
  obtain ⟨v5, w5, hr5, ho5, hg5⟩ := run_append_byts w2.heap.size v3 n _ (own_below Ho3.out hb4) a4 F c4 _ hB4 (by omega) Hb4.out.size
  have Hb5 := Lib.hid (Hb4.out.grown hg5 Hb4.out.size (fun k hk => ((own_below Ho3.out hb4).lt k hk).1))
  rw [← u8s_append] at ho5
  obtain ⟨a5, c5, rfl, hB5⟩ := byts_own ho5 Hlt2.out
  have HB5 := Lib.hid hB5
  clear hb4 ho4 hB4 hg5 ho5 hB5 Ho3
  go_wp2_with (at_builtin; refine wpList_append_hr _ _ 22 rfl rfl _ _ rfl rfl _ _ hr5 ?_)
  clear hr5
  refine (equal_any _ _ _ _ _ _ _ _ _ (HB2.out.below Hb5.out) HB5.out true (by simp)).mono ?_
  rintro e w6 ⟨rfl, q, rfl⟩
  have Hb6 := Lib.hid (belowdrewN Hb5.out q)
  have Hb60 := Lib.hid (Hb2.out.trans (Hb6.out.mono Hb2.out.size))
  obtain ⟨v7, w7, hr7, ho7, hg7⟩ := run_append_byts w.heap.size _ (n + F) _ (own_below Ho2.out Hb6.out) a n cap l (HB.out.below Hb60.out) (by omega) Hb60.out.size
  have Hb7 := Lib.hid (Hb60.out.grown hg7 Hb60.out.size (fun k hk => ((own_below Ho2.out Hb6.out).lt k hk).1))
  rw [← u8s_append] at ho7
  obtain ⟨a7, c7, rfl, hB7⟩ := byts_own ho7 (by
    intro x hx
    rcases List.mem_append.1 hx with h | h
    · exact Hlt2.out x h
    · exact HB.out.lt x h)
  have HB7 := Lib.hid hB7
  clear hg7 ho7 hB7 Ho2
  go_wp2_with (at_builtin; refine wpList_append_hr _ _ 22 rfl rfl _ _ rfl rfl _ _ hr7 ?_)
  clear hr7
  refine (split_any a7 _ c7 n m _ _ (HD.out.below (Nat.le_refl _) Hb7.out) HB7.out (by omega) (by omega) (by omega) (by omega)).mono ?_
  rintro e w8 ⟨⟨v8, rfl, ho8⟩, hb8⟩
  simp only [HR.out, errVal] at ho8 ⊢
  obtain ⟨a8, c8, rfl, hB8⟩ := byts_own ho8 HB'.out.lt
  have Hb8 := Lib.hid (Hb7.out.trans (hb8.mono Hb7.out.size))
  have HB8 := Lib.hid hB8
  clear hb8 ho8 hB8
  go_wp2_with fail
  refine (alive_any _ (HD.out.below (Nat.le_refl _) Hb8.out)).mono ?_
  rintro e w9 ⟨rfl, hb9⟩
  have HB9 := Lib.hid (HB8.out.below hb9)
  have Hb9 := Lib.hid (Hb8.out.trans (hb9.mono Hb8.out.size)); clear hb9
  go_wp2_with fail
  refine (equal_any _ _ _ _ _ _ _ _ _ HB9.out (HB'.out.below Hb9.out) true (by simp)).mono ?_
  rintro e w10 ⟨rfl, q2, rfl⟩
  go_wp2_with fail
  go_ret
  exact ⟨rfl, belowdrewN Hb9.out q2⟩

set_option maxRecDepth 100000 in
set_option maxHeartbeats 2000000 in
theorem writes_walk (a : Option Addr) (n cap : Nat) (l : List Nat) (a' : Option Addr) (m cap' : Nat) (l' : List Nat) (w : World) (hB : Byts w a n cap l) (hB' : Byts w a' m cap' l') (hD : Door w) :
    Calls Tryd.prog 3 #[.slice a n cap, .slice a' m cap'] w fun e w' => e = .returned (.bool true) ∧ Below w.heap.size w w' := by
  by_cases hn : n ≤ 100
  · by_cases hm : m ≤ 1000
    · exact writes_small a n cap l a' m cap' l' w hB hB' hD hn hm
    · have hm' : 1000 < m := by omega
      have HD := Lib.hid hD
      clear hm hD hB hB'
      go_enter Tryd.func3, Tryd.ntmps3
      go_wp2_with fail
      refine (alive_any _ HD.out).mono ?_
      rintro e w1 ⟨rfl, hb1⟩
      go_wp2_with fail
      go_ret
      exact ⟨rfl, hb1⟩
  · have hn' : 100 < n := by omega
    have HD := Lib.hid hD
    clear hn hD hB hB'
    go_enter Tryd.func3, Tryd.ntmps3
    go_wp2_with fail
    refine (alive_any _ HD.out).mono ?_
    rintro e w1 ⟨rfl, hb1⟩
    go_wp2_with fail
    go_ret
    exact ⟨rfl, hb1⟩

theorem walkFrameWrites (a : Option Addr) (n cap : Nat) (z : List Int) (a' : Option Addr) (n' cap' : Nat) (z' : List Int) (w : World) (w0 : InRow .u8 w a n cap z) (w1 : InRow .u8 w a' n' cap' z') (hD : Door w) :
    Calls Tryd.prog 3 #[.slice a n cap, .slice a' n' cap'] w fun e w' => e = .returned (.bool true) ∧ Below w.heap.size w w' :=
  writes_walk a n cap _ a' n' cap' _ w (byts_row w0) (byts_row w1) hD

end Go.Proofs.YtejcakbkldecmaaDoor
