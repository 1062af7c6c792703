/-
  Walks: CrcJoins, CrcNil.
-/
import Derived.Test.YteonpcckifkafaaCrcAlive
import Derived.Test.YteonpcckifkafaaCrcJoin2
namespace Go.Proofs.Yteonpcckifkafaa
open Go.RowKit Go.Joins
set_option linter.unusedVariables false

theorem put_nil (a : Option Addr) (n cap : Nat) (w : World) :
   Calls Try.prog 15 #[.pointer none, .slice a n cap] w fun e w' => e = .returned (.tuple #[]) ∧ w = w' := by
  go_enter Try.func15, Try.ntmps15
  go_wp2
  refine bodyPost_ret (results_none rfl _ _ _) rfl ?_
  exact ⟨rfl, rfl⟩

theorem statesum_nil (w : World) :
   Calls Try.prog 16 #[.pointer none] w fun e w' => e = .returned (.int .u32 0) ∧ w = w' := by
  go_enter Try.func16, Try.ntmps16
  go_wp2
  go_ret
  exact ⟨rfl, rfl⟩

theorem statereset_nil (w : World) :
   Calls Try.prog 17 #[.pointer none] w fun e w' => e = .returned (.tuple #[]) ∧ w = w' := by
  go_enter Try.func17, Try.ntmps17
  go_wp2
  go_end0
  exact ⟨rfl, rfl⟩

theorem steps0 (x : Nat) : steps (8 * 0) x ^^^ 0 = x := by simp [steps]

set_option maxHeartbeats 1000000 in
theorem walkCrcNil (a : Option Addr) (n cap : Nat) (zs : List Int) (x : Int) (w : World) (h : InRow .u8 w a n cap zs) (hx : (Lit.int .u32 x).wf = true) :
    Calls Try.prog 8 #[.slice a n cap, .int .u32 x] w fun e w' => e = .returned (.bool true) ∧ Below w.heap.size w w' := by
  have hB := byts_row h
  have hm := Nat.le_trans hB.room hB.most
  obtain ⟨s, rfl, hs⟩ := u32_bd hx
  clear h hx hB
  by_cases hn : 1000 < n
  · go_enter Try.func8, Try.ntmps8
    go_wp2_with (go_at_call 9; refine (alive_any _).mono ?_; rintro e w1 ⟨rfl, hb⟩)
    go_ret
    exact ⟨rfl, hb⟩
  · go_enter Try.func8, Try.ntmps8
    go_wp2_with fail
    refine (put_nil _ _ _ _).mono ?_
    rintro e w' ⟨rfl, rfl⟩
    go_wp2_with fail
    refine (statereset_nil _).mono ?_
    rintro e w' ⟨rfl, rfl⟩
    go_wp2_with fail
    refine (alive_any _).mono ?_
    rintro e w1 ⟨rfl, hb1⟩
    go_wp2_with fail
    refine (statesum_nil _).mono ?_
    rintro e w' ⟨rfl, rfl⟩
    go_wp2_with fail
    refine (join_any s 0 0 _ hs (by omega) (by omega)).mono ?_
    rintro e w2 ⟨rfl, hb2⟩
    have hb := hb1.trans (hb2.mono hb1.size)
    clear hb1 hb2
    rw [steps0]
    go_wp2_with fail
    go_ret
    exact ⟨rfl, hb⟩

set_option maxHeartbeats 1000000 in
theorem walkCrcJoins (a a' : Option Addr) (n cap n' cap' : Nat) (zs zs' : List Int) (w : World) (h : InRow .u8 w a n cap zs) (h' : InRow .u8 w a' n' cap' zs') :
    Calls Try.prog 7 #[.slice a n cap, .slice a' n' cap'] w fun e w' => e = .returned (.bool true) ∧ Below w.heap.size w w' := by
  have hB := byts_row h
  have hm := Nat.le_trans hB.room hB.most
  have hB' := byts_row h'
  have hm' := Nat.le_trans hB'.room hB'.most
  generalize (zs.take n).map Int.toNat = l at *
  generalize (zs'.take n').map Int.toNat = l' at *
  clear h h'
  have HB := Lib.hid hB; clear hB
  have HB' := Lib.hid hB'; clear hB'
  by_cases hn : 1000 < n
  · go_enter Try.func7, Try.ntmps7
    go_wp2_with (go_at_call 9; refine (alive_any _).mono ?_; rintro e w1 ⟨rfl, hb⟩)
    go_ret
    exact ⟨rfl, hb⟩
  by_cases hn' : 1000 < n'
  · go_enter Try.func7, Try.ntmps7
    go_wp2_with (go_at_call 9; refine (alive_any _).mono ?_; rintro e w1 ⟨rfl, hb⟩)
    go_ret
    exact ⟨rfl, hb⟩
  · obtain ⟨v1, w1, hr1, ho1, hb1⟩ := run_copy_byts a n cap l HB.out (by omega)
    have Ho1 := Lib.hid ho1; clear ho1
    obtain ⟨v2, w2, hr2, ho2, hg2⟩ := run_append_byts w.heap.size v1 n _ Ho1.out a' n' cap' l' (HB'.out.below hb1) (by omega) hb1.size
    have hb2 := hb1.grown hg2 hb1.size (fun k hk => (Ho1.out.lt k hk).1)
    clear hg2 Ho1 hb1
    rw [← u8s_append] at ho2
    obtain ⟨a2, c2, rfl, hB2⟩ := byts_own ho2 (by intro b hb; exact (List.mem_append.1 hb).elim (HB.out.lt b) (HB'.out.lt b))
    have HB2 := Lib.hid hB2
    clear ho2 hB2
    go_enter Try.func7, Try.ntmps7
    go_wp2_with (first | (at_builtin; refine wpList_append_hr _ _ 22 rfl rfl _ _ rfl rfl _ _ hr1 ?_) | (at_builtin; refine wpList_append_hr _ _ 22 rfl rfl _ _ rfl rfl _ _ hr2 ?_))
    clear hr1 hr2
    refine (alive_any _).mono ?_
    rintro e w3 ⟨rfl, hb3⟩
    have hw3 := hb2.trans (hb3.mono hb2.size)
    have HBa := Lib.hid (HB.out.below hw3)
    have HBb := Lib.hid (HB'.out.below hw3)
    have HB3 := Lib.hid (HB2.out.below hb3)
    have hl' := HB'.out.len
    have hs1 : sum l < 4294967296 := not_lt (reg_lt (by omega) HB.out.lt)
    have hs2 : sum l' < 4294967296 := not_lt (reg_lt (by omega) HB'.out.lt)
    have HJ := Lib.hid (show steps (8 * n') (sum l) ^^^ sum l' = sum (l ++ l') from by rw [← hl']; exact join_law l l')
    clear hl' hb2 hb3
    go_wp2_with fail
    refine (refsum_any _ _ _ l _ HBa.out).mono ?_
    rintro e w' ⟨rfl, rfl⟩
    go_wp2_with fail
    refine (refsum_any _ _ _ l' _ HBb.out).mono ?_
    rintro e w' ⟨rfl, rfl⟩
    go_wp2_with fail
    refine (join_any (sum l) (sum l') n' _ hs1 hs2 (by omega)).mono ?_
    rintro e w4 ⟨rfl, hb4⟩
    rw [HJ.out]
    have hw4 := hw3.trans (hb4.mono hw3.size)
    have HB4 := Lib.hid (HB3.out.below hb4)
    clear hb4 hw3
    go_wp2_with fail
    refine (refsum_any _ _ _ _ _ HB4.out).mono ?_
    rintro e w' ⟨rfl, rfl⟩
    go_wp2_with fail
    go_ret
    exact ⟨rfl, hw4⟩

end Go.Proofs.Yteonpcckifkafaa
