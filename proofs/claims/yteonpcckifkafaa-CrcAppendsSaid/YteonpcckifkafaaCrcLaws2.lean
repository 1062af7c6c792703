/-
  Walk: CrcAppends.
-/
import Derived.Test.YteonpcckifkafaaCrcAlive
namespace Go.Proofs.Yteonpcckifkafaa
open Go.RowKit Go.Joins
set_option linter.unusedVariables false

set_option maxHeartbeats 1000000 in
theorem walkCrcAppends (a : Option Addr) (n cap : Nat) (zs : List Int) (x : Int) (w : World) (h : InRow .u8 w a n cap zs) (hx : (Lit.int .u32 x).wf = true) :
    Calls Try.prog 4 #[.slice a n cap, .int .u32 x] w fun e w' => e = .returned (.bool true) ∧ Below w.heap.size w w' := by
  have hB := byts_row h
  have hm := Nat.le_trans hB.room hB.most
  generalize (zs.take n).map Int.toNat = l at *
  obtain ⟨s, rfl, hs⟩ := u32_bd hx
  clear h hx
  have HB := Lib.hid hB; clear hB
  by_cases hn : 1000 < n
  · go_enter Try.func4, Try.ntmps4
    go_wp2_with (go_at_call 9; refine (alive_any _).mono ?_; rintro e w1 ⟨rfl, hb⟩)
    go_ret
    exact ⟨rfl, hb⟩
  · go_enter Try.func4, Try.ntmps4
    obtain ⟨v1, w1, hr1, ho1, hb1⟩ := run_copy_byts a n cap l HB.out (by omega)
    have Ho1 := Lib.hid ho1; clear ho1
    go_wp2_with (at_builtin; refine wpList_append_hr _ _ 22 rfl rfl _ _ rfl rfl _ _ hr1 ?_)
    clear hr1
    refine (append_any v1 n w.heap.size _ s _ hs Ho1.out hb1.size (by omega)).mono ?_
    rintro e w2 ⟨v2, rfl, ho2, hg2⟩
    have hb2 := hb1.grown hg2 hb1.size (fun k hk => (Ho1.out.lt k hk).1)
    rw [← u8s_append] at ho2
    obtain ⟨a2, c2, rfl, hB2⟩ := byts_own ho2 (by intro b hb; exact (List.mem_append.1 hb).elim (HB.out.lt b) (sumBytes_lt hs b))
    have HB2 := Lib.hid hB2
    clear ho2 hg2 hB2 Ho1 hb1
    go_wp2_with fail
    refine (alive_any _).mono ?_
    rintro e w3 ⟨rfl, hb3⟩
    have HB3 := Lib.hid (HB2.out.below hb3)
    have HA3 := Lib.hid ((HB.out.below hb2).below hb3)
    have hw3 := hb2.trans (hb3.mono hb2.size)
    clear hb2 hb3
    obtain ⟨v4, w4, hr4, ho4, hb4⟩ := run_copy_byts a n cap l HA3.out (by omega)
    have Ho4 := Lib.hid ho4; clear ho4
    go_wp2_with (at_builtin; refine wpList_append_hr _ _ 22 rfl rfl _ _ rfl rfl _ _ hr4 ?_)
    clear hr4
    refine (refbytes_any s _ hs).mono ?_
    rintro e w5 ⟨rfl, rfl⟩
    obtain ⟨v6, w6, hr6, ho6, hg6⟩ := run_append_byts w3.heap.size v4 n _ (Ho4.out.alloc (.cells (u8s (sumBytes s)).toArray 5)) (some ⟨w4.heap.size, 0, none⟩) 4 4 (sumBytes s) (byts_lit _ _ _ _ _ _ _ rfl rfl rfl (sumBytes_lt hs) (by omega)) (by omega) (by have := hb4.size; simp only [World.size_alloc]; omega)
    have Ho6 := Lib.hid ho6; clear ho6
    have hw4 := hw3.trans (hb4.mono hw3.size)
    have hw6 : Below w.heap.size w w6 := (hw4.alloc hw4.size _).grown hg6 (by have := hw4.size; simp only [World.size_alloc]; omega) (fun k hk => by have := (Ho4.out.lt k hk).1; have := hw3.size; omega)
    have hb6 : Below w3.heap.size w3 w6 := (hb4.alloc hb4.size _).grown hg6 (by have := hb4.size; simp only [World.size_alloc]; omega) (fun k hk => (Ho4.out.lt k hk).1)
    have HB6 := Lib.hid (HB3.out.below hb6)
    clear hb4 hw4 hg6 hb6 hw3
    go_wp2_with (at_builtin; refine wpList_append_hr _ _ 22 rfl rfl _ _ rfl rfl _ _ hr6 ?_)
    clear hr6
    have ho6 := Ho6.out
    rw [← u8s_append] at ho6
    obtain ⟨a6, c6, rfl, hB7⟩ := byts_own ho6 (by intro b hb; exact (List.mem_append.1 hb).elim (HB.out.lt b) (sumBytes_lt hs b))
    refine (equal_any _ _ _ _ _ _ _ _ _ HB6.out hB7 true (by simp)).mono ?_
    rintro e w7 ⟨rfl, q, rfl⟩
    go_wp2_with fail
    go_ret
    exact ⟨rfl, below_drewN hw6 _⟩

end Go.Proofs.Yteonpcckifkafaa
