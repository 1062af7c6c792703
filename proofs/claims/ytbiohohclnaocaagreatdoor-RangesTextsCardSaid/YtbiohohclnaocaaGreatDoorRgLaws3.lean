/-
  Walk: RangesTexts.
-/
import Derived.Test.YtbiohohclnaocaaGreatDoorRgLaws1
import Derived.Test.YtbiohohclnaocaaGreatDoorRgRefTxt4
namespace Go.Proofs.YtbiohohclnaocaaGreatDoor
open Go.RowKit
set_option linter.unusedVariables false

theorem textL_len {l : List Iv} (h : ∀ s ∈ l, s.1 < 18446744073709551616 ∧ s.2 < 18446744073709551616) : (textL l).length ≤ l.length * 42 + 4 := by
  unfold textL
  split
  · simp [noneT]
  · have := join_len (L := l.map ivT) (fun t ht => by
      obtain ⟨s, hs, rfl⟩ := List.mem_map.1 ht
      exact ivT_len (h s hs))
    rw [List.length_map] at this
    omega

theorem keep_at {P : Program} {f : FuncId} {args : Array Value} {w w' : World} {v : Value} (hw : Below w.heap.size w w') (h : Calls P f args w' fun e w'' => e = .returned v ∧ Below w'.heap.size w' w'') :
    Calls P f args w' fun e w'' => e = .returned v ∧ Below w.heap.size w w'' := keep_below hw h

set_option maxRecDepth 20000 in
set_option maxHeartbeats 4000000 in
theorem walkRangesTexts (a : Option Addr) (n cap : Nat) (l : List Iv) (b : Option Addr) (m cap' : Nat) (k : List Iv) (w : World) (hI : Ivs w a n cap l) (hJ : Ivs w b m cap' k) (hR : Ready w) :
    Calls Tryz.prog 5 #[.slice a n cap, .slice b m cap'] w fun e w' => e = .returned (.bool true) ∧ Below w.heap.size w w' := by
  have HR := Lib.hid (fun W (h : Below w.heap.size w W) => hR.below h)
  have HI := Lib.hid (fun W (h : Below w.heap.size w W) => hI.below h)
  have HJ := Lib.hid (fun W (h : Below w.heap.size w W) => hJ.below h)
  have Hl := Lib.hid hI.len
  have Hlt := Lib.hid hI.lt
  clear hI hJ hR
  by_cases hn : 60 < n
  · go_enter Tryz.func5, Tryz.ntmps5
    go_wp2_with fail
    refine (alive_any _ (HR.out _ (Below.refl _ _))).mono ?_
    rintro e w1 ⟨rfl, hb1⟩
    go_wp2_with fail
    go_ret
    exact ⟨rfl, hb1⟩
  · by_cases hm : 60 < m
    · go_enter Tryz.func5, Tryz.ntmps5
      go_wp2_with fail
      refine (alive_any _ (HR.out _ (Below.refl _ _))).mono ?_
      rintro e w1 ⟨rfl, hb1⟩
      go_wp2_with fail
      go_ret
      exact ⟨rfl, hb1⟩
    · have HT := Lib.hid (fun W (h : Below w.heap.size w W) => text_any a n cap l W (HI.out W h) (HR.out W h).tens (by omega))
      have HT2 := Lib.hid (fun W (h : Below w.heap.size w W) => refText_any a n cap l W (HI.out W h) (by omega))
      have Htl := Lib.hid (show (textL l).length ≤ 1000000 from by
        have := textL_len Hlt.out
        rw [Hl.out] at this
        omega)
      have HP := Lib.hid (fun W (h : Below w.heap.size w W) => parse_any (textL l) W Htl.out (HR.out W h).door (HR.out W h).maxl (HR.out W h).rang)
      have Hpt := Lib.hid (parse_text (l := l) Hlt.out)
      generalize textL l = t at *
      go_enter Tryz.func5, Tryz.ntmps5
      go_wp2_with fail
      refine (HT.out _ (Below.refl _ _)).mono ?_
      rintro e w1 ⟨rfl, hb1⟩
      have Hb1 := Lib.hid hb1; clear hb1
      go_wp2_with fail
      refine (HT2.out _ Hb1.out).mono ?_
      rintro e w2 ⟨rfl, hb2⟩
      have Hb2 := Lib.hid (Hb1.out.trans (hb2.mono Hb1.out.size)); clear hb2
      go_wp2_with fail
      refine (same_any a b n cap m cap' l k _ (HI.out _ Hb2.out) (HJ.out _ Hb2.out)).mono ?_
      rintro e w3 ⟨rfl, hb3⟩
      have Hb3 := Lib.hid (Hb2.out.trans (hb3.mono Hb2.out.size)); clear hb3
      generalize hsm : decide (l = k) = sm
      have Hsm := Lib.hid hsm; clear hsm
      go_wp2_with fail
      refine (refSame_any a b n cap m cap' l k _ (HI.out _ Hb3.out) (HJ.out _ Hb3.out)).mono ?_
      rintro e w4 ⟨rfl, hb4⟩
      have Hb4 := Lib.hid (Hb3.out.trans (hb4.mono Hb3.out.size)); clear hb4
      rw [Hsm.out]
      go_wp2_with fail
      refine (same_any a a n cap n cap l l _ (HI.out _ Hb4.out) (HI.out _ Hb4.out)).mono ?_
      rintro e w5 ⟨rfl, hb5⟩
      have Hb5 := Lib.hid (Hb4.out.trans (hb5.mono Hb4.out.size)); clear hb5
      rw [show decide (l = l) = true from decide_eq_true rfl]
      go_wp2_with fail
      refine (HT.out _ Hb5.out).mono ?_
      rintro e w6 ⟨rfl, hb6⟩
      have Hb6 := Lib.hid (Hb5.out.trans (hb6.mono Hb5.out.size)); clear hb6
      go_wp2_with fail
      refine (HP.out _ Hb6.out).mono ?_
      rintro e w7 ⟨⟨v7, rfl, ho7⟩, hb7⟩
      have Hb7 := Lib.hid (Hb6.out.trans (hb7.mono Hb6.out.size))
      have HR7 := Lib.hid (HR.out _ Hb7.out)
      have HI7 := Lib.hid (HI.out _ Hb7.out)
      clear hb7
      rcases hck : ck l with _ | ⟨c, i⟩
      · have Hp := Lib.hid Hpt.out
        rw [hck] at Hp
        dsimp only at Hp
        rw [Hp.out] at ho7 ⊢
        obtain ⟨a7, c7, rfl, hI7⟩ := ivs_own ho7 Hlt.out
        have HS := Lib.hid (fun W (h : Below w7.heap.size w7 W) => refSame_any a a7 n cap _ c7 l l W (HI7.out.below h) (hI7.below h))
        have HA := Lib.hid (fun W (h : Below w7.heap.size w7 W) => alive_any W (HR7.out.below h))
        have HRt := Lib.hid (fun W (h : Below w7.heap.size w7 W) => refRight_any a n cap l W (HI7.out.below h))
        rw [show decide (l = l) = true from decide_eq_true rfl] at HS
        rw [hck, show decide ((none : Option (Nat × Nat)) = none) = true from rfl] at HRt
        clear ho7 hI7 hck
        simp only [errOf, errVal]
        go_wp2_with fail
        refine wp_region_below (by kernel_rfl) (by kernel_rfl) ?_
        repeat (go_big_quiet_step ((intro hw; first
          | rfl
          | (go_at_call 10; exact keep_below hw (HA.out _ hw))
          | (go_at_call 9; exact keep_below hw (HRt.out _ hw))
          | (go_at_call 19; exact keep_below hw (HS.out _ hw))
          | (go_simp
             first | rfl | exact ⟨rfl, hw⟩ | (trace_state; fail)))))
        refine wpQuiet_nil ?_
        intro w8 hb8
        go_wp2
        go_ret
        exact ⟨rfl, Hb7.out.trans (hb8.mono Hb7.out.size)⟩
      · have Hp := Lib.hid Hpt.out
        rw [hck] at Hp
        dsimp only at Hp
        rw [Hp.out] at ho7 ⊢
        have HA := Lib.hid (fun W (h : Below w7.heap.size w7 W) => alive_any W (HR7.out.below h))
        have HRt := Lib.hid (fun W (h : Below w7.heap.size w7 W) => refRight_any a n cap l W (HI7.out.below h))
        rw [hck, show decide ((some (c, i) : Option (Nat × Nat)) = none) = false from rfl] at HRt
        clear ho7 hck
        simp only [errOf, errVal]
        go_wp2_with fail
        refine wp_region_below (by kernel_rfl) (by kernel_rfl) ?_
        repeat (go_big_quiet_step ((intro hw; first
          | rfl
          | (go_at_call 10; exact keep_below hw (HA.out _ hw))
          | (go_at_call 9; exact keep_below hw (HRt.out _ hw))
          | (go_simp
             first | rfl | exact ⟨rfl, hw⟩ | (trace_state; fail)))))
        refine wpQuiet_nil ?_
        intro w8 hb8
        go_wp2
        go_ret
        exact ⟨rfl, Hb7.out.trans (hb8.mono Hb7.out.size)⟩

end Go.Proofs.YtbiohohclnaocaaGreatDoor
