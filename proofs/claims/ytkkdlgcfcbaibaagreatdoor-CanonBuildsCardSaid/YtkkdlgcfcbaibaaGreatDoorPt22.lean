/- Walks and laws, merged: part 22. -/
import Derived.Test.YtkkdlgcfcbaibaaGreatDoorPt21
import Derived.Test.YtkkdlgcfcbaibaaGreatDoorPt16
import Derived.Test.YtkkdlgcfcbaibaaGreatDoorPt04
section
namespace Go.Proofs.YtkkdlgcfcbaibaaGreatDoor
open Go.RowKit
set_option linter.unusedVariables false

theorem refMeet5_any (aa ab : Option Addr) (na ca nb cb : Nat) (a b : List Iv) (w : World) (hIa : Ivs w aa na ca a) (hIb : Ivs w ab nb cb b) (hn : 2 * a.length + 2 * b.length + 1 ≤ 100000) :
    Calls Tryz.prog 106 #[.slice aa na ca, .slice ab nb cb] w fun e w' => OwnIv w.heap.size (opL gAnd a b) e w' ∧ Below w.heap.size w w' := by
  have hC := Lib.hid (refDo_any aa ab na ca nb cb 1 a b w hIa hIb (by omega) hn)
  clear hIa hIb hn
  rw [show ((1 : Nat) : Int) = 1 from rfl] at hC
  go_enter Tryz.func106, Tryz.ntmps106
  go_wp2_with fail
  refine hC.out.mono ?_
  rintro e w1 ⟨⟨v, rfl, ho⟩, hb⟩
  have Ho := Lib.hid ho; have Hb := Lib.hid hb
  clear ho hb
  go_wp2
  go_ret
  exact ⟨⟨v, rfl, Ho.out⟩, Hb.out⟩

theorem isum_ref (k : Kno) (x : Kno) (l : List Iv) : isum (l.map fun s => ([s], atK k s.1)) = l.length := by
  induction l with
  | nil => rfl
  | cons s l ih => rw [List.map_cons, isum, ih, List.length_cons]; simp; omega

theorem rangeAny_not {i : Nat} {p : Nat → Bool} (h : ∀ j, j < i → p j = false) : (List.range i).any p = false := by
  rw [Bool.eq_false_iff]
  intro h2
  obtain ⟨j, hj, h3⟩ := List.any_eq_true.1 h2
  rw [h j (by simpa using hj)] at h3
  cases h3
theorem rangeAny_at {i j : Nat} {p : Nat → Bool} (hj : j < i) (h : p j = true) : (List.range i).any p = true := List.any_eq_true.2 ⟨j, by simpa using hj, h⟩

set_option maxRecDepth 100000 in
set_option maxHeartbeats 4000000 in
theorem refWrong13_any (a : Option Addr) (n cap i : Nat) (k : Kno) (w : World) (hE : Frags w a n cap k) (hi : i < n) (hv : ∀ f ∈ k, VecFits f.2) (hI : ∀ f ∈ k, f.1.length ≤ 500) :
    Calls Tryz.prog 67 #[.slice a n cap, .int .i64 i] w fun x w' => x = .returned (.int .i64 (wrongK k i)) ∧ Below w.heap.size w w' := by
  have HE := Lib.hid hE
  have Hl := Lib.hid hE.len
  have hm : n ≤ 9223372036854775807 := Nat.le_trans hE.room hE.most
  have Hv := Lib.hid hv; have HI := Lib.hid hI
  have hik : i < k.length := by rw [Hl.out]; exact hi
  obtain ⟨bb, oo, rfl⟩ := hE.some (by omega)
  obtain ⟨x, m, c, y, m', c', hq⟩ := hE.fix hi
  have Hq := Lib.hid hq
  have HIl := Lib.hid (hq w (Below.refl _ _)).2.1.len
  have HVl := Lib.hid (hq w (Below.refl _ _)).2.2.2.len
  have Hwr := Lib.hid (show wrongK k i = if (nthF k i).1 = [] ∨ (nthF k i).2 = [] then 9 else if canVB (nthF k i).2 = false then 10 else if ((List.range i).any fun j => decide (opL gAnd (nthF k i).1 (nthF k j).1 ≠ [])) = true then 10 else if 0 < i ∧ cmpV (nthF k (i - 1)).2 (nthF k i).2 ≠ -1 then 3 else 0 from rfl)
  have hCan := Lib.hid (refCanonical9_any y m' c' (nthF k i).2 w (hq w (Below.refl _ _)).2.2.2)
  have Hfi := Lib.hid (HI.out _ (nthF_mem hik))
  have Hfv := Lib.hid (Hv.out _ (nthF_mem hik))
  have h0 : (0 : Int) ≤ i := by omega
  have h04 : (i : Int) < (n : Int) := by omega
  have him : i ≤ 9223372036854775807 := by omega
  have q1 := (hq w (Below.refl _ _)).1
  have q2 := (hq w (Below.refl _ _)).2.2.1
  clear hE hv hI hq
  obtain ⟨P, hP⟩ : ∃ P : Nat → Bool, P = fun j => decide (opL gAnd (nthF k i).1 (nthF k j).1 ≠ []) := ⟨_, rfl⟩
  rw [← hP] at Hwr
  have HP := Lib.hid (show ∀ j, P j = decide (opL gAnd (nthF k i).1 (nthF k j).1 ≠ []) from fun j => by rw [hP])
  clear hP
  by_cases hemp : (nthF k i).1 = [] ∨ (nthF k i).2 = []
  · rw [if_pos hemp] at Hwr
    by_cases hm0 : m = 0
    · have hz : ((m : Int) == 0) = true := by rw [hm0]; rfl
      clear hemp hm0
      go_enter Tryz.func67, Tryz.ntmps67
      go_wp2
      go_ret
      exact ⟨by rw [Hwr.out]; rfl, Below.refl _ _⟩
    · have hz : ((m : Int) == 0) = false := by rw [beq_eq_false_iff_ne]; omega
      have hz2 : ((m' : Int) == 0) = true := by
        rcases hemp with h | h
        · exact absurd (by rw [← HIl.out, h]; rfl) hm0
        · have : m' = 0 := by rw [← HVl.out, h]; rfl
          rw [this]; rfl
      clear hemp hm0
      go_enter Tryz.func67, Tryz.ntmps67
      go_wp2
      go_ret
      exact ⟨by rw [Hwr.out]; rfl, Below.refl _ _⟩
  · rw [if_neg hemp] at Hwr
    have hz : ((m : Int) == 0) = false := by
      rw [beq_eq_false_iff_ne]; intro h
      exact hemp (.inl (List.length_eq_zero_iff.1 (by have := HIl.out; omega)))
    have hz2 : ((m' : Int) == 0) = false := by
      rw [beq_eq_false_iff_ne]; intro h
      exact hemp (.inr (List.length_eq_zero_iff.1 (by have := HVl.out; omega)))
    clear hemp
    generalize hbc : canVB (nthF k i).2 = bc at *
    cases bc with
    | false =>
      rw [if_pos rfl] at Hwr
      clear hbc
      go_enter Tryz.func67, Tryz.ntmps67
      go_wp2_with fail
      refine hCan.out.mono ?_
      rintro e w1 ⟨rfl, hb1⟩
      have Hb1 := Lib.hid hb1; clear hb1
      go_wp2
      go_ret
      exact ⟨by rw [Hwr.out]; rfl, Hb1.out⟩
    | true =>
      rw [if_neg (by simp)] at Hwr
      clear hbc
      go_enter Tryz.func67, Tryz.ntmps67
      go_wp2_with fail
      refine hCan.out.mono ?_
      rintro e w1 ⟨rfl, hb1⟩
      have Hb1 := Lib.hid hb1; clear hb1 q1 q2
      go_wp2
      go_loopw [5] (fun j wr => ∃ d : Nat, d ≤ i ∧ j = .int .i64 d ∧ Below w1.heap.size w1 wr ∧ Hid (∀ j, j < d → P j = false)) (fun j _ => i - (intOf j).toNat)
      case atStart => exact ⟨0, by omega, rfl, Below.refl _ _, fun j h => by omega⟩
      case round =>
        obtain ⟨d, hd, rfl, hb, ht⟩ := hrel
        have Hb := Lib.hid hb; clear hb
        have Hbw := Lib.hid (Hb1.out.trans (Hb.out.mono Hb1.out.size))
        by_cases hdi : d < i
        · have hdn : d < n := by omega
          have hdk : d < k.length := by rw [Hl.out]; exact hdn
          obtain ⟨x1, m1, c1, y1, m1', c1', hq2⟩ := HE.out.fix hdn
          have Hq1 := Lib.hid (fun w' (h : Below wr.heap.size wr w') => (Hq.out w' (Hbw.out.trans (h.mono Hbw.out.size))).1)
          have Hq2 := Lib.hid (fun w' (h : Below wr.heap.size wr w') => (hq2 w' (Hbw.out.trans (h.mono Hbw.out.size))).1)
          have Hfd := Lib.hid (HI.out _ (nthF_mem hdk))
          have hM := Lib.hid (fun w' (h : Below wr.heap.size wr w') => refMeet5_any x x1 m c m1 c1 (nthF k i).1 (nthF k d).1 w' ((Hq.out w' (Hbw.out.trans (h.mono Hbw.out.size))).2.1) ((hq2 w' (Hbw.out.trans (h.mono Hbw.out.size))).2.1) (by have := Hfd.out; have := Hfi.out; omega))
          have Hat := Lib.hid (HP.out d)
          have Hno := Lib.hid (fun h => all_step (p := fun j => P j = false) ht.out h)
          have Hyes := Lib.hid (rangeAny_at (i := i) (p := P) hdi)
          have hd0 : (0 : Int) ≤ d := by omega
          have hd04 : (d : Int) < (n : Int) := by omega
          have hdi2 : (d : Int) < (i : Int) := by omega
          clear hq2
          generalize opL gAnd (nthF k i).1 (nthF k d).1 = M at *
          have HM := Lib.hid (show decide (0 < M.length) = decide (M ≠ []) from decide_eq_decide.2 List.length_pos_iff)
          go_wp2_with fail
          go_cut [46] (fun t wc => t = .bool (P d) ∧ Hid (Below wr.heap.size wr wc))
          case first =>
            have q1 := Hq1.out _ (Below.refl _ _)
            have q3 := Hq2.out _ (Below.refl _ _)
            go_region_with (first
              | (go_at_call 106
                 refine (hM.out _ (by first | exact Below.refl _ _ | exact (Below.refl _ _).drew)).mono ?_
                 rintro e w4 ⟨⟨v4, rfl, ho4⟩, hb4⟩
                 obtain ⟨a4, c4, rfl⟩ := own_slice ho4
                 have hB4 : Below wr.heap.size wr w4 := ⟨hb4.os, hb4.tape, hb4.output, hb4.size, hb4.block⟩
                 clear hb4 ho4))
            all_goals go_wp2
            all_goals go_meet
            all_goals exact ⟨by rw [Hat.out, ← HM.out], by first | exact hB4 | exact hB4.drew⟩
          case rest =>
            obtain ⟨rfl, hb2⟩ := hcut
            have Hb2 := Lib.hid (Hb.out.trans (hb2.out.mono Hb.out.size))
            clear hb2
            cases hPd : P d with
            | true =>
              have Hy := Lib.hid (Hyes.out hPd)
              rw [Hy.out, if_pos rfl] at Hwr
              clear Hyes Hno hPd
              go_wp2
              go_ret
              exact ⟨by rw [Hwr.out]; rfl, Hb1.out.trans (Hb2.out.mono Hb1.out.size)⟩
            | false =>
              have Hy := Lib.hid (Hno.out hPd)
              clear Hyes Hno hPd
              go_wp2
              go_roundw
              case rel => exact ⟨d + 1, by omega, by go_num, Hb2.out, Hy.out⟩
              case measure => simp [intOf]; omega
        · obtain rfl : d = i := by omega
          have hPn := rangeAny_not ht.out
          rw [hPn, if_neg (by simp)] at Hwr
          clear hPn
          by_cases hd0 : 0 < d
          · have hdn : d - 1 < n := by omega
            have hdk : d - 1 < k.length := by rw [Hl.out]; exact hdn
            obtain ⟨x1, m1, c1, y1, m1', c1', hq2⟩ := HE.out.fix hdn
            have hlv := (hq2 w (Below.refl _ _)).2.2.2.lt
            have hlv2 := (Hq.out w (Below.refl _ _)).2.2.2.lt
            have hfd := Hv.out _ (nthF_mem hdk)
            have Hq1 := Lib.hid (fun w' (h : Below wr.heap.size wr w') => (Hq.out w' (Hbw.out.trans (h.mono Hbw.out.size))).2.2.1)
            have Hq2 := Lib.hid (fun w' (h : Below wr.heap.size wr w') => (hq2 w' (Hbw.out.trans (h.mono Hbw.out.size))).2.2.1)
            have hC := Lib.hid (fun w' (h : Below wr.heap.size wr w') => refCompare9_any y1 y m1' c1' m' c' (nthF k (d - 1)).2 (nthF k d).2 w' ((hq2 w' (Hbw.out.trans (h.mono Hbw.out.size))).2.2.2) ((Hq.out w' (Hbw.out.trans (h.mono Hbw.out.size))).2.2.2) (fits_num hfd) (fits_num Hfv.out) (lt_num hlv hfd) (lt_num hlv2 Hfv.out))
            have hcr := cmpV_range (nthF k (d - 1)).2 (nthF k d).2
            have hg : decide (0 < (d : Int)) = true := by rw [decide_eq_true_iff]; omega
            have hsub : IntKind.i64.wrap ((d : Int) - 1) = ((d - 1 : Nat) : Int) := by rw [IntKind.wrap_i64]; omega
            have h01 : (0 : Int) ≤ ((d - 1 : Nat) : Int) := by omega
            have h03 : ((d - 1 : Nat) : Int) < (n : Int) := by omega
            clear hq2 hlv hlv2 hfd
            generalize cmpV (nthF k (d - 1)).2 (nthF k d).2 = z at *
            generalize d - 1 = d1 at *
            obtain ⟨bz, hbz⟩ : ∃ bz : Bool, bz = decide (0 ≤ z) := ⟨_, rfl⟩
            have Hbz := Lib.hid hbz
            clear hbz
            go_wp2_with fail
            go_cut [63] (fun t wc => t = .bool bz ∧ Hid (Below wr.heap.size wr wc))
            case first =>
              refine wp_region_below (by kernel_rfl) (by kernel_rfl) ?_
              repeat (go_big_quiet_step ((intro hw; first
                | rfl
                | (have q0 := Hq1.out _ hw
                   have q3 := Hq2.out _ hw
                   first
                   | (go_at_call 107; exact keep_below hw (hC.out _ hw))
                   | (go_simp
                      first | rfl | exact ⟨rfl, hw⟩ | (trace_state; fail))))))
              refine wpQuiet_nil ?_
              intro w3 hb3
              go_wp2
              go_meet
              exact ⟨by rw [Hbz.out]; try rfl, hb3⟩
            case rest =>
              obtain ⟨rfl, hb2⟩ := hcut
              have Hb2 := Lib.hid (Hbw.out.trans (hb2.out.mono Hbw.out.size))
              clear hb2
              by_cases hz1 : z = -1
              · have hb0 : bz = false := by rw [Hbz.out, hz1]; rfl
                rw [if_neg (fun h => h.2 hz1)] at Hwr
                rw [hb0]
                clear hz1 hb0 hcr
                go_wp2
                go_ret
                exact ⟨by rw [Hwr.out]; rfl, Hb2.out⟩
              · have hb0 : bz = true := by
                  rw [Hbz.out, decide_eq_true_iff]
                  rcases hcr with h | h | h
                  · exact absurd h hz1
                  · omega
                  · omega
                rw [if_pos ⟨hd0, hz1⟩] at Hwr
                rw [hb0]
                clear hz1 hb0 hcr
                go_wp2
                go_ret
                exact ⟨by rw [Hwr.out]; rfl, Hb2.out⟩
          · have hg : decide (0 < (d : Int)) = false := by rw [decide_eq_false_iff_not]; omega
            rw [if_neg (fun h => hd0 h.1)] at Hwr
            have hgn : decide (0 < d) = false := by rw [decide_eq_false_iff_not]; exact hd0
            clear hd0
            go_wp2
            go_quiet (fail)
            go_wp2
            go_ret
            exact ⟨by rw [Hwr.out]; rfl, by first | exact Hbw.out | exact below_drewN' Hbw.out _⟩

/-- Is knowledge canonical, and if not, where and why? -/
def ckWr (k : Kno) (i : Nat) : Option (Nat × Nat) := if wrongK k i = 0 then none else some (wrongK k i, i)
def ckC (k : Kno) : Option (Nat × Nat) := match ckF k with | some x => some x | none => firstS (ckWr k) k.length
theorem ckC_code {k : Kno} {x : Nat × Nat} (h : ckC k = some x) : x.1 ≠ 0 := by
  unfold ckC at h
  split at h
  · rename_i y hy; cases h; exact ckF_code hy
  · obtain ⟨i, -, -, h3⟩ := firstS_of_some h
    unfold ckWr at h3
    split at h3
    · cases h3
    · rename_i h4; cases h3; exact h4

set_option maxRecDepth 20000 in
set_option maxHeartbeats 2000000 in
theorem refCheck13_any (a : Option Addr) (n cap : Nat) (k : Kno) (w : World) (hE : Frags w a n cap k) (hv : ∀ f ∈ k, VecFits f.2) (hI : ∀ f ∈ k, f.1.length ≤ 500) :
    Calls Tryz.prog 35 #[.slice a n cap] w fun x w' => x = .returned (.tuple #[.int .i64 (errCode (errOf (ckC k))), .int .i64 (errAt (errOf (ckC k)))]) ∧ Below w.heap.size w w' := by
  have HE := Lib.hid hE
  have Hl := Lib.hid hE.len
  have hm : n ≤ 9223372036854775807 := Nat.le_trans hE.room hE.most
  have hC := Lib.hid (refCheck11_any a n cap k w hE)
  have hW := Lib.hid (fun i w' (hi : i < n) (h : Below w.heap.size w w') => refWrong13_any a n cap i k w' (hE.below h) hi hv hI)
  have Hck := Lib.hid (show ckC k = match ckF k with | some x => some x | none => firstS (ckWr k) k.length from rfl)
  clear hE hv hI
  cases h : ckF k with
  | some x =>
    have hc0 := ckF_code h
    obtain ⟨cd, ci⟩ := x
    rw [h] at hC Hck
    simp only [errOf, errCode, errAt] at hC Hck
    have hne : ((cd : Int) != 0) = true := by rw [bne_iff_ne]; simp at hc0; omega
    clear h hc0
    go_enter Tryz.func35, Tryz.ntmps35
    go_wp2_with fail
    refine hC.out.mono ?_
    rintro e w1 ⟨rfl, hb1⟩
    have Hb1 := Lib.hid hb1; clear hb1
    go_wp2
    go_ret2
    exact ⟨by rw [Hck.out]; rfl, Hb1.out⟩
  | none =>
    rw [h] at hC Hck
    simp only [errOf, errCode, errAt] at hC Hck
    clear h
    go_enter Tryz.func35, Tryz.ntmps35
    go_wp2_with fail
    refine hC.out.mono ?_
    rintro e w1 ⟨rfl, hb1⟩
    have Hb1 := Lib.hid hb1; clear hb1
    go_wp2
    go_loopw [4, 6] (fun _ i wr => ∃ d : Nat, d ≤ n ∧ i = .int .i64 d ∧ Below w1.heap.size w1 wr ∧ Hid (∀ j, j < d → ckWr k j = none)) (fun _ i _ => n - (intOf i).toNat)
    case atStart => exact ⟨0, by omega, rfl, Below.refl _ _, fun j h => by omega⟩
    case round =>
      obtain ⟨d, hd, rfl, hb, ht⟩ := hrel
      have Hb := Lib.hid hb; clear hb
      have Hbw := Lib.hid (Hb1.out.trans (Hb.out.mono Hb1.out.size))
      by_cases hdn : d < n
      · have hdk : d < k.length := by rw [Hl.out]; exact hdn
        have hD := Lib.hid (hW.out d wr hdn Hbw.out)
        have Hat := Lib.hid (show ckWr k d = if wrongK k d = 0 then none else some (wrongK k d, d) from rfl)
        have h0 : (0 : Int) ≤ d := by omega
        have h04 : (d : Int) < (n : Int) := by omega
        generalize wrongK k d = z at *
        by_cases hz : z = 0
        · rw [if_pos hz] at Hat
          have Hr := Lib.hid (firstS_step ht.out Hat.out)
          have hn0 : ((z : Int) != 0) = false := by rw [hz]; rfl
          clear hz
          go_wp2_with fail
          refine hD.out.mono ?_
          rintro e w2 ⟨rfl, hb2⟩
          have Hb2 := Lib.hid (Hb.out.trans (hb2.mono Hb.out.size)); clear hb2
          go_wp2
          go_roundw
          case rel => exact ⟨d + 1, by omega, by go_num, Hb2.out, Hr.out⟩
          case measure => simp [intOf]; omega
        · rw [if_neg hz] at Hat
          have Hr := Lib.hid (firstS_some hdk ht.out Hat.out)
          have hn0 : ((z : Int) != 0) = true := by rw [bne_iff_ne]; omega
          clear hz
          go_wp2_with fail
          refine hD.out.mono ?_
          rintro e w2 ⟨rfl, hb2⟩
          have Hb2 := Lib.hid (Hbw.out.trans (hb2.mono Hbw.out.size)); clear hb2
          go_wp2
          go_ret2
          exact ⟨by rw [Hck.out, Hr.out]; rfl, Hb2.out⟩
      · obtain rfl : d = n := by omega
        have Hr := Lib.hid (firstS_none (n := k.length) (fun j hj => ht.out j (by rw [← Hl.out]; exact hj)))
        go_wp2
        go_ret2
        exact ⟨by rw [Hck.out, Hr.out]; rfl, Hbw.out⟩

end Go.Proofs.YtkkdlgcfcbaibaaGreatDoor
end

section
namespace Go.Proofs.YtkkdlgcfcbaibaaGreatDoor
open Go.RowKit
set_option linter.unusedVariables false

/-- What the search compares. -/
def cmpv (s : Iv) (x : Nat) : Int := if s.2 < x then -1 else if x < s.1 then 1 else 0

theorem findCmp_any (s : Iv) (x : Nat) (w : World) :
    Calls Tryz.prog 132 #[ivV s, .int .u64 x] w fun e w' => e = .returned (.int .i64 (cmpv s x)) ∧ Below w.heap.size w w' := by
  obtain ⟨a, b⟩ := s
  have hb := (Below.refl w.heap.size w).alloc (Nat.le_refl _) (.cells #[.int .u64 a, .int .u64 b] 73)
  by_cases h1 : b < x
  · have Hr := Lib.hid (show cmpv (a, b) x = -1 from by simp [cmpv, h1])
    generalize cmpv (a, b) x = r at *
    go_enter Tryz.func132, Tryz.ntmps132
    go_wp2
    go_ret
    exact ⟨ret_int Hr.out.symm, hb⟩
  · by_cases h2 : x < a
    · have Hr := Lib.hid (show cmpv (a, b) x = 1 from by simp [cmpv, h1, h2])
      generalize cmpv (a, b) x = r at *
      go_enter Tryz.func132, Tryz.ntmps132
      go_wp2
      go_ret
      exact ⟨ret_int Hr.out.symm, hb⟩
    · have Hr := Lib.hid (show cmpv (a, b) x = 0 from by simp [cmpv, h1, h2])
      generalize cmpv (a, b) x = r at *
      go_enter Tryz.func132, Tryz.ntmps132
      go_wp2
      go_ret
      exact ⟨ret_int Hr.out.symm, hb⟩

/-- How many intervals end before a number. -/
def fnd (l : List Iv) (x : Nat) : Nat := (l.takeWhile fun s => decide (s.2 < x)).length

theorem fnd_eq : ∀ {l : List Iv} {x i : Nat}, i ≤ l.length → (∀ t, t < i → (nthI l t).2 < x) → (∀ t, i ≤ t → t < l.length → ¬ (nthI l t).2 < x) → fnd l x = i
  | [], x, i, hi, _, _ => by simp at hi; subst hi; rfl
  | s :: l, x, i, hi, h1, h2 => by
    cases i with
    | zero =>
      have := h2 0 (by omega) (by simp)
      have e : ¬ s.2 < x := this
      simp [fnd, e]
    | succ i =>
      have e : s.2 < x := h1 0 (by omega)
      have := fnd_eq (l := l) (x := x) (i := i) (by simpa using hi) (fun t ht => h1 (t + 1) (by omega)) (fun t ht htl => h2 (t + 1) (by omega) (by simpa using htl))
      unfold fnd at this ⊢
      rw [List.takeWhile_cons, if_pos (by simpa using e)]
      simpa using this

theorem good_mono {l : List Iv} (h : Good l) {i j : Nat} (hij : i < j) (hj : j < l.length) : (nthI l i).2 + 1 < (nthI l j).1 := by
  induction j with
  | zero => omega
  | succ j ih =>
    have h1 := (good_idx h (j + 1) hj).2 (by omega)
    rw [Nat.add_sub_cancel] at h1
    by_cases e : i = j
    · subst e; exact h1
    · have := ih (by omega) (by omega)
      have := (good_idx h j (by omega)).1
      omega

/-- In a correct list, a number is found at that place, or not at all. -/
theorem mem_fnd {l : List Iv} (h : Good l) {x i : Nat} (hi : i ≤ l.length) (h1 : ∀ t, t < i → (nthI l t).2 < x) (h2 : ∀ t, i ≤ t → t < l.length → ¬ (nthI l t).2 < x) :
    mem l x = (decide (i < l.length) && decide ((nthI l i).1 ≤ x)) := by
  rw [Bool.eq_iff_iff, mem_iff]
  simp only [Bool.and_eq_true, decide_eq_true_iff]
  constructor
  · rintro ⟨s, hs, k1, k2⟩
    obtain ⟨t, ht, rfl⟩ := List.getElem_of_mem hs
    rw [← nthI_get ht] at k1 k2
    have : i ≤ t := by
      refine Nat.le_of_not_lt fun hlt => ?_
      have := h1 t hlt
      omega
    refine ⟨by omega, ?_⟩
    by_cases e : i = t
    · subst e; exact k1
    · have := good_mono h (i := i) (j := t) (by omega) ht
      have := (good_idx h i (by omega)).1
      omega
  · rintro ⟨k1, k2⟩
    exact ⟨nthI l i, nthI_mem k1, k2, by have := h2 i (Nat.le_refl _) k1; omega⟩

set_option maxHeartbeats 1000000 in
set_option maxRecDepth 20000 in
theorem bsearch_any (a : Option Addr) (n cap x : Nat) (l : List Iv) (w : World) (hI : Ivs w a n cap l) (hG : Good l) (hn : n ≤ 1000000) :
    Calls Tryz.prog 131 #[.slice a n cap, .int .u64 x, .func (.func 132) #[] #[]] w fun e w' =>
      e = .returned (.tuple #[.int .i64 ((fnd l x : Nat) : Int), .bool (mem l x)]) ∧ Below w.heap.size w w' := by
  have HI := Lib.hid hI; have HG := Lib.hid hG
  have Hl := Lib.hid hI.len
  clear hI hG
  go_enter Tryz.func131, Tryz.ntmps131
  go_wp2
  go_loopw [9, 10, 11] (fun i j _ wr => ∃ p q : Nat, p ≤ q ∧ q ≤ n ∧ i = .int .i64 p ∧ j = .int .i64 q ∧ Below w.heap.size w wr ∧ Hid ((∀ t, t < p → (nthI l t).2 < x) ∧ ∀ t, q ≤ t → t < n → ¬ (nthI l t).2 < x)) (fun i j _ _ => (intOf j).toNat - (intOf i).toNat)
  case atStart => exact ⟨0, n, by omega, by omega, rfl, rfl, Below.refl _ _, fun t ht => by omega, fun t h1 h2 => by omega⟩
  case round =>
    obtain ⟨p, q, hpq, hqn, rfl, rfl, hb, ht⟩ := hrel
    have Hb := Lib.hid hb; clear hb
    by_cases hlt : p < q
    · obtain ⟨bb, oo, rfl, hcell⟩ := (HI.out.below Hb.out).cells (by omega)
      obtain ⟨h, hh, hph, hhq⟩ : ∃ h : Nat, ((p : Int) + (q : Int)) / 2 = (h : Int) ∧ p ≤ h ∧ h < q := ⟨(p + q) / 2, by omega, by omega, by omega⟩
      have hhn : h < n := by omega
      obtain ⟨hc1, hc2⟩ := hcell h hhn
      clear hcell
      have hC := Lib.hid (fun w => findCmp_any (nthI l h) x w)
      have Hms := Lib.hid (fun t (ht : t < h) => good_mono HG.out ht (by rw [Hl.out]; exact hhn))
      have Hms2 := Lib.hid (fun t (ht : h < t) (htl : t < n) => good_mono HG.out ht (by rw [Hl.out]; exact htl))
      have Hok := Lib.hid (fun t (ht : t < n) => (good_idx HG.out t (by rw [Hl.out]; exact ht)).1)
      by_cases hlx : (nthI l h).2 < x
      · have Hlx := Lib.hid hlx
        rw [show cmpv (nthI l h) x = -1 from by simp [cmpv, hlx]] at hC
        clear hlx
        have Hr := Lib.hid (show ∀ t, t < h + 1 → (nthI l t).2 < x from by
          intro t htt
          by_cases e : t = h
          · subst e; exact Hlx.out
          · have h1 := Hms.out t (by omega)
            have h2 := Hok.out h hhn
            have h3 := Hlx.out
            omega)
        generalize nthI l h = s at *
        go_wp2_with fail
        refine (hC.out _).mono ?_
        rintro e w1 ⟨rfl, hb1⟩
        have Hb1 := Lib.hid (Hb.out.trans (hb1.mono Hb.out.size)); clear hb1
        clear hc1 hc2 hh
        go_wp2_with fail
        go_roundw
        case rel => exact ⟨h + 1, q, by omega, by omega, by go_num, rfl, Hb1.out, Hr.out, ht.out.2⟩
        case measure => simp [intOf]; omega
      · have Hr := Lib.hid (show ∀ t, h ≤ t → t < n → ¬ (nthI l t).2 < x from by
          intro t htt htn
          by_cases e : t = h
          · subst e; exact hlx
          · have h1 := Hms2.out t (by omega) htn
            have h2 := Hok.out t htn
            omega)
        have hcv : 0 ≤ cmpv (nthI l h) x := by unfold cmpv; rw [if_neg hlx]; split <;> omega
        generalize cmpv (nthI l h) x = cv at *
        generalize nthI l h = s at *
        clear hlx
        go_wp2_with fail
        refine (hC.out _).mono ?_
        rintro e w1 ⟨rfl, hb1⟩
        have Hb1 := Lib.hid (Hb.out.trans (hb1.mono Hb.out.size)); clear hb1
        clear hc1 hc2 hh
        go_wp2_with fail
        go_roundw
        case rel => exact ⟨p, h, by omega, by omega, rfl, rfl, Hb1.out, ht.out.1, Hr.out⟩
        case measure => simp [intOf]; omega
    · obtain rfl : p = q := by omega
      have Hf := Lib.hid (fnd_eq (l := l) (x := x) (i := p) (by rw [Hl.out]; exact hqn) ht.out.1 (fun t h1 h2 => ht.out.2 t h1 (by rw [← Hl.out]; exact h2)))
      have Hm := Lib.hid (mem_fnd HG.out (x := x) (i := p) (by rw [Hl.out]; exact hqn) ht.out.1 (fun t h1 h2 => ht.out.2 t h1 (by rw [← Hl.out]; exact h2)))
      rw [Hl.out] at Hm
      by_cases hpn : p < n
      · obtain ⟨bb, oo, rfl, hcell⟩ := (HI.out.below Hb.out).cells (by omega)
        obtain ⟨hc1, hc2⟩ := hcell p hpn
        clear hcell
        have hC := Lib.hid (fun w => findCmp_any (nthI l p) x w)
        have hnl := ht.out.2 p (Nat.le_refl _) hpn
        rw [decide_eq_true hpn, Bool.true_and] at Hm
        by_cases hxs : (nthI l p).1 ≤ x
        · rw [decide_eq_true hxs] at Hm
          rw [show cmpv (nthI l p) x = 0 from by unfold cmpv; rw [if_neg hnl, if_neg (by omega)]] at hC
          generalize nthI l p = s at *
          clear hnl hxs
          go_wp2_with fail
          refine (hC.out _).mono ?_
          rintro e w1 ⟨rfl, hb1⟩
          have Hb1 := Lib.hid (Hb.out.trans (hb1.mono Hb.out.size)); clear hb1
          clear hc1 hc2
          go_wp2_with fail
          go_ret2
          exact ⟨by rw [Hf.out, Hm.out]; rfl, Hb1.out⟩
        · rw [decide_eq_false hxs] at Hm
          rw [show cmpv (nthI l p) x = 1 from by unfold cmpv; rw [if_neg hnl, if_pos (by omega)]] at hC
          generalize nthI l p = s at *
          clear hnl hxs
          go_wp2_with fail
          refine (hC.out _).mono ?_
          rintro e w1 ⟨rfl, hb1⟩
          have Hb1 := Lib.hid (Hb.out.trans (hb1.mono Hb.out.size)); clear hb1
          clear hc1 hc2
          go_wp2_with fail
          go_ret2
          exact ⟨by rw [Hf.out, Hm.out]; rfl, Hb1.out⟩
      · obtain rfl : p = n := by omega
        rw [decide_eq_false hpn, Bool.false_and] at Hm
        have hd : decide ((p : Int) < (p : Int)) = false := by simp
        go_wp2_with fail
        go_ret2
        exact ⟨by rw [Hf.out, Hm.out]; rfl, Hb.out⟩

/-- The index that ranges.Find returns. -/
def findI (l : List Iv) (x : Nat) : Int := if mem l x = true then ((fnd l x : Nat) : Int) else -1

theorem find_any (a : Option Addr) (n cap x : Nat) (l : List Iv) (w : World) (hI : Ivs w a n cap l) (hG : Good l) (hn : n ≤ 1000000) :
    Calls Tryz.prog 75 #[.slice a n cap, .int .u64 x] w fun e w' => e = .returned (.int .i64 (findI l x)) ∧ Below w.heap.size w w' := by
  have hC := Lib.hid (bsearch_any a n cap x l w hI hG hn)
  clear hI hG
  unfold findI
  cases hm : mem l x with
  | true =>
    rw [hm] at hC
    rw [if_pos rfl]
    clear hm
    generalize fnd l x = f at *
    go_enter Tryz.func75, Tryz.ntmps75
    go_wp2_with fail
    refine hC.out.mono ?_
    rintro e w1 ⟨rfl, hb1⟩
    go_wp2
    go_ret
    exact ⟨rfl, hb1⟩
  | false =>
    rw [hm] at hC
    rw [if_neg (by simp)]
    clear hm
    generalize fnd l x = f at *
    go_enter Tryz.func75, Tryz.ntmps75
    go_wp2_with fail
    refine hC.out.mono ?_
    rintro e w1 ⟨rfl, hb1⟩
    go_wp2
    go_ret
    exact ⟨rfl, hb1⟩

theorem has_any (a : Option Addr) (n cap x : Nat) (l : List Iv) (w : World) (hI : Ivs w a n cap l) (hG : Good l) (hn : n ≤ 1000000) :
    Calls Tryz.prog 44 #[.slice a n cap, .int .u64 x] w fun e w' => e = .returned (.bool (mem l x)) ∧ Below w.heap.size w w' := by
  have hC := Lib.hid (find_any a n cap x l w hI hG hn)
  clear hI hG
  cases h : mem l x with
  | true =>
    have hd : findI l x = ((fnd l x : Nat) : Int) := by unfold findI; rw [if_pos h]
    rw [hd] at hC
    clear h hd
    generalize fnd l x = f at *
    have hd : decide (0 ≤ (f : Int)) = true := by rw [decide_eq_true_iff]; omega
    go_enter Tryz.func44, Tryz.ntmps44
    go_wp2_with fail
    refine hC.out.mono ?_
    rintro e w1 ⟨rfl, hb1⟩
    go_wp2
    go_ret
    exact ⟨ret_bool (by simp), hb1⟩
  | false =>
    have hd : findI l x = -1 := by unfold findI; rw [if_neg (by rw [h]; simp)]
    rw [hd] at hC
    clear h hd
    go_enter Tryz.func44, Tryz.ntmps44
    go_wp2_with fail
    refine hC.out.mono ?_
    rintro e w1 ⟨rfl, hb1⟩
    go_wp2
    go_ret
    exact ⟨ret_bool (by simp), hb1⟩

end Go.Proofs.YtkkdlgcfcbaibaaGreatDoor
end
