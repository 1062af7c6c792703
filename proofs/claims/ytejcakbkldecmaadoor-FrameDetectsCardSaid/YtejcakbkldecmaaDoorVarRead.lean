/-
  Walk: varint.Read.
-/
import Derived.Test.YtejcakbkldecmaaDoorVarPut
import Derived.Test.YtejcakbkldecmaaDoorFault
namespace Go.Proofs.YtejcakbkldecmaaDoor
open Go.RowKit
set_option linter.unusedVariables false

/-- What Read answers at an offset. -/
def readRes (l : List Nat) (p : Nat) : Nat × Nat × Err :=
  match scan (l.drop p) 0 0 with
  | (1, x, j) => (x, p + j, none)
  | (2, _, _) => (0, 0, some (6, some (p : Int)))
  | _ => (0, 0, some (5, some (p : Int)))

theorem drop_nth (l : List Nat) (k : Nat) (h : k < l.length) : l.drop k = nth l k :: l.drop (k + 1) := by
  rw [List.drop_eq_getElem_cons h]
  simp [nth, h]

theorem nextState9 (c : Nat) (h : nextState 9 c = 0) : False := by
  unfold nextState at h
  split at h
  · cases h
  · split at h
    · cases h
    · omega

theorem nextState_le (n c : Nat) : nextState n c = 0 ∨ nextState n c = 1 ∨ nextState n c = 2 := by
  unfold nextState
  split
  · exact .inr (.inr rfl)
  · split
    · exact .inr (.inl rfl)
    · exact .inl rfl

set_option maxHeartbeats 1000000 in
theorem read_any (a : Option Addr) (n cap p : Nat) (l : List Nat) (w : World) (hB : Byts w a n cap l) (hp : p ≤ n) :
    Calls Tryd.prog 27 #[.slice a n cap, .int .i64 p] w fun e w' => e = .returned (.tuple #[.int .u64 ((readRes l p).1 : Nat), .int .i64 ((readRes l p).2.1 : Nat), errVal (readRes l p).2.2]) ∧ Below w.heap.size w w' := by
  have HB := Lib.hid hB
  obtain ⟨hn, hlt, hnc, hcm, hnil, hc⟩ := hB; clear hnil
  have hm : n ≤ 9223372036854775807 := by omega
  have Hlt := Lib.hid hlt; clear hlt
  by_cases hpn : p < n
  · obtain ⟨b, o, rfl, hcell⟩ := hc (by omega)
    have Hcell := Lib.hid hcell; clear hcell hc
    have Hn := Lib.hid hn; clear hn
    have hpc : ¬ cap = p := by omega
    go_enter Tryd.func27, Tryd.ntmps27
    go_wp2_with fail
    have HR0 := Lib.hid (show Rd w (w.alloc (.cells #[.int .u64 0, .int .i64 0, .int .i64 0] 72)) w.heap.size 0 0 0 from
      ⟨(Below.refl _ _).alloc (Nat.le_refl _) _, Nat.le_refl _, by simp only [World.size_alloc]; omega, World.cell?_alloc_new _ _ _ _, World.cell?_alloc_new _ _ _ _, World.cell?_alloc_new _ _ _ _, World.frozen?_alloc_new _ _ _ _, World.frozen?_alloc_new _ _ _ _, World.frozen?_alloc_new _ _ _ _, by omega⟩)
    generalize w.alloc (.cells #[.int .u64 0, .int .i64 0, .int .i64 0] 72) = w0 at *
    generalize hg : w.heap.size = g at *
    have Hg := Lib.hid hg; clear hg
    have hcast : ((n - p : Nat) : Int) = (n : Int) - (p : Int) := by omega
    have Hres := Lib.hid (fun st x j (h : scan (l.drop p) 0 0 = (st, x, j)) => (show readRes l p = (match (st, x, j) with | (1, x, j) => (x, p + j, none) | (2, _, _) => (0, 0, some (6, some (p : Int))) | _ => (0, 0, some (5, some (p : Int)))) from by unfold readRes; rw [h]))
    generalize hmm : n - p = m at *
    have Hm := Lib.hid hmm; clear hmm hcast
    go_loopw [9, 22] (fun _ i wr => ∃ k x : Nat, k ≤ m ∧ k < 10 ∧ i = .int .i64 k ∧ Hid (Rd w wr g x k 0) ∧ Hid (scan (l.drop p) 0 0 = scan (l.drop (p + k)) k x)) (fun _ i _ => m - (intOf i).toNat)
    case atStart => exact ⟨0, 0, by omega, by omega, rfl, HR0.out, rfl⟩
    case round =>
      obtain ⟨k, x, hk, hk10, rfl, hR, hS⟩ := hrel
      by_cases hkm : k < m
      · have hBr := HB.out.below hR.out.below
        obtain ⟨b', o', e', hcell'⟩ := hBr.cells (by omega)
        cases e'
        have hc := hcell' (p + k) (by have := Hm.out; omega)
        have hsum : p + k + 1 ≤ n := by have := Hm.out; omega
        have hnc : nth l (p + k) < 256 := nth_lt Hlt.out (by omega) _
        have Hd := Lib.hid (drop_nth l (p + k) (by rw [Hn.out]; have := Hm.out; omega))
        rw [← Nat.add_assoc] at hc
        generalize nth l (p + k) = c at *
        clear hcell' hBr
        go_wp2_with fail
        refine (rput_any w _ g x k c hR.out hnc hk10).mono ?_
        rintro e w2 ⟨rfl, hR2⟩
        have HR2 := Lib.hid hR2; clear hR2
        rcases nextState_le k c with hns | hns | hns
        · rw [hns]
          rw [hns] at HR2
          have hk9 : k ≠ 9 := fun e => nextState9 c (by rw [← e]; exact hns)
          have HS2 := Lib.hid (show scan (l.drop p) 0 0 = scan (l.drop (p + (k + 1))) (k + 1) (orAt x k c) from by
            rw [hS.out, Hd.out]; show (if nextState k c = 2 then _ else if nextState k c = 1 then _ else _) = _; rw [hns]; rfl)
          clear hns
          go_wp2_with fail
          go_roundw
          case rel => exact ⟨k + 1, _, by omega, by omega, by go_num, HR2, HS2⟩
          case measure => simp [intOf]; omega
        · rw [hns]
          rw [hns] at HR2
          have HS2 := Lib.hid (Hres.out 1 (orAt x k c) (k + 1) (by rw [hS.out, Hd.out]; show (if nextState k c = 2 then _ else if nextState k c = 1 then _ else _) = _; rw [hns]; rfl))
          clear hns
          go_wp2_with fail
          refine (rvalue_any w _ g _ _ HR2.out).mono ?_
          rintro e w' ⟨rfl, rfl⟩
          go_wp2_with fail
          refine (rlen_any w _ g _ _ _ HR2.out).mono ?_
          rintro e w' ⟨rfl, rfl⟩
          go_wp2_with fail
          go_ret3
          refine ⟨?_, by have := HR2.out.below; exact this⟩
          rw [HS2.out]
          rfl
        · rw [hns]
          have HS2 := Lib.hid (Hres.out 2 0 (k + 1) (by rw [hS.out, Hd.out]; show (if nextState k c = 2 then _ else if nextState k c = 1 then _ else _) = _; rw [hns]; rfl))
          clear hns
          go_wp2_with fail
          refine (new_any 6 p _).mono ?_
          rintro e w' ⟨rfl, rfl⟩
          go_wp2_with fail
          go_ret3
          refine ⟨?_, by have := HR2.out.below; exact this⟩
          rw [HS2.out]
          rfl
      · obtain rfl : k = m := by omega
        have HS2 := Lib.hid (Hres.out 0 0 k (by rw [hS.out, List.drop_eq_nil_of_le (by rw [Hn.out]; have := Hm.out; omega)]; rfl))
        go_wp2_with fail
        refine (new_any 5 p _).mono ?_
        rintro e w' ⟨rfl, rfl⟩
        go_wp2_with fail
        go_ret3
        refine ⟨?_, by have := hR.out.below; exact this⟩
        rw [HS2.out]
        rfl
  · obtain rfl : p = n := by omega
    have Hr := Lib.hid (show readRes l p = (0, 0, some (5, some (p : Int))) from by unfold readRes; rw [List.drop_eq_nil_of_le (by omega)]; rfl)
    clear hc hn
    go_enter Tryd.func27, Tryd.ntmps27
    go_wp2_with fail
    refine (new_any 5 p _).mono ?_
    rintro e w' ⟨rfl, rfl⟩
    go_wp2_with fail
    go_ret3
    refine ⟨?_, (Below.refl _ _).alloc (Nat.le_refl _) _⟩
    rw [Hr.out]
    rfl

end Go.Proofs.YtejcakbkldecmaaDoor
