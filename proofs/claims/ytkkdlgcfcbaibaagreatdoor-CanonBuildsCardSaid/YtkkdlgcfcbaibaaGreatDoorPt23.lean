/- Walks and laws, merged: part 23. -/
import Derived.Test.YtkkdlgcfcbaibaaGreatDoorPt17
import Derived.Test.YtkkdlgcfcbaibaaGreatDoorPt22
import Derived.Test.YtkkdlgcfcbaibaaGreatDoorPt18
import Derived.Test.YtkkdlgcfcbaibaaGreatDoorPt06
import Derived.Test.YtkkdlgcfcbaibaaGreatDoorPt20
section
namespace Go.Proofs.YtkkdlgcfcbaibaaGreatDoor
open Go.RowKit
set_option linter.unusedVariables false

theorem entCheck2_any (a : Option Addr) (n c p : Nat) (hs : List Iv) (w : World) (hI : Ivs w a n c hs) (hD : Door w) (hp : w.cell? ⟨p, 2, none⟩ = some (.slice a n c)) :
    Calls Tryz.prog 175 #[.pointer (some ⟨p, 0, none⟩)] w fun e w' => e = .returned (errVal (errOf (ck hs))) ∧ Below w.heap.size w w' := by
  have hC := Lib.hid (check_any a n c hs w hI hD)
  clear hI hD
  go_enter Tryz.func175, Tryz.ntmps175
  go_wp2_with fail
  refine hC.out.mono ?_
  rintro e w1 ⟨rfl, hb1⟩
  have Hb1 := Lib.hid hb1; clear hb1
  go_wp2
  go_ret
  exact ⟨rfl, Hb1.out⟩

set_option maxRecDepth 20000 in
set_option maxHeartbeats 2000000 in
theorem entCheck1_any (a : Option Addr) (n c p r m : Nat) (hs : List Iv) (w : World) (hI : Ivs w a n c hs) (hp : w.cell? ⟨p, 2, none⟩ = some (.slice a n c)) (hq : w.cell? ⟨p, 1, none⟩ = some (.int .u64 m)) :
    Calls Tryz.prog 174 #[.pointer (some ⟨p, 0, none⟩)] w fun e w' => e = .returned (errVal (errOf (firstS (ckHole (r, m, hs)) hs.length))) ∧ Below w.heap.size w w' := by
  have HI := Lib.hid hI
  have Hl := Lib.hid hI.len
  have hnm : n ≤ 9223372036854775807 := Nat.le_trans hI.room hI.most
  have Hq2 := Lib.hid (fun w' (h : Below w.heap.size w w') => (h.cell (p := ⟨p, 1, none⟩) (cell_lt hq)).trans hq)
  clear hI
  go_enter Tryz.func174, Tryz.ntmps174
  go_wp2
  clear hp hq
  go_loopw [2, 3, 7] (fun _ _ i wr => ∃ k : Nat, k ≤ n ∧ i = .int .i64 k ∧ Below w.heap.size w wr ∧ Hid (∀ j, j < k → ckHole (r, m, hs) j = none)) (fun _ _ i _ => n - (intOf i).toNat)
  case atStart => exact ⟨0, by omega, rfl, Below.refl _ _, fun j h => by omega⟩
  case round =>
    obtain ⟨k, hk, rfl, hb, ht⟩ := hrel
    have Hb := Lib.hid hb; clear hb
    by_cases hkn : k < n
    · obtain ⟨cb, co, rfl, hcell⟩ := (HI.out.below Hb.out).cells (by omega)
      obtain ⟨c1, c2⟩ := hcell k hkn
      have hq := Hq2.out _ Hb.out
      clear hcell
      have h0 : (0 : Int) ≤ k := by omega
      have h04 : (k : Int) < (n : Int) := by omega
      have Hh := Lib.hid (show ckHole (r, m, hs) k = if m < (nthI hs k).2 then some (4, k) else none from rfl)
      have hkl : k < hs.length := by rw [Hl.out]; exact hkn
      generalize nthI hs k = s at *
      obtain ⟨x, u⟩ := s
      simp only at c1 c2 Hh
      have hal : Below wr.heap.size wr (wr.alloc (.cells #[.int .u64 x, .int .u64 u] 73)) := (Below.refl _ _).alloc (Nat.le_refl _) _
      have hq2 := (hal.cell (p := ⟨p, 1, none⟩) (cell_lt hq)).trans hq
      have Hal := Lib.hid (Hb.out.trans (hal.mono Hb.out.size))
      clear hal
      by_cases hu : m < u
      · have hd1 : decide ((m : Int) < (u : Int)) = true := by rw [decide_eq_true_iff]; omega
        have hd2 : decide (m < u) = true := by rw [decide_eq_true_iff]; omega
        have Hr := Lib.hid (firstS_some hkl ht.out (Hh.out.trans (if_pos hu)))
        clear hu
        go_wp2_with fail
        refine (new_any 4 k _).mono ?_
        rintro e w3 ⟨rfl, rfl⟩
        go_wp2
        go_ret
        exact ⟨by rw [Hr.out]; rfl, by first | exact Hal.out | exact below_drewN' Hal.out _⟩
      · have hd1 : decide ((m : Int) < (u : Int)) = false := by rw [decide_eq_false_iff_not]; omega
        have hd2 : decide (m < u) = false := by rw [decide_eq_false_iff_not]; omega
        have Hr := Lib.hid (firstS_step ht.out (Hh.out.trans (if_neg hu)))
        clear hu
        go_wp2
        go_roundw
        case rel => exact ⟨k + 1, by omega, by go_num, by first | exact Hal.out | exact below_drewN' Hal.out _, Hr.out⟩
        case measure => simp [intOf]; omega
    · obtain rfl : k = n := by omega
      have Hr := Lib.hid (firstS_none (n := hs.length) (fun j hj => ht.out j (by rw [← Hl.out]; exact hj)))
      go_wp2
      go_ret
      exact ⟨by rw [Hr.out]; rfl, Hb.out⟩

theorem entHas_any (e : Ent) (a : Option Addr) (n c x : Nat) (w : World) (hI : Ivs w a n c e.2.2) (hG : Good e.2.2) (hn : n ≤ 1000000) :
    Calls Tryz.prog 196 #[entV e (.slice a n c), .int .u64 x] w fun y w' => y = .returned (.bool (knownE e x)) ∧ Below w.heap.size w w' := by
  obtain ⟨r, m, hs⟩ := e
  simp only at hI hG
  have Hal := Lib.hid ((Below.refl w.heap.size w).alloc (Nat.le_refl _) (.cells #[.int .u64 r, .int .u64 m, .slice a n c] 71))
  have hC := Lib.hid (has_any a n c x hs _ (hI.below Hal.out) hG hn)
  have HkE := Lib.hid (show knownE (r, m, hs) x = (decide (x ≤ m) && !mem hs x) from rfl)
  obtain ⟨q0, q1, q2⟩ := box3 w (.int .u64 r) (.int .u64 m) (.slice a n c) 71 _ (Below.refl _ _)
  clear hI hG
  generalize mem hs x = b at *
  by_cases h : x ≤ m
  · have hd1 : decide ((x : Int) ≤ (m : Int)) = true := by rw [decide_eq_true_iff]; omega
    have hd2 : decide (x ≤ m) = true := by rw [decide_eq_true_iff]; omega
    rw [hd2] at HkE
    clear h
    go_enter Tryz.func196, Tryz.ntmps196
    go_wp2_with fail
    refine hC.out.mono ?_
    rintro e w1 ⟨rfl, hb1⟩
    have Hb1 := Lib.hid hb1; clear hb1
    go_wp2
    go_ret
    exact ⟨by rw [HkE.out]; rfl, Hal.out.trans (Hb1.out.mono Hal.out.size)⟩
  · have hd1 : decide ((x : Int) ≤ (m : Int)) = false := by rw [decide_eq_false_iff_not]; omega
    have hd2 : decide (x ≤ m) = false := by rw [decide_eq_false_iff_not]; omega
    rw [hd2] at HkE
    clear h hC
    go_enter Tryz.func196, Tryz.ntmps196
    go_wp2
    go_ret
    exact ⟨by rw [HkE.out]; rfl, Hal.out⟩

set_option maxRecDepth 20000 in
set_option maxHeartbeats 2000000 in
theorem entCheck_any (e : Ent) (a : Option Addr) (n c : Nat) (w : World) (hI : Ivs w a n c e.2.2) (hD : Door w) :
    Calls Tryz.prog 138 #[entV e (.slice a n c)] w fun y w' => y = .returned (errVal (errOf (ckE e))) ∧ Below w.heap.size w w' := by
  obtain ⟨r, m, hs⟩ := e
  simp only at hI
  have hal : Below w.heap.size w (w.alloc (.cells #[.int .u64 r, .int .u64 m, .slice a n c] 71)) := (Below.refl w.heap.size w).alloc (Nat.le_refl _) _
  have hq := box3 w (.int .u64 r) (.int .u64 m) (.slice a n c) 71
  have hC2 := Lib.hid (fun w' (h : Below (w.alloc (.cells #[.int .u64 r, .int .u64 m, .slice a n c] 71)).heap.size (w.alloc (.cells #[.int .u64 r, .int .u64 m, .slice a n c] 71)) w') =>
    entCheck2_any a n c w.heap.size hs w' (hI.below (hal.trans (h.mono hal.size))) (hD.below (Nat.le_refl _) (hal.trans (h.mono hal.size))) (hq w' h).2.2)
  have hC1 := Lib.hid (fun w' (h : Below (w.alloc (.cells #[.int .u64 r, .int .u64 m, .slice a n c] 71)).heap.size (w.alloc (.cells #[.int .u64 r, .int .u64 m, .slice a n c] 71)) w') =>
    entCheck1_any a n c w.heap.size r m hs w' (hI.below (hal.trans (h.mono hal.size))) (hq w' h).2.2 (hq w' h).2.1)
  have Hal := Lib.hid hal
  have Hck := Lib.hid (show ckE (r, m, hs) = match ck hs with | some x => some x | none => firstS (ckHole (r, m, hs)) hs.length from rfl)
  clear hI hD hal hq
  go_enter Tryz.func138, Tryz.ntmps138
  go_wp2
  obtain ⟨fs, hfs⟩ : ∃ fs : Obj, fs = .cells #[.func (.func 175) #[] #[.pointer (some ⟨w.heap.size, 0, none⟩)], .func (.func 174) #[] #[.pointer (some ⟨w.heap.size, 0, none⟩)]] 194 := ⟨_, rfl⟩
  have hb0 : Below (w.alloc (.cells #[.int .u64 r, .int .u64 m, .slice a n c] 71)).heap.size (w.alloc (.cells #[.int .u64 r, .int .u64 m, .slice a n c] 71)) ((w.alloc (.cells #[.int .u64 r, .int .u64 m, .slice a n c] 71)).alloc fs) := (Below.refl _ _).alloc (Nat.le_refl _) _
  have hrow : ((w.alloc (.cells #[.int .u64 r, .int .u64 m, .slice a n c] 71)).alloc fs).heap[w.heap.size + 1]? = some fs := row_new (by simp)
  have hsz : ((w.alloc (.cells #[.int .u64 r, .int .u64 m, .slice a n c] 71)).alloc fs).heap.size = w.heap.size + 2 := by simp
  rw [← hfs]
  generalize (w.alloc (.cells #[.int .u64 r, .int .u64 m, .slice a n c] 71)).alloc fs = W2 at *
  have Hb0 := Lib.hid hb0
  have Hz := Lib.hid hb0.size
  have Hfn := Lib.hid (show ∀ w', Below W2.heap.size W2 w' → w'.cell? ⟨w.heap.size + 1, 0, none⟩ = some (.func (.func 175) #[] #[.pointer (some ⟨w.heap.size, 0, none⟩)]) ∧ w'.cell? ⟨w.heap.size + 1, 1, none⟩ = some (.func (.func 174) #[] #[.pointer (some ⟨w.heap.size, 0, none⟩)]) from fun w' h => by
    have hr : w'.heap[w.heap.size + 1]? = some fs := (h.block _ (by omega)).trans hrow
    rw [hfs] at hr
    exact ⟨cells_cell (i := 0) hr rfl, cells_cell (i := 1) hr rfl⟩)
  clear hb0 hrow hsz hfs
  go_loopw [5, 6, 12] (fun _ _ i wr => Below W2.heap.size W2 wr ∧ Hid (i = .int .i64 0 ∨ (i = .int .i64 1 ∧ ck hs = none) ∨ (i = .int .i64 2 ∧ ck hs = none ∧ firstS (ckHole (r, m, hs)) hs.length = none))) (fun _ _ i _ => 2 - (intOf i).toNat)
  case atStart => exact ⟨Below.refl _ _, .inl rfl⟩
  case round =>
    obtain ⟨hb, hi⟩ := hrel
    have Hb := Lib.hid hb; clear hb
    have Hbw := Lib.hid (Hb0.out.trans (Hb.out.mono Hz.out))
    have Hbz := Lib.hid (Hal.out.trans (Hbw.out.mono Hal.out.size))
    obtain ⟨f1, f2⟩ := Hfn.out _ Hb.out
    rcases hi.out with rfl | ⟨rfl, h1⟩ | ⟨rfl, h1, h2⟩
    · have hC := Lib.hid (hC2.out wr Hbw.out)
      cases h : ck hs with
      | none =>
        rw [h] at hC
        simp only [errOf, errVal] at hC
        have Hn := Lib.hid h
        clear h hi
        go_wp2_with fail
        refine hC.out.mono ?_
        rintro e w1 ⟨rfl, hb1⟩
        have Hb1 := Lib.hid (Hb.out.trans (hb1.mono Hb.out.size)); clear hb1
        go_wp2
        go_roundw
        case rel => exact ⟨Hb1.out, .inr (.inl ⟨by go_num, trivial⟩)⟩
        case measure => simp [intOf]
      | some x =>
        obtain ⟨cd, ci⟩ := x
        rw [h] at hC Hck
        simp only [errOf, errVal] at hC Hck
        clear h hi
        go_wp2_with fail
        refine hC.out.mono ?_
        rintro e w1 ⟨rfl, hb1⟩
        have Hb1 := Lib.hid (Hbz.out.trans (hb1.mono Hbz.out.size)); clear hb1
        go_wp2
        go_ret
        exact ⟨by rw [Hck.out]; rfl, Hb1.out⟩
    · have hC := Lib.hid (hC1.out wr Hbw.out)
      rw [h1] at Hck
      simp only at Hck
      cases h : firstS (ckHole (r, m, hs)) hs.length with
      | none =>
        rw [h] at hC
        simp only [errOf, errVal] at hC
        have Hn := Lib.hid (And.intro h1 h)
        clear h hi h1
        go_wp2_with fail
        refine hC.out.mono ?_
        rintro e w1 ⟨rfl, hb1⟩
        have Hb1 := Lib.hid (Hb.out.trans (hb1.mono Hb.out.size)); clear hb1
        go_wp2
        go_roundw
        case rel => exact ⟨Hb1.out, .inr (.inr ⟨by go_num, Hn.out.1, trivial⟩)⟩
        case measure => simp [intOf]
      | some x =>
        obtain ⟨cd, ci⟩ := x
        rw [h] at hC Hck
        simp only [errOf, errVal] at hC
        clear h hi h1
        go_wp2_with fail
        refine hC.out.mono ?_
        rintro e w1 ⟨rfl, hb1⟩
        have Hb1 := Lib.hid (Hbz.out.trans (hb1.mono Hbz.out.size)); clear hb1
        go_wp2
        go_ret
        exact ⟨by rw [Hck.out]; rfl, Hb1.out⟩
    · rw [h1] at Hck
      simp only at Hck
      rw [h2] at Hck
      clear h1 h2 hi
      go_wp2
      go_ret
      exact ⟨by rw [Hck.out]; rfl, Hbz.out⟩

theorem entCanonical_any (e : Ent) (a : Option Addr) (n c : Nat) (w : World) (hI : Ivs w a n c e.2.2) (hD : Door w) (hm : e.2.1 < 18446744073709551616) (hn : n ≤ 1000000) :
    Calls Tryz.prog 164 #[entV e (.slice a n c)] w fun y w' => y = .returned (.bool (canEB e)) ∧ Below w.heap.size w w' := by
  obtain ⟨r, m, hs⟩ := e
  simp only at hI hm
  have hal : Below w.heap.size w (w.alloc (.cells #[.int .u64 r, .int .u64 m, .slice a n c] 71)) := (Below.refl _ _).alloc (Nat.le_refl _) _
  have HX := Lib.hid (box3 w (.int .u64 r) (.int .u64 m) (.slice a n c) 71)
  have HI := Lib.hid (hI.below hal)
  have hC := Lib.hid (entCheck_any (r, m, hs) a n c _ (hI.below hal) (hD.below (Nat.le_refl _) hal))
  have Hal := Lib.hid hal
  have hH := Lib.hid (fun w' (h : Below (w.alloc (.cells #[.int .u64 r, .int .u64 m, .slice a n c] 71)).heap.size (w.alloc (.cells #[.int .u64 r, .int .u64 m, .slice a n c] 71)) w') (hG : Good hs) => entHas_any (r, m, hs) a n c m w' (HI.out.below h) hG hn)
  obtain ⟨q0, q1, q2⟩ := HX.out _ (Below.refl _ _)
  clear hI hm hal hD
  cases h : ckE (r, m, hs) with
  | some x =>
    obtain ⟨cd, ci⟩ := x
    have Hcan := Lib.hid (show canEB (r, m, hs) = false from by unfold canEB; rw [h]; rfl)
    rw [h] at hC
    simp only [errOf, errVal] at hC
    clear h
    go_enter Tryz.func164, Tryz.ntmps164
    go_wp2_with fail
    refine hC.out.mono ?_
    rintro e w1 ⟨rfl, hb1⟩
    have Hb1 := Lib.hid hb1; clear hb1
    go_wp2
    go_ret
    exact ⟨by rw [Hcan.out]; rfl, Hal.out.trans (Hb1.out.mono Hal.out.size)⟩
  | none =>
    have Hcan := Lib.hid (show canEB (r, m, hs) = knownE (r, m, hs) m from by unfold canEB knownE; rw [h]; simp)
    have hG := (ckE_none.1 h).1
    simp only at hG
    rw [h] at hC
    simp only [errOf, errVal] at hC
    have hH := Lib.hid (fun w' h => hH.out w' h hG)
    clear h hG
    generalize knownE (r, m, hs) m = b at *
    go_enter Tryz.func164, Tryz.ntmps164
    go_wp2_with fail
    refine hC.out.mono ?_
    rintro e w1 ⟨rfl, hb1⟩
    have Hb1 := Lib.hid hb1; clear hb1 q0 q1 q2
    obtain ⟨q0, q1, q2⟩ := HX.out _ Hb1.out
    go_wp2_with fail
    refine (hH.out _ Hb1.out).mono ?_
    rintro e w2 ⟨rfl, hb2⟩
    have Hb2 := Lib.hid hb2; clear hb2
    go_wp2
    go_ret
    exact ⟨by rw [Hcan.out]; rfl, (Hal.out.trans (Hb1.out.mono Hal.out.size)).trans (Hb2.out.mono (Nat.le_trans Hal.out.size Hb1.out.size))⟩

end Go.Proofs.YtkkdlgcfcbaibaaGreatDoor
end

section
namespace Go.Proofs.YtkkdlgcfcbaibaaGreatDoor
open Go.RowKit
set_option linter.unusedVariables false

theorem errNew_nz {c : Nat} (a : Nat) (h : c ≠ 0) : errNew (c : Int) (a : Int) = some ((c : Int), some (a : Int)) := by
  unfold errNew; rw [if_neg (by omega)]

theorem keyCmp_any (r : Nat) (e : Ent) (s : Value) (w : World) : Calls Tryz.prog 139 #[.int .u64 r, entV e s] w fun x w' => x = .returned (.int .i64 (Lib.compareInt (e.1 : Int) (r : Int))) ∧ Below w.heap.size w w' := by
  obtain ⟨er, em, eh⟩ := e
  obtain ⟨q0, q1, q2⟩ := box3 w (.int .u64 er) (.int .u64 em) s 71 _ (Below.refl _ _)
  have Hal := Lib.hid ((Below.refl w.heap.size w).alloc (Nat.le_refl _) (.cells #[.int .u64 er, .int .u64 em, s] 71))
  go_enter Tryz.func139, Tryz.ntmps139
  go_wp2_with fail
  refine (cmp_any er r _).mono ?_
  rintro e w1 ⟨rfl, rfl⟩
  go_wp2
  go_ret
  exact ⟨rfl, Hal.out⟩

set_option maxRecDepth 20000 in
set_option maxHeartbeats 4000000 in
theorem vecCheck_any (a : Option Addr) (n cap : Nat) (v : Vec) (w : World) (hE : Ents w a n cap v) (hD : Door w) :
    Calls Tryz.prog 94 #[.slice a n cap] w fun x w' => x = .returned (errVal (errOf (ckV v))) ∧ Below w.heap.size w w' := by
  have HE := Lib.hid hE; have HD := Lib.hid hD
  have Hl := Lib.hid hE.len
  have hm : n ≤ 9223372036854775807 := Nat.le_trans hE.room hE.most
  have Hck := Lib.hid (show ckV v = firstS (ckVAt v) v.length from rfl)
  clear hE hD
  go_enter Tryz.func94, Tryz.ntmps94
  go_wp2
  go_loopw [3, 4, 5, 8] (fun _ _ _ i wr => ∃ k : Nat, k ≤ n ∧ i = .int .i64 k ∧ Below w.heap.size w wr ∧ Hid (∀ j, j < k → ckVAt v j = none)) (fun _ _ _ i _ => n - (intOf i).toNat)
  case atStart => exact ⟨0, by omega, rfl, Below.refl _ _, fun j h => by omega⟩
  case round =>
    obtain ⟨k, hk, rfl, hb, ht⟩ := hrel
    have Hb := Lib.hid hb; clear hb
    by_cases hkn : k < n
    · have hkv : k < v.length := by rw [Hl.out]; exact hkn
      have HEr := Lib.hid (HE.out.below Hb.out)
      obtain ⟨bb, oo, rfl⟩ := HEr.out.some (by omega)
      obtain ⟨x, m, c, hq⟩ := HEr.out.fix hkn
      have Hat := Lib.hid (show ckVAt v k = match ckE (nthE v k) with | some x => some (x.1, k) | none => if 0 < k ∧ (nthE v k).1 ≤ (nthE v (k - 1)).1 then some (3, k) else none from rfl)
      have Hp := Lib.hid (show 0 < k → ∀ w', Below wr.heap.size wr w' → w'.cell? ⟨bb, oo + (k - 1) * 3, none⟩ = some (.int .u64 (((nthE v (k - 1)).1 : Nat) : Int)) from fun h0 w' h => (HEr.out.at (k := k - 1) (by omega) w' h).1)
      generalize nthE v k = e at *
      generalize nthE v (k - 1) = p at *
      have h0 : (0 : Int) ≤ k := by omega
      have h04 : (k : Int) < (n : Int) := by omega
      obtain ⟨q1, q2, q3, -⟩ := hq _ (Below.refl _ _)
      have hal : Below wr.heap.size wr (wr.alloc (.cells #[.int .u64 e.1, .int .u64 e.2.1, .slice x m c] 71)) := (Below.refl _ _).alloc (Nat.le_refl _) _
      have HX := Lib.hid (box3 wr (.int .u64 e.1) (.int .u64 e.2.1) (.slice x m c) 71)
      have hDa := HD.out.below (Nat.le_refl _) (Hb.out.trans (hal.mono Hb.out.size))
      have hC := Lib.hid (entCheck_any e x m c (wr.alloc (.cells #[.int .u64 e.1, .int .u64 e.2.1, .slice x m c] 71)) (hq _ hal).2.2.2 hDa)
      have Hal := Lib.hid hal
      have HalW := Lib.hid (Hb.out.trans (hal.mono Hb.out.size))
      clear hq hal hDa
      obtain ⟨er, em, eh⟩ := e
      obtain ⟨pr, pm, ph⟩ := p
      simp only at q1 q2 q3 Hp Hat hC HX Hal HalW
      cases h : ckE (er, em, eh) with
      | some y =>
        obtain ⟨cd, ci⟩ := y
        rw [h] at Hat hC
        simp only [errOf, errVal] at Hat hC
        have hc0 := ckE_code h
        simp only at hc0
        have Hr := Lib.hid (firstS_some hkv ht.out Hat.out)
        clear h
        go_wp2_with fail
        refine hC.out.mono ?_
        rintro z w1 ⟨rfl, hb1⟩
        have Hb1 := Lib.hid (HalW.out.trans (hb1.mono HalW.out.size)); clear hb1
        go_wp2_with fail
        refine (code_any (some ((cd : Int), some (ci : Int))) _ (HD.out.below (Nat.le_refl _) Hb1.out)).mono ?_
        rintro z w2 ⟨rfl, hb2⟩
        have Hb2 := Lib.hid (Hb1.out.trans (hb2.mono Hb1.out.size)); clear hb2
        simp only [errCode]
        go_wp2_with fail
        refine (new_any cd k _).mono ?_
        rintro z w3 ⟨rfl, rfl⟩
        go_wp2
        go_ret
        exact ⟨by rw [Hck.out, Hr.out]; show _ = Ending.returned (errVal (some ((cd : Int), some (k : Int)))); rw [← errNew_nz k hc0]; rfl, Hb2.out⟩
      | none =>
        rw [h] at Hat hC
        simp only [errOf, errVal] at Hat hC
        clear h
        go_wp2_with fail
        refine hC.out.mono ?_
        rintro z w1 ⟨rfl, hb1⟩
        have Hb1 := Lib.hid hb1
        have Hw1 := Lib.hid (HalW.out.trans (hb1.mono HalW.out.size))
        clear hb1
        by_cases hk0 : 0 < k
        · have hg : decide (0 < (k : Int)) = true := by rw [decide_eq_true_iff]; omega
          have hsub : IntKind.i64.wrap ((k : Int) - 1) = ((k - 1 : Nat) : Int) := by rw [IntKind.wrap_i64]; omega
          have h01 : (0 : Int) ≤ ((k - 1 : Nat) : Int) := by omega
          have h03 : ((k - 1 : Nat) : Int) < (n : Int) := by omega
          have HX1 := Lib.hid (fun w' (h : Below w1.heap.size w1 w') => HX.out w' (Hb1.out.trans (h.mono Hb1.out.size)))
          have HP1 := Lib.hid (fun w' (h : Below w1.heap.size w1 w') => Hp.out hk0 w' (Hal.out.trans ((Hb1.out.trans (h.mono Hb1.out.size)).mono Hal.out.size)))
          have hK := Lib.hid (fun w' => keyCmp_any pr (er, em, eh) (.slice x m c) w')
          generalize k - 1 = k1 at *
          by_cases hle : er ≤ pr
          · have Hr := Lib.hid (firstS_some hkv ht.out (Hat.out.trans (if_pos ⟨hk0, hle⟩)))
            have hci : decide (Lib.compareInt (er : Int) (pr : Int) ≤ 0) = true := by
              unfold Lib.compareInt
              rw [decide_eq_true_iff]
              split
              · omega
              · rw [if_neg (by omega)]; omega
            generalize Lib.compareInt (er : Int) (pr : Int) = ci at *
            clear hle
            go_wp2_with fail
            go_cut [33] (fun t wc => t = .bool true ∧ Hid (Below w1.heap.size w1 wc))
            case first =>
              refine wp_region_below (by kernel_rfl) (by kernel_rfl) ?_
              repeat (go_big_quiet_step ((intro hw; first
                | rfl
                | (have q0 := HX1.out _ hw
                   have q1 := q0.1; have q2 := q0.2.1; have q3 := q0.2.2
                   have q4 := HP1.out _ hw
                   clear q0
                   first
                   | (go_at_call 139; exact keep_below hw (hK.out _))
                   | (go_simp
                      first | rfl | exact ⟨rfl, hw⟩ | (trace_state; fail))))))
              refine wpQuiet_nil ?_
              intro w3 hb3
              go_wp2
              go_meet
              exact ⟨rfl, hb3⟩
            case rest =>
              obtain ⟨rfl, hb2⟩ := hcut
              have Hb2 := Lib.hid (Hw1.out.trans (hb2.out.mono Hw1.out.size))
              clear hb2
              go_wp2_with fail
              refine (new_any 3 k _).mono ?_
              rintro z w3 ⟨rfl, rfl⟩
              go_wp2
              go_ret
              exact ⟨by rw [Hck.out, Hr.out]; rfl, Hb2.out⟩
          · have Hr := Lib.hid (firstS_step ht.out (Hat.out.trans (if_neg (fun h => hle h.2))))
            have hci : decide (Lib.compareInt (er : Int) (pr : Int) ≤ 0) = false := by
              unfold Lib.compareInt
              rw [decide_eq_false_iff_not, if_neg (by omega), if_pos (by omega)]
              omega
            generalize Lib.compareInt (er : Int) (pr : Int) = ci at *
            clear hle
            go_wp2_with fail
            go_cut [33] (fun t wc => t = .bool false ∧ Hid (Below w1.heap.size w1 wc))
            case first =>
              refine wp_region_below (by kernel_rfl) (by kernel_rfl) ?_
              repeat (go_big_quiet_step ((intro hw; first
                | rfl
                | (have q0 := HX1.out _ hw
                   have q1 := q0.1; have q2 := q0.2.1; have q3 := q0.2.2
                   have q4 := HP1.out _ hw
                   clear q0
                   first
                   | (go_at_call 139; exact keep_below hw (hK.out _))
                   | (go_simp
                      first | rfl | exact ⟨rfl, hw⟩ | (trace_state; fail))))))
              refine wpQuiet_nil ?_
              intro w3 hb3
              go_wp2
              go_meet
              exact ⟨rfl, hb3⟩
            case rest =>
              obtain ⟨rfl, hb2⟩ := hcut
              have Hb2 := Lib.hid (Hw1.out.trans (hb2.out.mono Hw1.out.size))
              clear hb2
              go_wp2
              go_roundw
              case rel => exact ⟨k + 1, by omega, by go_num, Hb2.out, Hr.out⟩
              case measure => simp [intOf]; omega
        · have hg : decide (0 < (k : Int)) = false := by rw [decide_eq_false_iff_not]; omega
          have hgn : decide (0 < k) = false := by rw [decide_eq_false_iff_not]; exact hk0
          have Hr := Lib.hid (firstS_step ht.out (Hat.out.trans (if_neg (fun h => hk0 h.1))))
          clear hk0
          go_wp2
          go_quiet (fail)
          go_wp2
          go_roundw
          case rel => exact ⟨k + 1, by omega, by go_num, by first | exact Hw1.out | exact below_drewN' Hw1.out _, Hr.out⟩
          case measure => simp [intOf]; omega
    · obtain rfl : k = n := by omega
      have Hr := Lib.hid (firstS_none (n := v.length) (fun j hj => ht.out j (by rw [← Hl.out]; exact hj)))
      go_wp2
      go_ret
      exact ⟨by rw [Hck.out, Hr.out]; rfl, Hb.out⟩

end Go.Proofs.YtkkdlgcfcbaibaaGreatDoor
end

section
namespace Go.Proofs.YtkkdlgcfcbaibaaGreatDoor
open Go.RowKit
set_option linter.unusedVariables false

/-- What a boxed fragment holds from then on. -/
theorem box2 (w : World) (x y : Value) (T : TypeId) (w' : World) (h : Below (w.alloc (.cells #[x, y] T)).heap.size (w.alloc (.cells #[x, y] T)) w') :
    w'.cell? ⟨w.heap.size, 0, none⟩ = some x ∧ w'.cell? ⟨w.heap.size, 1, none⟩ = some y := by
  have hrow : (w.alloc (.cells #[x, y] T)).heap[w.heap.size]? = some (.cells #[x, y] T) := row_new rfl
  exact ⟨(h.cell (p := ⟨w.heap.size, 0, none⟩) (by simp)).trans (cells_cell (i := 0) hrow rfl),
    (h.cell (p := ⟨w.heap.size, 1, none⟩) (by simp)).trans (cells_cell (i := 1) hrow rfl)⟩

set_option maxRecDepth 20000 in
set_option maxHeartbeats 4000000 in
theorem scoCheck_any (a : Option Addr) (n cap : Nat) (k : Kno) (w : World) (hE : Frags w a n cap k) (hD : Door w) :
    Calls Tryz.prog 55 #[.slice a n cap] w fun x w' => x = .returned (errVal (errOf (ckF k))) ∧ Below w.heap.size w w' := by
  have HE := Lib.hid hE; have HD := Lib.hid hD
  have Hl := Lib.hid hE.len
  have hm : n ≤ 9223372036854775807 := Nat.le_trans hE.room hE.most
  have Hck := Lib.hid (show ckF k = firstS (ckFAt k) k.length from rfl)
  clear hE hD
  go_enter Tryz.func55, Tryz.ntmps55
  go_wp2
  go_loopw [3, 4, 5, 6, 9] (fun _ _ _ _ i wr => ∃ d : Nat, d ≤ n ∧ i = .int .i64 d ∧ Below w.heap.size w wr ∧ Hid (∀ j, j < d → ckFAt k j = none)) (fun _ _ _ _ i _ => n - (intOf i).toNat)
  case atStart => exact ⟨0, by omega, rfl, Below.refl _ _, fun j h => by omega⟩
  case round =>
    obtain ⟨d, hd, rfl, hb, ht⟩ := hrel
    have Hb := Lib.hid hb; clear hb
    by_cases hdn : d < n
    · have hdk : d < k.length := by rw [Hl.out]; exact hdn
      have HEr := Lib.hid (HE.out.below Hb.out)
      obtain ⟨bb, oo, rfl⟩ := HEr.out.some (by omega)
      obtain ⟨x, m, c, y, m', c', hq⟩ := HEr.out.fix hdn
      have Hat := Lib.hid (show ckFAt k d = match ck (nthF k d).1 with | some x => some (x.1, d) | none => match ckV (nthF k d).2 with | some x => some (x.1, d) | none => none from rfl)
      have hal : Below wr.heap.size wr (wr.alloc (.cells #[.slice x m c, .slice y m' c'] 39)) := (Below.refl _ _).alloc (Nat.le_refl _) _
      have HX := Lib.hid (box2 wr (.slice x m c) (.slice y m' c') 39)
      have HalW := Lib.hid (Hb.out.trans (hal.mono Hb.out.size))
      have Hal := Lib.hid hal
      have hC := Lib.hid (check_any x m c (nthF k d).1 _ (hq _ hal).2.1 (HD.out.below (Nat.le_refl _) HalW.out))
      have hV := Lib.hid (fun w' (h : Below (wr.alloc (.cells #[.slice x m c, .slice y m' c'] 39)).heap.size (wr.alloc (.cells #[.slice x m c, .slice y m' c'] 39)) w') =>
        vecCheck_any y m' c' (nthF k d).2 w' (hq _ (hal.trans (h.mono hal.size))).2.2.2 (HD.out.below (Nat.le_refl _) (HalW.out.trans (h.mono HalW.out.size))))
      have h0 : (0 : Int) ≤ d := by omega
      have h04 : (d : Int) < (n : Int) := by omega
      obtain ⟨q1, -, q2, -⟩ := hq _ (Below.refl _ _)
      obtain ⟨x0, x1⟩ := HX.out _ (Below.refl _ _)
      clear hq hal
      generalize nthF k d = f at *
      cases h : ck f.1 with
      | some z =>
        have hc0 := ck_code h
        obtain ⟨cd, ci⟩ := z
        rw [h] at Hat hC
        simp only [errOf, errVal] at Hat hC
        simp only at hc0
        have Hr := Lib.hid (firstS_some hdk ht.out Hat.out)
        clear h hV
        go_wp2_with fail
        refine hC.out.mono ?_
        rintro z w1 ⟨rfl, hb1⟩
        have Hb1 := Lib.hid (HalW.out.trans (hb1.mono HalW.out.size)); clear hb1
        go_wp2_with fail
        refine (code_any (some ((cd : Int), some (ci : Int))) _ (HD.out.below (Nat.le_refl _) Hb1.out)).mono ?_
        rintro z w2 ⟨rfl, hb2⟩
        have Hb2 := Lib.hid (Hb1.out.trans (hb2.mono Hb1.out.size)); clear hb2
        simp only [errCode]
        go_wp2_with fail
        refine (new_any cd d _).mono ?_
        rintro z w3 ⟨rfl, rfl⟩
        go_wp2
        go_ret
        exact ⟨by rw [Hck.out, Hr.out]; show _ = Ending.returned (errVal (some ((cd : Int), some (d : Int)))); rw [← errNew_nz d hc0]; rfl, Hb2.out⟩
      | none =>
        rw [h] at Hat hC
        simp only [errOf, errVal] at Hat hC
        clear h
        go_wp2_with fail
        refine hC.out.mono ?_
        rintro z w1 ⟨rfl, hb1⟩
        have Hb1 := Lib.hid hb1
        have Hw1 := Lib.hid (HalW.out.trans (hb1.mono HalW.out.size))
        clear hb1 q1 q2 x0 x1
        obtain ⟨x0, x1⟩ := HX.out _ Hb1.out
        cases h : ckV f.2 with
        | some z =>
          have hc0 := ckV_code h
          obtain ⟨cd, ci⟩ := z
          rw [h] at Hat hV
          simp only [errOf, errVal] at Hat hV
          simp only at hc0
          have Hr := Lib.hid (firstS_some hdk ht.out Hat.out)
          clear h
          go_wp2_with fail
          refine (hV.out _ Hb1.out).mono ?_
          rintro z w2 ⟨rfl, hb2⟩
          have Hb2 := Lib.hid (Hw1.out.trans (hb2.mono Hw1.out.size)); clear hb2
          go_wp2_with fail
          refine (code_any (some ((cd : Int), some (ci : Int))) _ (HD.out.below (Nat.le_refl _) Hb2.out)).mono ?_
          rintro z w3 ⟨rfl, hb3⟩
          have Hb3 := Lib.hid (Hb2.out.trans (hb3.mono Hb2.out.size)); clear hb3
          simp only [errCode]
          go_wp2_with fail
          refine (new_any cd d _).mono ?_
          rintro z w4 ⟨rfl, rfl⟩
          go_wp2
          go_ret
          exact ⟨by rw [Hck.out, Hr.out]; show _ = Ending.returned (errVal (some ((cd : Int), some (d : Int)))); rw [← errNew_nz d hc0]; rfl, Hb3.out⟩
        | none =>
          rw [h] at Hat hV
          simp only [errOf, errVal] at Hat hV
          have Hr := Lib.hid (firstS_step ht.out Hat.out)
          clear h
          go_wp2_with fail
          refine (hV.out _ Hb1.out).mono ?_
          rintro z w2 ⟨rfl, hb2⟩
          have Hb2 := Lib.hid (Hw1.out.trans (hb2.mono Hw1.out.size)); clear hb2
          go_wp2
          go_roundw
          case rel => exact ⟨d + 1, by omega, by go_num, Hb2.out, Hr.out⟩
          case measure => simp [intOf]; omega
    · obtain rfl : d = n := by omega
      have Hr := Lib.hid (firstS_none (n := k.length) (fun j hj => ht.out j (by rw [← Hl.out]; exact hj)))
      go_wp2
      go_ret
      exact ⟨by rw [Hck.out, Hr.out]; rfl, Hb.out⟩

end Go.Proofs.YtkkdlgcfcbaibaaGreatDoor
end
