/- Walks and laws, merged: part 17. -/
import Derived.Laws.StructEq
import Derived.Deep.QuietTactic
import Derived.Test.YtkkdlgcfcbaibaaGreatDoorPt04
import Derived.Test.YtkkdlgcfcbaibaaGreatDoorPt15
import Derived.Test.YtkkdlgcfcbaibaaGreatDoorPt16
import Derived.Test.YtkkdlgcfcbaibaaGreatDoorPt03
section
namespace Go.Proofs.YtkkdlgcfcbaibaaGreatDoor
open Go.RowKit
set_option linter.unusedVariables false

theorem firstS_step {α : Type} {f : Nat → Option α} {k : Nat} (h : ∀ j, j < k → f j = none) (hk : f k = none) : ∀ j, j < k + 1 → f j = none := fun j hj => by
  by_cases e : j = k
  · rw [e]; exact hk
  · exact h j (by omega)

set_option maxRecDepth 20000 in
set_option maxHeartbeats 2000000 in
theorem refCheck7_any (e : Ent) (a : Option Addr) (n c : Nat) (w : World) (hI : Ivs w a n c e.2.2) (hm : e.2.1 < 18446744073709551616) :
    Calls Tryz.prog 100 #[entV e (.slice a n c)] w fun x w' => x = .returned (.tuple #[.int .i64 (errCode (errOf (ckE e))), .int .i64 (errAt (errOf (ckE e)))]) ∧ Below w.heap.size w w' := by
  obtain ⟨r, m, hs⟩ := e
  simp only at hI hm
  have hal : Below w.heap.size w (w.alloc (.cells #[.int .u64 r, .int .u64 m, .slice a n c] 71)) := (Below.refl _ _).alloc (Nat.le_refl _) _
  have hrow : (w.alloc (.cells #[.int .u64 r, .int .u64 m, .slice a n c] 71)).heap[w.heap.size]? = some (.cells #[.int .u64 r, .int .u64 m, .slice a n c] 71) := row_new rfl
  have Hq1 := Lib.hid (fun w' (h : Below (w.alloc (.cells #[.int .u64 r, .int .u64 m, .slice a n c] 71)).heap.size (w.alloc (.cells #[.int .u64 r, .int .u64 m, .slice a n c] 71)) w') =>
    (h.cell (p := ⟨w.heap.size, 1, none⟩) (by simp)).trans (cells_cell (i := 1) hrow rfl))
  have Hq2 := Lib.hid (fun w' (h : Below (w.alloc (.cells #[.int .u64 r, .int .u64 m, .slice a n c] 71)).heap.size (w.alloc (.cells #[.int .u64 r, .int .u64 m, .slice a n c] 71)) w') =>
    (h.cell (p := ⟨w.heap.size, 2, none⟩) (by simp)).trans (cells_cell (i := 2) hrow rfl))
  have HI := Lib.hid (hI.below hal)
  have Hl := Lib.hid hI.len
  have hnm : n ≤ 9223372036854775807 := Nat.le_trans hI.room hI.most
  have Hal := Lib.hid hal
  have hC := Lib.hid (refCheck_any a n c hs _ (hI.below hal))
  have Hck := Lib.hid (show ckE (r, m, hs) = match ck hs with | some x => some x | none => firstS (ckHole (r, m, hs)) hs.length from rfl)
  have q1 := Hq1.out _ (Below.refl _ _)
  have q2 := Hq2.out _ (Below.refl _ _)
  clear hI hm hal hrow
  go_enter Tryz.func100, Tryz.ntmps100
  go_wp2_with fail
  refine hC.out.mono ?_
  rintro e w1 ⟨rfl, hb1⟩
  have Hb1 := Lib.hid hb1; clear hb1 hC q1 q2
  have Hw1 := Lib.hid (Hal.out.trans (Hb1.out.mono Hal.out.size))
  cases h : ck hs with
  | some x =>
    obtain ⟨cd, i⟩ := x
    have hne : ((cd : Int) != 0) = true := by have := ck_code h; simp at this; rw [bne_iff_ne]; omega
    rw [h] at Hck
    simp only at Hck
    simp only [errOf, errCode, errAt]
    clear h
    go_wp2
    go_ret2
    exact ⟨by rw [Hck.out]; rfl, Hw1.out⟩
  | none =>
    rw [h] at Hck
    simp only at Hck
    simp only [errOf, errCode, errAt]
    clear h
    have HI1 := Lib.hid (HI.out.below Hb1.out)
    go_wp2
    go_loopw [6] (fun i wr => ∃ k q : Nat, k ≤ n ∧ i = .int .i64 k ∧ wr = w1.drewN q ∧ Hid (∀ j, j < k → ckHole (r, m, hs) j = none)) (fun i _ => n - (intOf i).toNat)
    case atStart => exact ⟨0, 0, by omega, rfl, rfl, fun j h => by omega⟩
    case round =>
      obtain ⟨k, q, hk, rfl, rfl, ht⟩ := hrel
      have q1 := Hq1.out _ Hb1.out
      have q2 := Hq2.out _ Hb1.out
      by_cases hkn : k < n
      · obtain ⟨cb, co, rfl, hcell⟩ := HI1.out.cells (by omega)
        obtain ⟨-, c2⟩ := hcell k hkn
        clear hcell
        have h0 : (0 : Int) ≤ k := by omega
        have h04 : (k : Int) < (n : Int) := by omega
        have Hh := Lib.hid (show ckHole (r, m, hs) k = if m < (nthI hs k).2 then some (4, k) else none from rfl)
        have hkl : k < hs.length := by rw [Hl.out]; exact hkn
        generalize nthI hs k = s at *
        obtain ⟨p, u⟩ := s
        simp only at c2 Hh
        by_cases hu : m < u
        · have hd1 : decide ((m : Int) < (u : Int)) = true := by rw [decide_eq_true_iff]; omega
          have hd2 : decide (m < u) = true := by rw [decide_eq_true_iff]; omega
          have Hr := Lib.hid (firstS_some hkl ht.out (Hh.out.trans (if_pos hu)))
          clear hu
          go_wp2
          go_quiet (fail)
          go_wp2
          go_ret2
          exact ⟨by rw [Hck.out, Hr.out]; rfl, by first | exact below_drewN' Hw1.out _ | exact below_drewN' (below_drewN' Hw1.out _) _⟩
        · have hd1 : decide ((m : Int) < (u : Int)) = false := by rw [decide_eq_false_iff_not]; omega
          have hd2 : decide (m < u) = false := by rw [decide_eq_false_iff_not]; omega
          have Hr := Lib.hid (firstS_step ht.out (Hh.out.trans (if_neg hu)))
          clear hu
          go_wp2
          go_quiet (fail)
          go_wp2
          go_roundw
          case rel => exact ⟨k + 1, _, by omega, by go_num, rfl, Hr.out⟩
          case measure => simp [intOf]; omega
      · obtain rfl : k = n := by omega
        have Hr := Lib.hid (firstS_none (n := hs.length) (fun j hj => ht.out j (by rw [← Hl.out]; exact hj)))
        go_wp2
        go_ret2
        exact ⟨by rw [Hck.out, Hr.out]; rfl, below_drewN' Hw1.out _⟩

theorem refRight7_any (e : Ent) (a : Option Addr) (n c : Nat) (w : World) (hI : Ivs w a n c e.2.2) (hm : e.2.1 < 18446744073709551616) :
    Calls Tryz.prog 182 #[entV e (.slice a n c)] w fun x w' => x = .returned (.bool (decide (ckE e = none))) ∧ Below w.heap.size w w' := by
  have hC := Lib.hid (fun w' (h : Below w.heap.size w w') => refCheck7_any e a n c w' (hI.below h) hm)
  obtain ⟨r, m, hs⟩ := e
  clear hI hm
  have Hal := Lib.hid ((Below.refl w.heap.size w).alloc (Nat.le_refl _) (.cells #[.int .u64 r, .int .u64 m, .slice a n c] 71))
  cases h : ckE (r, m, hs) with
  | none =>
    rw [h] at hC
    simp only [errOf, errCode, errAt] at hC
    clear h
    go_enter Tryz.func182, Tryz.ntmps182
    go_wp2_with fail
    refine (hC.out _ Hal.out).mono ?_
    rintro e w1 ⟨rfl, hb1⟩
    have Hb1 := Lib.hid hb1; clear hb1
    go_wp2
    go_ret
    exact ⟨by simp, Hal.out.trans (Hb1.out.mono Hal.out.size)⟩
  | some x =>
    have hc0 := ckE_code h
    obtain ⟨cd, i⟩ := x
    rw [h] at hC
    simp only [errOf, errCode, errAt] at hC
    have hne : ((cd : Int) == 0) = false := by rw [beq_eq_false_iff_ne]; simp at hc0; omega
    clear h hc0
    go_enter Tryz.func182, Tryz.ntmps182
    go_wp2_with fail
    refine (hC.out _ Hal.out).mono ?_
    rintro e w1 ⟨rfl, hb1⟩
    have Hb1 := Lib.hid hb1; clear hb1
    go_wp2
    go_ret
    exact ⟨by simp, Hal.out.trans (Hb1.out.mono Hal.out.size)⟩

end Go.Proofs.YtkkdlgcfcbaibaaGreatDoor
end

section
namespace Go.Proofs.YtkkdlgcfcbaibaaGreatDoor
open Go.RowKit
set_option linter.unusedVariables false

theorem eq_iv (x y z u : Nat) (w : World) : (Op.equalIn 10000 73 (.agg #[.int .u64 (x : Int), .int .u64 (y : Int)]) (.agg #[.int .u64 (z : Int), .int .u64 (u : Int)])).run Tryz.prog w = .ok (decide (x = z) && decide (y = u)) w := by
  have u3 := Tryz.underlying24
  have a3 : ∀ w, (isAgg 24).run Tryz.prog w = .ok false w := fun w => by simp [isAgg, run_underlying u3]
  have z3 : ∀ w, (sizeOf 24).run Tryz.prog w = .ok 1 w := fun w => by kernel_rfl
  have hS : Tryz.prog.underlying 73 = some (.struct (Tryz.prog.fieldsOf 73)) := by kernel_rfl
  have hp : Tryz.prog.stoodInHeld 73 = false := by kernel_rfl
  rw [show (10000 : Nat) = 9999 + 1 from rfl, run_equalIn_agg w 9999 73 _ _ hS hp]
  simp only [Program.fieldsOf, Tryz.underlying73]
  go_simp
  by_cases h1 : x = z <;> by_cases h2 : y = u <;> simp [h1, h2] <;> omega

theorem nthI_take {l l' : List Iv} {k : Nat} (h : l.take k = l'.take k) (hk : k < l.length) (hk' : k < l'.length) (e : nthI l k = nthI l' k) : l.take (k + 1) = l'.take (k + 1) := by
  rw [List.take_succ_eq_append_getElem hk, List.take_succ_eq_append_getElem hk', h, ← nthI_get hk, ← nthI_get hk', e]
theorem nthI_ne {l l' : List Iv} {k : Nat} (e : nthI l k ≠ nthI l' k) : l ≠ l' := fun h => e (by rw [h])

set_option maxHeartbeats 1000000 in
theorem refSame_any (a a' : Option Addr) (n cap n' cap' : Nat) (l l' : List Iv) (w : World) (hI : Ivs w a n cap l) (hI' : Ivs w a' n' cap' l') :
    Calls Tryz.prog 14 #[.slice a n cap, .slice a' n' cap'] w fun e w' => e = .returned (.bool (decide (l = l'))) ∧ Below w.heap.size w w' := by
  have HI := Lib.hid hI; have HI' := Lib.hid hI'
  have Hl := Lib.hid hI.len; have Hl' := Lib.hid hI'.len
  have hm : n ≤ 9223372036854775807 := Nat.le_trans hI.room hI.most
  by_cases hnn : n = n'
  · subst hnn
    clear hI hI'
    have hnb : ((n : Int) != (n : Int)) = false := by simp
    go_enter Tryz.func14, Tryz.ntmps14
    go_wp2
    go_loopw [5] (fun i wr => ∃ k q : Nat, k ≤ n ∧ i = .int .i64 k ∧ wr = w.drewN q ∧ Hid (l.take k = l'.take k)) (fun i _ => n - (intOf i).toNat)
    case atStart => exact ⟨0, 0, by omega, rfl, rfl, rfl⟩
    case round =>
      obtain ⟨k, q, hk, rfl, rfl, ht⟩ := hrel
      by_cases hkn : k < n
      · obtain ⟨cb, co, rfl, hcell⟩ := HI.out.cells (by omega)
        obtain ⟨cb', co', rfl, hcell'⟩ := HI'.out.cells (by omega)
        obtain ⟨c1, c2⟩ := hcell k hkn
        obtain ⟨c1', c2'⟩ := hcell' k hkn
        clear hcell hcell'
        have h0 : (0 : Int) ≤ k := by omega
        have h04 : (k : Int) < (n : Int) := by omega
        have hkl : k < l.length := by rw [Hl.out]; exact hkn
        have hkl' : k < l'.length := by rw [Hl'.out]; exact hkn
        have He := Lib.hid (fun e => nthI_take ht.out hkl hkl' e)
        have Hn := Lib.hid (fun e => nthI_ne (l := l) (l' := l') (k := k) e)
        clear hkl hkl'
        generalize nthI l k = s at *
        generalize nthI l' k = t at *
        obtain ⟨x, y⟩ := s
        obtain ⟨z, u⟩ := t
        have heq := eq_iv x y z u
        simp only at c1 c2 c1' c2'
        by_cases e : x = z ∧ y = u
        · obtain ⟨rfl, rfl⟩ := e
          have Ht := Lib.hid (He.out rfl)
          simp only [decide_true, Bool.and_self] at heq
          clear He Hn
          go_wp2
          go_quiet (fail)
          go_wp2
          go_roundw
          case rel => exact ⟨k + 1, _, by omega, by go_num, rfl, Ht.out⟩
          case measure => simp [intOf]; omega
        · have Hne := Lib.hid (Hn.out (by intro h; cases h; exact e ⟨rfl, rfl⟩))
          have eb : (decide (x = z) && decide (y = u)) = false := by
            rw [Bool.eq_false_iff]
            intro h
            rw [Bool.and_eq_true, decide_eq_true_iff, decide_eq_true_iff] at h
            exact e h
          simp only [eb] at heq
          clear He Hn eb e
          go_wp2
          go_quiet (fail)
          go_wp2
          go_ret
          exact ⟨ret_bool (by rw [decide_eq_false Hne.out]), by first | exact below_drewN' (Below.refl _ _) _ | exact below_drewN' (below_drewN' (Below.refl _ _) _) _⟩
      · obtain rfl : k = n := by omega
        have h1 := ht.out
        rw [List.take_of_length_le (by rw [Hl.out]; omega), List.take_of_length_le (by rw [Hl'.out]; omega)] at h1
        have H1 := Lib.hid h1; clear h1
        go_wp2
        go_ret
        exact ⟨ret_bool (by rw [decide_eq_true H1.out]), below_drewN' (Below.refl _ _) _⟩
  · have hnb : ((n : Int) != (n' : Int)) = true := by rw [bne_iff_ne]; omega
    have hne := Lib.hid (show l ≠ l' from fun h => hnn (by rw [← hI.len, ← hI'.len, h]))
    clear hI hI' HI HI' Hl Hl'
    go_enter Tryz.func14, Tryz.ntmps14
    go_wp2
    go_ret
    exact ⟨ret_bool (by rw [decide_eq_false hne.out]), Below.refl _ _⟩

end Go.Proofs.YtkkdlgcfcbaibaaGreatDoor
end

section
namespace Go.Proofs.YtkkdlgcfcbaibaaGreatDoor
open Go.RowKit
set_option linter.unusedVariables false

/-- What a boxed entry holds from then on. -/
theorem box3 (w : World) (x y z : Value) (T : TypeId) (w' : World) (h : Below (w.alloc (.cells #[x, y, z] T)).heap.size (w.alloc (.cells #[x, y, z] T)) w') :
    w'.cell? ⟨w.heap.size, 0, none⟩ = some x ∧ w'.cell? ⟨w.heap.size, 1, none⟩ = some y ∧ w'.cell? ⟨w.heap.size, 2, none⟩ = some z := by
  have hrow : (w.alloc (.cells #[x, y, z] T)).heap[w.heap.size]? = some (.cells #[x, y, z] T) := row_new rfl
  exact ⟨(h.cell (p := ⟨w.heap.size, 0, none⟩) (by simp)).trans (cells_cell (i := 0) hrow rfl),
    (h.cell (p := ⟨w.heap.size, 1, none⟩) (by simp)).trans (cells_cell (i := 1) hrow rfl),
    (h.cell (p := ⟨w.heap.size, 2, none⟩) (by simp)).trans (cells_cell (i := 2) hrow rfl)⟩

theorem refCanonical7_any (e : Ent) (a : Option Addr) (n c : Nat) (w : World) (hI : Ivs w a n c e.2.2) (hm : e.2.1 < 18446744073709551616) :
    Calls Tryz.prog 148 #[entV e (.slice a n c)] w fun x w' => x = .returned (.bool (canEB e)) ∧ Below w.heap.size w w' := by
  obtain ⟨r, m, hs⟩ := e
  simp only at hI hm
  have hal : Below w.heap.size w (w.alloc (.cells #[.int .u64 r, .int .u64 m, .slice a n c] 71)) := (Below.refl _ _).alloc (Nat.le_refl _) _
  have HX := Lib.hid (box3 w (.int .u64 r) (.int .u64 m) (.slice a n c) 71)
  have HI := Lib.hid (hI.below hal)
  have hC := Lib.hid (refRight7_any (r, m, hs) a n c _ (hI.below hal) hm)
  have Hal := Lib.hid hal
  have Hcan := Lib.hid (show canEB (r, m, hs) = (decide (ckE (r, m, hs) = none) && !mem hs m) from rfl)
  have hH := Lib.hid (fun w' (h : Below (w.alloc (.cells #[.int .u64 r, .int .u64 m, .slice a n c] 71)).heap.size (w.alloc (.cells #[.int .u64 r, .int .u64 m, .slice a n c] 71)) w') => refHas_any a n c m hs w' (HI.out.below h))
  obtain ⟨q0, q1, q2⟩ := HX.out _ (Below.refl _ _)
  clear hI hm hal
  generalize mem hs m = b at *
  generalize decide (ckE (r, m, hs) = none) = y at *
  cases y with
  | false =>
    go_enter Tryz.func148, Tryz.ntmps148
    go_wp2_with fail
    refine hC.out.mono ?_
    rintro e w1 ⟨rfl, hb1⟩
    have Hb1 := Lib.hid hb1; clear hb1
    go_wp2
    go_ret
    exact ⟨by rw [Hcan.out]; rfl, Hal.out.trans (Hb1.out.mono Hal.out.size)⟩
  | true =>
    go_enter Tryz.func148, Tryz.ntmps148
    go_wp2_with fail
    refine hC.out.mono ?_
    rintro e w1 ⟨rfl, hb1⟩
    have Hb1 := Lib.hid hb1; clear hb1 q0 q1 q2
    obtain ⟨q0, q1, q2⟩ := HX.out _ Hb1.out
    go_wp2_with fail
    refine (hH.out _ Hb1.out).mono ?_
    rintro e w2 ⟨rfl, hb2⟩
    have Hb2 := Lib.hid hb2; clear hb2
    go_wp2
    go_ret
    exact ⟨by rw [Hcan.out]; rfl, (Hal.out.trans (Hb1.out.mono Hal.out.size)).trans (Hb2.out.mono (Nat.le_trans Hal.out.size Hb1.out.size))⟩

theorem refSame7_any (e f : Ent) (a d : Option Addr) (n c m k : Nat) (w : World) (hI : Ivs w a n c e.2.2) (hJ : Ivs w d m k f.2.2) :
    Calls Tryz.prog 83 #[entV e (.slice a n c), entV f (.slice d m k)] w fun x w' => x = .returned (.bool (decide (e = f))) ∧ Below w.heap.size w w' := by
  obtain ⟨r, x, hs⟩ := e
  obtain ⟨r', x', hs'⟩ := f
  simp only at hI hJ
  obtain ⟨W1, hW1⟩ : ∃ W1, W1 = w.alloc (.cells #[.int .u64 r, .int .u64 x, .slice a n c] 71) := ⟨_, rfl⟩
  have hal : Below w.heap.size w W1 := by rw [hW1]; exact (Below.refl _ _).alloc (Nat.le_refl _) _
  have hsz : W1.heap.size = w.heap.size + 1 := by rw [hW1]; simp
  have hal2 : Below W1.heap.size W1 (W1.alloc (.cells #[.int .u64 r', .int .u64 x', .slice d m k] 71)) := (Below.refl _ _).alloc (Nat.le_refl _) _
  obtain ⟨q0, q1, q2⟩ := box3 w (.int .u64 r) (.int .u64 x) (.slice a n c) 71 (W1.alloc (.cells #[.int .u64 r', .int .u64 x', .slice d m k] 71)) (hW1 ▸ hal2)
  obtain ⟨q3, q4, q5⟩ := box3 W1 (.int .u64 r') (.int .u64 x') (.slice d m k) 71 _ (Below.refl _ _)
  have HA := Lib.hid (hal.trans (hal2.mono hal.size))
  have hC := Lib.hid (refSame_any a d n c m k hs hs' _ (hI.below HA.out) (hJ.below HA.out))
  rw [hW1] at q0 q1 q2 q3 q4 q5 HA hC
  simp only [World.size_alloc] at q3 q4 q5
  have hdec : decide (((r, x, hs) : Ent) = (r', x', hs')) = ((decide (r = r') && decide (x = x')) && decide (hs = hs')) := by
    rw [Bool.eq_iff_iff]; simp [and_assoc]
  rw [hdec]
  clear hI hJ hal hal2 hsz hdec hW1
  generalize decide (hs = hs') = b at *
  by_cases h1 : r = r'
  · subst h1
    by_cases h2 : x = x'
    · subst h2
      have d1 : True := trivial
      have d2 : True := trivial
      go_enter Tryz.func83, Tryz.ntmps83
      go_wp2_with fail
      refine hC.out.mono ?_
      rintro e w1 ⟨rfl, hb1⟩
      have Hb1 := Lib.hid hb1; clear hb1
      go_wp2
      go_ret
      exact ⟨by simp, HA.out.trans (Hb1.out.mono HA.out.size)⟩
    · have d1 : True := trivial
      have d2 : decide (x = x') = false := by simpa using h2
      have t2 : (((x : Nat) : Int) == ((x' : Nat) : Int)) = false := by rw [beq_eq_false_iff_ne]; omega
      clear h2
      go_enter Tryz.func83, Tryz.ntmps83
      go_wp2
      go_ret
      exact ⟨by simp [d2], HA.out⟩
  · have d1 : decide (r = r') = false := by simpa using h1
    have t1 : (((r : Nat) : Int) == ((r' : Nat) : Int)) = false := by rw [beq_eq_false_iff_ne]; omega
    clear h1
    go_enter Tryz.func83, Tryz.ntmps83
    go_wp2
    go_ret
    exact ⟨by simp [d1], HA.out⟩

end Go.Proofs.YtkkdlgcfcbaibaaGreatDoor
end
