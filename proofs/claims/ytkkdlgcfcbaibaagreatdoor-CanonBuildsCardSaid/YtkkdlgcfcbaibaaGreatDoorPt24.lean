/- Walks and laws, merged: part 24. -/
import Derived.Test.YtkkdlgcfcbaibaaGreatDoorPt23
import Derived.Test.YtkkdlgcfcbaibaaGreatDoorPt22
import Derived.Test.YtkkdlgcfcbaibaaGreatDoorPt06
import Derived.Test.YtkkdlgcfcbaibaaGreatDoorPt10
import Derived.Test.YtkkdlgcfcbaibaaGreatDoorPt21
import Derived.Test.YtkkdlgcfcbaibaaGreatDoorPt20
section
namespace Go.Proofs.YtkkdlgcfcbaibaaGreatDoor
open Go.RowKit
set_option linter.unusedVariables false

theorem run_store_fn (P : Program) (w : World) (a : Addr) (m : Mode) (f : Fn) (t c : Array Value) : (store a (.func f t c) m).run P w = stored P w a (.func f t c) m := run_store P w a _ m rfl
attribute [local go_sem] run_store_fn

theorem vecCanonical1_any (e : Ent) (a : Option Addr) (n c : Nat) (w : World) (hI : Ivs w a n c e.2.2) (hD : Door w) (hm : e.2.1 < 18446744073709551616) (hn : n ≤ 1000000) :
    Calls Tryz.prog 163 #[entV e (.slice a n c)] w fun y w' => y = .returned (.bool (!canEB e)) ∧ Below w.heap.size w w' := by
  have hal : Below w.heap.size w (w.alloc (.cells #[.int .u64 e.1, .int .u64 e.2.1, .slice a n c] 71)) := (Below.refl w.heap.size w).alloc (Nat.le_refl _) _
  have hC := Lib.hid (entCanonical_any e a n c _ (hI.below hal) (hD.below (Nat.le_refl _) hal) hm hn)
  obtain ⟨er, em, eh⟩ := e
  obtain ⟨q0, q1, q2⟩ := box3 w (.int .u64 er) (.int .u64 em) (.slice a n c) 71 _ (Below.refl _ _)
  have Hal := Lib.hid hal
  simp only at hC Hal
  clear hI hD hm hal
  generalize canEB (er, em, eh) = b at *
  go_enter Tryz.func163, Tryz.ntmps163
  go_wp2_with fail
  refine hC.out.mono ?_
  rintro e w1 ⟨rfl, hb1⟩
  have Hb1 := Lib.hid hb1; clear hb1
  go_wp2
  go_ret
  exact ⟨rfl, Hal.out.trans (Hb1.out.mono Hal.out.size)⟩

set_option maxRecDepth 20000 in
set_option maxHeartbeats 2000000 in
theorem indexCan_any (a : Option Addr) (n cap : Nat) (v : Vec) (w : World) (hE : Ents w a n cap v) (hD : Door w) (hs : ∀ e ∈ v, e.2.2.length ≤ 1000000) :
    Calls Tryz.prog 195 #[.slice a n cap, .func (.func 163) #[] #[]] w fun x w' =>
      x = .returned (.int .i64 (intO (firstS (fun i => if canEB (nthE v i) = true then none else some i) v.length))) ∧ Below w.heap.size w w' := by
  have HE := Lib.hid hE; have HD := Lib.hid hD; have Hs := Lib.hid hs
  have Hl := Lib.hid hE.len
  have hm : n ≤ 9223372036854775807 := Nat.le_trans hE.room hE.most
  obtain ⟨f, hf⟩ : ∃ f : Nat → Option Nat, f = fun i => if canEB (nthE v i) = true then none else some i := ⟨_, rfl⟩
  rw [← hf]
  have Hf := Lib.hid (show ∀ i, f i = if canEB (nthE v i) = true then none else some i from fun i => by rw [hf])
  clear hE hD hs hf
  go_enter Tryz.func195, Tryz.ntmps195
  go_wp2
  go_loopw [5, 8] (fun _ i wr => ∃ d : Nat, d ≤ n ∧ i = .int .i64 d ∧ Below w.heap.size w wr ∧ Hid (∀ j, j < d → f j = none)) (fun _ i _ => n - (intOf i).toNat)
  case atStart => exact ⟨0, by omega, rfl, Below.refl _ _, fun j h => by omega⟩
  case round =>
    obtain ⟨d, hd, rfl, hb, ht⟩ := hrel
    have Hb := Lib.hid hb; clear hb
    by_cases hdn : d < n
    · have hdk : d < v.length := by rw [Hl.out]; exact hdn
      have HEr := Lib.hid (HE.out.below Hb.out)
      obtain ⟨bb, oo, rfl⟩ := HEr.out.some (by omega)
      obtain ⟨x, m, c, hq⟩ := HEr.out.fix hdn
      obtain ⟨q1, q2, q3, q4⟩ := hq _ (Below.refl _ _)
      have hlt := HE.out.lt _ (nthE_mem hdk)
      have hC := Lib.hid (vecCanonical1_any (nthE v d) x m c wr q4 (HD.out.below (Nat.le_refl _) Hb.out) hlt.max (by rw [← q4.len]; exact Hs.out _ (nthE_mem hdk)))
      have Hat := Lib.hid (Hf.out d)
      clear hq q4 hlt
      generalize nthE v d = e at *
      generalize canEB e = b at *
      obtain ⟨er, em, eh⟩ := e
      simp only at q1 q2 q3
      have h0 : (0 : Int) ≤ d := by omega
      have h04 : (d : Int) < (n : Int) := by omega
      cases b with
      | true =>
        have Hr := Lib.hid (firstS_step ht.out (Hat.out.trans (if_pos rfl)))
        go_wp2_with fail
        refine hC.out.mono ?_
        rintro e w1 ⟨rfl, hb1⟩
        have Hb1 := Lib.hid (Hb.out.trans (hb1.mono Hb.out.size)); clear hb1
        go_wp2
        go_roundw
        case rel => exact ⟨d + 1, by omega, by go_num, Hb1.out, Hr.out⟩
        case measure => simp [intOf]; omega
      | false =>
        have Hr := Lib.hid (firstS_some hdk ht.out (Hat.out.trans (if_neg (by simp))))
        go_wp2_with fail
        refine hC.out.mono ?_
        rintro e w1 ⟨rfl, hb1⟩
        have Hb1 := Lib.hid (Hb.out.trans (hb1.mono Hb.out.size)); clear hb1
        go_wp2
        go_ret
        exact ⟨by rw [Hr.out]; rfl, Hb1.out⟩
    · obtain rfl : d = n := by omega
      have Hr := Lib.hid (firstS_none (n := v.length) (fun j hj => ht.out j (by rw [← Hl.out]; exact hj)))
      go_wp2
      go_ret
      exact ⟨by rw [Hr.out]; rfl, Hb.out⟩

theorem containsCan_any (a : Option Addr) (n cap : Nat) (v : Vec) (w : World) (hE : Ents w a n cap v) (hD : Door w) (hs : ∀ e ∈ v, e.2.2.length ≤ 1000000) :
    Calls Tryz.prog 162 #[.slice a n cap, .func (.func 163) #[] #[]] w fun x w' =>
      x = .returned (.bool (!v.all canEB)) ∧ Below w.heap.size w w' := by
  have hC := Lib.hid (indexCan_any a n cap v w hE hD hs)
  clear hE hD hs
  cases h : firstS (fun i => if canEB (nthE v i) = true then none else some i) v.length with
  | none =>
    have hall : v.all canEB = true := by
      rw [List.all_eq_true]
      intro e he
      obtain ⟨i, hi, rfl⟩ := List.getElem_of_mem he
      have := firstS_of_none h i hi
      split at this
      · rename_i h2; rwa [nthE_get hi] at h2
      · cases this
    have Hall := Lib.hid hall
    rw [h] at hC
    simp only [intO] at hC
    clear h hall
    go_enter Tryz.func162, Tryz.ntmps162
    go_wp2_with fail
    refine hC.out.mono ?_
    rintro e w1 ⟨rfl, hb1⟩
    have Hb1 := Lib.hid hb1; clear hb1
    go_wp2
    go_ret
    exact ⟨by rw [Hall.out]; rfl, Hb1.out⟩
  | some i =>
    have hall : v.all canEB = false := by
      obtain ⟨j, hj, -, h3⟩ := firstS_of_some h
      rw [Bool.eq_false_iff]
      intro h2
      rw [List.all_eq_true] at h2
      rw [if_pos (h2 _ (nthE_mem hj))] at h3
      cases h3
    have Hall := Lib.hid hall
    rw [h] at hC
    simp only [intO] at hC
    have hd : decide ((0 : Int) ≤ (i : Int)) = true := by rw [decide_eq_true_iff]; omega
    clear h hall
    go_enter Tryz.func162, Tryz.ntmps162
    go_wp2_with fail
    refine hC.out.mono ?_
    rintro e w1 ⟨rfl, hb1⟩
    have Hb1 := Lib.hid hb1; clear hb1
    go_wp2
    go_ret
    exact ⟨by rw [Hall.out]; rfl, Hb1.out⟩

theorem vecCanonical_any (a : Option Addr) (n cap : Nat) (v : Vec) (w : World) (hE : Ents w a n cap v) (hD : Door w) (hs : ∀ e ∈ v, e.2.2.length ≤ 1000000) :
    Calls Tryz.prog 114 #[.slice a n cap] w fun x w' => x = .returned (.bool (canVB v)) ∧ Below w.heap.size w w' := by
  have hC := Lib.hid (vecCheck_any a n cap v w hE hD)
  have hN := Lib.hid (fun w' (h : Below w.heap.size w w') => containsCan_any a n cap v w' (hE.below h) (hD.below (Nat.le_refl _) h) hs)
  have Hcv := Lib.hid (show canVB v = (decide (ckV v = none) && v.all canEB) from rfl)
  clear hE hD hs
  generalize v.all canEB = b at *
  cases h : ckV v with
  | some x =>
    obtain ⟨cd, ci⟩ := x
    rw [h] at hC Hcv
    simp only [errOf, errVal] at hC
    have Hf := Lib.hid (show canVB v = false from by rw [Hcv.out]; rfl)
    clear h
    go_enter Tryz.func114, Tryz.ntmps114
    go_wp2_with fail
    refine hC.out.mono ?_
    rintro e w1 ⟨rfl, hb1⟩
    have Hb1 := Lib.hid hb1; clear hb1
    go_wp2
    go_ret
    exact ⟨by rw [Hf.out]; rfl, Hb1.out⟩
  | none =>
    rw [h] at hC Hcv
    simp only [errOf, errVal] at hC
    have Hf := Lib.hid (show canVB v = b from by rw [Hcv.out]; simp)
    clear h
    go_enter Tryz.func114, Tryz.ntmps114
    go_wp2_with fail
    refine hC.out.mono ?_
    rintro e w1 ⟨rfl, hb1⟩
    have Hb1 := Lib.hid hb1; clear hb1
    go_wp2_with fail
    refine (hN.out _ Hb1.out).mono ?_
    rintro e w2 ⟨rfl, hb2⟩
    have Hb2 := Lib.hid (Hb1.out.trans (hb2.mono Hb1.out.size)); clear hb2
    cases b <;> (go_wp2; go_ret; exact ⟨by rw [Hf.out]; rfl, Hb2.out⟩)

end Go.Proofs.YtkkdlgcfcbaibaaGreatDoor
end

section
namespace Go.Proofs.YtkkdlgcfcbaibaaGreatDoor
open Go.RowKit
set_option linter.unusedVariables false

theorem canFind1_any (x y : Option Addr) (m c m' c' bt t : Nat) (l : List Iv) (w : World) (hI : Ivs w x m c l) (hG : Good l) (hn : m ≤ 1000000) (hbt : w.heap[bt]? = some (.cells #[.int .u64 t] 24)) :
    Calls Tryz.prog 43 #[.agg #[.slice x m c, .slice y m' c'], .pointer (some ⟨bt, 0, none⟩)] w fun e w' => e = .returned (.bool (mem l t)) ∧ Below w.heap.size w w' := by
  have hal : Below w.heap.size w (w.alloc (.cells #[.slice x m c, .slice y m' c'] 39)) := (Below.refl w.heap.size w).alloc (Nat.le_refl _) _
  have hC := Lib.hid (has_any x m c t l _ (hI.below hal) hG hn)
  obtain ⟨q0, q1⟩ := box2 w (.slice x m c) (.slice y m' c') 39 _ (Below.refl _ _)
  have q2 := box_cell ((hal.block bt (Array.getElem?_eq_some_iff.1 hbt).1).trans hbt)
  have Hal := Lib.hid hal
  clear hI hG hal hbt
  generalize mem l t = b at *
  go_enter Tryz.func43, Tryz.ntmps43
  go_wp2_with fail
  refine hC.out.mono ?_
  rintro e w1 ⟨rfl, hb1⟩
  have Hb1 := Lib.hid hb1; clear hb1
  go_wp2
  go_ret
  exact ⟨rfl, Hal.out.trans (Hb1.out.mono Hal.out.size)⟩

set_option maxRecDepth 20000 in
set_option maxHeartbeats 2000000 in
theorem indexFind_any (a : Option Addr) (n cap bt t : Nat) (k : Kno) (w : World) (hE : Frags w a n cap k) (hG : ∀ f ∈ k, Good f.1 ∧ f.1.length ≤ 1000000) (hbt : w.heap[bt]? = some (.cells #[.int .u64 t] 24)) :
    Calls Tryz.prog 42 #[.slice a n cap, .func (.func 43) #[] #[.pointer (some ⟨bt, 0, none⟩)]] w fun x w' =>
      x = .returned (.int .i64 (intO (firstS (fun i => if mem (nthF k i).1 t = true then some i else none) k.length))) ∧ Below w.heap.size w w' := by
  have HE := Lib.hid hE; have HG := Lib.hid hG
  have Hl := Lib.hid hE.len
  have hm : n ≤ 9223372036854775807 := Nat.le_trans hE.room hE.most
  obtain ⟨f, hf⟩ : ∃ f : Nat → Option Nat, f = fun i => if mem (nthF k i).1 t = true then some i else none := ⟨_, rfl⟩
  rw [← hf]
  have Hf := Lib.hid (show ∀ i, f i = if mem (nthF k i).1 t = true then some i else none from fun i => by rw [hf])
  have Hbt := Lib.hid (fun w' (h : Below w.heap.size w w') => (h.block bt (Array.getElem?_eq_some_iff.1 hbt).1).trans hbt)
  clear hE hG hf hbt
  go_enter Tryz.func42, Tryz.ntmps42
  go_wp2
  go_loopw [5, 8] (fun _ i wr => ∃ d : Nat, d ≤ n ∧ i = .int .i64 d ∧ Below w.heap.size w wr ∧ Hid (∀ j, j < d → f j = none)) (fun _ i _ => n - (intOf i).toNat)
  case atStart => exact ⟨0, by omega, rfl, Below.refl _ _, fun j h => by omega⟩
  case round =>
    obtain ⟨d, hd, rfl, hb, ht⟩ := hrel
    have Hb := Lib.hid hb; clear hb
    by_cases hdn : d < n
    · have hdk : d < k.length := by rw [Hl.out]; exact hdn
      have HEr := Lib.hid (HE.out.below Hb.out)
      obtain ⟨bb, oo, rfl⟩ := HEr.out.some (by omega)
      obtain ⟨x, m, c, y, m', c', hq⟩ := HEr.out.fix hdn
      have Hat := Lib.hid (Hf.out d)
      obtain ⟨q1, hI, q2, -⟩ := hq _ (Below.refl _ _)
      have hgd := HG.out _ (nthF_mem hdk)
      have hC := Lib.hid (canFind1_any x y m c m' c' bt t (nthF k d).1 wr hI hgd.1 (by rw [← hI.len]; exact hgd.2) (Hbt.out _ Hb.out))
      clear hq hI hgd
      generalize nthF k d = e at *
      generalize mem e.1 t = b at *
      have h0 : (0 : Int) ≤ d := by omega
      have h04 : (d : Int) < (n : Int) := by omega
      cases b with
      | false =>
        have Hr := Lib.hid (firstS_step ht.out (Hat.out.trans (if_neg (by simp))))
        go_wp2_with fail
        refine hC.out.mono ?_
        rintro e w1 ⟨rfl, hb1⟩
        have Hb1 := Lib.hid (Hb.out.trans (hb1.mono Hb.out.size)); clear hb1
        go_wp2
        go_roundw
        case rel => exact ⟨d + 1, by omega, by go_num, Hb1.out, Hr.out⟩
        case measure => simp [intOf]; omega
      | true =>
        have Hr := Lib.hid (firstS_some hdk ht.out (Hat.out.trans (if_pos rfl)))
        go_wp2_with fail
        refine hC.out.mono ?_
        rintro e w1 ⟨rfl, hb1⟩
        have Hb1 := Lib.hid (Hb.out.trans (hb1.mono Hb.out.size)); clear hb1
        go_wp2
        go_ret
        exact ⟨by rw [Hr.out]; rfl, Hb1.out⟩
    · obtain rfl : d = n := by omega
      have Hr := Lib.hid (firstS_none (n := k.length) (fun j hj => ht.out j (by rw [← Hl.out]; exact hj)))
      go_wp2
      go_ret
      exact ⟨by rw [Hr.out]; rfl, Hb.out⟩

theorem canFind_any (a : Option Addr) (n cap t : Nat) (k : Kno) (w : World) (hE : Frags w a n cap k) (hG : ∀ f ∈ k, Good f.1 ∧ f.1.length ≤ 1000000) :
    Calls Tryz.prog 16 #[.slice a n cap, .int .u64 t] w fun x w' =>
      x = .returned (.int .i64 (intO (firstS (fun i => if mem (nthF k i).1 t = true then some i else none) k.length))) ∧ Below w.heap.size w w' := by
  have hal : Below w.heap.size w (w.alloc (.cells #[.int .u64 t] 24)) := (Below.refl w.heap.size w).alloc (Nat.le_refl _) _
  have hC := Lib.hid (indexFind_any a n cap w.heap.size t k _ (hE.below hal) hG (row_new rfl))
  have Hal := Lib.hid hal
  clear hE hG hal
  generalize intO (firstS (fun i => if mem (nthF k i).1 t = true then some i else none) k.length) = z at *
  go_enter Tryz.func16, Tryz.ntmps16
  go_wp2_with fail
  refine hC.out.mono ?_
  rintro e w1 ⟨rfl, hb1⟩
  have Hb1 := Lib.hid hb1; clear hb1
  go_wp2
  go_ret
  exact ⟨rfl, Hal.out.trans (Hb1.out.mono Hal.out.size)⟩

end Go.Proofs.YtkkdlgcfcbaibaaGreatDoor
end

section
namespace Go.Proofs.YtkkdlgcfcbaibaaGreatDoor
open Go.RowKit
set_option linter.unusedVariables false

theorem insNil_any (f : Value) (w : World) : Calls Tryz.prog 121 #[.slice none 0 0, .int .i64 0, .int .i64 0, f] w fun e w' => e = .returned (.tuple #[]) ∧ w' = w := by
  go_enter Tryz.func121, Tryz.ntmps121
  go_wp2
  go_loopw [8, 9] (fun i _ wr => i = .int .i64 1 ∧ wr = w) (fun _ _ _ => 0)
  case atStart => exact ⟨rfl, rfl⟩
  case round =>
    obtain ⟨rfl, rfl⟩ := hrel
    go_wp2
    go_end0
    exact ⟨rfl, rfl⟩

theorem pdqNil_any (f l : Value) (w : World) : Calls Tryz.prog 72 #[.slice none 0 0, .int .i64 0, .int .i64 0, l, f] w fun e w' => e = .returned (.tuple #[]) ∧ w' = w := by
  go_enter Tryz.func72, Tryz.ntmps72
  go_wp2
  go_loopw [1, 2, 3, 10, 11, 12, 13, 14, 15, 16, 17, 18, 19, 20] (fun a b _ _ _ _ _ _ _ _ _ _ _ _ wr => a = .int .i64 0 ∧ b = .int .i64 0 ∧ wr = w) (fun _ _ _ _ _ _ _ _ _ _ _ _ _ _ _ => 0)
  case atStart => exact ⟨rfl, rfl, rfl⟩
  case round =>
    obtain ⟨rfl, rfl, rfl⟩ := hrel
    go_wp2_with (go_at_call 121; refine (insNil_any _ _).mono ?_; rintro e w' ⟨rfl, rfl⟩)
    exact bodyPost_ret (results_none rfl _ _ _) rfl ⟨rfl, rfl⟩

set_option maxHeartbeats 1000000 in
theorem sortNil_any (w : World) : Calls Tryz.prog 39 #[.slice none 0 0, .func (.func 40) #[] #[]] w fun e w' => e = .returned (.tuple #[]) ∧ w' = w := by
  have Hl := Lib.hid (fun w => Tryz.bits_Len (0 : Int) w (by omega) (by omega))
  have wr : IntKind.u64.wrap (0 : Int) = 0 := rfl
  go_enter Tryz.func39, Tryz.ntmps39
  go_wp2_with (first | (go_at_call 73; refine (Hl.out _).mono ?_; rintro e w' ⟨rfl, rfl⟩) | (go_at_call 72; refine (pdqNil_any _ _ _).mono ?_; rintro e w' ⟨rfl, rfl⟩))
  go_end0
  exact ⟨rfl, rfl⟩

theorem made_zero (n : Nat) : (madeCells (Value.int .i64 0).cells (n * 1)).toList = i64C (List.replicate n 0) := by
  apply List.ext_getElem?
  intro i
  by_cases h : i < n
  · simp [madeCells, i64C, Value.cells, h, Nat.mod_one]
  · simp [madeCells, i64C, h]

theorem run_make_int (w : World) (base n : Nat) (hn : n ≤ 1000000) (hb : base ≤ w.heap.size) :
    ∃ w', (Instr.makeSlice 29 (.int .i64 (n : Int)) (.int .i64 (n : Int))).run Tryz.prog w = .ok (.slice (some ⟨w.heap.size, 0, none⟩) n n) w' ∧ w'.ownsRow base 3 1 (.slice (some ⟨w.heap.size, 0, none⟩) n n) n (i64C (List.replicate n 0)) ∧ Below w.heap.size w w' := by
  obtain ⟨i, hi, hz⟩ := Option.map_eq_some_iff.1 Tryz.info_int
  simp only [Prod.mk.injEq] at hz
  obtain ⟨h1, h2, h3⟩ := hz
  obtain ⟨w', hr, ho, hg⟩ := run_make_full (P := Tryz.prog) w base 29 3 i _ 1 Tryz.underlying29 hi h1 h2 .i64 .i64 n (by rw [h3]; omega) (by unfold maxLen; omega) hb
  rw [made_zero] at ho
  exact ⟨w', hr, ho, (Below.refl _ _).grown hg (Nat.le_refl _) (by intro k h; cases h)⟩

theorem ivs_recap {w : World} {g n c : Nat} {l : List Iv} (h : Ivs w (some ⟨g, 0, none⟩) n n l) (h1 : n ≤ c) (h2 : c ≤ maxLen) : Ivs w (some ⟨g, 0, none⟩) n c l :=
  ⟨h.len, h.lt, h1, by unfold maxLen at h2; omega, (fun e => by cases e), h.cells⟩

theorem ivs_kept {w w' : World} {p : Nat → Prop} {g n c : Nat} {l : List Iv} (h : Ivs w (some ⟨g, 0, none⟩) n c l) (hk : Kept p w w') (hg : p g) : Ivs w' (some ⟨g, 0, none⟩) n c l := by
  refine ⟨h.len, h.lt, h.room, h.most, h.nilc, fun hn => ?_⟩
  obtain ⟨b, o, e, hc⟩ := h.cells hn
  cases e
  exact ⟨g, 0, rfl, fun i hi => ⟨hk.cell (hc i hi).1 hg, hk.cell (hc i hi).2 hg⟩⟩

/-! The intervals of knowledge, and where they belong. -/
def flatK (k : Kno) : List Iv := k.flatMap (·.1)
theorem flatK_succ {k : Kno} {d : Nat} (h : d < k.length) : flatK (k.take (d + 1)) = flatK (k.take d) ++ (nthF k d).1 := by
  unfold flatK
  rw [List.take_succ_eq_append_getElem h, List.flatMap_append, nthF_get h]
  simp
theorem flatK_len (k : Kno) : (flatK k).length = isum k := by
  induction k with
  | nil => rfl
  | cons f k ih => unfold flatK at ih ⊢; rw [List.flatMap_cons, List.length_append, ih, isum]
theorem flatK_take (k : Kno) (d : Nat) : (flatK (k.take d)).length ≤ isum k := by rw [flatK_len]; exact isum_take k d
theorem flatK_mem {k : Kno} {s : Iv} : s ∈ flatK k ↔ ∃ f ∈ k, s ∈ f.1 := by unfold flatK; exact List.mem_flatMap

def posK (k : Kno) (x : Nat) : Nat := (firstS (fun i => if mem (nthF k i).1 x = true then some i else none) k.length).getD 0
theorem posK_int {k : Kno} {x : Nat} (h : ∃ f ∈ k, mem f.1 x = true) : intO (firstS (fun i => if mem (nthF k i).1 x = true then some i else none) k.length) = ((posK k x : Nat) : Int) := by
  unfold posK
  cases hf : firstS (fun i => if mem (nthF k i).1 x = true then some i else none) k.length with
  | some i => rfl
  | none =>
    obtain ⟨f, hf', hm⟩ := h
    obtain ⟨i, hi, rfl⟩ := List.getElem_of_mem hf'
    have := firstS_of_none hf i hi
    rw [nthF_get hi, if_pos hm] at this
    cases this

end Go.Proofs.YtkkdlgcfcbaibaaGreatDoor
end

section
namespace Go.Proofs.YtkkdlgcfcbaibaaGreatDoor
open Go.RowKit
set_option linter.unusedVariables false

theorem segSort_any (base : Nat) (v : Value) (l : List Iv) (w : World) (ho : w.ownsRow base 73 2 v l.length (ivC l)) (hl : ∀ s ∈ l, s.1 < 18446744073709551616 ∧ s.2 < 18446744073709551616) (hn : l.length ≤ 100000) (hb : base ≤ w.heap.size) :
    Calls Tryz.prog 39 #[v, .func (.func 40) #[] #[]] w fun e w' => e = .returned (.tuple #[]) ∧ (∃ l' a c, v = .slice a l.length c ∧ l'.Perm l ∧ AscLo l' ∧ Ivs w' a l.length c l' ∧ ∀ p, a = some p → p.off = 0 ∧ p.block < w'.heap.size) ∧ Below base w w' := by
  rcases ho.2 with ⟨rfl, h0⟩ | ⟨g, cap, cur, rfl, hg, hr, hnc, hcm, hcs, htake⟩
  · have : l = [] := List.length_eq_zero_iff.1 h0
    subst this
    refine (sortNil_any w).mono ?_
    rintro e w' ⟨rfl, rfl⟩
    exact ⟨rfl, ⟨[], none, 0, rfl, List.Perm.refl _, (fun i j h1 h2 => by simp at h2), ivs_nil _, fun p h => by cases h⟩, Below.refl _ _⟩
  · have hgl : g < w.heap.size := (Array.getElem?_eq_some_iff.1 hr).1
    refine (sortIv_any g l.length cap l w rfl (holds_own ho) hgl hn).mono ?_
    rintro e w3 ⟨rfl, l', mm, os, hpm, hal, hw3⟩
    have hs' : l'.toArray.size = l.toArray.size := by simpa using hpm.length_eq
    have hl' : ∀ s ∈ l', s.1 < 18446744073709551616 ∧ s.2 < 18446744073709551616 := fun s hs => hl s (hpm.mem_iff.1 hs)
    have hI3 := sorted_cells (m := mm) os (holds_own ho) hs' hgl (by simpa using hl') (show l.toArray.size = l.length by simp) (by omega)
    have hb3 := below_sorted (n := mm) l'.toArray os (base := base) (g := g) (w := w) hg hb
    rw [← hw3] at hI3 hb3
    refine ⟨rfl, ⟨l', _, _, rfl, hpm, hal, ivs_recap (by simpa using hI3) hnc hcm, fun p h => ?_⟩, hb3⟩
    cases h
    exact ⟨rfl, Nat.lt_of_lt_of_le hgl hb3.size⟩

def idxTo (k : Kno) (l : List Iv) (j : Nat) : List Nat := (l.take j).map (fun s => posK k s.1) ++ List.replicate (l.length - j) 0
theorem idxTo_zero (k : Kno) (l : List Iv) : idxTo k l 0 = List.replicate l.length 0 := by simp [idxTo]
theorem idxTo_all (k : Kno) (l : List Iv) : idxTo k l l.length = l.map (fun s => posK k s.1) := by simp [idxTo]
theorem idxTo_len (k : Kno) (l : List Iv) {j : Nat} (h : j ≤ l.length) : (idxTo k l j).length = l.length := by simp [idxTo]; omega
theorem idxTo_set (k : Kno) {l : List Iv} {j : Nat} (h : j < l.length) : (i64C (idxTo k l j)).set j (.int .i64 ((posK k (nthI l j).1 : Nat) : Int)) = i64C (idxTo k l (j + 1)) := by
  unfold idxTo
  have hl : (((l.take j).map fun s => posK k s.1)).length = j := by simp; omega
  obtain ⟨m, hm⟩ : ∃ m, l.length - j = m + 1 := ⟨l.length - j - 1, by omega⟩
  have hm' : l.length - (j + 1) = m := by omega
  rw [hm, hm', List.replicate_succ, i64C_append, i64C_append, List.set_append_right _ _ (by rw [i64C_length, hl]; exact Nat.le_refl _), i64C_length, hl, Nat.sub_self, List.take_succ_eq_append_getElem h, List.map_append, i64C_append, nthI_get h, List.append_assoc]
  rfl

/-- What Segments answers. -/
def SegRes (k : Kno) (base : Nat) (x : Ending) (w' : World) : Prop := ∃ l' a c gi, x = .returned (.tuple #[.slice a l'.length c, .slice (some ⟨gi, 0, none⟩) l'.length l'.length]) ∧ l'.Perm (flatK k) ∧ AscLo l' ∧ Ivs w' a l'.length c l' ∧
  w'.ownsRow base 3 1 (.slice (some ⟨gi, 0, none⟩) l'.length l'.length) l'.length (i64C (l'.map fun s => posK k s.1))

set_option maxRecDepth 20000 in
set_option maxHeartbeats 4000000 in
theorem segments_any (a : Option Addr) (n cap : Nat) (k : Kno) (w : World) (hE : Frags w a n cap k) (hG : ∀ f ∈ k, Good f.1) (hS : isum k ≤ 10000) :
    Calls Tryz.prog 12 #[.slice a n cap] w fun x w' => SegRes k w.heap.size x w' ∧ Below w.heap.size w w' := by
  have HE := Lib.hid hE
  have Hl := Lib.hid hE.len
  have hm : n ≤ 9223372036854775807 := Nat.le_trans hE.room hE.most
  have HS := Lib.hid (fun d => Nat.le_trans (flatK_take k d) hS)
  have Hlt := Lib.hid (show ∀ s ∈ flatK k, s.1 < 18446744073709551616 ∧ s.2 < 18446744073709551616 from fun s hs => by
    obtain ⟨f, hf, h⟩ := flatK_mem.1 hs
    exact (hE.all f hf).1 s h)
  have Hin := Lib.hid (show ∀ s ∈ flatK k, ∃ f ∈ k, mem f.1 s.1 = true from fun s hs => by
    obtain ⟨f, hf, h⟩ := flatK_mem.1 hs
    exact ⟨f, hf, (good_start (hG f hf) h).1⟩)
  have HGL := Lib.hid (show ∀ f ∈ k, Good f.1 ∧ f.1.length ≤ 1000000 from fun f hf => ⟨hG f hf, by have := isum_mem hf; omega⟩)
  have Hall := Lib.hid (show flatK (k.take n) = flatK k from by rw [← hE.len, List.take_length])
  have Hone := Lib.hid (fun f (hf : f ∈ k) => Nat.le_trans (isum_mem hf) hS)
  clear hE hG hS
  go_enter Tryz.func12, Tryz.ntmps12
  go_wp2
  go_loopw [4, 6, 12] (fun v _ i wr => ∃ d : Nat, d ≤ n ∧ i = .int .i64 d ∧ Below w.heap.size w wr ∧ Hid (wr.ownsRow w.heap.size 73 2 v (flatK (k.take d)).length (ivC (flatK (k.take d))))) (fun _ _ i _ => n - (intOf i).toNat)
  case atStart => exact ⟨0, by omega, rfl, Below.refl _ _, World.ownsRow_nil _ _ _ _⟩
  case round =>
    obtain ⟨d, hd, rfl, hb, ho⟩ := hrel
    have Hb := Lib.hid hb; clear hb
    by_cases hdn : d < n
    · have hdk : d < k.length := by rw [Hl.out]; exact hdn
      obtain ⟨bb, oo, rfl⟩ := HE.out.some (by omega)
      obtain ⟨x, m, c, y, m', c', hq⟩ := HE.out.fix hdn
      obtain ⟨q1, q2, q3, q4⟩ := hq wr Hb.out
      have Hst := Lib.hid (flatK_succ hdk)
      have HSd := Lib.hid (HS.out d)
      have Hfl := Lib.hid (Hone.out _ (nthF_mem hdk))
      have Hlen := Lib.hid (show (flatK (k.take (d + 1))).length = (flatK (k.take d)).length + m from by rw [flatK_succ hdk, List.length_append, q2.len])
      have hal : Below wr.heap.size wr (wr.alloc (.cells #[.slice x m c, .slice y m' c'] 39)) := (Below.refl _ _).alloc (Nat.le_refl _) _
      have HIa := Lib.hid (q2.below hal).rd
      have Hml := Lib.hid q2.len
      have HoA := Lib.hid (own_below ho.out hal)
      have Hal := Lib.hid hal
      have h0 : (0 : Int) ≤ d := by omega
      have h04 : (d : Int) < (n : Int) := by omega
      clear hq q2 q4 hal
      generalize flatK (k.take d) = F at *
      generalize (nthF k d).1 = fi at *
      go_wp2_with (at_builtin; refine wpList_append_ivs rfl (.tmp 16) (.tmp 18) rfl rfl w.heap.size _ F.length F rfl HoA.out x m c fi rfl HIa.out (by have := HSd.out; have := Hfl.out; have := Hml.out; omega) (by have := Hb.out.size; have := Hal.out.size; omega) ?_; intro v' w7 ho7 hg7)
      have Hb7 := Lib.hid (Below.grown (Hb.out.trans (Hal.out.mono Hb.out.size)) hg7 (by have := Hb.out.size; have := Hal.out.size; omega) (fun j hj => (HoA.out.lt j hj).1))
      go_roundw
      case rel => exact ⟨d + 1, by omega, by go_num, Hb7.out, by rw [Hlen.out, Hst.out]; exact ho7⟩
      case measure => simp [intOf]; omega
    · obtain rfl : d = n := by omega
      have hoF := ho.out
      clear ho
      rw [Hall.out] at hoF
      have HC := Lib.hid (segSort_any w.heap.size _ (flatK k) wr hoF Hlt.out (by have := HS.out d; rw [Hall.out] at this; omega) Hb.out.size)
      have HN := Lib.hid (show (flatK k).length ≤ 10000 from by have := HS.out d; rwa [Hall.out] at this)
      clear hoF
      go_wp2_with fail
      refine HC.out.mono ?_
      rintro e w3 ⟨rfl, ⟨l', a', c', rfl, hpm, hasc, hI3, ha3⟩, hb3⟩
      have Hb3 := Lib.hid (Hb.out.trans hb3)
      have Hpm := Lib.hid hpm; have Hasc := Lib.hid hasc
      obtain ⟨N, hN⟩ : ∃ N, N = (flatK k).length := ⟨_, rfl⟩
      have hlN : l'.length = N := by rw [hN]; exact hpm.length_eq
      rw [← hN] at hI3 HN ⊢
      have hN2 : N ≤ 10000 := HN.out
      obtain ⟨w4, hr4, ho4, hb4⟩ := run_make_int w3 w.heap.size N (by omega) Hb3.out.size
      obtain ⟨gi, hgi⟩ : ∃ gi, gi = w3.heap.size := ⟨_, rfl⟩
      rw [← hgi] at hr4 ho4
      have Hb4 := Lib.hid (Hb3.out.trans (hb4.mono Hb3.out.size))
      have HI4 := Lib.hid (hI3.below hb4)
      have Ho4 := Lib.hid (show w4.ownsRow w.heap.size 3 1 (.slice (some ⟨gi, 0, none⟩) N N) N (i64C (idxTo k l' 0)) from by rw [idxTo_zero, hlN]; exact ho4)
      have HNl := Lib.hid hlN
      have hgi0 : w.heap.size ≤ gi := by rw [hgi]; exact Hb3.out.size
      have Ha3 := Lib.hid (show ∀ p, a' = some p → p.off = 0 ∧ p.block < gi from by rw [hgi]; exact ha3)
      clear hpm hasc hI3 hN hlN ho4 hb4 hgi hb3 HC ha3
      go_wp2
      clear hr4
      go_loopw [8, 9, 28] (fun _ _ i wq => ∃ j : Nat, j ≤ N ∧ i = .int .i64 j ∧ Kept (fun b => b ≠ gi) w4 wq ∧ Hid (wq.ownsRow w.heap.size 3 1 (.slice (some ⟨gi, 0, none⟩) N N) N (i64C (idxTo k l' j)))) (fun _ _ i _ => N - (intOf i).toNat)
      case atStart => exact ⟨0, by omega, rfl, Kept.refl _ _, Ho4⟩
      case round =>
        obtain ⟨j, hj, rfl, hk, ho⟩ := hrel
        have Hk := Lib.hid hk; clear hk
        by_cases hjN : j < N
        · obtain ⟨bS, oS, rfl, hcS⟩ := HI4.out.cells (by omega)
          obtain ⟨rfl, hbg⟩ := Ha3.out _ rfl
          have HIr := ivs_kept HI4.out Hk.out (by simp only at hbg ⊢; omega)
          obtain ⟨_, _, e, hcS⟩ := HIr.cells (by omega)
          cases e
          obtain ⟨q1, q2⟩ := hcS j hjN
          have hjl : j < l'.length := by rw [HNl.out]; exact hjN
          have hmem := Hpm.out.mem_iff.1 (nthI_mem hjl)
          have hpos := posK_int (Hin.out _ hmem)
          have Hset := Lib.hid (idxTo_set k hjl)
          have Hlj := Lib.hid (idxTo_len k l' (Nat.le_of_lt hjl))
          have hbw : Below w.heap.size w wr := Hb4.out.trans (Hk.out.toBelow (fun b hb => by omega) Hb4.out.size)
          have Hbw := Lib.hid hbw
          have hal : Below wr.heap.size wr (wr.alloc (.cells #[.int .u64 ((nthI l' j).1 : Nat), .int .u64 ((nthI l' j).2 : Nat)] 73)) := (Below.refl _ _).alloc (Nat.le_refl _) _
          have hF := canFind_any a d cap (nthI l' j).1 k _ (HE.out.below (hbw.trans (hal.mono hbw.size))) HGL.out
          rw [hpos] at hF
          have HF := Lib.hid hF
          have Hal := Lib.hid hal
          have h0 : (0 : Int) ≤ j := by omega
          have h04 : (j : Int) < (N : Int) := by omega
          generalize posK k (nthI l' j).1 = P at *
          generalize nthI l' j = s at *
          obtain ⟨sx, sy⟩ := s
          simp only at q1 q2 HF Hal
          rw [Nat.zero_add] at q1 q2
          clear hcS HIr hmem hpos hbw hal hF
          go_wp2_with fail
          refine HF.out.mono ?_
          rintro e w6 ⟨rfl, hb6⟩
          have Hb6 := Lib.hid (Hal.out.trans (hb6.mono Hal.out.size))
          have Ho6 := Lib.hid (own_below ho.out Hb6.out)
          have z1 := own_frozen Ho6.out j
          have z2 := Ho6.out.cells (g := gi) rfl j _ (i64C_get _ j (by rw [Hlj.out]; exact hjl))
          rw [add_at, Nat.zero_add] at z2
          clear hb6 q1 q2 hjl
          go_wp2
          go_roundw
          case rel => exact ⟨j + 1, by omega, by go_num, (Hk.out.below Hb6.out).setCell (fun _ h => h rfl) _, by rw [← Hset.out]; exact (Ho6.out.stored j _).1⟩
          case measure => simp [intOf]; omega
        · obtain rfl : j = N := by omega
          have HoE := Lib.hid (show wr.ownsRow w.heap.size 3 1 (.slice (some ⟨gi, 0, none⟩) l'.length l'.length) l'.length (i64C (l'.map fun s => posK k s.1)) from by rw [← idxTo_all, HNl.out]; exact ho.out)
          have HbE := Lib.hid (Hb4.out.trans (Hk.out.toBelow (fun b hb => by omega) Hb4.out.size))
          have HIE := Lib.hid (show Ivs wr a' l'.length c' l' from by
            rw [HNl.out]
            rcases Nat.eq_zero_or_pos j with h | h
            · exact ⟨HI4.out.len, HI4.out.lt, HI4.out.room, HI4.out.most, HI4.out.nilc, fun h' => by omega⟩
            · obtain ⟨bS, oS, rfl, -⟩ := HI4.out.cells h
              obtain ⟨rfl, hbg⟩ := Ha3.out _ rfl
              exact ivs_kept HI4.out Hk.out (by simp only at hbg ⊢; omega))
          have HNE := Lib.hid HNl.out.symm
          go_wp2
          go_ret2
          exact ⟨⟨l', a', c', gi, by rw [HNl.out]; rfl, Hpm.out, Hasc.out, HIE.out, HoE.out⟩, HbE.out⟩

end Go.Proofs.YtkkdlgcfcbaibaaGreatDoor
end
