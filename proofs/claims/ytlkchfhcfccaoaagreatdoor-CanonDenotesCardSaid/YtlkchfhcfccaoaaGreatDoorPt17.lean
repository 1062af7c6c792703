/- Walks and laws, merged: part 17. -/
import Derived.Laws.StructEq
import Derived.Deep.QuietTactic
import Derived.Test.YtlkchfhcfccaoaaGreatDoorPt15
import Derived.Test.YtlkchfhcfccaoaaGreatDoorPt16
import Derived.Test.YtlkchfhcfccaoaaGreatDoorPt04
import Derived.Test.YtlkchfhcfccaoaaGreatDoorPt05
import Derived.Test.YtlkchfhcfccaoaaGreatDoorPt03
section
namespace Go.Proofs.YtlkchfhcfccaoaaGreatDoor
set_option linter.unusedVariables false

def ckHole (e : Ent) (i : Nat) : Option (Nat × Nat) := if e.2.1 < (nthI e.2.2 i).2 then some (4, i) else none
def ckE (e : Ent) : Option (Nat × Nat) := match ck e.2.2 with | some x => some x | none => firstS (ckHole e) e.2.2.length
def ckVAt (v : Vec) (i : Nat) : Option (Nat × Nat) := match ckE (nthE v i) with | some x => some (x.1, i) | none => if 0 < i ∧ (nthE v i).1 ≤ (nthE v (i - 1)).1 then some (3, i) else none
def ckV (v : Vec) : Option (Nat × Nat) := firstS (ckVAt v) v.length
def ckFAt (k : Kno) (i : Nat) : Option (Nat × Nat) := match ck (nthF k i).1 with | some x => some (x.1, i) | none => match ckV (nthF k i).2 with | some x => some (x.1, i) | none => none
def ckF (k : Kno) : Option (Nat × Nat) := firstS (ckFAt k) k.length

/-- The code of the first check that fails; 0: none. -/
def codeO (o : Option (Nat × Nat)) : Nat := match o with | some x => x.1 | none => 0

theorem ck_code {l : List Iv} {x : Nat × Nat} (h : ck l = some x) : x.1 ≠ 0 := by
  obtain ⟨k, -, -, h3⟩ := firstS_of_some h
  unfold ckAt at h3
  split at h3
  · cases h3; simp
  · split at h3 <;> cases h3; simp

theorem ckE_code {e : Ent} {x : Nat × Nat} (h : ckE e = some x) : x.1 ≠ 0 := by
  unfold ckE at h
  split at h
  · rename_i y hy; cases h; exact ck_code hy
  · obtain ⟨k, -, -, h3⟩ := firstS_of_some h
    unfold ckHole at h3
    split at h3 <;> cases h3; simp

theorem ckV_code {v : Vec} {x : Nat × Nat} (h : ckV v = some x) : x.1 ≠ 0 := by
  obtain ⟨k, -, -, h3⟩ := firstS_of_some h
  unfold ckVAt at h3
  split at h3
  · rename_i y hy; cases h3; have := ckE_code hy; exact this
  · split at h3 <;> cases h3; simp

theorem ckF_code {k : Kno} {x : Nat × Nat} (h : ckF k = some x) : x.1 ≠ 0 := by
  obtain ⟨i, -, -, h3⟩ := firstS_of_some h
  unfold ckFAt at h3
  split at h3
  · rename_i y hy; cases h3; have := ck_code hy; exact this
  · split at h3
    · rename_i y hy; cases h3; have := ckV_code hy; exact this
    · cases h3

theorem ckE_none {e : Ent} : ckE e = none ↔ Good e.2.2 ∧ ∀ s ∈ e.2.2, s.2 ≤ e.2.1 := by
  unfold ckE
  cases h : ck e.2.2 with
  | some x =>
    simp only [reduceCtorEq, false_iff]
    intro h2
    rw [ck_good.2 h2.1] at h; cases h
  | none =>
    simp only
    constructor
    · intro h2
      refine ⟨ck_good.1 h, fun s hs => ?_⟩
      obtain ⟨i, hi, rfl⟩ := List.getElem_of_mem hs
      have := firstS_of_none h2 i hi
      unfold ckHole at this
      split at this
      · cases this
      · rename_i h3; rw [nthI_get hi] at h3; omega
    · rintro ⟨-, h2⟩
      refine firstS_none fun i hi => ?_
      unfold ckHole
      rw [if_neg]
      have := h2 _ (nthI_mem hi)
      omega

theorem ckV_none {v : Vec} : ckV v = none ↔ v.Pairwise RepLt ∧ ∀ e ∈ v, ckE e = none := by
  constructor
  · intro h
    have hi := firstS_of_none h
    have h1 : ∀ i, i < v.length → ckE (nthE v i) = none ∧ (0 < i → (nthE v (i - 1)).1 < (nthE v i).1) := fun i hi' => by
      have := hi i hi'
      unfold ckVAt at this
      split at this
      · cases this
      · rename_i h2
        refine ⟨h2, fun h0 => ?_⟩
        split at this
        · cases this
        · omega
    refine ⟨?_, fun e he => ?_⟩
    · rw [List.pairwise_iff_getElem]
      intro i j hi' hj hij
      unfold RepLt
      have step : ∀ d, i + d + 1 < v.length → (nthE v i).1 < (nthE v (i + d + 1)).1 := by
        intro d
        induction d with
        | zero => intro hd; have := (h1 (i + 1) hd).2 (by omega); simpa using this
        | succ d ih =>
          intro hd
          have a := ih (by omega)
          have b := (h1 (i + (d + 1) + 1) hd).2 (by omega)
          rw [show i + (d + 1) + 1 - 1 = i + d + 1 by omega] at b
          omega
      have := step (j - i - 1) (by omega)
      rw [show i + (j - i - 1) + 1 = j by omega, nthE_get hi', nthE_get hj] at this
      exact this
    · obtain ⟨i, hi', rfl⟩ := List.getElem_of_mem he
      have := (h1 i hi').1
      rwa [nthE_get hi'] at this
  · rintro ⟨h1, h2⟩
    refine firstS_none fun i hi => ?_
    unfold ckVAt
    rw [h2 _ (nthE_mem hi)]
    simp only
    rw [if_neg]
    rintro ⟨h0, h3⟩
    rw [List.pairwise_iff_getElem] at h1
    have := h1 (i - 1) i (by omega) hi (by omega)
    unfold RepLt at this
    rw [nthE_get hi, nthE_get (show i - 1 < v.length by omega)] at h3
    omega

theorem ckF_none {k : Kno} : ckF k = none ↔ ∀ f ∈ k, Good f.1 ∧ ckV f.2 = none := by
  constructor
  · intro h f hf
    obtain ⟨i, hi, rfl⟩ := List.getElem_of_mem hf
    have := firstS_of_none h i hi
    unfold ckFAt at this
    rw [nthF_get hi] at this
    split at this
    · cases this
    · rename_i h1
      split at this
      · cases this
      · rename_i h2; exact ⟨ck_good.1 h1, h2⟩
  · intro h
    refine firstS_none fun i hi => ?_
    have := h _ (nthF_mem hi)
    unfold ckFAt
    rw [ck_good.2 this.1, this.2]

/-- Is an entry canonical? -/
def canEB (e : Ent) : Bool := decide (ckE e = none) && !mem e.2.2 e.2.1
theorem canEB_iff {e : Ent} : canEB e = true ↔ CanE e := by
  unfold canEB
  rw [Bool.and_eq_true, decide_eq_true_iff, ckE_none, Bool.not_eq_true']
  constructor
  · rintro ⟨⟨h1, h2⟩, h3⟩; exact ⟨h1, h2, h3⟩
  · rintro ⟨h1, h2, h3⟩; exact ⟨⟨h1, h2⟩, h3⟩

def canVB (v : Vec) : Bool := decide (ckV v = none) && v.all canEB
theorem canVB_iff {v : Vec} : canVB v = true ↔ CanV v := by
  unfold canVB
  rw [Bool.and_eq_true, decide_eq_true_iff, ckV_none, List.all_eq_true]
  constructor
  · rintro ⟨⟨h1, h2⟩, h3⟩; exact ⟨h1, fun e he => canEB_iff.1 (h3 e he)⟩
  · rintro ⟨h1, h2⟩; exact ⟨⟨h1, fun e he => ckE_none.2 ⟨(h2 e he).good, (h2 e he).below⟩⟩, fun e he => canEB_iff.2 (h2 e he)⟩

/-- The code of what is wrong with a fragment of correct knowledge; 0: nothing. -/
def wrongK (k : Kno) (i : Nat) : Nat :=
  if (nthF k i).1 = [] ∨ (nthF k i).2 = [] then 9
  else if canVB (nthF k i).2 = false then 10
  else if ((List.range i).any fun j => decide (opL gAnd (nthF k i).1 (nthF k j).1 ≠ [])) = true then 10
  else if 0 < i ∧ cmpV (nthF k (i - 1)).2 (nthF k i).2 ≠ -1 then 3 else 0

end Go.Proofs.YtlkchfhcfccaoaaGreatDoor
end

section
namespace Go.Proofs.YtlkchfhcfccaoaaGreatDoor
open Go.RowKit
set_option linter.unusedVariables false

theorem refMinus_any (aa ab : Option Addr) (na ca nb cb : Nat) (a b : List Iv) (w : World) (hIa : Ivs w aa na ca a) (hIb : Ivs w ab nb cb b) (hn : 2 * a.length + 2 * b.length + 1 ≤ 100000) :
    Calls Tryz.prog 187 #[.slice aa na ca, .slice ab nb cb] w fun e w' => OwnIv w.heap.size (opL gSub a b) e w' ∧ Below w.heap.size w w' := by
  have hC := Lib.hid (refDo_any aa ab na ca nb cb 2 a b w hIa hIb (by omega) hn)
  clear hIa hIb hn
  go_enter Tryz.func187, Tryz.ntmps187
  go_wp2_with fail
  refine hC.out.mono ?_
  rintro e w1 ⟨⟨v, rfl, ho⟩, hb⟩
  have Ho := Lib.hid ho; have Hb := Lib.hid hb
  clear ho hb
  go_wp2
  go_ret
  exact ⟨⟨v, rfl, Ho.out⟩, Hb.out⟩

theorem firstS_step {α : Type} {f : Nat → Option α} {k : Nat} (h : ∀ j, j < k → f j = none) (hk : f k = none) : ∀ j, j < k + 1 → f j = none := fun j hj => by
  by_cases e : j = k
  · rw [e]; exact hk
  · exact h j (by omega)

set_option maxRecDepth 20000 in
set_option maxHeartbeats 2000000 in
theorem refCheck7_any (e : Ent) (a : Option Addr) (n c : Nat) (w : World) (hI : Ivs w a n c e.2.2) (hm : e.2.1 < 18446744073709551616) :
    Calls Tryz.prog 130 #[entV e (.slice a n c)] w fun x w' => x = .returned (.tuple #[.int .i64 (errCode (errOf (ckE e))), .int .i64 (errAt (errOf (ckE e)))]) ∧ Below w.heap.size w w' := by
  obtain ⟨r, m, hs⟩ := e
  simp only at hI hm
  have hal : Below w.heap.size w (w.alloc (.cells #[.int .u64 r, .int .u64 m, .slice a n c] 63)) := (Below.refl _ _).alloc (Nat.le_refl _) _
  have hrow : (w.alloc (.cells #[.int .u64 r, .int .u64 m, .slice a n c] 63)).heap[w.heap.size]? = some (.cells #[.int .u64 r, .int .u64 m, .slice a n c] 63) := row_new rfl
  have Hq1 := Lib.hid (fun w' (h : Below (w.alloc (.cells #[.int .u64 r, .int .u64 m, .slice a n c] 63)).heap.size (w.alloc (.cells #[.int .u64 r, .int .u64 m, .slice a n c] 63)) w') =>
    (h.cell (p := ⟨w.heap.size, 1, none⟩) (by simp)).trans (cells_cell (i := 1) hrow rfl))
  have Hq2 := Lib.hid (fun w' (h : Below (w.alloc (.cells #[.int .u64 r, .int .u64 m, .slice a n c] 63)).heap.size (w.alloc (.cells #[.int .u64 r, .int .u64 m, .slice a n c] 63)) w') =>
    (h.cell (p := ⟨w.heap.size, 2, none⟩) (by simp)).trans (cells_cell (i := 2) hrow rfl))
  have HI := Lib.hid (hI.below hal)
  have Hl := Lib.hid hI.len
  have hnm : n ≤ 9223372036854775807 := Nat.le_trans hI.room hI.most
  have Hal := Lib.hid hal
  have hC := Lib.hid (refCheck_any a n c hs _ (hI.below hal))
  have Hck := Lib.hid (show ckE (r, m, hs) = match ck hs with | some x => some x | none => firstS (ckHole (r, m, hs)) hs.length from rfl)
  have q1 := Hq1.out _ (Below.refl _ _)
  have q2 := Hq2.out _ (Below.refl _ _)
  clear hI hm hal hrow
  go_enter Tryz.func130, Tryz.ntmps130
  go_wp2_with fail
  refine hC.out.mono ?_
  rintro e w1 ⟨rfl, hb1⟩
  have Hb1 := Lib.hid hb1; clear hb1 hC q1 q2
  have Hw1 := Lib.hid (Hal.out.trans (Hb1.out.mono Hal.out.size))
  cases h : ck hs with
  | some x =>
    obtain ⟨cd, i⟩ := x
    have hne : ((cd : Int) != 0) = true := by have := ck_code h; simp at this; rw [bne_iff_ne]; omega
    rw [h] at Hck
    simp only at Hck
    simp only [errOf, errCode, errAt]
    clear h
    go_wp2
    go_ret2
    exact ⟨by rw [Hck.out]; rfl, Hw1.out⟩
  | none =>
    rw [h] at Hck
    simp only at Hck
    simp only [errOf, errCode, errAt]
    clear h
    have HI1 := Lib.hid (HI.out.below Hb1.out)
    go_wp2
    go_loopw [6] (fun i wr => ∃ k q : Nat, k ≤ n ∧ i = .int .i64 k ∧ wr = w1.drewN q ∧ Hid (∀ j, j < k → ckHole (r, m, hs) j = none)) (fun i _ => n - (intOf i).toNat)
    case atStart => exact ⟨0, 0, by omega, rfl, rfl, fun j h => by omega⟩
    case round =>
      obtain ⟨k, q, hk, rfl, rfl, ht⟩ := hrel
      have q1 := Hq1.out _ Hb1.out
      have q2 := Hq2.out _ Hb1.out
      by_cases hkn : k < n
      · obtain ⟨cb, co, rfl, hcell⟩ := HI1.out.cells (by omega)
        obtain ⟨-, c2⟩ := hcell k hkn
        clear hcell
        have h0 : (0 : Int) ≤ k := by omega
        have h04 : (k : Int) < (n : Int) := by omega
        have Hh := Lib.hid (show ckHole (r, m, hs) k = if m < (nthI hs k).2 then some (4, k) else none from rfl)
        have hkl : k < hs.length := by rw [Hl.out]; exact hkn
        generalize nthI hs k = s at *
        obtain ⟨p, u⟩ := s
        simp only at c2 Hh
        by_cases hu : m < u
        · have hd1 : decide ((m : Int) < (u : Int)) = true := by rw [decide_eq_true_iff]; omega
          have hd2 : decide (m < u) = true := by rw [decide_eq_true_iff]; omega
          have Hr := Lib.hid (firstS_some hkl ht.out (Hh.out.trans (if_pos hu)))
          clear hu
          go_wp2
          go_quiet (fail)
          go_wp2
          go_ret2
          exact ⟨by rw [Hck.out, Hr.out]; rfl, by first | exact below_drewN' Hw1.out _ | exact below_drewN' (below_drewN' Hw1.out _) _⟩
        · have hd1 : decide ((m : Int) < (u : Int)) = false := by rw [decide_eq_false_iff_not]; omega
          have hd2 : decide (m < u) = false := by rw [decide_eq_false_iff_not]; omega
          have Hr := Lib.hid (firstS_step ht.out (Hh.out.trans (if_neg hu)))
          clear hu
          go_wp2
          go_quiet (fail)
          go_wp2
          go_roundw
          case rel => exact ⟨k + 1, _, by omega, by go_num, rfl, Hr.out⟩
          case measure => simp [intOf]; omega
      · obtain rfl : k = n := by omega
        have Hr := Lib.hid (firstS_none (n := hs.length) (fun j hj => ht.out j (by rw [← Hl.out]; exact hj)))
        go_wp2
        go_ret2
        exact ⟨by rw [Hck.out, Hr.out]; rfl, below_drewN' Hw1.out _⟩

theorem refRight7_any (e : Ent) (a : Option Addr) (n c : Nat) (w : World) (hI : Ivs w a n c e.2.2) (hm : e.2.1 < 18446744073709551616) :
    Calls Tryz.prog 176 #[entV e (.slice a n c)] w fun x w' => x = .returned (.bool (decide (ckE e = none))) ∧ Below w.heap.size w w' := by
  have hC := Lib.hid (fun w' (h : Below w.heap.size w w') => refCheck7_any e a n c w' (hI.below h) hm)
  obtain ⟨r, m, hs⟩ := e
  clear hI hm
  have Hal := Lib.hid ((Below.refl w.heap.size w).alloc (Nat.le_refl _) (.cells #[.int .u64 r, .int .u64 m, .slice a n c] 63))
  cases h : ckE (r, m, hs) with
  | none =>
    rw [h] at hC
    simp only [errOf, errCode, errAt] at hC
    clear h
    go_enter Tryz.func176, Tryz.ntmps176
    go_wp2_with fail
    refine (hC.out _ Hal.out).mono ?_
    rintro e w1 ⟨rfl, hb1⟩
    have Hb1 := Lib.hid hb1; clear hb1
    go_wp2
    go_ret
    exact ⟨by simp, Hal.out.trans (Hb1.out.mono Hal.out.size)⟩
  | some x =>
    have hc0 := ckE_code h
    obtain ⟨cd, i⟩ := x
    rw [h] at hC
    simp only [errOf, errCode, errAt] at hC
    have hne : ((cd : Int) == 0) = false := by rw [beq_eq_false_iff_ne]; simp at hc0; omega
    clear h hc0
    go_enter Tryz.func176, Tryz.ntmps176
    go_wp2_with fail
    refine (hC.out _ Hal.out).mono ?_
    rintro e w1 ⟨rfl, hb1⟩
    have Hb1 := Lib.hid hb1; clear hb1
    go_wp2
    go_ret
    exact ⟨by simp, Hal.out.trans (Hb1.out.mono Hal.out.size)⟩

/-- What is known by an entry, both ways. -/
def hasE (e : Ent) (c : Nat) : Bool := knownE e c

theorem refHas7_any (e : Ent) (a : Option Addr) (n c x : Nat) (w : World) (hI : Ivs w a n c e.2.2) :
    Calls Tryz.prog 96 #[entV e (.slice a n c), .int .u64 x] w fun y w' => y = .returned (.bool (knownE e x)) ∧ Below w.heap.size w w' := by
  obtain ⟨r, m, hs⟩ := e
  simp only at hI
  have Hal := Lib.hid ((Below.refl w.heap.size w).alloc (Nat.le_refl _) (.cells #[.int .u64 r, .int .u64 m, .slice a n c] 63))
  have hC := Lib.hid (refHas_any a n c x hs _ (hI.below Hal.out))
  have HkE := Lib.hid (show knownE (r, m, hs) x = (decide (x ≤ m) && !mem hs x) from rfl)
  clear hI
  generalize mem hs x = b at *
  by_cases h : x ≤ m
  · have hd1 : decide ((x : Int) ≤ (m : Int)) = true := by rw [decide_eq_true_iff]; omega
    have hd2 : decide (x ≤ m) = true := by rw [decide_eq_true_iff]; omega
    rw [hd2] at HkE
    clear h
    go_enter Tryz.func96, Tryz.ntmps96
    go_wp2_with fail
    refine hC.out.mono ?_
    rintro e w1 ⟨rfl, hb1⟩
    have Hb1 := Lib.hid hb1; clear hb1
    go_wp2
    go_ret
    exact ⟨by rw [HkE.out]; rfl, Hal.out.trans (Hb1.out.mono Hal.out.size)⟩
  · have hd1 : decide ((x : Int) ≤ (m : Int)) = false := by rw [decide_eq_false_iff_not]; omega
    have hd2 : decide (x ≤ m) = false := by rw [decide_eq_false_iff_not]; omega
    rw [hd2] at HkE
    clear h hC
    go_enter Tryz.func96, Tryz.ntmps96
    go_wp2
    go_ret
    exact ⟨by rw [HkE.out]; rfl, Hal.out⟩

end Go.Proofs.YtlkchfhcfccaoaaGreatDoor
end

section
namespace Go.Proofs.YtlkchfhcfccaoaaGreatDoor
open Go.RowKit
set_option linter.unusedVariables false

theorem eq_iv (x y z u : Nat) (w : World) : (Op.equalIn 10000 65 (.agg #[.int .u64 (x : Int), .int .u64 (y : Int)]) (.agg #[.int .u64 (z : Int), .int .u64 (u : Int)])).run Tryz.prog w = .ok (decide (x = z) && decide (y = u)) w := by
  have u3 := Tryz.underlying43
  have a3 : ∀ w, (isAgg 43).run Tryz.prog w = .ok false w := fun w => by simp [isAgg, run_underlying u3]
  have z3 : ∀ w, (sizeOf 43).run Tryz.prog w = .ok 1 w := fun w => by kernel_rfl
  have hS : Tryz.prog.underlying 65 = some (.struct (Tryz.prog.fieldsOf 65)) := by kernel_rfl
  have hp : Tryz.prog.stoodInHeld 65 = false := by kernel_rfl
  rw [show (10000 : Nat) = 9999 + 1 from rfl, run_equalIn_agg w 9999 65 _ _ hS hp]
  simp only [Program.fieldsOf, Tryz.underlying65]
  go_simp
  by_cases h1 : x = z <;> by_cases h2 : y = u <;> simp [h1, h2] <;> omega

theorem nthI_take {l l' : List Iv} {k : Nat} (h : l.take k = l'.take k) (hk : k < l.length) (hk' : k < l'.length) (e : nthI l k = nthI l' k) : l.take (k + 1) = l'.take (k + 1) := by
  rw [List.take_succ_eq_append_getElem hk, List.take_succ_eq_append_getElem hk', h, ← nthI_get hk, ← nthI_get hk', e]
theorem nthI_ne {l l' : List Iv} {k : Nat} (e : nthI l k ≠ nthI l' k) : l ≠ l' := fun h => e (by rw [h])

set_option maxHeartbeats 1000000 in
theorem refSame_any (a a' : Option Addr) (n cap n' cap' : Nat) (l l' : List Iv) (w : World) (hI : Ivs w a n cap l) (hI' : Ivs w a' n' cap' l') :
    Calls Tryz.prog 26 #[.slice a n cap, .slice a' n' cap'] w fun e w' => e = .returned (.bool (decide (l = l'))) ∧ Below w.heap.size w w' := by
  have HI := Lib.hid hI; have HI' := Lib.hid hI'
  have Hl := Lib.hid hI.len; have Hl' := Lib.hid hI'.len
  have hm : n ≤ 9223372036854775807 := Nat.le_trans hI.room hI.most
  by_cases hnn : n = n'
  · subst hnn
    clear hI hI'
    have hnb : ((n : Int) != (n : Int)) = false := by simp
    go_enter Tryz.func26, Tryz.ntmps26
    go_wp2
    go_loopw [5] (fun i wr => ∃ k q : Nat, k ≤ n ∧ i = .int .i64 k ∧ wr = w.drewN q ∧ Hid (l.take k = l'.take k)) (fun i _ => n - (intOf i).toNat)
    case atStart => exact ⟨0, 0, by omega, rfl, rfl, rfl⟩
    case round =>
      obtain ⟨k, q, hk, rfl, rfl, ht⟩ := hrel
      by_cases hkn : k < n
      · obtain ⟨cb, co, rfl, hcell⟩ := HI.out.cells (by omega)
        obtain ⟨cb', co', rfl, hcell'⟩ := HI'.out.cells (by omega)
        obtain ⟨c1, c2⟩ := hcell k hkn
        obtain ⟨c1', c2'⟩ := hcell' k hkn
        clear hcell hcell'
        have h0 : (0 : Int) ≤ k := by omega
        have h04 : (k : Int) < (n : Int) := by omega
        have hkl : k < l.length := by rw [Hl.out]; exact hkn
        have hkl' : k < l'.length := by rw [Hl'.out]; exact hkn
        have He := Lib.hid (fun e => nthI_take ht.out hkl hkl' e)
        have Hn := Lib.hid (fun e => nthI_ne (l := l) (l' := l') (k := k) e)
        clear hkl hkl'
        generalize nthI l k = s at *
        generalize nthI l' k = t at *
        obtain ⟨x, y⟩ := s
        obtain ⟨z, u⟩ := t
        have heq := eq_iv x y z u
        simp only at c1 c2 c1' c2'
        by_cases e : x = z ∧ y = u
        · obtain ⟨rfl, rfl⟩ := e
          have Ht := Lib.hid (He.out rfl)
          simp only [decide_true, Bool.and_self] at heq
          clear He Hn
          go_wp2
          go_quiet (fail)
          go_wp2
          go_roundw
          case rel => exact ⟨k + 1, _, by omega, by go_num, rfl, Ht.out⟩
          case measure => simp [intOf]; omega
        · have Hne := Lib.hid (Hn.out (by intro h; cases h; exact e ⟨rfl, rfl⟩))
          have eb : (decide (x = z) && decide (y = u)) = false := by
            rw [Bool.eq_false_iff]
            intro h
            rw [Bool.and_eq_true, decide_eq_true_iff, decide_eq_true_iff] at h
            exact e h
          simp only [eb] at heq
          clear He Hn eb e
          go_wp2
          go_quiet (fail)
          go_wp2
          go_ret
          exact ⟨ret_bool (by rw [decide_eq_false Hne.out]), by first | exact below_drewN' (Below.refl _ _) _ | exact below_drewN' (below_drewN' (Below.refl _ _) _) _⟩
      · obtain rfl : k = n := by omega
        have h1 := ht.out
        rw [List.take_of_length_le (by rw [Hl.out]; omega), List.take_of_length_le (by rw [Hl'.out]; omega)] at h1
        have H1 := Lib.hid h1; clear h1
        go_wp2
        go_ret
        exact ⟨ret_bool (by rw [decide_eq_true H1.out]), below_drewN' (Below.refl _ _) _⟩
  · have hnb : ((n : Int) != (n' : Int)) = true := by rw [bne_iff_ne]; omega
    have hne := Lib.hid (show l ≠ l' from fun h => hnn (by rw [← hI.len, ← hI'.len, h]))
    clear hI hI' HI HI' Hl Hl'
    go_enter Tryz.func26, Tryz.ntmps26
    go_wp2
    go_ret
    exact ⟨ret_bool (by rw [decide_eq_false hne.out]), Below.refl _ _⟩

end Go.Proofs.YtlkchfhcfccaoaaGreatDoor
end

section
namespace Go.Proofs.YtlkchfhcfccaoaaGreatDoor
open Go.RowKit
set_option linter.unusedVariables false

/-- What a boxed entry holds from then on. -/
theorem box3 (w : World) (x y z : Value) (T : TypeId) (w' : World) (h : Below (w.alloc (.cells #[x, y, z] T)).heap.size (w.alloc (.cells #[x, y, z] T)) w') :
    w'.cell? ⟨w.heap.size, 0, none⟩ = some x ∧ w'.cell? ⟨w.heap.size, 1, none⟩ = some y ∧ w'.cell? ⟨w.heap.size, 2, none⟩ = some z := by
  have hrow : (w.alloc (.cells #[x, y, z] T)).heap[w.heap.size]? = some (.cells #[x, y, z] T) := row_new rfl
  exact ⟨(h.cell (p := ⟨w.heap.size, 0, none⟩) (by simp)).trans (cells_cell (i := 0) hrow rfl),
    (h.cell (p := ⟨w.heap.size, 1, none⟩) (by simp)).trans (cells_cell (i := 1) hrow rfl),
    (h.cell (p := ⟨w.heap.size, 2, none⟩) (by simp)).trans (cells_cell (i := 2) hrow rfl)⟩

theorem refKnown7_any (e : Ent) (a : Option Addr) (n c : Nat) (w : World) (hI : Ivs w a n c e.2.2) (hm : e.2.1 < 18446744073709551616) (hn : 2 * e.2.2.length + 3 ≤ 100000) :
    Calls Tryz.prog 163 #[entV e (.slice a n c)] w fun x w' => OwnIv w.heap.size (knownL e) x w' ∧ Below w.heap.size w w' := by
  obtain ⟨r, m, hs⟩ := e
  simp only at hI hm hn
  have HI := Lib.hid hI; have Hn := Lib.hid hn; have Hm := Lib.hid hm
  clear hI hn hm
  obtain ⟨q0, q1, q2⟩ := box3 w (.int .u64 r) (.int .u64 m) (.slice a n c) 63 _ (Below.refl _ _)
  go_enter Tryz.func163, Tryz.ntmps163
  go_wp2_with fail
  clear q0 q1 q2
  have hb1 : Below w.heap.size w ((w.alloc (.cells #[.int .u64 r, .int .u64 m, .slice a n c] 63)).alloc (.cells #[.int .u64 0, .int .u64 m] 65)) := ((Below.refl _ _).alloc (Nat.le_refl _) _).alloc (by simp) _
  have hr : ((w.alloc (.cells #[.int .u64 r, .int .u64 m, .slice a n c] 63)).alloc (.cells #[.int .u64 0, .int .u64 m] 65)).heap[w.heap.size + 1]? = some (.cells #[.int .u64 0, .int .u64 m] 65) := row_new (by simp)
  have Hb1 := Lib.hid hb1
  refine (refMinus_any _ _ _ _ _ _ [(0, m)] hs _ (ivs_lit (s := (0, m)) hr ⟨by simp, Hm.out⟩) (HI.out.below hb1) (by have := Hn.out; simp; omega)).mono ?_
  rintro e w1 ⟨⟨v, rfl, ho⟩, hb⟩
  have Ho := Lib.hid ho; have Hb := Lib.hid hb
  clear ho hb hr hb1
  go_wp2
  go_ret
  exact ⟨⟨v, rfl, own_mono Ho.out Hb1.out.size⟩, Hb1.out.trans (Hb.out.mono Hb1.out.size)⟩

set_option maxRecDepth 20000 in
set_option maxHeartbeats 2000000 in
theorem refOf7_any (r : Nat) (a : Option Addr) (n c : Nat) (L : List Iv) (w : World) (hI : Ivs w a n c L) (hn : 2 * L.length + 3 ≤ 100000) :
    Calls Tryz.prog 162 #[.int .u64 r, .slice a n c] w fun x w' => OfRes w.heap.size (ofE r L) x w' ∧ Below w.heap.size w w' := by
  rcases nil_or_snoc L with rfl | ⟨l, t, rfl⟩
  · obtain rfl : n = 0 := by simpa using hI.len.symm
    have e : ofE r [] = none := rfl
    rw [e]
    clear hI hn e
    go_enter Tryz.func162, Tryz.ntmps162
    go_wp2
    refine bodyPost_ret (v := .tuple #[entV (0, 0, []) (.slice none 0 0), .bool false]) (by simp [results, Tryz.results162, go_sem]) rfl ?_
    exact ⟨rfl, (Below.refl _ _).alloc (Nat.le_refl _) _⟩
  · have hne : l ++ [t] ≠ [] := by simp
    have htop : topL (l ++ [t]) = t.2 := by simp [topL]
    have e : ofE r (l ++ [t]) = some (r, t.2, opL gSub [(0, t.2)] (l ++ [t])) := by unfold ofE; rw [if_neg hne, htop]
    rw [e]
    have hlen := hI.len
    rw [List.length_append, List.length_singleton] at hlen
    obtain ⟨bb, oo, rfl, hcell⟩ := hI.cells (by omega)
    obtain ⟨-, c2⟩ := hcell l.length (by omega)
    have hnt : nthI (l ++ [t]) l.length = t := by simp [nthI]
    rw [hnt] at c2
    have HI := Lib.hid hI; have Hn := Lib.hid hn
    have Ht := Lib.hid (hI.lt t (by simp)).2
    obtain ⟨k, hk⟩ : ∃ k : Nat, k = l.length := ⟨_, rfl⟩
    rw [← hk] at c2 hlen
    have hsub : IntKind.i64.wrap ((n : Int) - 1) = (k : Int) := by have := hI.room; have := hI.most; rw [IntKind.wrap_i64]; omega
    have hz : ((n : Int) == 0) = false := by rw [beq_eq_false_iff_ne]; omega
    have h01 : (k : Int) < (n : Int) := by omega
    have hkn : k < n := by omega
    have hnc := hI.room
    obtain ⟨tx, ty⟩ := t
    simp only at c2 Ht htop ⊢
    have hal : Below w.heap.size w (w.alloc (.cells #[.int .u64 0, .int .u64 0, .slice none 0 0] 63)) := (Below.refl _ _).alloc (Nat.le_refl _) _
    have q1 := (hal.cell (cell_lt c2)).trans c2
    have Ha := Lib.hid hal
    clear hI hn hcell hne htop e hk hlen hal hnt
    go_enter Tryz.func162, Tryz.ntmps162
    go_wp2_with fail
    have hb1 : Below (w.heap.size + 1) (w.alloc (.cells #[.int .u64 0, .int .u64 0, .slice none 0 0] 63)) ((w.alloc (.cells #[.int .u64 0, .int .u64 0, .slice none 0 0] 63)).alloc (.cells #[.int .u64 0, .int .u64 ty] 65)) :=
      (show (w.alloc (.cells #[.int .u64 0, .int .u64 0, .slice none 0 0] 63)).heap.size = w.heap.size + 1 from by simp) ▸ ((Below.refl _ _).alloc (Nat.le_refl _) _)
    have hrw : ((w.alloc (.cells #[.int .u64 0, .int .u64 0, .slice none 0 0] 63)).alloc (.cells #[.int .u64 0, .int .u64 ty] 65)).heap[w.heap.size + 1]? = some (.cells #[.int .u64 0, .int .u64 ty] 65) := row_new (by simp)
    have Hb1 := Lib.hid hb1
    have hsz1 : (w.alloc (.cells #[.int .u64 0, .int .u64 0, .slice none 0 0] 63)).heap.size = w.heap.size + 1 := by simp
    have hsz2 : ((w.alloc (.cells #[.int .u64 0, .int .u64 0, .slice none 0 0] 63)).alloc (.cells #[.int .u64 0, .int .u64 ty] 65)).heap.size = w.heap.size + 2 := by simp
    have Hs1 := Lib.hid hsz1; have Hs2 := Lib.hid hsz2
    clear hsz1 hsz2
    refine (refMinus_any _ _ _ _ _ _ [(0, ty)] (l ++ [(tx, ty)]) _ (ivs_lit (s := (0, ty)) hrw ⟨by simp, Ht.out⟩) ((HI.out.below Ha.out).below (Hs1.out ▸ hb1)) (by have := Hn.out; simp at this ⊢; omega)).mono ?_
    rintro e w2 ⟨⟨v, rfl, ho⟩, hb2⟩
    have Ho := Lib.hid ho
    have Hb2 := Lib.hid (Hb1.out.trans (hb2.mono (by rw [Hs2.out]; omega)))
    have hrow : w2.heap[w.heap.size]? = some (.cells #[.int .u64 0, .int .u64 0, .slice none 0 0] 63) := (Hb2.out.block _ (by omega)).trans (row_new rfl)
    have z0 : w2.cell? ⟨w.heap.size, 0, none⟩ = some (.int .u64 0) := cells_cell (i := 0) hrow rfl
    have z1 : w2.cell? ⟨w.heap.size, 1, none⟩ = some (.int .u64 0) := cells_cell (i := 1) hrow rfl
    have z2 : w2.cell? ⟨w.heap.size, 2, none⟩ = some (.slice none 0 0) := cells_cell (i := 2) hrow rfl
    have z3 : w2.frozen? ⟨w.heap.size, 0, none⟩ = false := by simp [World.frozen?, hrow]
    have z4 : w2.frozen? ⟨w.heap.size, 1, none⟩ = false := by simp [World.frozen?, hrow]
    have z5 : w2.frozen? ⟨w.heap.size, 2, none⟩ = false := by simp [World.frozen?, hrow]
    have Hw := Lib.hid (Ha.out.trans (Hb2.out.mono (by omega)))
    obtain ⟨vb, vn, vc, rfl⟩ : ∃ vb vn vc, v = .slice vb vn vc := by
      rcases ho.2 with ⟨rfl, _⟩ | ⟨g, cap, cur, rfl, _⟩
      · exact ⟨_, _, _, rfl⟩
      · exact ⟨_, _, _, rfl⟩
    have Ho1 := Lib.hid (own_mono (b := w.heap.size + 2) ho (by rw [Hs2.out]; exact Nat.le_refl _))
    clear ho hb2 hrow hrw hb1 Ho
    go_wp2
    refine bodyPost_ret (v := .tuple #[.agg #[.int .u64 r, .int .u64 ty, .slice vb vn vc], .bool true]) (by simp [results, Tryz.results162, go_sem, z0, z1, z2]) rfl ?_
    have Hh : ∀ (a : Addr) (u : Value) (W : World), a.block = w.heap.size → ∀ k, w.heap.size + 2 ≤ k → (W.setCell a u).heap[k]? = W.heap[k]? := fun a u W ha k hk => Below.heap_setCell _ _ _ _ (by omega)
    refine ⟨⟨_, rfl, own_mono (own_same Ho1.out (fun k hk1 _ => ?_)) (by omega)⟩, ((Hw.out.setCell (Nat.le_refl _) _).setCell (Nat.le_refl _) _).setCell (Nat.le_refl _) _⟩
    rw [Hh _ _ _ rfl k hk1, Hh _ _ _ rfl k hk1, Hh _ _ _ rfl k hk1]

theorem refCanonical7_any (e : Ent) (a : Option Addr) (n c : Nat) (w : World) (hI : Ivs w a n c e.2.2) (hm : e.2.1 < 18446744073709551616) :
    Calls Tryz.prog 131 #[entV e (.slice a n c)] w fun x w' => x = .returned (.bool (canEB e)) ∧ Below w.heap.size w w' := by
  obtain ⟨r, m, hs⟩ := e
  simp only at hI hm
  have hal : Below w.heap.size w (w.alloc (.cells #[.int .u64 r, .int .u64 m, .slice a n c] 63)) := (Below.refl _ _).alloc (Nat.le_refl _) _
  have HX := Lib.hid (box3 w (.int .u64 r) (.int .u64 m) (.slice a n c) 63)
  have HI := Lib.hid (hI.below hal)
  have hC := Lib.hid (refRight7_any (r, m, hs) a n c _ (hI.below hal) hm)
  have Hal := Lib.hid hal
  have Hcan := Lib.hid (show canEB (r, m, hs) = (decide (ckE (r, m, hs) = none) && !mem hs m) from rfl)
  have hH := Lib.hid (fun w' (h : Below (w.alloc (.cells #[.int .u64 r, .int .u64 m, .slice a n c] 63)).heap.size (w.alloc (.cells #[.int .u64 r, .int .u64 m, .slice a n c] 63)) w') => refHas_any a n c m hs w' (HI.out.below h))
  obtain ⟨q0, q1, q2⟩ := HX.out _ (Below.refl _ _)
  clear hI hm hal
  generalize mem hs m = b at *
  generalize decide (ckE (r, m, hs) = none) = y at *
  cases y with
  | false =>
    go_enter Tryz.func131, Tryz.ntmps131
    go_wp2_with fail
    refine hC.out.mono ?_
    rintro e w1 ⟨rfl, hb1⟩
    have Hb1 := Lib.hid hb1; clear hb1
    go_wp2
    go_ret
    exact ⟨by rw [Hcan.out]; rfl, Hal.out.trans (Hb1.out.mono Hal.out.size)⟩
  | true =>
    go_enter Tryz.func131, Tryz.ntmps131
    go_wp2_with fail
    refine hC.out.mono ?_
    rintro e w1 ⟨rfl, hb1⟩
    have Hb1 := Lib.hid hb1; clear hb1 q0 q1 q2
    obtain ⟨q0, q1, q2⟩ := HX.out _ Hb1.out
    go_wp2_with fail
    refine (hH.out _ Hb1.out).mono ?_
    rintro e w2 ⟨rfl, hb2⟩
    have Hb2 := Lib.hid hb2; clear hb2
    go_wp2
    go_ret
    exact ⟨by rw [Hcan.out]; rfl, (Hal.out.trans (Hb1.out.mono Hal.out.size)).trans (Hb2.out.mono (Nat.le_trans Hal.out.size Hb1.out.size))⟩

theorem refSame7_any (e f : Ent) (a d : Option Addr) (n c m k : Nat) (w : World) (hI : Ivs w a n c e.2.2) (hJ : Ivs w d m k f.2.2) :
    Calls Tryz.prog 64 #[entV e (.slice a n c), entV f (.slice d m k)] w fun x w' => x = .returned (.bool (decide (e = f))) ∧ Below w.heap.size w w' := by
  obtain ⟨r, x, hs⟩ := e
  obtain ⟨r', x', hs'⟩ := f
  simp only at hI hJ
  obtain ⟨W1, hW1⟩ : ∃ W1, W1 = w.alloc (.cells #[.int .u64 r, .int .u64 x, .slice a n c] 63) := ⟨_, rfl⟩
  have hal : Below w.heap.size w W1 := by rw [hW1]; exact (Below.refl _ _).alloc (Nat.le_refl _) _
  have hsz : W1.heap.size = w.heap.size + 1 := by rw [hW1]; simp
  have hal2 : Below W1.heap.size W1 (W1.alloc (.cells #[.int .u64 r', .int .u64 x', .slice d m k] 63)) := (Below.refl _ _).alloc (Nat.le_refl _) _
  obtain ⟨q0, q1, q2⟩ := box3 w (.int .u64 r) (.int .u64 x) (.slice a n c) 63 (W1.alloc (.cells #[.int .u64 r', .int .u64 x', .slice d m k] 63)) (hW1 ▸ hal2)
  obtain ⟨q3, q4, q5⟩ := box3 W1 (.int .u64 r') (.int .u64 x') (.slice d m k) 63 _ (Below.refl _ _)
  have HA := Lib.hid (hal.trans (hal2.mono hal.size))
  have hC := Lib.hid (refSame_any a d n c m k hs hs' _ (hI.below HA.out) (hJ.below HA.out))
  rw [hW1] at q0 q1 q2 q3 q4 q5 HA hC
  simp only [World.size_alloc] at q3 q4 q5
  have hdec : decide (((r, x, hs) : Ent) = (r', x', hs')) = ((decide (r = r') && decide (x = x')) && decide (hs = hs')) := by
    rw [Bool.eq_iff_iff]; simp [and_assoc]
  rw [hdec]
  clear hI hJ hal hal2 hsz hdec hW1
  generalize decide (hs = hs') = b at *
  by_cases h1 : r = r'
  · subst h1
    by_cases h2 : x = x'
    · subst h2
      have d1 : True := trivial
      have d2 : True := trivial
      go_enter Tryz.func64, Tryz.ntmps64
      go_wp2_with fail
      refine hC.out.mono ?_
      rintro e w1 ⟨rfl, hb1⟩
      have Hb1 := Lib.hid hb1; clear hb1
      go_wp2
      go_ret
      exact ⟨by simp, HA.out.trans (Hb1.out.mono HA.out.size)⟩
    · have d1 : True := trivial
      have d2 : decide (x = x') = false := by simpa using h2
      have t2 : (((x : Nat) : Int) == ((x' : Nat) : Int)) = false := by rw [beq_eq_false_iff_ne]; omega
      clear h2
      go_enter Tryz.func64, Tryz.ntmps64
      go_wp2
      go_ret
      exact ⟨by simp [d2], HA.out⟩
  · have d1 : decide (r = r') = false := by simpa using h1
    have t1 : (((r : Nat) : Int) == ((r' : Nat) : Int)) = false := by rw [beq_eq_false_iff_ne]; omega
    clear h1
    go_enter Tryz.func64, Tryz.ntmps64
    go_wp2
    go_ret
    exact ⟨by simp [d1], HA.out⟩

end Go.Proofs.YtlkchfhcfccaoaaGreatDoor
end
