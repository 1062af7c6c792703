/-
  Walks over package fault: New, Code, find, At, at errors that are nil, an api.Errno or an api.Fault.
-/
import Derived.Test.YtbiohohclnaocaaGreatDoorErrTop
import Derived.WalkSpells
namespace Go.Proofs.YtbiohohclnaocaaGreatDoor
open Go.RowKit Go.Extern.Stop Go.Stop Go.Extern
set_option linter.unusedVariables false

/-- The errors of the program: nil, a code, a fault (a code and an offset). -/
abbrev Err := Option (Int × Option Int)

def errVal : Err → Value
  | none => .nilIface
  | some (c, none) => .iface 42 (.int .i64 c)
  | some (c, some a) => .iface 72 (.agg #[.int .i64 c, .int .i64 a])

def errCode : Err → Int
  | none => 0
  | some (c, _) => c

def errAt : Err → Int
  | some (_, some a) => a
  | _ => -1

/-- fault.New. -/
def errNew (c a : Int) : Err := if c = 0 then none else some (c, some a)

theorem below_of_grown {w0 w w' : World} {g : Nat} (hb : Below w0.heap.size w0 w) (hg : w0.heap.size ≤ g) (h : w.grownBy w' (some g)) : Below w0.heap.size w0 w' :=
  hb.grown h hb.size (fun k hk => by cases hk; exact hg)

theorem below_of_grown_none {w0 w w' : World} (hb : Below w0.heap.size w0 w) (h : w.grownBy w' none) : Below w0.heap.size w0 w' :=
  hb.grown h hb.size (fun k hk => by cases hk)

set_option maxHeartbeats 1000000 in
theorem code_any (x : Err) (w : World) (hD : Door w) :
    Calls Tryz.prog 23 #[errVal x] w fun e w' => e = .returned (.int .i64 (errCode x)) ∧ Below w.heap.size w w' := by
  have hD' := Lib.hid (fun o => hD.below (Nat.le_refl _) ((Below.refl _ w).alloc (Nat.le_refl _) o))
  clear hD
  rcases x with _ | ⟨c, _ | a⟩
  · go_enter Tryz.func23, Tryz.ntmps23
    simp only [errVal]
    go_wp2_with fail
    go_ret
    exact ⟨rfl, (Below.refl _ _).alloc (Nat.le_refl _) _⟩
  · go_enter Tryz.func23, Tryz.ntmps23
    simp only [errVal]
    go_wp2_with fail
    refine As_E _ _ _ _ (hD'.out _) (by simp) _ ?_
    intro w1 A hb hA hAs
    have hb2 : Below w.heap.size w w1 := ((Below.refl _ _).alloc (Nat.le_refl _) _).trans (hb.mono (by simp))
    have hc : w1.cell? ⟨w.heap.size, 0, none⟩ = some (.int .i64 0) := by rw [hb.cell (p := ⟨w.heap.size, 0, none⟩) (by simp)]; simp
    have hf : w1.frozen? ⟨w.heap.size, 0, none⟩ = false := by rw [hb.frozen (p := ⟨w.heap.size, 0, none⟩) (by simp)]; simp
    refine (as_EE c ⟨w.heap.size, 0, none⟩ A _ w1 hA hc hf).mono ?_
    rintro e w2 ⟨rfl, hg, hc2⟩
    refine ⟨true, rfl, ?_⟩
    have hb3 := below_of_grown hb2 (Nat.le_refl _) hg
    clear hg hc hf hb hb2 hA hAs
    go_wp2_with fail
    go_ret
    exact ⟨rfl, hb3⟩
  · go_enter Tryz.func23, Tryz.ntmps23
    simp only [errVal]
    go_wp2_with fail
    refine As_E _ _ _ _ (hD'.out _) (by simp) _ ?_
    intro w1 A hb hA hAs
    have hb2 : Below w.heap.size w w1 := ((Below.refl _ _).alloc (Nat.le_refl _) _).trans (hb.mono (by simp))
    have hc : w1.cell? ⟨w.heap.size, 0, none⟩ = some (.int .i64 0) := by rw [hb.cell (p := ⟨w.heap.size, 0, none⟩) (by simp)]; simp
    have hf : w1.frozen? ⟨w.heap.size, 0, none⟩ = false := by rw [hb.frozen (p := ⟨w.heap.size, 0, none⟩) (by simp)]; simp
    refine (as_EF c a ⟨w.heap.size, 0, none⟩ A _ w1 hA hc hf).mono ?_
    rintro e w2 ⟨rfl, hg, hc2⟩
    refine ⟨true, rfl, ?_⟩
    have hb3 := below_of_grown hb2 (Nat.le_refl _) hg
    clear hg hc hf hb hb2 hA hAs
    go_wp2_with fail
    go_ret
    exact ⟨rfl, hb3⟩

theorem Tryz.cells_F : (Tryz.prog.info? 72).map (·.size) = some 2 := by kernel_rfl

set_option maxHeartbeats 1000000 in
theorem new_any (c a : Int) (w : World) :
    Calls Tryz.prog 31 #[.int .i64 c, .int .i64 a] w fun e w' => e = .returned (errVal (errNew c a)) ∧ w = w' := by
  by_cases h : c = 0
  · subst h
    go_enter Tryz.func31, Tryz.ntmps31
    go_wp2
    go_ret
    exact ⟨rfl, rfl⟩
  · have hb : (c == 0) = false := by rw [beq_eq_false_iff_ne]; exact h
    have he := Lib.hid (show errNew c a = some (c, some a) from if_neg h)
    clear h
    go_enter Tryz.func31, Tryz.ntmps31
    go_wp2
    go_ret
    exact ⟨by rw [he.out]; rfl, rfl⟩

set_option maxHeartbeats 1000000 in
theorem find_nil (w : World) :
    Calls Tryz.prog 47 #[.nilIface] w fun e w' => e = .returned (.tuple #[.agg #[.int .i64 0, .int .i64 0], .bool false]) ∧ Below w.heap.size w w' := by
  go_enter Tryz.func47, Tryz.ntmps47
  go_wp2_with fail
  refine (As_nil _ _).mono ?_
  rintro e w' ⟨rfl, rfl⟩
  go_wp2_with fail
  exact bodyPost_ret (v := .tuple #[.agg #[.int .i64 0, .int .i64 0], .bool false]) (by simp [results, Tryz.results47, go_sem]) rfl ⟨rfl, ((Below.refl _ _).alloc (Nat.le_refl _) _).alloc (by simp) _⟩

set_option maxHeartbeats 1000000 in
theorem find_code (c : Int) (w : World) (hD : Door w) :
    Calls Tryz.prog 47 #[.iface 42 (.int .i64 c)] w fun e w' => e = .returned (.tuple #[.agg #[.int .i64 0, .int .i64 0], .bool false]) ∧ Below w.heap.size w w' := by
  have hD' := Lib.hid (fun o1 o2 => hD.below (Nat.le_refl _) (((Below.refl _ w).alloc (Nat.le_refl _) o1).alloc (by simp) o2))
  clear hD
  go_enter Tryz.func47, Tryz.ntmps47
  go_wp2_with fail
  refine As_F _ _ _ _ (hD'.out _ _) (by simp) _ ?_
  intro w1 A hb hA hAs
  have hb2 : Below w.heap.size w w1 := (((Below.refl _ _).alloc (Nat.le_refl _) _).alloc (by simp) _).trans (hb.mono (by simp; omega))
  have hz := hb.size
  have hc0 : w1.cell? ⟨w.heap.size + 1, 0, none⟩ = some (.int .i64 0) := by rw [hb.cell (p := ⟨w.heap.size + 1, 0, none⟩) (by simp)]; go_simp
  have hc1 : w1.cell? ⟨w.heap.size + 1, 1, none⟩ = some (.int .i64 0) := by rw [hb.cell (p := ⟨w.heap.size + 1, 1, none⟩) (by simp)]; go_simp
  have hr0 : w1.cell? ⟨w.heap.size, 0, none⟩ = some (.int .i64 0) := by rw [hb.cell (p := ⟨w.heap.size, 0, none⟩) (by simp; omega)]; go_simp
  have hr1 : w1.cell? ⟨w.heap.size, 1, none⟩ = some (.int .i64 0) := by rw [hb.cell (p := ⟨w.heap.size, 1, none⟩) (by simp; omega)]; go_simp
  have hf0 : w1.frozen? ⟨w.heap.size, 0, none⟩ = false := by rw [hb.frozen (p := ⟨w.heap.size, 0, none⟩) (by simp; omega)]; go_simp
  have hf1 : w1.frozen? ⟨w.heap.size, 1, none⟩ = false := by rw [hb.frozen (p := ⟨w.heap.size, 1, none⟩) (by simp; omega)]; go_simp
  refine (as_FE c (w.heap.size + 1) A w1).mono ?_
  rintro e w2 ⟨rfl, hg⟩
  refine ⟨false, rfl, ?_⟩
  have hb3 := below_of_grown_none hb2 hg
  have keep : ∀ p : Addr, p.block < w1.heap.size → w2.cell? p = w1.cell? p := fun p hp => World.cell?_of_block (hg.block _ hp (by simp))
  have kfree : ∀ p : Addr, p.block < w1.heap.size → w2.frozen? p = w1.frozen? p := fun p hp => World.frozen?_of_block (hg.block _ hp (by simp))
  have hc0' := (keep ⟨w.heap.size + 1, 0, none⟩ (cell_lt hc0)).trans hc0
  have hc1' := (keep ⟨w.heap.size + 1, 1, none⟩ (cell_lt hc1)).trans hc1
  have hr0' := (keep ⟨w.heap.size, 0, none⟩ (cell_lt hr0)).trans hr0
  have hr1' := (keep ⟨w.heap.size, 1, none⟩ (cell_lt hr1)).trans hr1
  have hf0' := (kfree ⟨w.heap.size, 0, none⟩ (cell_lt hr0)).trans hf0
  have hf1' := (kfree ⟨w.heap.size, 1, none⟩ (cell_lt hr1)).trans hf1
  clear keep kfree hg hc0 hc1 hr0 hr1 hf0 hf1 hb hb2 hA hAs hz
  go_wp2_with fail
  exact bodyPost_ret (v := .tuple #[.agg #[.int .i64 0, .int .i64 0], .bool false]) (by simp [results, Tryz.results47, go_sem, hr0', hr1']) rfl ⟨rfl, (hb3.setCell (p := ⟨w.heap.size, 0, none⟩) (Nat.le_refl _) _).setCell (p := ⟨w.heap.size, 1, none⟩) (Nat.le_refl _) _⟩

set_option maxHeartbeats 1000000 in
theorem find_fault (c a : Int) (w : World) (hD : Door w) :
    Calls Tryz.prog 47 #[.iface 72 (.agg #[.int .i64 c, .int .i64 a])] w fun e w' => e = .returned (.tuple #[.agg #[.int .i64 c, .int .i64 a], .bool true]) ∧ Below w.heap.size w w' := by
  have hD' := Lib.hid (fun o1 o2 => hD.below (Nat.le_refl _) (((Below.refl _ w).alloc (Nat.le_refl _) o1).alloc (by simp) o2))
  clear hD
  go_enter Tryz.func47, Tryz.ntmps47
  go_wp2_with fail
  refine As_F _ _ _ _ (hD'.out _ _) (by simp) _ ?_
  intro w1 A hb hA hAs
  have hb2 : Below w.heap.size w w1 := (((Below.refl _ _).alloc (Nat.le_refl _) _).alloc (by simp) _).trans (hb.mono (by simp; omega))
  have hz := hb.size
  have hc0 : w1.cell? ⟨w.heap.size + 1, 0, none⟩ = some (.int .i64 0) := by rw [hb.cell (p := ⟨w.heap.size + 1, 0, none⟩) (by simp)]; go_simp
  have hc1 : w1.cell? ⟨w.heap.size + 1, 1, none⟩ = some (.int .i64 0) := by rw [hb.cell (p := ⟨w.heap.size + 1, 1, none⟩) (by simp)]; go_simp
  have hg0 : w1.frozen? ⟨w.heap.size + 1, 0, none⟩ = false := by rw [hb.frozen (p := ⟨w.heap.size + 1, 0, none⟩) (by simp)]; go_simp
  have hg1 : w1.frozen? ⟨w.heap.size + 1, 1, none⟩ = false := by rw [hb.frozen (p := ⟨w.heap.size + 1, 1, none⟩) (by simp)]; go_simp
  have hr0 : w1.cell? ⟨w.heap.size, 0, none⟩ = some (.int .i64 0) := by rw [hb.cell (p := ⟨w.heap.size, 0, none⟩) (by simp; omega)]; go_simp
  have hr1 : w1.cell? ⟨w.heap.size, 1, none⟩ = some (.int .i64 0) := by rw [hb.cell (p := ⟨w.heap.size, 1, none⟩) (by simp; omega)]; go_simp
  have hf0 : w1.frozen? ⟨w.heap.size, 0, none⟩ = false := by rw [hb.frozen (p := ⟨w.heap.size, 0, none⟩) (by simp; omega)]; go_simp
  have hf1 : w1.frozen? ⟨w.heap.size, 1, none⟩ = false := by rw [hb.frozen (p := ⟨w.heap.size, 1, none⟩) (by simp; omega)]; go_simp
  refine (as_FF c a (w.heap.size + 1) A _ _ w1 hA hc0 hc1 hg0 hg1).mono ?_
  rintro e w2 ⟨rfl, hg, hc0', hc1'⟩
  refine ⟨true, rfl, ?_⟩
  have hb3 := below_of_grown hb2 (by omega) hg
  have keep : ∀ p : Addr, p.block < w1.heap.size → p.block ≠ w.heap.size + 1 → w2.cell? p = w1.cell? p := fun p hp hne => World.cell?_of_block (hg.block _ hp (by simpa using hne))
  have kfree : ∀ p : Addr, p.block < w1.heap.size → p.block ≠ w.heap.size + 1 → w2.frozen? p = w1.frozen? p := fun p hp hne => World.frozen?_of_block (hg.block _ hp (by simpa using hne))
  have hr0' := (keep ⟨w.heap.size, 0, none⟩ (cell_lt hr0) (by simp)).trans hr0
  have hr1' := (keep ⟨w.heap.size, 1, none⟩ (cell_lt hr1) (by simp)).trans hr1
  have hf0' := (kfree ⟨w.heap.size, 0, none⟩ (cell_lt hr0) (by simp)).trans hf0
  have hf1' := (kfree ⟨w.heap.size, 1, none⟩ (cell_lt hr1) (by simp)).trans hf1
  clear keep kfree hg hg0 hg1 hc0 hc1 hr0 hr1 hf0 hf1 hb hb2 hA hAs hz
  go_wp2_with fail
  exact bodyPost_ret (v := .tuple #[.agg #[.int .i64 c, .int .i64 a], .bool true]) (by simp [results, Tryz.results47, go_sem, hr0', hr1']) rfl ⟨rfl, (hb3.setCell (p := ⟨w.heap.size, 0, none⟩) (Nat.le_refl _) _).setCell (p := ⟨w.heap.size, 1, none⟩) (Nat.le_refl _) _⟩

set_option maxHeartbeats 1000000 in
theorem at_any (x : Err) (w : World) (hD : Door w) :
    Calls Tryz.prog 24 #[errVal x] w fun e w' => e = .returned (.int .i64 (errAt x)) ∧ Below w.heap.size w w' := by
  rcases x with _ | ⟨c, _ | a⟩
  · go_enter Tryz.func24, Tryz.ntmps24
    simp only [errVal]
    go_wp2_with fail
    refine (find_nil _).mono ?_
    rintro e w1 ⟨rfl, hb⟩
    go_wp2_with fail
    go_ret
    exact ⟨rfl, hb.alloc hb.size _⟩
  · go_enter Tryz.func24, Tryz.ntmps24
    simp only [errVal]
    go_wp2_with fail
    refine (find_code _ _ hD).mono ?_
    rintro e w1 ⟨rfl, hb⟩
    go_wp2_with fail
    go_ret
    exact ⟨rfl, hb.alloc hb.size _⟩
  · go_enter Tryz.func24, Tryz.ntmps24
    simp only [errVal]
    go_wp2_with fail
    refine (find_fault _ _ _ hD).mono ?_
    rintro e w1 ⟨rfl, hb⟩
    go_wp2_with fail
    go_ret
    exact ⟨rfl, hb.alloc hb.size _⟩

end Go.Proofs.YtbiohohclnaocaaGreatDoor
