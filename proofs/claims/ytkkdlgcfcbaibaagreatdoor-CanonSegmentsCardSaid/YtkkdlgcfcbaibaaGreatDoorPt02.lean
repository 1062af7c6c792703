/- Walks and laws, merged: part 2. -/
import Derived.WalkSpells
import Derived.BigQuiet
import Derived.Laws.Bits64
import Derived.Test.YtkkdlgcfcbaibaaGreatDoorPt01
section
namespace Go.Proofs.YtkkdlgcfcbaibaaGreatDoor
open Go.RowKit Go.Extern.Stop Go.Stop Go.Extern
set_option linter.unusedVariables false

set_option maxHeartbeats 4000000 in
/-- errors.As of an error that is not nil at a target *api.Errno: as errors.as says. -/
theorem As_E (u : TypeId) (x : Value) (t : Addr) (w : World) (hD : Door w) (ht : t.block < w.heap.size) (Q : Ending → World → Prop)
    (h : ∀ (w1 : World) (A : Addr), Below w.heap.size w w1 → w1.cell? A = some (.pointer (some t)) → w.heap.size ≤ A.block →
      Calls Tryz.prog 92 #[.iface u x, .iface 97 (.pointer (some t)), .agg #[.pointer (some ⟨2, 97, none⟩), .pointer (some A), .int .u64 150], .iface 186 (.agg #[.pointer (some ⟨2, 50, none⟩)])] w1 fun e w' => ∃ b, e = .returned (.bool b) ∧ Q e w') :
    Calls Tryz.prog 52 #[.iface u x, .iface 97 (.pointer (some t))] w Q := by
  have hVO := @run_callFunc_extern Tryz.prog 89 _ (fun args => ReflectliteValue.unpack (args.getD 0 (.tuple #[]))) Tryz.func89 (by kernel_rfl) (by kernel_rfl) (by kernel_rfl) (by kernel_rfl)
  have hTy := @run_callFunc_extern Tryz.prog 90 _ (ReflectliteValue.methodAny (ReflectliteValue.valueError "reflectlite.Value.Type" 0) (fun t _ _ _ => ReflectliteType.toType t)) Tryz.func90 (by kernel_rfl) (by kernel_rfl) (by kernel_rfl) (by kernel_rfl)
  have hIN := @run_callFunc_extern Tryz.prog 91 _ (ReflectliteValue.method (ReflectliteValue.valueError "reflectlite.Value.IsNil" 0) ReflectliteValue.isNil) Tryz.func91 (by kernel_rfl) (by kernel_rfl) (by kernel_rfl) (by kernel_rfl)
  have hKi := @run_callFunc_extern Tryz.prog 257 _ (ReflectliteType.abiMethod fun t => do pure (.int .u8 (← Rtype.kind t))) Tryz.func257 (by kernel_rfl) (by kernel_rfl) (by kernel_rfl) (by kernel_rfl)
  have hEl := @run_callFunc_extern Tryz.prog 270 _ (ReflectliteType.method ReflectliteType.elem) Tryz.func270 (by kernel_rfl) (by kernel_rfl) (by kernel_rfl) (by kernel_rfl)
  have hIm := @run_callFunc_extern Tryz.prog 271 _ (ReflectliteType.relation "Implements" ReflectliteType.implements_) Tryz.func271 (by kernel_rfl) (by kernel_rfl) (by kernel_rfl) (by kernel_rfl)
  have f6 := Tryz.valueOfPE
  have f7 := Tryz.typePE
  have mK := Tryz.methodKind
  have mE := Tryz.methodElem
  have mI := Tryz.methodImplements
  have k27 := Tryz.kindPE
  have k25 := Tryz.kindE
  have e27 := Tryz.elemPE
  have i25 := Tryz.implementsE
  have n8 := Tryz.isNilPE ⟨w.heap.size, 0, none⟩ t ((w.alloc (.cells #[.pointer (some t)] 97)).alloc (.cells #[.pointer (some ⟨2, 97, none⟩), .pointer (some ⟨w.heap.size, 0, none⟩), .int .u64 150] 136)) (by simp)
  have hlt : 1 < w.heap.size := cell_lt hD
  have hg2 : ((w.alloc (.cells #[.pointer (some t)] 97)).alloc (.cells #[.pointer (some ⟨2, 97, none⟩), .pointer (some ⟨w.heap.size, 0, none⟩), .int .u64 150] 136)).cell? ⟨1, 0, none⟩ = some (.iface 186 (.agg #[.pointer (some ⟨2, 41, none⟩)])) := by
    rw [World.cell?_alloc_lt _ _ ⟨1, 0, none⟩ (by simp only [World.size_alloc]; omega), World.cell?_alloc_lt _ _ ⟨1, 0, none⟩ hlt]; exact hD
  have H := Lib.hid (h ((w.alloc (.cells #[.pointer (some t)] 97)).alloc (.cells #[.pointer (some ⟨2, 97, none⟩), .pointer (some ⟨w.heap.size, 0, none⟩), .int .u64 150] 136)) ⟨w.heap.size, 0, none⟩
    (((Below.refl _ _).alloc (Nat.le_refl _) _).alloc (by simp only [World.size_alloc]; omega) _) (by simp) (Nat.le_refl _))
  clear h hD
  go_enter Tryz.func52, Tryz.ntmps52
  go_wp2_with fail
  refine H.out.mono ?_
  rintro e w' ⟨b, rfl, hq⟩
  have Hq := Lib.hid hq; clear hq H
  go_wp2_with fail
  exact Hq.out

end Go.Proofs.YtkkdlgcfcbaibaaGreatDoor
end

section
namespace Go.Proofs.YtkkdlgcfcbaibaaGreatDoor
open Go.RowKit Go.Extern.Stop Go.Stop Go.Extern
set_option linter.unusedVariables false

/-- The errors of the program: nil, a code, a fault (a code and an offset). -/
abbrev Err := Option (Int × Option Int)

def errVal : Err → Value
  | none => .nilIface
  | some (c, none) => .iface 50 (.int .i64 c)
  | some (c, some a) => .iface 99 (.agg #[.int .i64 c, .int .i64 a])

def errCode : Err → Int
  | none => 0
  | some (c, _) => c

def errAt : Err → Int
  | some (_, some a) => a
  | _ => -1

/-- fault.New. -/
def errNew (c a : Int) : Err := if c = 0 then none else some (c, some a)

theorem below_of_grown {w0 w w' : World} {g : Nat} (hb : Below w0.heap.size w0 w) (hg : w0.heap.size ≤ g) (h : w.grownBy w' (some g)) : Below w0.heap.size w0 w' :=
  hb.grown h hb.size (fun k hk => by cases hk; exact hg)

set_option maxHeartbeats 1000000 in
theorem code_any (x : Err) (w : World) (hD : Door w) :
    Calls Tryz.prog 23 #[errVal x] w fun e w' => e = .returned (.int .i64 (errCode x)) ∧ Below w.heap.size w w' := by
  have hD' := Lib.hid (fun o => hD.below (Nat.le_refl _) ((Below.refl _ w).alloc (Nat.le_refl _) o))
  clear hD
  rcases x with _ | ⟨c, _ | a⟩
  · go_enter Tryz.func23, Tryz.ntmps23
    simp only [errVal]
    go_wp2_with fail
    go_ret
    exact ⟨rfl, (Below.refl _ _).alloc (Nat.le_refl _) _⟩
  · go_enter Tryz.func23, Tryz.ntmps23
    simp only [errVal]
    go_wp2_with fail
    refine As_E _ _ _ _ (hD'.out _) (by simp) _ ?_
    intro w1 A hb hA hAs
    have hb2 : Below w.heap.size w w1 := ((Below.refl _ _).alloc (Nat.le_refl _) _).trans (hb.mono (by simp))
    have hc : w1.cell? ⟨w.heap.size, 0, none⟩ = some (.int .i64 0) := by rw [hb.cell (p := ⟨w.heap.size, 0, none⟩) (by simp)]; simp
    have hf : w1.frozen? ⟨w.heap.size, 0, none⟩ = false := by rw [hb.frozen (p := ⟨w.heap.size, 0, none⟩) (by simp)]; simp
    refine (as_EE c ⟨w.heap.size, 0, none⟩ A _ w1 hA hc hf).mono ?_
    rintro e w2 ⟨rfl, hg, hc2⟩
    refine ⟨true, rfl, ?_⟩
    have hb3 := below_of_grown hb2 (Nat.le_refl _) hg
    clear hg hc hf hb hb2 hA hAs
    go_wp2_with fail
    go_ret
    exact ⟨rfl, hb3⟩
  · go_enter Tryz.func23, Tryz.ntmps23
    simp only [errVal]
    go_wp2_with fail
    refine As_E _ _ _ _ (hD'.out _) (by simp) _ ?_
    intro w1 A hb hA hAs
    have hb2 : Below w.heap.size w w1 := ((Below.refl _ _).alloc (Nat.le_refl _) _).trans (hb.mono (by simp))
    have hc : w1.cell? ⟨w.heap.size, 0, none⟩ = some (.int .i64 0) := by rw [hb.cell (p := ⟨w.heap.size, 0, none⟩) (by simp)]; simp
    have hf : w1.frozen? ⟨w.heap.size, 0, none⟩ = false := by rw [hb.frozen (p := ⟨w.heap.size, 0, none⟩) (by simp)]; simp
    refine (as_EF c a ⟨w.heap.size, 0, none⟩ A _ w1 hA hc hf).mono ?_
    rintro e w2 ⟨rfl, hg, hc2⟩
    refine ⟨true, rfl, ?_⟩
    have hb3 := below_of_grown hb2 (Nat.le_refl _) hg
    clear hg hc hf hb hb2 hA hAs
    go_wp2_with fail
    go_ret
    exact ⟨rfl, hb3⟩

set_option maxHeartbeats 1000000 in
theorem new_any (c a : Int) (w : World) :
    Calls Tryz.prog 50 #[.int .i64 c, .int .i64 a] w fun e w' => e = .returned (errVal (errNew c a)) ∧ w = w' := by
  by_cases h : c = 0
  · subst h
    go_enter Tryz.func50, Tryz.ntmps50
    go_wp2
    go_ret
    exact ⟨rfl, rfl⟩
  · have hb : (c == 0) = false := by rw [beq_eq_false_iff_ne]; exact h
    have he := Lib.hid (show errNew c a = some (c, some a) from if_neg h)
    clear h
    go_enter Tryz.func50, Tryz.ntmps50
    go_wp2
    go_ret
    exact ⟨by rw [he.out]; rfl, rfl⟩

end Go.Proofs.YtkkdlgcfcbaibaaGreatDoor
end

section
namespace Go.Proofs.YtkkdlgcfcbaibaaGreatDoor
open Go.RowKit
set_option linter.unusedVariables false

def nthI (l : List Iv) (k : Nat) : Iv := l.getD k (0, 0)
theorem nthI_get {l : List Iv} {k : Nat} (h : k < l.length) : nthI l k = l[k] := by simp [nthI, h]
theorem nthI_mem {l : List Iv} {k : Nat} (h : k < l.length) : nthI l k ∈ l := by rw [nthI_get h]; exact List.getElem_mem h

/-- The slice with this address, length and capacity reads as the intervals l. -/
structure Ivs (w : World) (a : Option Addr) (n cap : Nat) (l : List Iv) : Prop where
  len : l.length = n
  lt : ∀ s ∈ l, s.1 < 18446744073709551616 ∧ s.2 < 18446744073709551616
  room : n ≤ cap
  most : cap ≤ 9223372036854775807
  nilc : a = none → cap = 0
  cells : 0 < n → ∃ b o, a = some ⟨b, o, none⟩ ∧ ∀ i, i < n → w.cell? ⟨b, o + i * 2, none⟩ = some (.int .u64 (((nthI l i).1 : Nat) : Int)) ∧ w.cell? ⟨b, o + i * 2 + 1, none⟩ = some (.int .u64 (((nthI l i).2 : Nat) : Int))

theorem Ivs.below {w w' : World} {a : Option Addr} {n cap : Nat} {l : List Iv} (h : Ivs w a n cap l) (hb : Below w.heap.size w w') : Ivs w' a n cap l := by
  refine ⟨h.len, h.lt, h.room, h.most, h.nilc, fun hn => ?_⟩
  obtain ⟨b, o, ha, hc⟩ := h.cells hn
  refine ⟨b, o, ha, fun i hi => ?_⟩
  obtain ⟨h1, h2⟩ := hc i hi
  exact ⟨(hb.cell (p := ⟨b, o + i * 2, none⟩) (cell_lt h1)).trans h1, (hb.cell (p := ⟨b, o + i * 2 + 1, none⟩) (cell_lt h2)).trans h2⟩

/-- An interval as a value. -/
abbrev ivV (s : Iv) : Value := .agg #[.int .u64 ((s.1 : Nat) : Int), .int .u64 ((s.2 : Nat) : Int)]

/-- Intervals as cells. -/
def ivC (l : List Iv) : List Value := l.flatMap fun s => [.int .u64 ((s.1 : Nat) : Int), .int .u64 ((s.2 : Nat) : Int)]
theorem ivC_cons (s : Iv) (l : List Iv) : ivC (s :: l) = .int .u64 ((s.1 : Nat) : Int) :: .int .u64 ((s.2 : Nat) : Int) :: ivC l := rfl
theorem ivC_append (a b : List Iv) : ivC (a ++ b) = ivC a ++ ivC b := by simp [ivC]
theorem ivC_length (l : List Iv) : (ivC l).length = l.length * 2 := by
  induction l with
  | nil => rfl
  | cons s l ih => rw [ivC_cons]; simp [ih]; omega
theorem ivC_get : ∀ (l : List Iv) (i : Nat), i < l.length → (ivC l)[i * 2]? = some (.int .u64 (((nthI l i).1 : Nat) : Int)) ∧ (ivC l)[i * 2 + 1]? = some (.int .u64 (((nthI l i).2 : Nat) : Int))
  | [], i, h => by simp at h
  | s :: l, 0, _ => ⟨rfl, rfl⟩
  | s :: l, i + 1, h => by
    have := ivC_get l i (by simpa using h)
    rw [ivC_cons, show (i + 1) * 2 = i * 2 + 1 + 1 by omega]
    simpa [nthI] using this
theorem ivC_one (l : List Iv) : ∀ u ∈ ivC l, u.oneCell' = true := by
  intro u hu
  simp only [ivC, List.mem_flatMap] at hu
  obtain ⟨s, _, hs⟩ := hu
  simp at hs
  rcases hs with rfl | rfl <;> rfl
theorem ivC_set : ∀ (l : List Iv) (i x : Nat), i < l.length → (ivC l).set (i * 2 + 1) (.int .u64 ((x : Nat) : Int)) = ivC (l.set i ((nthI l i).1, x))
  | [], i, x, h => by simp at h
  | s :: l, 0, x, _ => rfl
  | s :: l, i + 1, x, h => by
    have := ivC_set l i x (by simpa using h)
    rw [ivC_cons, show (i + 1) * 2 + 1 = (i * 2 + 1) + 1 + 1 by omega, List.set_cons_succ, List.set_cons_succ, this, List.set_cons_succ, ivC_cons]
    simp [nthI]

theorem ivs_nil (w : World) : Ivs w none 0 0 [] := ⟨rfl, by simp, by omega, by omega, fun _ => rfl, fun h => by omega⟩

theorem ivs_own {w : World} {base n : Nat} {T : TypeId} {v : Value} {l : List Iv} (h : w.ownsRow base T 2 v n (ivC l)) (hl : ∀ s ∈ l, s.1 < 18446744073709551616 ∧ s.2 < 18446744073709551616) : ∃ a cap, v = .slice a n cap ∧ Ivs w a n cap l := by
  have hlen : l.length = n := by have := h.1; rw [ivC_length] at this; omega
  rcases h.2 with ⟨rfl, rfl⟩ | ⟨g, cap, cur, rfl, hg, hh, hnc, hcm, _⟩
  · exact ⟨none, 0, rfl, hlen, hl, by omega, by omega, fun _ => rfl, fun h => by omega⟩
  · refine ⟨_, _, rfl, hlen, hl, hnc, by unfold maxLen at hcm; omega, (by intro h; cases h), fun hn => ⟨g, 0, rfl, fun i hi => ?_⟩⟩
    obtain ⟨e1, e2⟩ := ivC_get l i (by omega)
    have h1 := h.cells (g := g) rfl _ _ e1
    have h2 := h.cells (g := g) rfl _ _ e2
    rw [add_at] at h1 h2
    rw [Nat.add_assoc]
    exact ⟨h1, h2⟩

theorem keep_below {P : Program} {f : FuncId} {args : Array Value} {w w' : World} {v : Value} (hw : Below w.heap.size w w') (h : Calls P f args w' fun e w'' => e = .returned v ∧ Below w'.heap.size w' w'') :
    Calls P f args w' fun e w'' => e = .returned v ∧ Below w.heap.size w w'' := h.mono fun e w'' ⟨he, hb⟩ => ⟨he, hw.trans (hb.mono hw.size)⟩
theorem below_drewN' {B : Nat} {a w : World} (h : Below B a w) (n : Nat) : Below B a (w.drewN n) := ⟨h.os, h.tape, h.output, h.size, h.block⟩
theorem keep_same {P : Program} {f : FuncId} {args : Array Value} {w w' : World} {v : Value} (hw : Below w.heap.size w w') (h : Calls P f args w' fun e w'' => e = .returned v ∧ w' = w'') :
    Calls P f args w' fun e w'' => e = .returned v ∧ Below w.heap.size w w'' := h.mono fun e w'' ⟨he, hq⟩ => ⟨he, hq ▸ hw⟩
/-- A region that draws its order, whose operations leave all that lay there: one walk in the order of the text. -/
theorem wp_region_below {P : Program} {id : Nat} {Q : Exit → Act → World → Prop} {a : Act} {w : World} {l : List Oper} (hm : P.follows .mixedOrders = true) (hB : Region.lexB .any l.toArray = true)
    (h : wpQuiet P l.toArray (fun w' => Below w.heap.size w w') (fun a' => ∀ w', Below w.heap.size w w' → Q .normal a' w') l a) : (Code.region id l.toArray true).wp P Q a w :=
  wp_region_quiet (C := fun w' => Below w.heap.size w w') hm hB ((Below.refl _ _).drew) (by simpa using h)

end Go.Proofs.YtkkdlgcfcbaibaaGreatDoor
end

section
namespace Go.Proofs.YtkkdlgcfcbaibaaGreatDoor
open Go.RowKit
set_option linter.unusedVariables false

/-- How two intervals lie. -/
def relB (a b : Iv) : Nat :=
  if a.2 < b.1 then (if 0 < b.1 - a.2 - 1 then (if b.2 < a.1 then (if 0 < a.1 - b.2 - 1 then 2 else 1) else 0) else (if b.2 < a.1 then (if 0 < a.1 - b.2 - 1 then 3 else 2) else 1))
  else (if b.2 < a.1 then (if 0 < a.1 - b.2 - 1 then 4 else 3) else 2)

theorem ret2 {k : IntKind} {a b : Int} {x : Value} (h : a = b) : Ending.returned (.tuple #[.int k a, x]) = .returned (.tuple #[.int k b, x]) := by rw [h]

theorem between_lt (a b : Nat) (w : World) (h : a < b) (hb : b < 18446744073709551616) :
    Calls Tryz.prog 135 #[.int .u64 a, .int .u64 b] w fun e w' => e = .returned (.tuple #[.int .u64 ((b - a - 1 : Nat) : Int), .bool true]) ∧ w = w' := by
  have e1 := Lib.hid (show IntKind.u64.wrap ((b : Int) - (a : Int)) = ((b - a : Nat) : Int) from by rw [IntKind.wrap_u64]; omega)
  have e2 := Lib.hid (show IntKind.u64.wrap (((b - a : Nat) : Int) - 1) = ((b - a - 1 : Nat) : Int) from by rw [IntKind.wrap_u64]; omega)
  clear hb
  go_enter Tryz.func135, Tryz.ntmps135
  go_wp2
  go_ret2
  refine ⟨ret2 ?_, rfl⟩
  rw [e1.out, e2.out]

theorem between_ge (a b : Nat) (w : World) (h : ¬ a < b) :
    Calls Tryz.prog 135 #[.int .u64 a, .int .u64 b] w fun e w' => e = .returned (.tuple #[.int .u64 0, .bool false]) ∧ w = w' := by
  go_enter Tryz.func135, Tryz.ntmps135
  go_wp2
  go_ret2
  exact ⟨rfl, rfl⟩

theorem spanCheck_any (s : Iv) (w : World) :
    Calls Tryz.prog 77 #[ivV s] w fun e w' => e = .returned (errVal (if s.2 < s.1 then some (2, none) else none)) ∧ Below w.heap.size w w' := by
  obtain ⟨a, b⟩ := s
  by_cases h : b < a
  · rw [if_pos h]
    simp only [errVal]
    go_enter Tryz.func77, Tryz.ntmps77
    go_wp2
    go_ret
    exact ⟨rfl, (Below.refl _ _).alloc (Nat.le_refl _) _⟩
  · rw [if_neg h]
    simp only [errVal]
    go_enter Tryz.func77, Tryz.ntmps77
    go_wp2
    go_ret
    exact ⟨rfl, (Below.refl _ _).alloc (Nat.le_refl _) _⟩

theorem relate_any (a b : Iv) (w : World) (ha : a.1 < 18446744073709551616 ∧ a.2 < 18446744073709551616) (hb : b.1 < 18446744073709551616 ∧ b.2 < 18446744073709551616) :
    Calls Tryz.prog 80 #[ivV a, ivV b] w fun e w' => e = .returned (.int .i64 ((relB a b : Nat) : Int)) ∧ Below w.heap.size w w' := by
  obtain ⟨x, y⟩ := a
  obtain ⟨z, u⟩ := b
  have hz := hb.1
  have hx := ha.1
  clear ha hb
  simp only at hx hz
  have hw : Below w.heap.size w ((w.alloc (.cells #[.int .u64 x, .int .u64 y] 73)).alloc (.cells #[.int .u64 z, .int .u64 u] 73)) :=
    ((Below.refl _ _).alloc (Nat.le_refl _) _).alloc (by simp) _
  by_cases h1 : y < z
  · have C1 := Lib.hid (fun w => between_lt y z w h1 hz)
    by_cases g1 : 0 < z - y - 1
    · by_cases h2 : u < x
      · have C2 := Lib.hid (fun w => between_lt u x w h2 hx)
        by_cases g2 : 0 < x - u - 1
        · have hr := Lib.hid (show relB (x, y) (z, u) = 2 from by simp [relB, h1, h2, g1, g2])
          generalize relB (x, y) (z, u) = r at *
          generalize z - y - 1 = p at *
          generalize x - u - 1 = q at *
          clear hx hz h1 h2
          go_enter Tryz.func80, Tryz.ntmps80
          go_wp2_with fail
          refine (C1.out _).mono ?_
          rintro e w1 ⟨rfl, rfl⟩
          go_wp2_with fail
          refine (C2.out _).mono ?_
          rintro e w1 ⟨rfl, rfl⟩
          go_wp2_with fail
          go_ret
          exact ⟨ret_int (by rw [hr.out]; rfl), hw⟩
        · have hr := Lib.hid (show relB (x, y) (z, u) = 1 from by simp [relB, h1, h2, g1, g2])
          obtain e2 : x - u - 1 = 0 := by omega
          rw [e2] at C2
          clear e2 g2
          generalize relB (x, y) (z, u) = r at *
          generalize z - y - 1 = p at *
          clear hx hz h1 h2
          go_enter Tryz.func80, Tryz.ntmps80
          go_wp2_with fail
          refine (C1.out _).mono ?_
          rintro e w1 ⟨rfl, rfl⟩
          go_wp2_with fail
          refine (C2.out _).mono ?_
          rintro e w1 ⟨rfl, rfl⟩
          go_wp2_with fail
          go_ret
          exact ⟨ret_int (by rw [hr.out]; rfl), hw⟩
      · have C2 := Lib.hid (fun w => between_ge u x w h2)
        have hr := Lib.hid (show relB (x, y) (z, u) = 0 from by simp [relB, h1, h2, g1])
        generalize relB (x, y) (z, u) = r at *
        generalize z - y - 1 = p at *
        clear hx hz h1 h2
        go_enter Tryz.func80, Tryz.ntmps80
        go_wp2_with fail
        refine (C1.out _).mono ?_
        rintro e w1 ⟨rfl, rfl⟩
        go_wp2_with fail
        refine (C2.out _).mono ?_
        rintro e w1 ⟨rfl, rfl⟩
        go_wp2_with fail
        go_ret
        exact ⟨ret_int (by rw [hr.out]; rfl), hw⟩
    · have e1 : z - y - 1 = 0 := by omega
      rw [e1] at C1
      clear e1
      by_cases h2 : u < x
      · have C2 := Lib.hid (fun w => between_lt u x w h2 hx)
        by_cases g2 : 0 < x - u - 1
        · have hr := Lib.hid (show relB (x, y) (z, u) = 3 from by simp [relB, h1, h2, g1, g2])
          generalize relB (x, y) (z, u) = r at *
          generalize x - u - 1 = q at *
          clear hx hz h1 h2
          go_enter Tryz.func80, Tryz.ntmps80
          go_wp2_with fail
          refine (C1.out _).mono ?_
          rintro e w1 ⟨rfl, rfl⟩
          go_wp2_with fail
          refine (C2.out _).mono ?_
          rintro e w1 ⟨rfl, rfl⟩
          go_wp2_with fail
          go_ret
          exact ⟨ret_int (by rw [hr.out]; rfl), hw⟩
        · have hr := Lib.hid (show relB (x, y) (z, u) = 2 from by simp [relB, h1, h2, g1, g2])
          obtain e2 : x - u - 1 = 0 := by omega
          rw [e2] at C2
          clear e2 g2
          generalize relB (x, y) (z, u) = r at *
          clear hx hz h1 h2
          go_enter Tryz.func80, Tryz.ntmps80
          go_wp2_with fail
          refine (C1.out _).mono ?_
          rintro e w1 ⟨rfl, rfl⟩
          go_wp2_with fail
          refine (C2.out _).mono ?_
          rintro e w1 ⟨rfl, rfl⟩
          go_wp2_with fail
          go_ret
          exact ⟨ret_int (by rw [hr.out]; rfl), hw⟩
      · have C2 := Lib.hid (fun w => between_ge u x w h2)
        have hr := Lib.hid (show relB (x, y) (z, u) = 1 from by simp [relB, h1, h2, g1])
        generalize relB (x, y) (z, u) = r at *
        clear hx hz h1 h2
        go_enter Tryz.func80, Tryz.ntmps80
        go_wp2_with fail
        refine (C1.out _).mono ?_
        rintro e w1 ⟨rfl, rfl⟩
        go_wp2_with fail
        refine (C2.out _).mono ?_
        rintro e w1 ⟨rfl, rfl⟩
        go_wp2_with fail
        go_ret
        exact ⟨ret_int (by rw [hr.out]; rfl), hw⟩
  · have C1 := Lib.hid (fun w => between_ge y z w h1)
    by_cases h2 : u < x
    · have C2 := Lib.hid (fun w => between_lt u x w h2 hx)
      by_cases g2 : 0 < x - u - 1
      · have hr := Lib.hid (show relB (x, y) (z, u) = 4 from by simp [relB, h1, h2, g2])
        generalize relB (x, y) (z, u) = r at *
        generalize x - u - 1 = q at *
        clear hx hz h1 h2
        go_enter Tryz.func80, Tryz.ntmps80
        go_wp2_with fail
        refine (C1.out _).mono ?_
        rintro e w1 ⟨rfl, rfl⟩
        go_wp2_with fail
        refine (C2.out _).mono ?_
        rintro e w1 ⟨rfl, rfl⟩
        go_wp2_with fail
        go_ret
        exact ⟨ret_int (by rw [hr.out]; rfl), hw⟩
      · have hr := Lib.hid (show relB (x, y) (z, u) = 3 from by simp [relB, h1, h2, g2])
        obtain e2 : x - u - 1 = 0 := by omega
        rw [e2] at C2
        clear e2 g2
        generalize relB (x, y) (z, u) = r at *
        clear hx hz h1 h2
        go_enter Tryz.func80, Tryz.ntmps80
        go_wp2_with fail
        refine (C1.out _).mono ?_
        rintro e w1 ⟨rfl, rfl⟩
        go_wp2_with fail
        refine (C2.out _).mono ?_
        rintro e w1 ⟨rfl, rfl⟩
        go_wp2_with fail
        go_ret
        exact ⟨ret_int (by rw [hr.out]; rfl), hw⟩
    · have C2 := Lib.hid (fun w => between_ge u x w h2)
      have hr := Lib.hid (show relB (x, y) (z, u) = 2 from by simp [relB, h1, h2])
      generalize relB (x, y) (z, u) = r at *
      clear hx hz h1 h2
      go_enter Tryz.func80, Tryz.ntmps80
      go_wp2_with fail
      refine (C1.out _).mono ?_
      rintro e w1 ⟨rfl, rfl⟩
      go_wp2_with fail
      refine (C2.out _).mono ?_
      rintro e w1 ⟨rfl, rfl⟩
      go_wp2_with fail
      go_ret
      exact ⟨ret_int (by rw [hr.out]; rfl), hw⟩

end Go.Proofs.YtkkdlgcfcbaibaaGreatDoor
end

section
namespace Go.Proofs.YtkkdlgcfcbaibaaGreatDoor
open Go.RowKit
set_option linter.unusedVariables false

/-- The first place at which a function has something. -/
def firstS {α : Type} (f : Nat → Option α) (n : Nat) : Option α := (List.range n).findSome? f
theorem firstS_some {α : Type} {f : Nat → Option α} {n k : Nat} {x : α} (hk : k < n) (h : ∀ j, j < k → f j = none) (hx : f k = some x) : firstS f n = some x := by
  unfold firstS
  induction n with
  | zero => omega
  | succ n ih =>
    rw [List.range_succ, List.findSome?_append]
    by_cases e : k = n
    · subst e
      have h0 : (List.range k).findSome? f = none := by
        rw [List.findSome?_eq_none_iff]
        intro j hj
        exact h j (by simpa using hj)
      rw [h0]
      simp [hx]
    · rw [ih (by omega)]
      rfl
theorem firstS_none {α : Type} {f : Nat → Option α} {n : Nat} (h : ∀ j, j < n → f j = none) : firstS f n = none := by
  unfold firstS
  rw [List.findSome?_eq_none_iff]
  intro j hj
  exact h j (by simpa using hj)
theorem firstS_of_none {α : Type} {f : Nat → Option α} {n : Nat} (h : firstS f n = none) : ∀ j, j < n → f j = none := by
  unfold firstS at h
  rw [List.findSome?_eq_none_iff] at h
  intro j hj
  exact h j (by simpa using hj)
theorem firstS_of_some {α : Type} {f : Nat → Option α} {n : Nat} {x : α} (h : firstS f n = some x) : ∃ k, k < n ∧ (∀ j, j < k → f j = none) ∧ f k = some x := by
  induction n with
  | zero => cases h
  | succ n ih =>
    unfold firstS at h ih
    rw [List.range_succ, List.findSome?_append] at h
    cases e : (List.range n).findSome? f with
    | some y =>
      rw [e] at h ih
      obtain ⟨k, h1, h2, h3⟩ := ih h
      exact ⟨k, by omega, h2, h3⟩
    | none =>
      rw [e] at h
      refine ⟨n, by omega, firstS_of_none e, ?_⟩
      simpa using h

/-- The error of the interval at a place, if any: its code, the place. -/
def ckAt (l : List Iv) (i : Nat) : Option (Nat × Nat) :=
  if (nthI l i).2 < (nthI l i).1 then some (2, i) else if 0 < i ∧ relB (nthI l (i - 1)) (nthI l i) ≠ 0 then some (3, i) else none

def ck (l : List Iv) : Option (Nat × Nat) := firstS (ckAt l) l.length

def errOf : Option (Nat × Nat) → Err
  | none => none
  | some (c, i) => some ((c : Int), some (i : Int))

set_option maxHeartbeats 1000000 in
theorem check_any (a : Option Addr) (n cap : Nat) (l : List Iv) (w : World) (hI : Ivs w a n cap l) (hD : Door w) :
    Calls Tryz.prog 93 #[.slice a n cap] w fun e w' => e = .returned (errVal (errOf (ck l))) ∧ Below w.heap.size w w' := by
  have HD := Lib.hid hD; clear hD
  have HI := Lib.hid hI
  have Hl := Lib.hid hI.len
  have hm : n ≤ 9223372036854775807 := Nat.le_trans hI.room hI.most
  clear hI
  go_enter Tryz.func93, Tryz.ntmps93
  go_wp2
  go_loopw [3, 4, 5, 8] (fun _ _ _ i wr => ∃ k : Nat, k ≤ n ∧ i = .int .i64 k ∧ Below w.heap.size w wr ∧ Hid (∀ j, j < k → ckAt l j = none)) (fun _ _ _ i _ => n - (intOf i).toNat)
  case atStart => exact ⟨0, by omega, rfl, Below.refl _ _, fun j h => by omega⟩
  case round =>
    obtain ⟨k, hk, rfl, hb, ht⟩ := hrel
    have Hb := Lib.hid hb; clear hb
    by_cases hkn : k < n
    · obtain ⟨bb, oo, rfl, hcell⟩ := (HI.out.below Hb.out).cells (by omega)
      obtain ⟨hc1, hc2⟩ := hcell k hkn
      have Hcell := Lib.hid hcell; clear hcell
      have Hlt := Lib.hid (HI.out.lt (nthI l k) (nthI_mem (by rw [Hl.out]; exact hkn)))
      have hin : ckAt l k = if (nthI l k).2 < (nthI l k).1 then some (2, k) else if 0 < k ∧ relB (nthI l (k - 1)) (nthI l k) ≠ 0 then some (3, k) else none := rfl
      generalize hs : nthI l k = s at *
      have Hs := Lib.hid hs; clear hs
      by_cases h2 : s.2 < s.1
      · rw [if_pos h2] at hin
        have Hr := Lib.hid (show ck l = some (2, k) from firstS_some (by rw [Hl.out]; exact hkn) ht.out hin)
        clear hin
        have hC := Lib.hid (fun w => spanCheck_any s w)
        rw [if_pos h2] at hC
        clear h2
        go_wp2_with fail
        refine (hC.out _).mono ?_
        rintro e w1 ⟨rfl, hb1⟩
        have Hb1 := Lib.hid ((Hb.out.alloc Hb.out.size _).trans (hb1.mono (Below.size (Hb.out.alloc Hb.out.size _)))); clear hb1
        simp only [errVal]
        go_wp2_with fail
        refine (code_any (some (2, none)) _ (HD.out.below (Nat.le_refl _) Hb1.out)).mono ?_
        rintro e w2 ⟨rfl, hb2⟩
        have Hb2 := Lib.hid (Hb1.out.trans (hb2.mono Hb1.out.size)); clear hb2
        simp only [errCode]
        go_wp2_with fail
        refine (new_any 2 k _).mono ?_
        rintro e w3 ⟨rfl, rfl⟩
        go_wp2_with fail
        go_ret
        exact ⟨by rw [Hr.out]; rfl, Hb2.out⟩
      · rw [if_neg h2] at hin
        have hC := Lib.hid (fun w => spanCheck_any s w)
        rw [if_neg h2] at hC
        clear h2
        by_cases hk0 : 0 < k
        · obtain ⟨hp1, hp2⟩ := Hcell.out (k - 1) (by omega)
          have Hpl := Lib.hid (HI.out.lt (nthI l (k - 1)) (nthI_mem (by rw [Hl.out]; omega)))
          generalize hp : nthI l (k - 1) = p at *
          have Hp := Lib.hid hp; clear hp
          have hR := Lib.hid (fun w => relate_any p s w Hpl.out Hlt.out)
          have hg : decide (0 < (k : Int)) = true := by rw [decide_eq_true_iff]; omega
          have hsub : IntKind.i64.wrap ((k : Int) - 1) = (k : Int) - 1 := by rw [IntKind.wrap_i64]; omega
          have h01 : 0 ≤ (k : Int) - 1 := by omega
          have h02 : ((k : Int) - 1).toNat = k - 1 := by omega
          have h03 : (k : Int) - 1 < (n : Int) := by omega
          have Hin := Lib.hid hin; clear hin
          go_wp2_with fail
          refine (hC.out _).mono ?_
          rintro e w1 ⟨rfl, hb1⟩
          have Hbb := Lib.hid ((Below.refl _ _).alloc (Nat.le_refl _) (.cells #[.int .u64 s.1, .int .u64 s.2] 73) |>.trans (hb1.mono (by simp)))
          have hz1 := hb1.size
          have hq1 := (Hbb.out.cell (p := ⟨bb, oo + (k - 1) * 2, none⟩) (cell_lt hp1)).trans hp1
          have hq2 := (Hbb.out.cell (p := ⟨bb, oo + (k - 1) * 2 + 1, none⟩) (cell_lt hp2)).trans hp2
          have hq3 := hb1.cell (p := ⟨wr.heap.size, 0, none⟩) (by simp)
          have hq4 := hb1.cell (p := ⟨wr.heap.size, 1, none⟩) (by simp)
          simp only [World.cell?_alloc_mark] at hq3 hq4
          simp at hq3 hq4
          have Hb1 := Lib.hid (Hb.out.trans (Hbb.out.mono Hb.out.size)); clear hb1
          simp only [errVal]
          clear hp1 hp2 hc1 hc2
          go_wp2_with fail
          refine wp_region_below (by kernel_rfl) (by kernel_rfl) ?_
          repeat (go_big_quiet_step ((intro hw; first
            | rfl
            | (go_at_call 80; exact keep_below hw (hR.out _))
            | (have q1 := (hw.cell (p := ⟨bb, oo + (k - 1) * 2, none⟩) (cell_lt hq1)).trans hq1
               have q2 := (hw.cell (p := ⟨bb, oo + (k - 1) * 2 + 1, none⟩) (cell_lt hq2)).trans hq2
               have q3 := (hw.cell (p := ⟨wr.heap.size, 0, none⟩) (cell_lt hq3)).trans hq3
               have q4 := (hw.cell (p := ⟨wr.heap.size, 1, none⟩) (cell_lt hq4)).trans hq4
               go_simp
               first | rfl | exact ⟨rfl, hw⟩ | (trace_state; fail)))))
          refine wpQuiet_nil ?_
          intro w3 hb3
          have Hb3 := Lib.hid (Hb1.out.trans (hb3.mono Hb1.out.size)); clear hb3
          clear hq1 hq2 hq3 hq4 h01 h02 h03 hsub hg hz1
          have Hkn := Lib.hid hkn
          by_cases hr0 : relB p s = 0
          · have Hr := Lib.hid (show ckAt l k = none from by rw [Hin.out, if_neg (by intro h; exact h.2 hr0)])
            rw [hr0]
            clear hr0
            go_wp2
            go_roundw
            case rel => exact ⟨k + 1, by omega, by go_num, Hb3.out, fun j hj => by
              rcases Nat.lt_or_ge j k with h | h
              · exact ht.out j h
              · rw [show j = k from (by omega)]; exact Hr.out⟩
            case measure => simp [intOf]; omega
          · have Hr := Lib.hid (show ck l = some (3, k) from firstS_some (by rw [Hl.out]; exact hkn) ht.out (by rw [Hin.out, if_pos ⟨hk0, hr0⟩]))
            have hne : (((relB p s : Nat) : Int) != 0) = true := by rw [bne_iff_ne]; omega
            generalize relB p s = r at *
            clear hr0
            go_wp2_with fail
            refine (new_any 3 k _).mono ?_
            rintro e w3 ⟨rfl, rfl⟩
            go_wp2_with fail
            go_ret
            exact ⟨by rw [Hr.out]; rfl, Hb3.out⟩
        · obtain rfl : k = 0 := by omega
          have Hr := Lib.hid (show ckAt l 0 = none from by rw [hin, if_neg (by omega)])
          clear hin hk0
          simp only [Nat.zero_mul, Nat.add_zero] at hc1 hc2
          rw [show ((0 : Nat) : Int) = 0 from rfl]
          go_wp2_with fail
          refine (hC.out _).mono ?_
          rintro e w1 ⟨rfl, hb1⟩
          have Hb1 := Lib.hid ((Hb.out.alloc Hb.out.size _).trans (hb1.mono (Below.size (Hb.out.alloc Hb.out.size _)))); clear hb1
          simp only [errVal]
          go_wp2_with fail
          refine wp_region_below (by kernel_rfl) (by kernel_rfl) ?_
          repeat (go_big_quiet_step ((intro hw; first | rfl | (trace_state; fail))))
          refine wpQuiet_nil ?_
          intro w3 hb3
          have Hb3 := Lib.hid (Hb1.out.trans (hb3.mono Hb1.out.size)); clear hb3
          go_wp2
          go_roundw
          case rel => exact ⟨1, by omega, by go_num, Hb3.out, fun j hj => by rw [show j = 0 from (by omega)]; exact Hr.out⟩
          case measure => simp [intOf]; omega
    · obtain rfl : k = n := by omega
      go_wp2
      go_ret
      exact ⟨by rw [show ck l = none from firstS_none (by rw [Hl.out]; exact ht.out)]; rfl, Hb.out⟩

end Go.Proofs.YtkkdlgcfcbaibaaGreatDoor
end
