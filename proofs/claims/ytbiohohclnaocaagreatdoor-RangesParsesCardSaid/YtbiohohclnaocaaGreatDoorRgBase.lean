/-
  Slices of intervals in memory, and the words of the walks over them.
-/
import Derived.Test.YtbiohohclnaocaaGreatDoorKBase
import Derived.Test.YtbiohohclnaocaaGreatDoorRgPlain
import Derived.Test.YtbiohohclnaocaaGreatDoorFault
import Derived.BigQuiet
namespace Go.Proofs.YtbiohohclnaocaaGreatDoor
open Go.RowKit
set_option linter.unusedVariables false

def nthI (l : List Iv) (k : Nat) : Iv := l.getD k (0, 0)
theorem nthI_get {l : List Iv} {k : Nat} (h : k < l.length) : nthI l k = l[k] := by simp [nthI, h]
theorem nthI_mem {l : List Iv} {k : Nat} (h : k < l.length) : nthI l k ∈ l := by rw [nthI_get h]; exact List.getElem_mem h

/-- The slice with this address, length and capacity reads as the intervals l. -/
structure Ivs (w : World) (a : Option Addr) (n cap : Nat) (l : List Iv) : Prop where
  len : l.length = n
  lt : ∀ s ∈ l, s.1 < 18446744073709551616 ∧ s.2 < 18446744073709551616
  room : n ≤ cap
  most : cap ≤ 9223372036854775807
  nilc : a = none → cap = 0
  cells : 0 < n → ∃ b o, a = some ⟨b, o, none⟩ ∧ ∀ i, i < n → w.cell? ⟨b, o + i * 2, none⟩ = some (.int .u64 (((nthI l i).1 : Nat) : Int)) ∧ w.cell? ⟨b, o + i * 2 + 1, none⟩ = some (.int .u64 (((nthI l i).2 : Nat) : Int))

theorem Ivs.below {w w' : World} {a : Option Addr} {n cap : Nat} {l : List Iv} (h : Ivs w a n cap l) (hb : Below w.heap.size w w') : Ivs w' a n cap l := by
  refine ⟨h.len, h.lt, h.room, h.most, h.nilc, fun hn => ?_⟩
  obtain ⟨b, o, ha, hc⟩ := h.cells hn
  refine ⟨b, o, ha, fun i hi => ?_⟩
  obtain ⟨h1, h2⟩ := hc i hi
  exact ⟨(hb.cell (p := ⟨b, o + i * 2, none⟩) (cell_lt h1)).trans h1, (hb.cell (p := ⟨b, o + i * 2 + 1, none⟩) (cell_lt h2)).trans h2⟩

/-- An interval as a value. -/
abbrev ivV (s : Iv) : Value := .agg #[.int .u64 ((s.1 : Nat) : Int), .int .u64 ((s.2 : Nat) : Int)]

/-- Intervals as cells. -/
def ivC (l : List Iv) : List Value := l.flatMap fun s => [.int .u64 ((s.1 : Nat) : Int), .int .u64 ((s.2 : Nat) : Int)]
theorem ivC_nil : ivC [] = [] := rfl
theorem ivC_cons (s : Iv) (l : List Iv) : ivC (s :: l) = .int .u64 ((s.1 : Nat) : Int) :: .int .u64 ((s.2 : Nat) : Int) :: ivC l := rfl
theorem ivC_append (a b : List Iv) : ivC (a ++ b) = ivC a ++ ivC b := by simp [ivC]
theorem ivC_length (l : List Iv) : (ivC l).length = l.length * 2 := by
  induction l with
  | nil => rfl
  | cons s l ih => rw [ivC_cons]; simp [ih]; omega
theorem ivC_get : ∀ (l : List Iv) (i : Nat), i < l.length → (ivC l)[i * 2]? = some (.int .u64 (((nthI l i).1 : Nat) : Int)) ∧ (ivC l)[i * 2 + 1]? = some (.int .u64 (((nthI l i).2 : Nat) : Int))
  | [], i, h => by simp at h
  | s :: l, 0, _ => ⟨rfl, rfl⟩
  | s :: l, i + 1, h => by
    have := ivC_get l i (by simpa using h)
    rw [ivC_cons, show (i + 1) * 2 = i * 2 + 1 + 1 by omega]
    simpa [nthI] using this
theorem ivC_one (l : List Iv) : ∀ u ∈ ivC l, u.oneCell' = true := by
  intro u hu
  simp only [ivC, List.mem_flatMap] at hu
  obtain ⟨s, _, hs⟩ := hu
  simp at hs
  rcases hs with rfl | rfl <;> rfl
theorem ivC_set : ∀ (l : List Iv) (i x : Nat), i < l.length → (ivC l).set (i * 2 + 1) (.int .u64 ((x : Nat) : Int)) = ivC (l.set i ((nthI l i).1, x))
  | [], i, x, h => by simp at h
  | s :: l, 0, x, _ => rfl
  | s :: l, i + 1, x, h => by
    have := ivC_set l i x (by simpa using h)
    rw [ivC_cons, show (i + 1) * 2 + 1 = (i * 2 + 1) + 1 + 1 by omega, List.set_cons_succ, List.set_cons_succ, this, List.set_cons_succ, ivC_cons]
    simp [nthI]

theorem ivs_nil (w : World) : Ivs w none 0 0 [] := ⟨rfl, by simp, by omega, by omega, fun _ => rfl, fun h => by omega⟩

theorem ivs_own {w : World} {base n : Nat} {T : TypeId} {v : Value} {l : List Iv} (h : w.ownsRow base T 2 v n (ivC l)) (hl : ∀ s ∈ l, s.1 < 18446744073709551616 ∧ s.2 < 18446744073709551616) : ∃ a cap, v = .slice a n cap ∧ Ivs w a n cap l := by
  have hlen : l.length = n := by have := h.1; rw [ivC_length] at this; omega
  rcases h.2 with ⟨rfl, rfl⟩ | ⟨g, cap, cur, rfl, hg, hh, hnc, hcm, _⟩
  · exact ⟨none, 0, rfl, hlen, hl, by omega, by omega, fun _ => rfl, fun h => by omega⟩
  · refine ⟨_, _, rfl, hlen, hl, hnc, by unfold maxLen at hcm; omega, (by intro h; cases h), fun hn => ⟨g, 0, rfl, fun i hi => ?_⟩⟩
    obtain ⟨e1, e2⟩ := ivC_get l i (by omega)
    have h1 := h.cells (g := g) rfl _ _ e1
    have h2 := h.cells (g := g) rfl _ _ e2
    rw [add_at] at h1 h2
    rw [Nat.add_assoc]
    exact ⟨h1, h2⟩

theorem keep_below {P : Program} {f : FuncId} {args : Array Value} {w w' : World} {v : Value} (hw : Below w.heap.size w w') (h : Calls P f args w' fun e w'' => e = .returned v ∧ Below w'.heap.size w' w'') :
    Calls P f args w' fun e w'' => e = .returned v ∧ Below w.heap.size w w'' := h.mono fun e w'' ⟨he, hb⟩ => ⟨he, hw.trans (hb.mono hw.size)⟩
theorem below_drewN' {B : Nat} {a w : World} (h : Below B a w) (n : Nat) : Below B a (w.drewN n) := ⟨h.os, h.tape, h.output, h.size, h.block⟩
theorem keep_drewN {P : Program} {f : FuncId} {args : Array Value} {w w' : World} {v : Value} (hw : Below w.heap.size w w') (h : Calls P f args w' fun e w'' => e = .returned v ∧ ∃ q, w'' = w'.drewN q) :
    Calls P f args w' fun e w'' => e = .returned v ∧ Below w.heap.size w w'' := h.mono fun e w'' ⟨he, q, hq⟩ => ⟨he, by rw [hq]; exact below_drewN' hw q⟩
theorem keep_same {P : Program} {f : FuncId} {args : Array Value} {w w' : World} {v : Value} (hw : Below w.heap.size w w') (h : Calls P f args w' fun e w'' => e = .returned v ∧ w' = w'') :
    Calls P f args w' fun e w'' => e = .returned v ∧ Below w.heap.size w w'' := h.mono fun e w'' ⟨he, hq⟩ => ⟨he, hq ▸ hw⟩
/-- A region that draws its order, whose operations leave all that lay there: one walk in the order of the text. -/
theorem wp_region_below {P : Program} {id : Nat} {Q : Exit → Act → World → Prop} {a : Act} {w : World} {l : List Oper} (hm : P.follows .mixedOrders = true) (hB : Region.lexB .any l.toArray = true)
    (h : wpQuiet P l.toArray (fun w' => Below w.heap.size w w') (fun a' => ∀ w', Below w.heap.size w w' → Q .normal a' w') l a) : (Code.region id l.toArray true).wp P Q a w :=
  wp_region_quiet (C := fun w' => Below w.heap.size w w') hm hB ((Below.refl _ _).drew) (by simpa using h)

end Go.Proofs.YtbiohohclnaocaaGreatDoor
