/-
  The shelf's sort at a slice of intervals of the call's own: what the walk of ranges.Normal needs.
-/
import Derived.Test.YtbiohohclnaocaaGreatDoorRgDoP
import Derived.Test.YtbiohohclnaocaaGreatDoorRgU64
import Derived.Shelf.SlSortCmp.WholeK
namespace Go.Proofs.YtbiohohclnaocaaGreatDoor
open Go.RowKit Go.Sort
set_option linter.unusedVariables false

def encI (s : Iv) : List Value := [.int .u64 ((s.1 : Nat) : Int), .int .u64 ((s.2 : Nat) : Int)]
def cfI (x y : Iv) : Int := Lib.compareInt (x.1 : Int) (y.1 : Int)

theorem ltI (x y : Iv) : ltOf cfI x y = decide (x.1 < y.1) := by
  unfold ltOf cfI Lib.compareInt
  by_cases h1 : x.1 < y.1
  · simp [h1]
  · by_cases h2 : y.1 < x.1
    · simp [h1, h2]
    · simp [h1, h2]

theorem swoI : SWO (ltOf cfI) where
  irrefl x := by rw [ltI]; simp
  trans x y z h1 h2 := by rw [ltI] at *; simp at *; omega
  ntrans x y z h1 h2 := by rw [ltI] at *; simp at *; omega

theorem perm_list {d d' : Array Iv} (h : PermIn 0 d.size d d') : d'.toList.Perm d.toList := by
  obtain ⟨h1, _, h3⟩ := h
  rw [Array.extract_eq_self_of_le (by omega), Array.extract_eq_self_of_le (by omega)] at h3
  exact h3

theorem sorted_list {d : Array Iv} {d' : Array Iv} (hs : d'.size = d.size) (h : SortedIn (ltOf cfI) 0 d.size d') : AscLo d'.toList := by
  intro i j hij hj
  have hj' : j < d'.size := by simpa using hj
  have := h i j (Nat.zero_le _) hij (by omega)
  rw [ltI] at this
  have e1 : nthI d'.toList i = d'[i]! := by rw [nthI_get (by simp; omega)]; simp [getElem!_pos d' i (by omega)]
  have e2 : nthI d'.toList j = d'[j]! := by rw [nthI_get hj]; simp [getElem!_pos d' j hj']
  rw [e1, e2]
  simp at this
  omega

theorem holds_own {w : World} {base n cap g : Nat} {T : TypeId} {l : List Iv} (h : w.ownsRow base T 2 (.slice (some ⟨g, 0, none⟩) n cap) n (ivC l)) : HoldsK encI 2 w g 0 l.toArray := by
  have hlen : l.length = n := by have := h.1; rw [ivC_length] at this; omega
  intro j hj
  rw [size_flatK] at hj
  have hj' : j < l.length * 2 := by simpa using hj
  have hi : j / 2 < l.length := by omega
  refine ⟨?_, by rw [Nat.zero_add]; exact h.frozenAt j⟩
  rw [Nat.zero_add, h.cellAt j (by omega)]
  obtain ⟨e1, e2⟩ := ivC_get l (j / 2) hi
  rw [get_flatK _ _ _ _ (by simpa using hj')]
  have e : l.toArray[j / 2]! = nthI l (j / 2) := by rw [nthI_get hi]; simp [hi]
  rw [e]
  rcases Nat.mod_two_eq_zero_or_one j with hm | hm
  · rw [show j / 2 * 2 = j by omega] at e1
    rw [e1, hm]; rfl
  · rw [show j / 2 * 2 + 1 = j by omega] at e2
    rw [e2, hm]; rfl

theorem below_sorted {w : World} {base g n : Nat} (d' : Array Iv) (os : Array Obj) (hg : base ≤ g) (hw : base ≤ w.heap.size) : Below base w (sortWorldK encI 2 w g 0 n d' os) := by
  refine ⟨rfl, rfl, rfl, ?_, ?_⟩
  · simp [sortWorldK, grow, putRowK, putRow, mapBlock]
  · intro k hk
    simp only [sortWorldK, grow, putRowK, putRow, mapBlock, heap_ahead]
    rw [Array.getElem?_append_left (by simp; omega), Array.getElem?_modify, if_neg (by omega)]

theorem sorted_cells {w : World} {g n m : Nat} {d d' : Array Iv} (os : Array Obj) (hH : HoldsK encI 2 w g 0 d) (hs : d'.size = d.size) (hg : g < w.heap.size) (hlt : ∀ s ∈ d'.toList, s.1 < 18446744073709551616 ∧ s.2 < 18446744073709551616) (hn : d.size = n) (hm : n ≤ 9223372036854775807) :
    Ivs (sortWorldK encI 2 w g 0 m d' os) (some ⟨g, 0, none⟩) n n d'.toList := by
  have h := holdsK_sortWorldK_c encI 2 w g 0 d d' m os hH hg hs
  refine ⟨by simp [hs, hn], hlt, Nat.le_refl _, hm, (by intro h; cases h), fun _ => ⟨g, 0, rfl, fun i hi => ?_⟩⟩
  have hi' : i < d'.size := by omega
  have e : nthI d'.toList i = d'[i]! := by rw [nthI_get (by simpa using hi')]; simp [getElem!_pos d' i hi']
  have c0 := (h.cell (i := i) (c := 0) hi' (by omega)).1
  have c1 := (h.cell (i := i) (c := 1) hi' (by omega)).1
  rw [e]
  exact ⟨c0, c1⟩

/-- copy at whole elements of any size. -/
theorem run_copy_sz {P : Program} (w : World) (dT sT ty elem : TypeId) (g dLen dCap : Nat) (a : Addr) (sLen sCap : Nat) (cur : Array Value) (t : TypeId) (cs : List Value) (size : Nat)
    (hu : P.underlying dT = some (.slice elem)) (hs : (P.info? elem).map (·.size) = some size)
    (hg : w.heap[g]? = some (.cells cur t (0, 0))) (hn : cs.length = Nat.min sLen dLen * size)
    (hsrc : ∀ j v, cs[j]? = some v → w.cell? (a.add j) = some v) (hfit : cs.length ≤ cur.size) (h1 : ∀ v ∈ cs, v.oneCell' = true) :
    (Builtin.copy_ #[dT, sT] ty #[.slice (some ⟨g, 0, none⟩) dLen dCap, .slice (some a) sLen sCap]).run P w =
      .ok (goInt (Nat.min sLen dLen)) (w.setRow g (cs ++ cur.toList.drop cs.length).toArray) := by
  have hl := run_loadCells_list (P := P) w a cs hsrc
  have hst := run_storeCells_at P g 0 t cs 0 cur w hg (by simpa using hfit) h1
  cases hq : P.info? elem with
  | none => simp [hq] at hs
  | some i =>
    have hi : i.size = size := by simpa [hq] using hs
    simp [Builtin.copy_, run_underlying hu, Builtin.lenOf, Builtin.firstCells, sizeOf, typeInfo, hq, hi, ← hn, hl, hst]

end Go.Proofs.YtbiohohclnaocaaGreatDoor
